/- The kit's printed words and this session's own, one in the other: slices of bytes. -/
import Derived.Test.YtaacnbponodagaaWWords
import Derived.Test.YtaacnbponodagaaPcs
import Derived.Test.YtaacnbponodagaaSet
import Derived.OpenShut
import Derived.Deep.Matrix
namespace Go.Proofs.Ytaacnbponodagaa
open Go.RowKit Go.Proofs.YtaacnbponodagaaW.PrintWords

/-- Numbers as bytes. -/
def u8s (l : List Int) : List UInt8 := l.map fun z => UInt8.ofNat z.toNat
/-- Are the numbers bytes? -/
def isB8 (l : List Int) : Bool := l.all fun z => decide (0 ≤ z ∧ z ≤ 255)
/-- Bytes as numbers. -/
def i8s (l : List UInt8) : List Int := l.map fun c => (c.toNat : Int)

theorem u8s_length (l : List Int) : (u8s l).length = l.length := by simp [u8s]
theorem i8s_length (l : List UInt8) : (i8s l).length = l.length := by simp [i8s]
theorem i8s_u8s {l : List Int} (h : isB8 l = true) : i8s (u8s l) = l := by
  unfold i8s u8s
  rw [List.map_map]
  conv => rhs; rw [← List.map_id l]
  refine List.map_congr_left fun z hz => ?_
  have := List.all_eq_true.1 h z hz
  have hb : 0 ≤ z ∧ z ≤ 255 := by simpa using this
  show ((UInt8.ofNat z.toNat).toNat : Int) = z
  rw [UInt8.toNat_ofNat_of_lt' (by simp [UInt8.size]; omega)]
  omega
theorem u8s_i8s (l : List UInt8) : u8s (i8s l) = l := by
  unfold i8s u8s
  rw [List.map_map]
  conv => rhs; rw [← List.map_id l]
  exact List.map_congr_left fun c _ => by simp
theorem isB8_i8s (l : List UInt8) : isB8 (i8s l) = true := by
  unfold isB8 i8s
  rw [List.all_map, List.all_eq_true]
  intro c _
  have := UInt8.toNat_lt c
  simp; omega
theorem nums_i8s (l : List UInt8) : nums .u8 (i8s l) = l.map bV := by simp [nums, i8s, bV, Function.comp_def]

theorem Rd_of_C {k : IntKind} {w : World} {A : Option Addr} {n : Nat} {l : List Int} (h : (Kd.int k).C w A n l) : Rd w A (nums k l) := by
  obtain ⟨h1, h2, h3⟩ := h
  rcases Nat.eq_zero_or_pos n with h0 | h0
  · exact .inl (by rw [List.eq_nil_of_length_eq_zero (h1.trans h0)]; rfl)
  · obtain ⟨ad, rfl, hc⟩ := h3 h0
    have cell : ∀ j, (hj : j < l.length) → w.cell? (ad.add j) = some (.int k l[j]) := fun j hj => by
      obtain ⟨c, hc1, hc2, hc3⟩ := hc j l[j] (List.getElem?_eq_getElem hj)
      have hc2 : c = [.int k l[j]] := hc2
      subst hc2
      have := hc3 0 _ rfl
      simpa [Kd.int, Kd.scalar] using this
    obtain ⟨b, o, spot⟩ := ad
    have hl : 0 < l.length := by omega
    have hspot : spot = none := by
      have := cell 0 hl
      simpa [Addr.add] using World.cell?_spot this
    subst hspot
    refine Rd.mk fun i hi => ?_
    have hi' : i < l.length := by simpa [nums] using hi
    have hadd : (⟨b, o, none⟩ : Addr).add i = ⟨b, o + i, none⟩ := by unfold Addr.add; split <;> simp_all
    have := cell i hi'
    rw [hadd] at this
    rw [this]
    simp [nums, hi']

theorem RdB_of_C {w : World} {A : Option Addr} {n : Nat} {l : List Int} (h : (Kd.int .u8).C w A n l) (hb : isB8 l = true) : RdB w A (u8s l) := by
  have := Rd_of_C h
  rw [← i8s_u8s hb, nums_i8s] at this
  exact this

theorem Rd.addr {w : World} {A : Option Addr} {xs : List Value} (h : Rd w A xs) (hx : 0 < xs.length) : ∃ ad, A = some ad ∧ ∀ i, i < xs.length → w.cell? (ad.add i) = xs[i]? := by
  rcases h with h | ⟨b, o, rfl, h⟩
  · rw [h] at hx; simp at hx
  · refine ⟨_, rfl, fun i hi => ?_⟩
    have hadd : (⟨b, o, none⟩ : Addr).add i = ⟨b, o + i, none⟩ := by unfold Addr.add; split <;> simp_all
    rw [hadd]; exact h i hi

theorem C_of_Rd {k : IntKind} {w : World} {A : Option Addr} {n : Nat} {l : List Int} (h : Rd w A (nums k l)) (hn : l.length = n) (hm : n ≤ 9223372036854775807) : (Kd.int k).C w A n l := by
  refine ⟨hn, hm, fun h0 => ?_⟩
  obtain ⟨ad, hA, hc⟩ := Rd.addr h (by simp [nums]; omega)
  refine ⟨ad, hA, fun j p hj => ⟨[.int k p], rfl, rfl, fun i u hi => ?_⟩⟩
  have hi0 : i = 0 := by
    have := (List.getElem?_eq_some_iff.1 hi).1
    simpa using this
  subst hi0
  have hj' := (List.getElem?_eq_some_iff.1 hj).1
  have : (Kd.int k).sz = 1 := rfl
  rw [this, Nat.mul_one, Nat.add_zero, hc j (by simp [nums]; omega)]
  simp [nums, hj]
  simpa using hi

theorem C_of_RdB {w : World} {A : Option Addr} {n : Nat} {xs : List UInt8} (h : RdB w A xs) (hn : xs.length = n) (hm : n ≤ 9223372036854775807) : (Kd.int .u8).C w A n (i8s xs) :=
  C_of_Rd (by rw [nums_i8s]; exact h) (by rw [i8s_length]; exact hn) hm

/-- A slice of slices of bytes. -/
theorem RdBB_of_C {e : Nat} {w : World} {A : Option Addr} {n : Nat} {l : List (List Int)} (h : (Kd.slice e (Kd.int .u8)).C w A n l) (hb : l.all isB8 = true) : ∃ vs, RdBB w A vs (l.map u8s) := by
  obtain ⟨h1, h2, h3⟩ := h
  rcases Nat.eq_zero_or_pos n with h0 | h0
  · have : l = [] := List.eq_nil_of_length_eq_zero (h1.trans h0)
    subst this
    exact ⟨[], Rd.nil _ _, rfl, fun i xs hi => by simp at hi⟩
  · obtain ⟨ad, rfl, hc⟩ := h3 h0
    have cell : ∀ j, (hj : j < l.length) → ∃ B c, w.cell? (ad.add j) = some (.slice B (u8s l[j]).length c) ∧ RdB w B (u8s l[j]) := fun j hj => by
      obtain ⟨c, hc1, hc2, hc3⟩ := hc j l[j] (List.getElem?_eq_getElem hj)
      obtain ⟨B, cc, hcs, hcc, hr⟩ := hc2
      subst hcs
      have := hc3 0 _ rfl
      refine ⟨B, cc, ?_, RdB_of_C hr (List.all_eq_true.1 hb _ (List.getElem_mem hj))⟩
      rw [u8s_length]
      simpa [Kd.slice] using this
    obtain ⟨b, o, spot⟩ := ad
    have hl : 0 < l.length := by omega
    have hspot : spot = none := by
      obtain ⟨B, c, this, _⟩ := cell 0 hl
      simpa [Addr.add] using World.cell?_spot this
    subst hspot
    have hadd : ∀ i, (⟨b, o, none⟩ : Addr).add i = ⟨b, o + i, none⟩ := fun i => by unfold Addr.add; split <;> simp_all
    refine ⟨(List.range l.length).map fun i => (w.cell? ⟨b, o + i, none⟩).getD (.slice none 0 0), Rd.mk fun i hi => ?_, by simp, fun i xs hi => ?_⟩
    · have hi' : i < l.length := by simpa using hi
      obtain ⟨B, c, this, _⟩ := cell i hi'
      rw [hadd] at this
      rw [this]
      simp [hi', this]
    · have hi' : i < l.length := by simpa using (List.getElem?_eq_some_iff.1 hi).1
      obtain ⟨B, c, this, hr⟩ := cell i hi'
      rw [hadd] at this
      have hx : u8s l[i] = xs := by simpa [hi'] using hi
      subst hx
      exact ⟨B, c, by simp [hi', this], hr⟩

theorem R_of_own {e : Nat} {w : World} {B : Nat} {v : Value} {k : IntKind} {l : List Int} {n : Nat} (h : w.ownsRow B e 1 v n (nums k l)) (hn : l.length = n) : (Kd.int k).R e w B (fun _ => True) v l := by
  subst hn
  refine ⟨fun _ _ => trivial, nums k l, h, by simp [nums, Kd.int, Kd.scalar], fun j p hj => ?_⟩
  show ((nums k l).drop (j * 1)).take 1 = [.int k p]
  have hj' := (List.getElem?_eq_some_iff.1 hj).1
  rw [Nat.mul_one, List.drop_eq_getElem_cons (by simpa [nums] using hj'), List.take_succ_cons, List.take_zero]
  obtain ⟨_, hp⟩ := List.getElem?_eq_some_iff.1 hj
  simp [nums, hp]

theorem R_of_ownB {e : Nat} {w : World} {B : Nat} {v : Value} {xs : List UInt8} {n : Nat} (h : w.ownsRow B e 1 v n (xs.map bV)) (hn : xs.length = n) : (Kd.int .u8).R e w B (fun _ => True) v (i8s xs) :=
  R_of_own (by rw [nums_i8s]; exact h) (by rw [i8s_length]; exact hn)

theorem own_of_R {e : Nat} {w : World} {B : Nat} {ok : Nat → Prop} {v : Value} {k : IntKind} {l : List Int} (h : (Kd.int k).R e w B ok v l) : w.ownsRow B e 1 v l.length (nums k l) := by
  obtain ⟨_, inner, ho, hl, hr⟩ := h
  have : inner = nums k l := by
    have hs : (Kd.int k).sz = 1 := rfl
    rw [hs, Nat.mul_one] at hl
    apply List.ext_getElem?
    intro j
    by_cases hj : j < l.length
    · have := hr j l[j] (List.getElem?_eq_getElem hj)
      have this : (inner.drop (j * 1)).take 1 = [.int k l[j]] := this
      rw [Nat.mul_one, List.drop_eq_getElem_cons (by omega), List.take_succ_cons, List.take_zero] at this
      rw [List.getElem?_eq_getElem (by omega), List.head_eq_of_cons_eq this]
      simp [nums, hj]
    · rw [List.getElem?_eq_none (by omega), List.getElem?_eq_none (by simp [nums]; omega)]
  rw [this] at ho
  exact ho

theorem own_of_RB {e : Nat} {w : World} {B : Nat} {ok : Nat → Prop} {v : Value} {l : List Int} (h : (Kd.int .u8).R e w B ok v l) (hb : isB8 l = true) : w.ownsRow B e 1 v l.length ((u8s l).map bV) := by
  have := own_of_R h
  rw [← i8s_u8s hb, nums_i8s, i8s_length] at this
  rw [u8s_length] at this
  exact this
/-! An argument that is a slice of slices of bytes, opened. -/
section
open Go.WideShapes Go.ChangeShapes Go.Deep

theorem CBB_of_trod {H : Type} {enc : TypeId × Value → H} {P : Program} {W : World} {base : Nat} {held : Bool} {t e q : TypeId} {d : DataW H} {ps : List MemPlace} {A : Option Addr} {n c : Nat}
    (ht : P.underlying t = some (.slice e)) (he : P.underlying e = some (.slice q)) (hq : P.underlying q = some (.int .u8)) (ce : P.cellsOf e = 1) (cq : P.cellsOf q = 1)
    (h : DataW.Trod enc P W base (fun _ => true) held t (.slice A n c) d ps) :
    ∃ l : List (List Int), l.length = n ∧ n ≤ c ∧ (Kd.slice q (Kd.int .u8)).C W A n l ∧ l.all isB8 = true := by
  obtain ⟨fuel, hf⟩ := h
  rcases open_int_rows ht he hq ce cq hf with ⟨hcs, _⟩ | ⟨a, len, cap, AA, L, C, Z, hcs, _, hl, hm, _, hx⟩
  · simp [Value.cells] at hcs
    obtain ⟨rfl, rfl, rfl⟩ := hcs
    exact ⟨[], rfl, Nat.le_refl _, ⟨rfl, by omega, fun h => absurd h (Nat.lt_irrefl 0)⟩, rfl⟩
  · simp [Value.cells] at hcs
    obtain ⟨rfl, rfl, rfl⟩ := hcs
    refine ⟨(List.range n).map fun r => (Z r).take (L r), by simp, hl, ⟨by simp, by unfold maxLen at hm; omega, fun _ => ⟨a, rfl, fun j p hj => ?_⟩⟩, ?_⟩
    · obtain ⟨hjl, hp⟩ := List.getElem?_eq_some_iff.1 hj
      have hjn : j < n := by simpa using hjl
      have hp' : p = (Z j).take (L j) := by rw [← hp]; simp
      obtain ⟨hcell, h1, h2, h3, h4, h5, h6⟩ := hx j (by omega)
      have hpl : p.length = L j := by rw [hp', List.length_take]; omega
      refine ⟨[.slice (AA j) (L j) (C j)], rfl, ⟨AA j, C j, by rw [hpl], by omega, by omega, by unfold maxLen at h2; omega, fun h0 => ?_⟩, fun i u hi => ?_⟩
      · cases hA : AA j with
        | none => have := h5 hA; omega
        | some ad =>
          refine ⟨ad, rfl, fun i z hi => ⟨[.int .u8 z], rfl, rfl, fun i2 u hu => ?_⟩⟩
          have hi2 : i2 = 0 := by have := (List.getElem?_eq_some_iff.1 hu).1; simpa using this
          subst hi2
          have hu' : u = .int .u8 z := by simpa using hu.symm
          have hil := (List.getElem?_eq_some_iff.1 hi).1
          have hz : (Z j).getD i 0 = z := by
            rw [hp', List.getElem?_take] at hi
            rw [List.getD_eq_getElem?_getD]
            split at hi
            · rw [hi]; rfl
            · cases hi
          have hsz : (Kd.int .u8).sz = 1 := rfl
          rw [hsz, Nat.mul_one, Nat.add_zero, (h6 ad hA).2 i (by omega), hz, hu']
      · have hi0 : i = 0 := by have := (List.getElem?_eq_some_iff.1 hi).1; simpa using this
        subst hi0
        have hu' : u = .slice (AA j) (L j) (C j) := by simpa using hi.symm
        have hsz : (Kd.slice q (Kd.int .u8)).sz = 1 := rfl
        rw [hsz, Nat.mul_one, Nat.add_zero, hcell, hu']
    · rw [List.all_eq_true]
      intro x hx'
      obtain ⟨j, hj, rfl⟩ := List.mem_map.1 hx'
      obtain ⟨_, _, _, _, h4, _⟩ := hx j (by have := List.mem_range.1 hj; omega)
      unfold isB8
      rw [List.all_eq_true]
      intro z hz
      have := h4 z (List.mem_of_mem_take hz)
      have hb : 0 ≤ z ∧ z ≤ 255 := by simpa [Lit.wf, IntKind.min, IntKind.max, IntKind.signed, IntKind.bits] using this
      simpa using hb
end
end Go.Proofs.Ytaacnbponodagaa
