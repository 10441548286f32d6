/- octets.Xor, octets.Same. -/
import Derived.Test.YtnopoiidekklfaaOctK
import Derived.Test.YtnopoiidekklfaaSet
import Derived.Test.YtnopoiidekklfaaReg
namespace Go.Proofs.Ytnopoiidekklfaa
open Go.RowKit

def xorF (a b : List UInt8) : List UInt8 := List.zipWith (· ^^^ ·) a b

theorem set_map_bV (xs : List UInt8) (k : Nat) (u : UInt8) : (xs.map bV).set k (bV u) = (xs.set k u).map bV := by rw [List.map_set]

/-- The first k bytes xored, the others as they are. -/
def xorK (a b : List UInt8) (k : Nat) : List UInt8 := xorF (a.take k) (b.take k) ++ a.drop k

theorem xorF_length (a b : List UInt8) : (xorF a b).length = min a.length b.length := by simp [xorF]
theorem xorK_at {a b : List UInt8} {k : Nat} (h1 : k < a.length) (h2 : k < b.length) : (xorK a b k)[k]? = some a[k] := by
  unfold xorK
  rw [List.getElem?_append_right (by rw [xorF_length, List.length_take, List.length_take]; omega), xorF_length, List.length_take, List.length_take, List.getElem?_drop, show k + (k - min (min k a.length) (min k b.length)) = k by omega, List.getElem?_eq_getElem h1]
theorem xorK_set {a b : List UInt8} {k : Nat} (h1 : k < a.length) (h2 : k < b.length) : (xorK a b k).set k (a[k] ^^^ b[k]) = xorK a b (k + 1) := by
  unfold xorK
  have hl : (xorF (a.take k) (b.take k)).length = k := by rw [xorF_length, List.length_take, List.length_take]; omega
  rw [List.set_append_right _ _ (by omega), hl, Nat.sub_self, List.drop_eq_getElem_cons h1, List.set_cons_zero, List.take_succ_eq_append_getElem h1, List.take_succ_eq_append_getElem h2]
  unfold xorF
  rw [List.zipWith_append (by rw [List.length_take, List.length_take]; omega)]
  simp
theorem xorK_zero (a b : List UInt8) : xorK a b 0 = a := by simp [xorK, xorF]
theorem xorK_end {a b : List UInt8} {q : Nat} (h1 : a.length = q) (h2 : q ≤ b.length) : xorK a b q = xorF a b := by
  unfold xorK
  rw [List.drop_of_length_le (by omega), List.append_nil, List.take_of_length_le (by omega)]
  unfold xorF
  apply List.ext_getElem?; intro i; simp only [List.getElem?_zipWith, List.getElem?_take]; by_cases hi : i < q
  · rw [if_pos hi]
  · rw [List.getElem?_eq_none (l := a) (by omega)]

set_option maxHeartbeats 800000 in
theorem xor_any (A B : Option Addr) (n m c c' : Nat) (a b : List UInt8) (w : World) (hn : a.length = n) (hm : b.length = m) (h : RdB w A a) (h' : RdB w B b) (hc : n ≤ c) (hb : n ≤ 70368744177664) :
    Calls Try.prog 23 #[.slice A n c, .slice B m c'] w (GivesB (xorF a b) w) := by
  have HN := Lib.hid hn
  have HM := Lib.hid hm
  have H := Lib.hid h
  have H' := Lib.hid h'
  clear hn hm h h'
  obtain ⟨q, hq1, hq2, hq3, hq4, hq6⟩ : ∃ q : Nat, q ≤ n ∧ q ≤ m ∧ q ≤ c ∧ min (n : Int) (m : Int) = (q : Int) ∧ (n ≤ q ∨ m ≤ q) := ⟨min n m, by omega, by omega, by omega, by omega, by omega⟩
  have hx : ((a.take q).length) = q := by rw [List.length_take, HN.out]; omega
  have HX := Lib.hid hx
  have HT := Lib.hid (RdB.take H.out q)
  clear hx
  have hq5 : q ≤ 70368744177664 := by omega
  go_enter Try.func23, Try.ntmps23
  go_upto_region 2 with (go_at_call 29; refine (clone_any _ q _ (a.take q) _ HX.out HT.out hq5).mono ?_; rintro e w1 ⟨v, rfl, hown, hbel⟩)
  rw [HX.out] at hown
  obtain ⟨A1, c1, rfl, -⟩ := own_rd hown
  go_wp2
  go_loopw [17] (fun i wr => ∃ k : Nat, i = .int .i64 (k : Int) ∧ k ≤ q ∧ wr.ownsRow w.heap.size 5 1 (.slice A1 q c1) q ((xorK (a.take q) b k).map bV) ∧ Below w.heap.size w wr) (fun i _ => q - (intOf i).toNat)
  case atStart => exact ⟨0, rfl, Nat.zero_le _, by rw [xorK_zero]; exact hown, hbel⟩
  case round =>
    clear hown hbel
    obtain ⟨k, rfl, hk, hown, hbel⟩ := hrel
    by_cases hlt : k < q
    · obtain ⟨g, c2, e, hg1, hg2, hg3, hcell, hset⟩ := own_at hown (by omega)
      cases e
      obtain ⟨hc1, hf1⟩ := hcell k hlt
      have hka : k < (a.take q).length := by rw [HX.out]; exact hlt
      have hkb : k < b.length := by rw [HM.out]; omega
      rw [List.getElem?_map, xorK_at hka hkb] at hc1
      obtain ⟨b1, o1, rfl, hc2, -⟩ := (RdB.keep H'.out hbel).at hkb
      generalize hxa : (a.take q)[k] = x at *
      generalize hyb : b[k] = y at *
      have XA := Lib.hid hxa
      have YB := Lib.hid hyb
      clear hxa hyb
      replace hc1 : wr.cell? ⟨g, k, none⟩ = some (.int .u8 (x.toNat : Int)) := hc1
      have hxor := xor8 x y
      have HS := Lib.hid (hset k (bV (x ^^^ y)) hlt)
      have HB := Lib.hid hbel
      clear hset hcell hown hbel
      go_wp2
      go_region
      have EX := Lib.hid (show bV (x ^^^ y) = .int .u8 ((x.toNat ^^^ y.toNat : Nat) : Int) by unfold bV; rw [UInt8.toNat_xor])
      go_wp2
      go_roundw
      case rel =>
        refine ⟨k + 1, by simp, by omega, ?_, below_set (Below.drew HB.out) hg1 _⟩
        have := HS.out
        rw [set_map_bV, ← XA.out, ← YB.out, xorK_set hka hkb, XA.out, YB.out, EX.out] at this
        exact this
      case measure => simp [intOf]; omega
    · obtain rfl : k = q := by omega
      have hown2 : wr.ownsRow w.heap.size 5 1 (.slice A1 k c1) k ((xorF a b).map bV) := by
        have e := xorK_end (a := a.take k) (b := b) HX.out (by rw [HM.out]; exact hq2)
        rw [e] at hown
        have e2 : xorF (a.take k) b = xorF a b := by
          unfold xorF; apply List.ext_getElem?; intro i; simp only [List.getElem?_zipWith, List.getElem?_take]
          by_cases hi : i < k
          · rw [if_pos hi]
          · have h2 : b[i]? = none ∨ a[i]? = none := by
              have h1 := HN.out; have h2 := HM.out
              by_cases hx : i < b.length
              · exact .inr (List.getElem?_eq_none (by omega))
              · exact .inl (List.getElem?_eq_none (by omega))
            rw [if_neg hi]
            rcases h2 with h2 | h2
            · rw [h2]; cases a[i]? <;> rfl
            · rw [h2]
        rw [e2] at hown
        exact hown
      have hl : (xorF a b).length = k := by rw [xorF_length, HN.out, HM.out]; omega
      have HL := Lib.hid hl
      clear hl
      go_wp2
      go_ret
      refine ⟨_, rfl, ?_, hbel⟩
      rw [HL.out]; exact hown2

theorem xorF_snoc {a b : List UInt8} {k : Nat} (h1 : k < a.length) (h2 : k < b.length) : xorF (a.take (k + 1)) (b.take (k + 1)) = xorF (a.take k) (b.take k) ++ [a[k] ^^^ b[k]] := by
  rw [List.take_succ_eq_append_getElem h1, List.take_succ_eq_append_getElem h2]
  unfold xorF
  rw [List.zipWith_append (by rw [List.length_take, List.length_take]; omega)]
  rfl
theorem xorF_take_end {a b : List UInt8} {k : Nat} (h : a.length ≤ k ∨ b.length ≤ k) : xorF (a.take k) (b.take k) = xorF a b := by
  unfold xorF; apply List.ext_getElem?; intro i; simp only [List.getElem?_zipWith, List.getElem?_take]
  by_cases hi : i < k
  · rw [if_pos hi, if_pos hi]
  · rw [if_neg hi, if_neg hi]
    rcases h with h | h
    · rw [List.getElem?_eq_none (l := a) (by omega)]
    · rw [List.getElem?_eq_none (l := b) (by omega)]; cases a[i]? <;> rfl

set_option maxHeartbeats 800000 in
theorem refXor_any (A B : Option Addr) (n m c c' : Nat) (a b : List UInt8) (w : World) (hn : a.length = n) (hm : b.length = m) (h : RdB w A a) (h' : RdB w B b) (hb : n ≤ 70368744177664) :
    Calls Try.prog 24 #[.slice A n c, .slice B m c'] w (GivesB (xorF a b) w) := by
  have HN := Lib.hid hn
  have HM := Lib.hid hm
  have H := Lib.hid h
  have H' := Lib.hid h'
  clear hn hm h h'
  go_enter Try.func24, Try.ntmps24
  go_wp2
  go_loopw [5, 6] (fun v i wr => ∃ (k : Nat) (A1 : Option Addr) (c1 : Nat), i = .int .i64 (k : Int) ∧ v = .slice A1 k c1 ∧ k ≤ n ∧ wr.ownsRow w.heap.size 5 1 (.slice A1 k c1) k ((xorF (a.take k) (b.take k)).map bV) ∧ Below w.heap.size w wr) (fun _ i _ => n - (intOf i).toNat)
  case atStart => exact ⟨0, none, 0, rfl, rfl, Nat.zero_le _, by simp [xorF, World.ownsRow_nil], Below.refl _ _⟩
  case round =>
    obtain ⟨k, A1, c1, rfl, rfl, hk, hown, hbel⟩ := hrel
    by_cases hlt : k < n ∧ k < m
    · obtain ⟨hl1, hl2⟩ := hlt
      have hka : k < a.length := by rw [HN.out]; exact hl1
      have hkb : k < b.length := by rw [HM.out]; exact hl2
      obtain ⟨b0, o0, rfl, hc1, hlt1⟩ := (RdB.keep H.out hbel).at hka
      obtain ⟨b1, o1, rfl, hc2, hlt2⟩ := (RdB.keep H'.out hbel).at hkb
      have hb0 : b0 < w.heap.size := by obtain ⟨b', o', e, -, h⟩ := H.out.at hka; cases e; exact h
      have hb1 : b1 < w.heap.size := by obtain ⟨b', o', e, -, h⟩ := H'.out.at hkb; cases e; exact h
      generalize hxa : a[k] = x at *
      generalize hyb : b[k] = y at *
      have XA := Lib.hid hxa
      have YB := Lib.hid hyb
      clear hxa hyb
      have hxor := xor8 x y
      have HC1 := Lib.hid hc1
      have HC2 := Lib.hid hc2
      clear hc1 hc2
      have hbs := hbel.size
      go_wp2
      refine E_start (hR := Pre.below (w.heap.size)) #[false, false, false, false, false, false, false, false, false, false, false, false, false] (by kernel_rfl) rfl rfl (fun w_r51 hx_r51 he_r51 => ?_)
      replace he_r51 := Lib.hid he_r51
      refine E_take (hR := Pre.below (w.heap.size)) (i := 0) (N := (some 19)) (v := ?vr51_0) (a' := ?ar51_0) #[true, false, false, false, false, false, false, false, false, false, false, false, false] rfl rfl (by kernel_rfl) (fun _ _ _ h => h) (by rfl) ?hyr51_0 ?har51_0 ?_
      case hyr51_0 =>
        intro w' hx
        go_simp
        with_reducible rfl
      case har51_0 => (simp only [Act.put, List.setIfInBounds_toArray, List.set_cons_zero, List.set_cons_succ]; rfl)
      refine E_take (hR := Pre.below (w.heap.size)) (i := 1) (N := (some 20)) (v := ?vr51_1) (a' := ?ar51_1) #[true, true, false, false, false, false, false, false, false, false, false, false, false] rfl rfl (by kernel_rfl) (fun _ _ _ h => h) (by rfl) ?hyr51_1 ?har51_1 ?_
      case hyr51_1 =>
        intro w' hx
        go_simp
        with_reducible rfl
      case har51_1 => (simp only [Act.put, List.setIfInBounds_toArray, List.set_cons_zero, List.set_cons_succ]; rfl)
      refine E_take (hR := Pre.below (w.heap.size)) (i := 2) (N := (some 21)) (v := ?vr51_2) (a' := ?ar51_2) #[true, true, true, false, false, false, false, false, false, false, false, false, false] rfl rfl (by kernel_rfl) (fun _ _ _ h => h) (by rfl) ?hyr51_2 ?har51_2 ?_
      case hyr51_2 =>
        intro w' hx
        go_simp
        with_reducible rfl
      case har51_2 => (simp only [Act.put, List.setIfInBounds_toArray, List.set_cons_zero, List.set_cons_succ]; rfl)
      refine E_take (hR := Pre.below (w.heap.size)) (i := 3) (N := (some 22)) (v := ?vr51_3) (a' := ?ar51_3) #[true, true, true, true, false, false, false, false, false, false, false, false, false] rfl rfl (by kernel_rfl) (fun _ _ _ h => h) (by rfl) ?hyr51_3 ?har51_3 ?_
      case hyr51_3 =>
        intro w' hx
        go_simp
        with_reducible rfl
      case har51_3 => (simp only [Act.put, List.setIfInBounds_toArray, List.set_cons_zero, List.set_cons_succ]; rfl)
      refine E_take (hR := Pre.below (w.heap.size)) (i := 4) (N := (some 23)) (v := ?vr51_4) (a' := ?ar51_4) #[true, true, true, true, true, false, false, false, false, false, false, false, false] rfl rfl (by kernel_rfl) (fun _ _ _ h => h) (by rfl) ?hyr51_4 ?har51_4 ?_
      case hyr51_4 =>
        intro w' hx
        have hc1 := (Below.cell (hx_r51.trans hx) (p := ⟨b0, o0 + k, none⟩) hb0).trans HC1.out
        go_simp
        with_reducible rfl
      case har51_4 => (simp only [Act.put, List.setIfInBounds_toArray, List.set_cons_zero, List.set_cons_succ]; rfl)
      refine E_take (hR := Pre.below (w.heap.size)) (i := 5) (N := (some 24)) (v := ?vr51_5) (a' := ?ar51_5) #[true, true, true, true, true, true, false, false, false, false, false, false, false] rfl rfl (by kernel_rfl) (fun _ _ _ h => h) (by rfl) ?hyr51_5 ?har51_5 ?_
      case hyr51_5 =>
        intro w' hx
        go_simp
        with_reducible rfl
      case har51_5 => (simp only [Act.put, List.setIfInBounds_toArray, List.set_cons_zero, List.set_cons_succ]; rfl)
      refine E_take (hR := Pre.below (w.heap.size)) (i := 6) (N := (some 25)) (v := ?vr51_6) (a' := ?ar51_6) #[true, true, true, true, true, true, true, false, false, false, false, false, false] rfl rfl (by kernel_rfl) (fun _ _ _ h => h) (by rfl) ?hyr51_6 ?har51_6 ?_
      case hyr51_6 =>
        intro w' hx
        go_simp
        with_reducible rfl
      case har51_6 => (simp only [Act.put, List.setIfInBounds_toArray, List.set_cons_zero, List.set_cons_succ]; rfl)
      refine E_take (hR := Pre.below (w.heap.size)) (i := 7) (N := (some 26)) (v := ?vr51_7) (a' := ?ar51_7) #[true, true, true, true, true, true, true, true, false, false, false, false, false] rfl rfl (by kernel_rfl) (fun _ _ _ h => h) (by rfl) ?hyr51_7 ?har51_7 ?_
      case hyr51_7 =>
        intro w' hx
        go_simp
        with_reducible rfl
      case har51_7 => (simp only [Act.put, List.setIfInBounds_toArray, List.set_cons_zero, List.set_cons_succ]; rfl)
      refine E_take (hR := Pre.below (w.heap.size)) (i := 8) (N := (some 27)) (v := ?vr51_8) (a' := ?ar51_8) #[true, true, true, true, true, true, true, true, true, false, false, false, false] rfl rfl (by kernel_rfl) (fun _ _ _ h => h) (by rfl) ?hyr51_8 ?har51_8 ?_
      case hyr51_8 =>
        intro w' hx
        have hc2 := (Below.cell (hx_r51.trans hx) (p := ⟨b1, o1 + k, none⟩) hb1).trans HC2.out
        go_simp
        with_reducible rfl
      case har51_8 => (simp only [Act.put, List.setIfInBounds_toArray, List.set_cons_zero, List.set_cons_succ]; rfl)
      refine E_take (hR := Pre.below (w.heap.size)) (i := 9) (N := (some 28)) (v := ?vr51_9) (a' := ?ar51_9) #[true, true, true, true, true, true, true, true, true, true, false, false, false] rfl rfl (by kernel_rfl) (fun _ _ _ h => h) (by rfl) ?hyr51_9 ?har51_9 ?_
      case hyr51_9 =>
        intro w' hx
        go_simp
        with_reducible rfl
      case har51_9 => (simp only [Act.put, List.setIfInBounds_toArray, List.set_cons_zero, List.set_cons_succ]; rfl)
      have hsz : w.heap.size ≤ w_r51.heap.size := Nat.le_trans hbs hx_r51.size
      have hownD : w_r51.ownsRow w.heap.size 5 1 (.slice A1 k c1) k ((xorF (a.take k) (b.take k)).map bV) := by rw [he_r51.out]; exact hown
      refine E_run (i := 10) (N := (some 29)) (v := .slice (some ⟨w_r51.heap.size, 0, none⟩) 1 1) (w1 := w_r51.alloc (.cells #[.int .u8 ((x.toNat ^^^ y.toNat : Nat) : Int)] 5)) (a' := ?ar51_10) #[true, true, true, true, true, true, true, true, true, true, true, false, false] rfl rfl (by kernel_rfl) (by rfl) ?hrr51_10 ?hxr51_10 ?har51_10 ?_
      case hrr51_10 => go_simp
      case hxr51_10 => exact (Below.refl _ _).alloc hsz _
      case har51_10 => (simp only [Act.put, List.setIfInBounds_toArray, List.set_cons_zero, List.set_cons_succ]; rfl)
      have hlit : RdB (w_r51.alloc (.cells #[.int .u8 ((x.toNat ^^^ y.toNat : Nat) : Int)] 5)) (some ⟨w_r51.heap.size, 0, none⟩) [x ^^^ y] := rd_lit w_r51 [x ^^^ y] (0, 0)
      obtain ⟨v2, w2, hrun, hown2, hgrow⟩ := run_appB (w_r51.alloc (.cells #[.int .u8 ((x.toNat ^^^ y.toNat : Nat) : Int)] 5)) w.heap.size 22 (hownD.alloc _) (m := 1) (c := 1) hlit rfl (by omega) (by rw [World.size_alloc]; omega)
      obtain ⟨A2, c2, rfl, -⟩ := own_rd hown2
      have HRUN := Lib.hid hrun
      have HO2 := Lib.hid hown2
      have hbel2 : Below w.heap.size (w_r51.alloc (.cells #[.int .u8 ((x.toNat ^^^ y.toNat : Nat) : Int)] 5)) w2 := grown_below hgrow (hownD.alloc _) (by rw [World.size_alloc]; omega)
      clear hrun hown2 hgrow
      refine E_run (i := 11) (N := (some 30)) (v := .slice A2 (k + 1) c2) (w1 := w2) (a' := ?ar51_11) #[true, true, true, true, true, true, true, true, true, true, true, true, false] rfl rfl (by kernel_rfl) (by rfl) (exec_append rfl rfl rfl HRUN.out) hbel2 ?har51_11 ?_
      case har51_11 => (simp only [Act.put, List.setIfInBounds_toArray, List.set_cons_zero, List.set_cons_succ]; rfl)
      refine E_take (hR := Pre.below (w.heap.size)) (i := 12) (N := (some 5)) (v := ?vr51_12) (a' := ?ar51_12) #[true, true, true, true, true, true, true, true, true, true, true, true, true] rfl rfl (by kernel_rfl) (fun _ _ _ h => h) (by rfl) ?hyr51_12 ?har51_12 ?_
      case hyr51_12 =>
        intro w' hx
        go_simp
        with_reducible rfl
      case har51_12 => (simp only [Act.put, List.setIfInBounds_toArray, List.set_cons_zero, List.set_cons_succ]; rfl)
      refine E_done (by kernel_rfl) ?_
      go_wp2
      go_roundw
      case rel =>
        refine ⟨k + 1, A2, c2, by simp, rfl, by omega, ?_, (hbel.trans hx_r51).trans (((Below.refl _ _).alloc hsz _).trans hbel2)⟩
        have := HO2.out
        rw [xorF_snoc hka hkb, XA.out, YB.out, List.map_append]
        exact this
      case measure => simp [intOf]; omega
    · have e : xorF (a.take k) (b.take k) = xorF a b := xorF_take_end (by rw [HN.out, HM.out]; omega)
      rw [e] at hown
      have hl : (xorF a b).length = k := by
        have h1 := hown.1
        simpa using h1
      have HL := Lib.hid hl
      clear hl e
      have HO := Lib.hid hown
      clear hown
      by_cases hl1 : k < n
      · have hl2 : ¬ k < m := fun h => hlt ⟨hl1, h⟩
        clear hlt
        go_wp2
        go_ret
        exact ⟨_, rfl, by rw [HL.out]; exact HO.out, hbel⟩
      · clear hlt
        go_wp2
        go_ret
        exact ⟨_, rfl, by rw [HL.out]; exact HO.out, hbel⟩
end Go.Proofs.Ytnopoiidekklfaa
