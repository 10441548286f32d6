/- A row that is owned, written. -/
import Derived.Test.YthamhaomfdgdjaaOctA
namespace Go.Proofs.Ythamhaomfdgdjaa
open Go.RowKit

/-- A row that is not empty: its place; a cell of it; it isn't frozen. -/
theorem own_at {w : World} {B : Nat} {e : TypeId} {v : Value} {n : Nat} {xs : List Value} (h : w.ownsRow B e 1 v n xs) (hn : 0 < n) :
    ∃ g c, v = .slice (some ⟨g, 0, none⟩) n c ∧ B ≤ g ∧ g < w.heap.size ∧ n ≤ c ∧ (∀ k, k < n → w.cell? ⟨g, k, none⟩ = xs[k]? ∧ w.frozen? ⟨g, k, none⟩ = false) ∧
      ∀ k u, k < n → (w.setCell ⟨g, k, none⟩ u).ownsRow B e 1 v n (xs.set k u) := by
  obtain ⟨hl, h⟩ := h
  rcases h with ⟨rfl, rfl⟩ | ⟨g, cap, cur, rfl, hB, hg, hnc, hcm, hcs, ht⟩
  · omega
  · refine ⟨g, cap, rfl, hB, (Array.getElem?_eq_some_iff.1 hg).1, hnc, fun k hk => ⟨?_, ?_⟩, fun k u hk => ?_⟩
    · rw [cell_of_row w g k cur e (0, 0) hg, ← ht, List.getElem?_take, if_pos (by omega)]; simp
    · simp [World.frozen?, hg]
    · refine ⟨by rw [List.length_set]; exact hl, .inr ⟨g, cap, cur.setIfInBounds k u, rfl, hB, ?_, hnc, hcm, ?_, ?_⟩⟩
      · simp [World.setCell, Array.getElem?_modify, hg]
      · rw [Array.size_setIfInBounds]; exact hcs
      · rw [Array.toList_setIfInBounds, ← ht, List.take_set]

theorem below_set {B : Nat} {w w' : World} (h : Below B w w') {g k : Nat} (hg : B ≤ g) (u : Value) : Below B w (w'.setCell ⟨g, k, none⟩ u) := h.setCell (p := ⟨g, k, none⟩) hg u

theorem RdB.take {w : World} {A : Option Addr} {xs : List UInt8} (h : RdB w A xs) (k : Nat) : RdB w A (xs.take k) := by
  rcases h with h | ⟨b, o, rfl, h⟩
  · have : xs = [] := by simpa using h
    subst this; simp only [List.take_nil]; exact Rd.nil _ _
  · refine Rd.mk fun i hi => ?_
    have hi' : i < k ∧ i < xs.length := by have : i < min k xs.length := (by simpa using hi); omega
    rw [h i (by simpa using hi'.2), List.getElem?_map, List.getElem?_map, List.getElem?_take, if_pos hi'.1]

/-- A byte of a slice that reads. -/
theorem RdB.at {w : World} {A : Option Addr} {xs : List UInt8} (h : RdB w A xs) {k : Nat} (hk : k < xs.length) : ∃ b o, A = some ⟨b, o, none⟩ ∧ w.cell? ⟨b, o + k, none⟩ = some (.int .u8 ((xs[k]).toNat : Int)) ∧ b < w.heap.size := by
  have hne : xs.map bV ≠ [] := by intro e; rw [List.map_eq_nil_iff] at e; subst e; simp at hk
  obtain ⟨b0, o0, e0, hlt⟩ := Rd.lt h hne
  rcases h with h | ⟨b, o, rfl, h⟩
  · exact absurd h hne
  · obtain ⟨rfl, rfl⟩ : b = b0 ∧ o = o0 := by simpa using e0
    refine ⟨b, o, rfl, ?_, hlt⟩
    rw [h k (by simpa using hk), List.getElem?_map, List.getElem?_eq_getElem hk]; rfl

/-- append of bytes onto a row of bytes. -/
theorem run_appB (w : World) (base : Nat) (ty : TypeId) {v : Value} {n : Nat} {ys : List Value} (hown : w.ownsRow base 5 1 v n ys) {A : Option Addr} {m c : Nat} {xs : List UInt8} (h : RdB w A xs) (hm : xs.length = m) (hl : n + m ≤ 140737488355328) (hb : base ≤ w.heap.size) :
    ∃ v' w', (Builtin.append_ #[26, 26] ty #[v, .slice A m c]).run Try.prog w = .ok v' w' ∧ w'.ownsRow base 5 1 v' (n + m) (ys ++ xs.map bV) ∧ w.grownBy w' v.ownBlock := by
  obtain ⟨i, hi, hz, h1, h2⟩ := info_parts TB.hi
  exact run_append_src w base 26 26 ty 5 i _ 1 TB.ht hi hz h1 h2 TB.hz v n ys hown _ m _ (RdB.src (c := c) Try.underlying26 h hm) (by unfold maxLen; omega) (by omega) hb

/-- append of bytes onto an empty literal: nothing that lay turns. -/
theorem run_app0 (w : World) (ty : TypeId) {base g : Nat} (hown : w.ownsRow base 5 1 (.slice (some ⟨g, 0, none⟩) 0 0) 0 []) {A : Option Addr} {m c : Nat} {xs : List UInt8} (h : RdB w A xs) (hm : xs.length = m) (hl : m ≤ 140737488355328) (hb : base ≤ w.heap.size) :
    ∃ v' w', (Builtin.append_ #[26, 26] ty #[.slice (some ⟨g, 0, none⟩) 0 0, .slice A m c]).run Try.prog w = .ok v' w' ∧ w'.ownsRow base 5 1 v' m (xs.map bV) ∧ w.grownBy w' none := by
  obtain ⟨i, hi, hz, h1, h2⟩ := info_parts TB.hi
  have hs := RdB.src (P := Try.prog) (c := c) Try.underlying26 h hm
  by_cases h0 : m = 0
  · subst h0
    obtain rfl : xs = [] := List.eq_nil_of_length_eq_zero hm
    have hr := run_append_room_src (P := Try.prog) w 26 26 ty 5 i TB.ht hi g 0 0 0 _ 0 [] (h1 ▸ hs) (Nat.le_refl _) (fun j hj => by simp at hj) (fun j hj => by simp at hj)
    refine ⟨_, _, hr, ?_, ?_⟩
    · exact hown
    · exact ⟨rfl, rfl, rfl, Nat.le_refl _, fun _ _ _ => rfl⟩
  · have hold : (Builtin.firstCells i.size 0 (.slice (some ⟨g, 0, none⟩) 0 0)).run Try.prog w.drew = .ok ([] : List Value).toArray w.drew :=
      run_firstCells_some w.drew i.size 0 ⟨g, 0, none⟩ 0 0 [] (by simp) (by simp)
    have hr := run_append_grow_src (P := Try.prog) w 26 26 ty 5 i _ TB.ht hi hz (some ⟨g, 0, none⟩) 0 0 [] hold _ m _ (h1 ▸ hs) (by omega) (by omega) (growslice_fits (by omega) (by rw [h2]; omega))
    have hge := grownCap_ge w (0 + m) 0 5
    have hcm : grownCap w (0 + m) 0 5 ≤ maxLen := grownCap_le_maxLen w (0 + m) 0 5 (by unfold maxLen; omega)
    refine ⟨_, _, hr, ⟨by simp [hm], .inr ⟨w.heap.size, _, _, by rw [Nat.zero_add], hb, heap_alloc_new w.drew _, by omega, hcm, ?_, ?_⟩⟩, ⟨rfl, rfl, rfl, by simp, fun k hk _ => Below.heap_alloc w.drew _ k hk⟩⟩
    · simp only [Array.size_append, List.size_toArray, size_zeroCells, TB.hz, List.nil_append, List.length_map, hm]
      omega
    · rw [Array.toList_append, List.nil_append, show m * 1 = (xs.map bV).length by simp [hm]]
      exact List.take_left

/-- The same, as a law of the walk. -/
theorem wpList_app0 {w : World} {ops : Array Oper} {rest : List Oper} {o : Oper} {a : Act} {Q : Exit → Act → World → Prop} {s x : Operand} {base g : Nat} (hown : w.ownsRow base 5 1 (.slice (some ⟨g, 0, none⟩) 0 0) 0 [])
    {A : Option Addr} {m c : Nat} {xs : List UInt8} (h : RdB w A xs) (hm : xs.length = m) (hgd : o.guard = none)
    (ho : o.op = .call { callee := .builtin .append, args := #[s, x], argTypes := #[26, 26] }) (hsv : a.eval s = .slice (some ⟨g, 0, none⟩) 0 0) (hxv : a.eval x = .slice A m c)
    (hl : m ≤ 140737488355328) (hb : base ≤ w.heap.size)
    (hk : ∀ A' c' w', w'.ownsRow base 5 1 (.slice A' m c') m (xs.map bV) → w.grownBy w' none → wpList Try.prog ops Q rest (a.put o.dst (.slice A' m c')) w') : wpList Try.prog ops Q (o :: rest) a w := by
  obtain ⟨v', w', hr, h1, h2⟩ := run_app0 w o.type hown (c := c) h hm hl hb
  obtain ⟨A', c', rfl, -⟩ := own_rd h1
  refine wpList_plain hgd fun _ hK => ?_
  unfold Oper.wp execOp
  simp only [ho, resolve, invoke, builtin, Sem.run_bind, Sem.run_pure, Result.andThen_ok, List.map_toArray, List.map_cons, List.map_nil, hsv, hxv, hr]
  exact hK _ _ (hk A' c' w' h1 h2)

theorem grown_below {w w' : World} {base : Nat} {e : TypeId} {sz n : Nat} {v : Value} {xs : List Value} (hg : w.grownBy w' v.ownBlock) (h : w.ownsRow base e sz v n xs) (hb : base ≤ w.heap.size) : Below base w w' :=
  (Below.refl base w).grown hg hb (fun k hk => (h.lt k hk).1)

theorem set_bV (xs : List UInt8) (k : Nat) (u : UInt8) : (xs.map bV).set k (bV u) = (xs.set k u).map bV := by rw [List.map_set]

theorem xor8 (a b : UInt8) : bits .xor .u8 (a.toNat : Int) (b.toNat : Int) = ((a ^^^ b).toNat : Int) := by
  show IntKind.u8.wrap ((BitVec.ofInt 8 a.toNat ^^^ BitVec.ofInt 8 b.toNat).toNat : Int) = _
  rw [IntKind.wrap_u8, BitVec.ofInt_natCast, BitVec.ofInt_natCast, BitVec.toNat_xor, BitVec.toNat_ofNat, BitVec.toNat_ofNat, UInt8.toNat_xor,
    Nat.mod_eq_of_lt (UInt8.toNat_lt a), Nat.mod_eq_of_lt (UInt8.toNat_lt b)]
  have : a.toNat ^^^ b.toNat < 2 ^ 8 := Nat.xor_lt_two_pow (UInt8.toNat_lt a) (UInt8.toNat_lt b)
  omega
theorem or8 (a b : UInt8) : bits .or .u8 (a.toNat : Int) (b.toNat : Int) = ((a ||| b).toNat : Int) := by
  show IntKind.u8.wrap ((BitVec.ofInt 8 a.toNat ||| BitVec.ofInt 8 b.toNat).toNat : Int) = _
  rw [IntKind.wrap_u8, BitVec.ofInt_natCast, BitVec.ofInt_natCast, BitVec.toNat_or, BitVec.toNat_ofNat, BitVec.toNat_ofNat, UInt8.toNat_or,
    Nat.mod_eq_of_lt (UInt8.toNat_lt a), Nat.mod_eq_of_lt (UInt8.toNat_lt b)]
  have : a.toNat ||| b.toNat < 2 ^ 8 := Nat.or_lt_two_pow (UInt8.toNat_lt a) (UInt8.toNat_lt b)
  omega
end Go.Proofs.Ythamhaomfdgdjaa
