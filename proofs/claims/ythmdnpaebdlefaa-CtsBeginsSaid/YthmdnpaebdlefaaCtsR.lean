/- Rows of bytes that a block of slices points to, none of them in that block. -/
import Derived.Test.YthmdnpaebdlefaaCtsA
import Derived.Test.YthmdnpaebdlefaaCtsQ
import Derived.Test.YthmdnpaebdlefaaPcs
import Derived.Lib.SmallJoins
namespace Go.Proofs.Ythmdnpaebdlefaa
open Go.RowKit

/-- The cells L of block g are slices that read as xss, and none lies in g. -/
def RowsG (W : World) (g : Nat) (L : List Value) (xss : List (List UInt8)) : Prop := ∀ (i : Nat) (xs : List UInt8), xss[i]? = some xs → ∃ (Ai : Option Addr) (ci : Nat), L[i]? = some (.slice Ai xs.length ci) ∧ RdB W Ai xs ∧ xs.length ≤ ci ∧ ∀ ad, Ai = some ad → ad.block ≠ g
theorem RowsG.keep {W W' : World} {g : Nat} {L : List Value} {xss : List (List UInt8)} (h : RowsG W g L xss) (hk : ∀ (A : Option Addr) (xs : List UInt8), RdB W A xs → (∀ ad, A = some ad → ad.block ≠ g) → RdB W' A xs) : RowsG W' g L xss :=
  fun i xs hi => by obtain ⟨A, c, h1, h2, h3, h4⟩ := h i xs hi; exact ⟨A, c, h1, hk A xs h2 h4, h3, h4⟩
theorem RowsG.set {W : World} {g : Nat} {L : List Value} {X R : List (List UInt8)} {p q : List UInt8} (h : RowsG W g L (X ++ p :: R)) {k : Nat} (hk : X.length = k) (hl : k < L.length) {A : Option Addr} {c : Nat} (hr : RdB W A q) (hc : q.length ≤ c) (hn : ∀ ad, A = some ad → ad.block ≠ g) :
    RowsG W g (L.set k (.slice A q.length c)) (X ++ q :: R) := fun i xs hi => by
  subst hk
  by_cases hlt : i = X.length
  · subst hlt
    rw [List.getElem?_append_right (Nat.le_refl _), Nat.sub_self] at hi
    obtain rfl : q = xs := by simpa using hi
    exact ⟨A, c, List.getElem?_set_self hl, hr, hc, hn⟩
  · have e : (X ++ p :: R)[i]? = some xs := by
      by_cases h1 : i < X.length
      · rw [List.getElem?_append_left h1] at hi ⊢; exact hi
      · rw [List.getElem?_append_right (by omega)] at hi ⊢
        obtain ⟨j, hj⟩ : ∃ j, i - X.length = j + 1 := ⟨i - X.length - 1, by omega⟩
        rw [hj] at hi ⊢
        simpa using hi
    obtain ⟨A2, c2, h1, h2, h3, h4⟩ := h i xs e
    exact ⟨A2, c2, by rw [List.getElem?_set_ne (by omega)]; exact h1, h2, h3, h4⟩
/-- The same slices in another place. -/
theorem RowsG.swap {W : World} {g : Nat} {L : List Value} {X : List (List UInt8)} {p q : List UInt8} (h : RowsG W g L (X ++ [p, q])) {k : Nat} (hk : X.length = k) {u v : Value} (hu : L[k]? = some u) (hv : L[k + 1]? = some v) :
    RowsG W g ((L.set k v).set (k + 1) u) (X ++ [q, p]) := fun i xs hi => by
  subst hk
  have hk1 : X.length + 1 < L.length := (List.getElem?_eq_some_iff.1 hv).1
  have hk0 : X.length < L.length := by omega
  have e0 : ((L.set X.length v).set (X.length + 1) u)[X.length]? = some v := by rw [List.getElem?_set_ne (by omega), List.getElem?_set_self hk0]
  have e1 : ((L.set X.length v).set (X.length + 1) u)[X.length + 1]? = some u := List.getElem?_set_self (by rw [List.length_set]; exact hk1)
  by_cases h1 : i < X.length
  · rw [List.getElem?_append_left h1] at hi
    obtain ⟨A2, c2, g1, g2, g3, g4⟩ := h i xs (by rw [List.getElem?_append_left h1]; exact hi)
    exact ⟨A2, c2, by rw [List.getElem?_set_ne (by omega), List.getElem?_set_ne (by omega)]; exact g1, g2, g3, g4⟩
  · rw [List.getElem?_append_right (by omega)] at hi
    obtain hj | hj : i - X.length = 0 ∨ i - X.length = 1 := by
      have := (List.getElem?_eq_some_iff.1 hi).1
      simp at this; omega
    · rw [hj] at hi
      obtain rfl : q = xs := by simpa using hi
      obtain ⟨A2, c2, g1, g2, g3, g4⟩ := h (X.length + 1) q (by rw [List.getElem?_append_right (by omega), Nat.add_sub_cancel_left]; rfl)
      rw [g1] at hv
      cases hv
      exact ⟨A2, c2, by rw [show i = X.length by omega]; exact e0, g2, g3, g4⟩
    · rw [hj] at hi
      obtain rfl : p = xs := by simpa using hi
      obtain ⟨A2, c2, g1, g2, g3, g4⟩ := h X.length p (by rw [List.getElem?_append_right (Nat.le_refl _), Nat.sub_self]; rfl)
      rw [g1] at hu
      cases hu
      exact ⟨A2, c2, by rw [show i = X.length + 1 by omega]; exact e1, g2, g3, g4⟩
theorem RowsG.slcs {W : World} {g : Nat} {L : List Value} {xss : List (List UInt8)} (h : RowsG W g L xss) (hl : xss.length ≤ L.length) : Slcs W (L.take xss.length) xss :=
  ⟨by rw [List.length_take]; omega, fun i xs hi => by
    obtain ⟨A, c, h1, h2, _⟩ := h i xs hi
    exact ⟨A, c, by rw [List.getElem?_take_of_lt (List.getElem?_eq_some_iff.1 hi).1]; exact h1, h2⟩⟩
/-- Pieces of their own, as they come out of Cut. -/
theorem Each.rowsG {W : World} {base g : Nat} {vs tl : List Value} {xss : List (List UInt8)} (h : Each W base vs xss) {L : List Value} (hg : Blk W g 29 L) : RowsG W g (vs ++ tl) xss := fun i xs hi => by
  obtain ⟨v, hv, hr⟩ := h.2 i xs hi
  have hr' := hr
  obtain ⟨A, c, rfl, h1, -, h2, -⟩ := own_rd hr
  refine ⟨A, c, by rw [List.getElem?_append_left (List.getElem?_eq_some_iff.1 hv).1]; exact hv, h2, h1, fun ad e he => ?_⟩
  rcases hr'.2 with ⟨e1, _⟩ | ⟨g', cap, cur, e1, _, hb, _⟩
  · injection e1 with e2 _ _; rw [e2] at e; cases e
  · injection e1 with e2 _ _; rw [e2] at e; cases e
    have hg' : W.heap[g]? = some (.cells L.toArray 29 (0, 0)) := hg
    rw [← he] at hg'
    rw [hg'] at hb
    simp at hb
theorem cutF_cut16 (b : List UInt8) : cutF b 16 = cut16 (nB b.length) b := by
  unfold cutF
  rw [if_neg (by decide)]
  exact cut16_range _ b
theorem meth_enc (b : Nat) : Meth Try.prog 25 (.pointer (some ⟨b, 0, none⟩)) "Encrypt" 11 (.pointer (some ⟨b, 0, none⟩)) := ⟨fun _ => by kernel_rfl, fun _ => by kernel_rfl⟩
theorem meth_dec (b : Nat) : Meth Try.prog 25 (.pointer (some ⟨b, 0, none⟩)) "Decrypt" 51 (.pointer (some ⟨b, 0, none⟩)) := ⟨fun _ => by kernel_rfl, fun _ => by kernel_rfl⟩
theorem own_take {w : World} {B : Nat} {e : TypeId} {g m n c : Nat} {xs : List Value} (h : w.ownsRow B e 1 (.slice (some ⟨g, 0, none⟩) m c) m xs) (hn : n ≤ m) : w.ownsRow B e 1 (.slice (some ⟨g, 0, none⟩) n c) n (xs.take n) := by
  have hl : xs.length = m := by have := h.1; omega
  rcases h.2 with ⟨e1, _⟩ | ⟨g', cap, cur, e1, hB, hg, hnc, hc, hs, ht⟩
  · cases e1
  · cases e1
    refine ⟨by rw [List.length_take]; omega, .inr ⟨g, c, cur, rfl, hB, hg, by omega, hc, hs, ?_⟩⟩
    rw [← ht, List.take_take, Nat.mul_one, Nat.mul_one, Nat.min_eq_left (by omega)]
/-- What Encrypt and Decrypt of texts come to. -/
def GivesT (xs : List UInt8) (w : World) (e : Ending) (w' : World) : Prop :=
  ∃ g c, e = .returned (.tuple #[.slice (some ⟨g, 0, none⟩) xs.length c, .int .i64 0]) ∧ w'.ownsRow w.heap.size 5 1 (.slice (some ⟨g, 0, none⟩) xs.length c) xs.length (xs.map bV) ∧ Below w.heap.size w w'
end Go.Proofs.Ythmdnpaebdlefaa
