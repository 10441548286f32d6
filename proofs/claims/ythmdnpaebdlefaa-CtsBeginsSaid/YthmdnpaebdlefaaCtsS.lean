/- cts.swap at rows of bytes. -/
import Derived.Test.YthmdnpaebdlefaaCtsR
namespace Go.Proofs.Ythmdnpaebdlefaa
open Go.RowKit
set_option linter.unusedVariables false
set_option linter.unusedSimpArgs false

def swpF (l : List (List UInt8)) : List (List UInt8) := match l.reverse with
  | x :: y :: r => r.reverse ++ [x, y]
  | _ => l
theorem swpF_two (X : List (List UInt8)) (p q : List UInt8) : swpF (X ++ [p, q]) = X ++ [q, p] := by simp [swpF]
theorem swpF_one (p : List UInt8) : swpF [p] = [p] := rfl
theorem two_last {l : List (List UInt8)} (h : 2 ≤ l.length) : ∃ X p q, l = X ++ [p, q] := by
  refine ⟨l.take (l.length - 2), l[l.length - 2]'(by omega), l[l.length - 1]'(by omega), ?_⟩
  conv => lhs; rw [← List.take_append_drop (l.length - 2) l]
  rw [List.drop_eq_getElem_cons (by omega), List.drop_eq_getElem_cons (by omega), List.drop_eq_nil_of_le (by omega)]
  congr 4
  omega
theorem one_last {l : List (List UInt8)} (h : l.length = 1) : ∃ p, l = [p] := by
  match l, h with
  | [p], _ => exact ⟨p, rfl⟩
theorem swpF_len (l : List (List UInt8)) : (swpF l).length = l.length := by
  by_cases h : 2 ≤ l.length
  · obtain ⟨X, p, q, rfl⟩ := two_last h
    rw [swpF_two]; simp
  · by_cases h1 : l.length = 1
    · obtain ⟨p, rfl⟩ := one_last h1; rfl
    · have : l = [] := List.eq_nil_of_length_eq_zero (by omega)
      subst this; rfl
theorem swap_rows (g m cap : Nat) (L : List Value) (xss : List (List UInt8)) (w : World) (hB : Blk w g 29 L) (hm : 1 ≤ m) (hm2 : m ≤ 1000) (hl : m ≤ L.length) (hR : RowsG w g L xss) (hx : xss.length = m) :
    Calls Try.prog 18 #[.slice (some ⟨g, 0, none⟩) m cap] w fun e w' => ∃ z L2, e = .returned z ∧ w.grownBy w' (some g) ∧ Blk w' g 29 L2 ∧ m ≤ L2.length ∧ RowsG w' g L2 (swpF xss) := by
  by_cases h1 : m = 1
  · obtain ⟨p, rfl⟩ := one_last (hx.trans h1)
    refine (swap_one _ m cap w (by omega)).mono ?_
    rintro e w' ⟨⟨z, rfl⟩, rfl⟩
    exact ⟨z, L, rfl, World.grownBy.refl _ _, hB, hl, hR⟩
  · obtain ⟨X, p, q, rfl⟩ := two_last (show 2 ≤ xss.length by omega)
    have hX : X.length + 2 = m := by rw [← hx]; simp
    obtain ⟨A1, c1, e1, -⟩ := hR X.length p (by rw [List.getElem?_append_right (Nat.le_refl _), Nat.sub_self]; rfl)
    obtain ⟨A2, c2, e2, -⟩ := hR (X.length + 1) q (by rw [List.getElem?_append_right (by omega), Nat.add_sub_cancel_left]; rfl)
    have h := swap_any g X.length cap _ L A1 A2 p.length c1 q.length c2 w hB (by omega) (by omega) e1 e2
    rw [hX] at h
    refine h.mono ?_
    rintro e w' ⟨⟨z, rfl⟩, hg, hB2⟩
    refine ⟨z, _, rfl, hg, hB2, by rw [List.length_set, List.length_set]; exact hl, ?_⟩
    rw [swpF_two]
    have hS := (St.start1 (x := .blk g 29 L) hB rfl).updB .here hg hB2
    exact (hR.swap rfl e1 e2).keep fun A xs h h' => hS.rdm h h'
theorem swp_chain {E D : List UInt8 → List UInt8} (h : Ciph E D) {b : List UInt8} (hb : 16 ≤ b.length) (hb2 : b.length ≤ 256) : (swpF (chainE E b)).flatten.take b.length = ctsE E b ∧ b.length ≤ (swpF (chainE E b)).flatten.length ∧ (swpF (chainE E b)).flatten.length ≤ 1000 := by
  by_cases h1 : b.length = 16
  · have hl : (ctsE E b).length = 16 := by rw [ctsE_len h hb, h1]
    rw [chain_one E h1, swpF_one, h1]
    simp only [List.flatten_cons, List.flatten_nil, List.append_nil, hl]
    exact ⟨List.take_of_length_le (by omega), by omega, by omega⟩
  · obtain ⟨CA, c1, c2, e1, h2, h3, h4, h5, h6⟩ := chain_two h (b := b) (by omega)
    have hnb : nB b.length = (b.length + 15) / 16 := rfl
    rw [e1, swpF_two]
    simp only [List.flatten_append, List.flatten_cons, List.flatten_nil, List.append_nil, List.length_append, h2.flat, h3, h4]
    exact ⟨h6, by omega, by omega⟩
end Go.Proofs.Ythmdnpaebdlefaa
