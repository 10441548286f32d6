/- Texts cut into blocks: what the loops come to, in plain lists. -/
import Derived.Test.YthmdnpaebdlefaaCtsP
namespace Go.Proofs.Ythmdnpaebdlefaa
open Go.RowKit

def nB (n : Nat) : Nat := (n + 15) / 16
theorem cut_two {b : List UInt8} (hl : 16 < b.length) : ∃ A Y Z, A16 A ∧ Y.length = 16 ∧ 1 ≤ Z.length ∧ Z.length ≤ 16 ∧ b = A.flatten ++ (Y ++ Z) ∧ A.length + 2 = nB b.length ∧ cut16 (nB b.length) b = A ++ [Y, Z] := by
  obtain ⟨A, Y, Z, hA, hY, h1, hZ, rfl⟩ := parts' hl
  have hn : nB (A.flatten ++ (Y ++ Z)).length = A.length + 2 := by
    unfold nB; rw [List.length_append, List.length_append, hA.flat, hY]; omega
  exact ⟨A, Y, Z, hA, hY, h1, hZ, rfl, hn.symm, by rw [hn, cut16_two hA hY hZ]⟩
/-- The blocks as they are chained. -/
def chainE (E : List UInt8 → List UInt8) (b : List UInt8) : List (List UInt8) := cbcE E zz16 ((cut16 (nB b.length) b).map f16)
theorem chain_len (E : List UInt8 → List UInt8) (b : List UInt8) : (chainE E b).length = nB b.length := by unfold chainE; rw [cbcE_len, List.length_map, cut16_len]
theorem chain_one (E : List UInt8 → List UInt8) {b : List UInt8} (hl : b.length = 16) : chainE E b = [ctsE E b] := by
  unfold chainE ctsE
  rw [show nB b.length = 1 by rw [hl]; rfl, if_pos (by omega), cut16, cut16, List.map_cons, List.map_nil, List.take_of_length_le (by omega), f16_full hl, cbcE, cbcE]
theorem chain_two {E D : List UInt8 → List UInt8} (h : Ciph E D) {b : List UInt8} (hl : 16 < b.length) :
    ∃ CA c1 c2, chainE E b = CA ++ [c1, c2] ∧ A16 CA ∧ c1.length = 16 ∧ c2.length = 16 ∧ CA.length + 2 = nB b.length ∧ (CA.flatten ++ (c2 ++ c1)).take b.length = ctsE E b := by
  obtain ⟨A, Y, Z, hA, hY, h1, hZ, rfl, hm, hc⟩ := cut_two hl
  have hC := cbcE_16 h zz_len hA
  have hx := xorF_l16 hY (hC.last zz_len)
  have hc1 := h.1 _ hx
  have hc2 := h.1 _ (xorF_l16 (f16_len hZ) hc1)
  refine ⟨cbcE E zz16 A, E (xorF Y ((cbcE E zz16 A).getLastD zz16)), E (xorF (f16 Z) (E (xorF Y ((cbcE E zz16 A).getLastD zz16)))), ?_, hC, hc1, hc2, by rw [cbcE_len]; exact hm, ?_⟩
  · unfold chainE
    rw [hc, List.map_append, map_f16 hA, List.map_cons, List.map_cons, List.map_nil, f16_full hY, cbcE_app, cbcE, cbcE, cbcE]
  · rw [ctsE_parts hA hY h1 hZ]
    unfold eF
    rw [List.length_append, List.length_append, hA.flat, hY, List.take_append, hC.flat, cbcE_len, List.take_of_length_le (by rw [hC.flat, cbcE_len]; omega), List.take_append, hc2, List.take_of_length_le (by omega)]
    congr 3
    omega
theorem back_two {E D : List UInt8 → List UInt8} (h : Ciph E D) {A : List (List UInt8)} {Y Z : List UInt8} (hA : A16 A) (hY : Y.length = 16) (h1 : 1 ≤ Z.length) (hZ : Z.length ≤ 16) :
    (cbcD D zz16 (A ++ [whole D Y Z, Y])).flatten.take (A.flatten ++ (Y ++ Z)).length = ctsD D (A.flatten ++ (Y ++ Z)) := by
  have hC := cbcD_16 h zz_len hA
  have hW := whole_len h hY hZ
  have hx := xorF_l16 (h.2.1 _ hW) (hA.last zz_len)
  rw [ctsD_parts hA hY h1 hZ, cbcD_app, cbcD, cbcD, cbcD]
  unfold dF
  rw [List.flatten_append, List.flatten_cons, List.flatten_cons, List.flatten_nil, List.append_nil, List.length_append, List.length_append, hA.flat, hY, List.take_append, hC.flat, cbcD_len, List.take_of_length_le (by rw [hC.flat, cbcD_len]; omega), List.take_append, hx, List.take_of_length_le (by omega)]
  congr 3
  omega
theorem back_one (D : List UInt8 → List UInt8) {b : List UInt8} (hl : b.length = 16) : cbcD D zz16 [b] = [ctsD D b] := by
  unfold ctsD
  rw [if_pos (by omega), cbcD, cbcD]
/-- One round more of the chain. -/
theorem cbcE_snoc (E : List UInt8 → List UInt8) (v : List UInt8) (ps : List (List UInt8)) {k : Nat} (hk : k < ps.length) : cbcE E v (ps.take (k + 1)) = cbcE E v (ps.take k) ++ [E (xorF ps[k] ((cbcE E v (ps.take k)).getLastD v))] := by
  rw [List.take_succ_eq_append_getElem hk, cbcE_app, cbcE, cbcE]
theorem cbcD_snoc (D : List UInt8 → List UInt8) (v : List UInt8) (ps : List (List UInt8)) {k : Nat} (hk : k < ps.length) : cbcD D v (ps.take (k + 1)) = cbcD D v (ps.take k) ++ [xorF (D ps[k]) ((ps.take k).getLastD v)] := by
  rw [List.take_succ_eq_append_getElem hk, cbcD_app, cbcD, cbcD]
end Go.Proofs.Ythmdnpaebdlefaa
