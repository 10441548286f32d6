/- What the printed reference All answers: the pieces in a row. -/
import Derived.Test.YthgfkmjdibhifaaDoorPBx
import Derived.Test.YthgfkmjdibhifaaDoorKd
import Derived.Test.YthgfkmjdibhifaaDoorBits
namespace Go.Proofs.YthgfkmjdibhifaaDoor.Pure
open Go.RowKit Go.Proofs.YthgfkmjdibhifaaDoor Go.Proofs.YthgfkmjdibhifaaDoor.PB Go.Proofs.YthgfkmjdibhifaaDoorW.PrintWords Go.Proofs.YthgfkmjdibhifaaDoorW.PrintLast

theorem all_l0 (l : List (List Int)) (hl : l.length ≤ 1000000) (hf : l.flatten.length ≤ 1000000000) : ∀ d i : Nat, i + d = l.length → Ev (fun k => turnkeyref01_All.l0 k l (l.take i).flatten (i : Int)) l.flatten
  | 0, i, hi => Ev.step (f := fun _ => some l.flatten) (fun k => by
      show turnkeyref01_All.l0 (k + 1) _ _ _ = _
      rw [turnkeyref01_All.l0, if_neg (by omega), List.take_of_length_le (by omega)]) (Ev.now _)
  | d + 1, i, hi => by
    have hlt : i < l.length := by omega
    have ih := all_l0 l hl hf d (i + 1) (by omega)
    rw [List.take_succ_eq_append_getElem hlt, List.flatten_append] at ih
    have hsum : (l.take i).flatten.length + l[i].length ≤ l.flatten.length := by
      have : l.flatten = (l.take (i + 1)).flatten ++ (l.drop (i + 1)).flatten := by rw [← List.flatten_append, List.take_append_drop]
      rw [this, List.take_succ_eq_append_getElem hlt, List.flatten_append]
      simp
    have hw : wrap64 ((i : Int) + 1) = ((i + 1 : Nat) : Int) := by rw [wrap64_id (by omega) (by omega)]; omega
    have hr : rd_L2 l (i : Int) = l[i] := by unfold rd_L2; rw [Int.toNat_natCast, List.getD_eq_getElem?_getD, List.getElem?_eq_getElem hlt]; rfl
    refine Ev.step (fun k => ?_) ih
    show turnkeyref01_All.l0 (k + 1) _ _ _ = _
    rw [turnkeyref01_All.l0, if_pos (by omega), if_pos (by omega), hr, if_pos (by omega), hw]
    simp

theorem refAll (l : List (List Int)) (hl : l.length ≤ 1000000) (hf : l.flatten.length ≤ 1000000000) : Ev (fun k => turnkeyref01_All.f k l) l.flatten :=
  all_l0 l hl hf l.length 0 (by omega)
end Go.Proofs.YthgfkmjdibhifaaDoor.Pure
