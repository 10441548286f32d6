/- The rest of a division, made no less than nought. -/
import Derived.Test.YthamhaomfdgdjaaBase
namespace Go.Proofs.Ythamhaomfdgdjaa
open Go.RowKit

theorem tmod_bound (x : Int) {k : Int} (hk : 0 < k) : -k < Int.tmod x k ∧ Int.tmod x k < k := by
  refine ⟨?_, Int.tmod_lt_of_pos x hk⟩
  have h := Int.tmod_lt_of_pos (-x) hk
  rw [Int.neg_tmod] at h
  omega
theorem tmod_cut (x : Int) {k : Int} (hk : 0 < k) : ∃ p : Nat, Int.tmod (Int.tmod x k + k) k = (p : Int) ∧ (p : Int) < k := by
  have h1 := tmod_bound x hk
  have h2 := Int.tmod_nonneg (a := Int.tmod x k + k) k (by omega)
  have h3 := Int.tmod_lt_of_pos (Int.tmod x k + k) hk
  exact ⟨(Int.tmod (Int.tmod x k + k) k).toNat, by omega, by omega⟩
end Go.Proofs.Ythamhaomfdgdjaa
