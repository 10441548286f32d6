/- Numbers and their octets: plain lemmas. -/
import Derived.Test.YtilpafmfknphlaaOctB
namespace Go.Proofs.Ytilpafmfknphlaa
open Go.RowKit

theorem numN_foldl (l : List UInt8) : ∀ a : Nat, l.foldl (fun n c => n * 256 + c.toNat) a = a * 256 ^ l.length + numN l := by
  induction l with
  | nil => intro a; simp [numN]
  | cons c l ih =>
    intro a
    have h1 := ih (a * 256 + c.toNat)
    have h2 := ih (0 * 256 + c.toNat)
    simp only [numN, List.foldl_cons, List.length_cons] at *
    rw [h1, h2, Nat.pow_succ, Nat.add_mul, Nat.zero_mul, Nat.zero_add, Nat.mul_assoc, Nat.mul_comm 256 (256 ^ l.length), Nat.add_assoc]
theorem numN_cons (c : UInt8) (l : List UInt8) : numN (c :: l) = c.toNat * 256 ^ l.length + numN l := by
  have := numN_foldl l (0 * 256 + c.toNat)
  rw [Nat.zero_mul, Nat.zero_add] at this
  rw [← this]; simp [numN]
theorem Int.emod_mul_aux (n a b : Int) (ha : 0 ≤ a) : n / a % b * a + n % a = n % (a * b) := by
  rw [Int.emod_def n (a * b), Int.emod_def (n / a) b, Int.emod_def n a, Int.ediv_ediv_of_nonneg ha, Int.sub_mul, Int.mul_comm a (n / a), Int.mul_comm b (n / (a * b)), Int.mul_assoc, Int.mul_comm (a * b), Int.mul_comm b a]
  omega
theorem num_lay (n : Int) : ∀ k : Nat, (numN (layK n k) : Int) = n % 256 ^ k
  | 0 => by simp [layK, numN]
  | k + 1 => by
    have ih := num_lay n k
    rw [layK, numN_cons, layK_length]
    rw [Int.natCast_add, Int.natCast_mul, Int.natCast_pow, show ((256 : Nat) : Int) = 256 from rfl]
    rw [ih, layB_toNat]
    have hp : (2 : Int) ^ (8 * k) = 256 ^ k := by rw [Int.pow_mul]; rfl
    rw [hp, Int.pow_succ, Int.emod_mul_aux n (256 ^ k) 256 (by exact Int.le_of_lt (Int.pow_pos (by decide)))]
theorem num_lay8 (n : Int) (h1 : -9223372036854775808 ≤ n) (h2 : n ≤ 9223372036854775807) : wrap64 (numN (layK n (sizeK 8))) = n := by
  rw [num_lay, show sizeK 8 = 8 from rfl]
  unfold wrap64; omega

theorem i64_bounds {n : Int} (h : (Lit.int .i64 n).wf = true) : -9223372036854775808 ≤ n ∧ n ≤ 9223372036854775807 := by
  simpa [Lit.wf, IntKind.min, IntKind.max, IntKind.signed, IntKind.bits] using h

end Go.Proofs.Ytilpafmfknphlaa
