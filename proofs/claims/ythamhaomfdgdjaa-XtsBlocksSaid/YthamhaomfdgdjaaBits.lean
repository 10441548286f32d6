/- Lemmas on the bits of numbers. -/
import Derived.Test.YthamhaomfdgdjaaBase
import Derived.Laws.BitsAllLaws
import Derived.Laws.BitsLemmas
namespace Go.Proofs.Ythamhaomfdgdjaa
open Go.RowKit

theorem toNat_ofInt64 (x : Int) : ((BitVec.ofInt 64 x).toNat : Int) = x % 18446744073709551616 := by
  rw [BitVec.toNat_ofInt]
  have h : (0 : Int) ≤ x % (18446744073709551616 : Int) := Int.emod_nonneg _ (by decide)
  have e : ((2 ^ 64 : Nat) : Int) = 18446744073709551616 := rfl
  rw [e]
  omega

theorem wrap64_emod (x : Int) : wrap64 (x % 18446744073709551616) = wrap64 x := by
  unfold wrap64; omega

theorem wrap64_eq {x y : Int} (h : x % 18446744073709551616 = y % 18446744073709551616) : wrap64 x = wrap64 y := by
  rw [← wrap64_emod x, ← wrap64_emod y, h]

theorem i64_wrap (x : Int) : IntKind.i64.wrap x = wrap64 x := by rw [IntKind.wrap_i64]; unfold wrap64; rfl

/-- x | d where x ends in eight noughts. -/
theorem or_add8 {x d : Int} (hx : x % 256 = 0) (h0 : 0 ≤ d) (h1 : d < 256) : bits .or .i64 x d = wrap64 (x + d) := by
  show IntKind.i64.wrap ((BitVec.ofInt 64 x ||| BitVec.ofInt 64 d).toNat : Int) = _
  rw [BitVec.toNat_or, i64_wrap]
  have ha := toNat_ofInt64 x
  have hb := toNat_ofInt64 d
  generalize (BitVec.ofInt 64 x).toNat = a at *
  generalize (BitVec.ofInt 64 d).toNat = b at *
  have hb2 : b < 2 ^ 8 := by omega
  have ha2 : a % 2 ^ 8 = 0 := by omega
  rw [nat_join 8 a b ha2 hb2]
  refine wrap64_eq ?_
  omega

theorem wrap64_id {x : Int} (h0 : -9223372036854775808 ≤ x) (h1 : x ≤ 9223372036854775807) : wrap64 x = x := by
  unfold wrap64; omega

theorem u64_wrap (x : Int) : IntKind.u64.wrap x = x % 18446744073709551616 := by simp [IntKind.wrap, IntKind.bits, IntKind.signed]
theorem u8_wrap (x : Int) : IntKind.u8.wrap x = x % 256 := IntKind.wrap_u8 x
end Go.Proofs.Ythamhaomfdgdjaa
