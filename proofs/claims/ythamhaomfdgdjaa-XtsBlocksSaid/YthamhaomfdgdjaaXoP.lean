/- Two rows of bytes, xored: plain lists. -/
import Derived.Test.YthamhaomfdgdjaaBase
namespace Go.Proofs.Ythamhaomfdgdjaa
open Go.RowKit

def xorF (a b : List UInt8) : List UInt8 := List.zipWith (· ^^^ ·) a b

theorem set_map_bV (xs : List UInt8) (k : Nat) (u : UInt8) : (xs.map bV).set k (bV u) = (xs.set k u).map bV := by rw [List.map_set]

/-- The first k bytes xored, the others as they are. -/
def xorK (a b : List UInt8) (k : Nat) : List UInt8 := xorF (a.take k) (b.take k) ++ a.drop k

theorem xorF_length (a b : List UInt8) : (xorF a b).length = min a.length b.length := by simp [xorF]
theorem xorK_at {a b : List UInt8} {k : Nat} (h1 : k < a.length) (h2 : k < b.length) : (xorK a b k)[k]? = some a[k] := by
  unfold xorK
  rw [List.getElem?_append_right (by rw [xorF_length, List.length_take, List.length_take]; omega), xorF_length, List.length_take, List.length_take, List.getElem?_drop, show k + (k - min (min k a.length) (min k b.length)) = k by omega, List.getElem?_eq_getElem h1]
theorem xorK_set {a b : List UInt8} {k : Nat} (h1 : k < a.length) (h2 : k < b.length) : (xorK a b k).set k (a[k] ^^^ b[k]) = xorK a b (k + 1) := by
  unfold xorK
  have hl : (xorF (a.take k) (b.take k)).length = k := by rw [xorF_length, List.length_take, List.length_take]; omega
  rw [List.set_append_right _ _ (by omega), hl, Nat.sub_self, List.drop_eq_getElem_cons h1, List.set_cons_zero, List.take_succ_eq_append_getElem h1, List.take_succ_eq_append_getElem h2]
  unfold xorF
  rw [List.zipWith_append (by rw [List.length_take, List.length_take]; omega)]
  simp
theorem xorK_zero (a b : List UInt8) : xorK a b 0 = a := by simp [xorK, xorF]
theorem xorK_end {a b : List UInt8} {q : Nat} (h1 : a.length = q) (h2 : q ≤ b.length) : xorK a b q = xorF a b := by
  unfold xorK
  rw [List.drop_of_length_le (by omega), List.append_nil, List.take_of_length_le (by omega)]
  unfold xorF
  apply List.ext_getElem?; intro i; simp only [List.getElem?_zipWith, List.getElem?_take]; by_cases hi : i < q
  · rw [if_pos hi]
  · rw [List.getElem?_eq_none (l := a) (by omega)]
end Go.Proofs.Ythamhaomfdgdjaa
