/- AES: the small functions of bytes, and the reference's. -/
import Derived.Test.YthamhaomfdgdjaaAesP
import Derived.Test.YthamhaomfdgdjaaPAx
namespace Go.Proofs.Ythamhaomfdgdjaa
open Go.RowKit Go.Proofs.Ythamhaomfdgdjaa.PA Go.Proofs.YthamhaomfdgdjaaW.PrintWords

theorem f_times (a : UInt8) : aes_times.f (a.toNat : Int) = some ((xt a).toNat : Int) := u8_all (p := fun a => aes_times.f (a.toNat : Int) = some ((xt a).toNat : Int)) (by decide +kernel) a
/-- S of the octet whose inverse is told. -/
def rl (b : UInt8) (k : Nat) : UInt8 := UInt8.ofNat (b.toNat * 2 ^ k % 256 + b.toNat / 2 ^ (8 - k))
def tnd (b : UInt8) : UInt8 := 99 ^^^ b ^^^ rl b 1 ^^^ rl b 2 ^^^ rl b 3 ^^^ rl b 4
theorem f_turned (a : UInt8) : aes_turned.f 10 (a.toNat : Int) = some ((tnd a).toNat : Int) := u8_all (p := fun a => aes_turned.f 10 (a.toNat : Int) = some ((tnd a).toNat : Int)) (by decide +kernel) a
theorem f_product (c : UInt8) (hc : c ∈ [1, 2, 3, 9, 11, 13, 14]) (a : UInt8) : aes_product.f 10 (c.toNat : Int) (a.toNat : Int) = some ((gm c a).toNat : Int) := by
  have h : ∀ c ∈ ([1, 2, 3, 9, 11, 13, 14] : List UInt8), ∀ a : Fin 256, aes_product.f 10 (c.toNat : Int) ((UInt8.ofNat a.1).toNat : Int) = some ((gm c (UInt8.ofNat a.1)).toNat : Int) := by decide +kernel
  have := h c hc ⟨a.toNat, a.toNat_lt⟩
  simpa using this
theorem f_rtimes (c : UInt8) (hc : c ∈ [2, 3]) (a : UInt8) : turnkeyref07_times.f 10 (c.toNat : Int) (a.toNat : Int) = some ((gm c a).toNat : Int) := by
  have h : ∀ c ∈ ([2, 3] : List UInt8), ∀ a : Fin 256, turnkeyref07_times.f 10 (c.toNat : Int) ((UInt8.ofNat a.1).toNat : Int) = some ((gm c (UInt8.ofNat a.1)).toNat : Int) := by decide +kernel
  have := h c hc ⟨a.toNat, a.toNat_lt⟩
  simpa using this
theorem times_any (a : UInt8) (w : World) : Calls Try.prog 36 #[.int .u8 (a.toNat : Int)] w fun e w' => e = .returned (.int .u8 ((xt a).toNat : Int)) ∧ Below w.heap.size w w' :=
  (aes_times.calls _ _ w (f_times a)).mono fun _ _ ⟨h1, h2⟩ => ⟨h1, h2.below⟩
theorem turned_any (a : UInt8) (w : World) : Calls Try.prog 37 #[.int .u8 (a.toNat : Int)] w fun e w' => e = .returned (.int .u8 ((tnd a).toNat : Int)) ∧ Below w.heap.size w w' :=
  (aes_turned.calls 10 _ _ w (f_turned a)).mono fun _ _ ⟨h1, h2⟩ => ⟨h1, h2.below⟩
theorem product_any (c : UInt8) (hc : c ∈ [1, 2, 3, 9, 11, 13, 14]) (a : UInt8) (w : World) : Calls Try.prog 34 #[.int .u8 (c.toNat : Int), .int .u8 (a.toNat : Int)] w fun e w' => e = .returned (.int .u8 ((gm c a).toNat : Int)) ∧ Below w.heap.size w w' :=
  (aes_product.calls 10 _ _ _ w (f_product c hc a)).mono fun _ _ ⟨h1, h2⟩ => ⟨h1, h2.below⟩
theorem rtimes_any (c : UInt8) (hc : c ∈ [2, 3]) (a : UInt8) (w : World) : Calls Try.prog 29 #[.int .i64 (c.toNat : Int), .int .i64 (a.toNat : Int)] w fun e w' => e = .returned (.int .i64 ((gm c a).toNat : Int)) ∧ Below w.heap.size w w' :=
  (turnkeyref07_times.calls 10 _ _ _ w (f_rtimes c hc a)).mono fun _ _ ⟨h1, h2⟩ => ⟨h1, h2.below⟩
end Go.Proofs.Ythamhaomfdgdjaa
