/- The contract of the reference's S in the printed form. -/
import Derived.Test.YtaacnbponodagaaAesI
import Derived.Test.YtaacnbponodagaaWWords
namespace Go.Proofs.Ytaacnbponodagaa
open Go.RowKit Go.Proofs.YtaacnbponodagaaW.PrintWords

def turnkeyref07_S.f (a0 : Int) : Option Int := if 0 ≤ a0 ∧ a0 ≤ 255 then some ((sb (UInt8.ofNat a0.toNat)).toNat : Int) else none
theorem turnkeyref07_S.calls (a0 : Int) (r : Int) (w : World) (h : turnkeyref07_S.f a0 = some r) :
    Calls Try.prog 19 #[.int .i64 a0] w fun e w' => e = .returned (.int .i64 r) ∧ Below w.heap.size w w' := by
  unfold turnkeyref07_S.f at h
  split at h
  · rename_i hh
    obtain rfl := Option.some.inj h
    have h1 := S_any (UInt8.ofNat a0.toNat) w
    have e : ((UInt8.ofNat a0.toNat).toNat : Int) = a0 := by rw [UInt8.toNat_ofNat_of_lt' (by show a0.toNat < 256; omega)]; omega
    rw [e] at h1
    exact h1
  · cases h
theorem turnkeyref07_S.f_byte (a : UInt8) : turnkeyref07_S.f (a.toNat : Int) = some ((sb a).toNat : Int) := by
  unfold turnkeyref07_S.f
  have := a.toNat_lt
  rw [if_pos (by omega), show UInt8.ofNat ((a.toNat : Int)).toNat = a by rw [Int.toNat_natCast]; exact UInt8.ofNat_toNat]
end Go.Proofs.Ytaacnbponodagaa
