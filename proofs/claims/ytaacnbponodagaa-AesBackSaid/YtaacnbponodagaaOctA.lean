/- Contracts of slices.Clone at bytes and octets.Fill. -/
import Derived.Test.YtaacnbponodagaaBase
namespace Go.Proofs.Ytaacnbponodagaa
open Go.RowKit
theorem TB : ElemT Try.prog 22 5 (.int .u8 0) 1 := ⟨Try.underlying22, by kernel_rfl, rfl⟩

/-- What a function that gives a new slice of bytes comes to. -/
def GivesB (xs : List UInt8) (w : World) (e : Ending) (w' : World) : Prop :=
  ∃ v, e = .returned v ∧ w'.ownsRow w.heap.size 5 1 v xs.length (xs.map bV) ∧ Below w.heap.size w w'

def fillF (xs : List UInt8) (size : Int) : List UInt8 := xs ++ List.replicate (size.toNat - xs.length) 0

theorem fillF_length (xs : List UInt8) (size : Int) : (fillF xs size).length = max xs.length size.toNat := by
  simp [fillF]; omega

end Go.Proofs.Ytaacnbponodagaa
