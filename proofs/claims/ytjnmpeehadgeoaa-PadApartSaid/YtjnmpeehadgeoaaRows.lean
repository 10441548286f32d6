/-
  No cell of these rows narrows 'for every input' (looked for: loops, veiled, ifaces, maps, wideKeys, modest, calm, conditions, laid).
  DERIVED. THE GIVEN ROWS OF THIS SEAT. 4 by the template 'for every input the law returns true; each argument reads behind the call as it read before'; 0 by the template 'total and deterministic' (their statements: YtjnmpeehadgeoaaTotals.lean).
  GIVEN WITH THE SEED: the statements are not yours to turn. If you find one false, say at which input.
  Laid BY PROGRAM, IN A SANDBOX (cutbox-rows.mjs): the forced cells as the released guide's own fill.sh prints them over the translation 17f3b1e8b348bfed… (all of the seat's roots in one cut). By AI agents, Wed Nov 11 2026. No macro, syntax, notation, axiom, sorry.
-/
import Derived.Test.YtjnmpeehadgeoaaChecked
import GoSem.Claim
import GoSem.ClaimJoined
import GoSem.ClaimMapViews
import Derived.JoinedTies
import Derived.KernelRfl
namespace Go.Proofs.Ytjnmpeehadgeoaa
/- THE CELL 'sum', in the pinned program and in every row, IS THE sha256 OF THE DUMP (.gsa) THAT YtjnmpeehadgeoaaProg.lean LOADS. Nothing in Lean hashes anything: it is a label: what it is worth is what the hold of that sum in a sandbox is worth. -/
noncomputable def Try.pinned : Pinned := { name := "ytjnmpeehadgeoaa", sum := "17f3b1e8b348bfed1dd182912d043ceeeeb8aa3d5e63bdfe5adf902966117029", checked := Try.checked }
namespace Rows
def none {H : Type} : Left H := { results := [], args := [] }

/-- 'turnkeylaw10.PadNames': WHATEVER THE INPUT: true; the input reads as it did. -/
def padNamesSpec : ChangeSpec := { name := "padNames", fn := fun _ => fun
  | [d1, d2, d3] => { results := [.lit (.bool true)], args := [d1, d2, d3] }
  | _ => none }
def padNamesRow : OpenClaim := { program := "ytjnmpeehadgeoaa", sum := "17f3b1e8b348bfed1dd182912d043ceeeeb8aa3d5e63bdfe5adf902966117029", func := "turnkey/turnkeylaw10.PadNames", spec := "padNames", inPlace := ["internal/bytealg.IndexByteString"], apart := false }
def PadNamesSaid : Prop := padNamesRow.holds Try.pinned (OpenSpec.ofChange padNamesSpec)

/-- ITS FALSE NEIGHBOUR: 'it returns false'. Refute it at one input. -/
def padNamesWrong : ChangeSpec := { name := "padNames", fn := fun _ => fun
  | [d1, d2, d3] => { results := [.lit (.bool false)], args := [d1, d2, d3] }
  | _ => none }
def PadNamesWrongFalsely : Prop := padNamesRow.holds Try.pinned (OpenSpec.ofChange padNamesWrong)

/-- 'turnkeylaw10.PadStrips': WHATEVER THE INPUT: true; the input reads as it did. -/
def padStripsSpec : ChangeSpec := { name := "padStrips", fn := fun _ => fun
  | [d] => { results := [.lit (.bool true)], args := [d] }
  | _ => none }
def padStripsRow : OpenClaim := { program := "ytjnmpeehadgeoaa", sum := "17f3b1e8b348bfed1dd182912d043ceeeeb8aa3d5e63bdfe5adf902966117029", func := "turnkey/turnkeylaw10.PadStrips", spec := "padStrips", inPlace := ["internal/bytealg.IndexByteString"], apart := false }
def PadStripsSaid : Prop := padStripsRow.holds Try.pinned (OpenSpec.ofChange padStripsSpec)

/-- ITS FALSE NEIGHBOUR: 'it returns false'. Refute it at one input. -/
def padStripsWrong : ChangeSpec := { name := "padStrips", fn := fun _ => fun
  | [d] => { results := [.lit (.bool false)], args := [d] }
  | _ => none }
def PadStripsWrongFalsely : Prop := padStripsRow.holds Try.pinned (OpenSpec.ofChange padStripsWrong)

/-- 'turnkeylaw10.PadSizes': WHATEVER THE INPUT: true; the input reads as it did. -/
def padSizesSpec : ChangeSpec := { name := "padSizes", fn := fun _ => fun
  | [d1, d2, d3] => { results := [.lit (.bool true)], args := [d1, d2, d3] }
  | _ => none }
def padSizesRow : OpenClaim := { program := "ytjnmpeehadgeoaa", sum := "17f3b1e8b348bfed1dd182912d043ceeeeb8aa3d5e63bdfe5adf902966117029", func := "turnkey/turnkeylaw10.PadSizes", spec := "padSizes", inPlace := ["internal/bytealg.IndexByteString"], apart := false }
def PadSizesSaid : Prop := padSizesRow.holds Try.pinned (OpenSpec.ofChange padSizesSpec)

/-- ITS FALSE NEIGHBOUR: 'it returns false'. Refute it at one input. -/
def padSizesWrong : ChangeSpec := { name := "padSizes", fn := fun _ => fun
  | [d1, d2, d3] => { results := [.lit (.bool false)], args := [d1, d2, d3] }
  | _ => none }
def PadSizesWrongFalsely : Prop := padSizesRow.holds Try.pinned (OpenSpec.ofChange padSizesWrong)

/-- 'turnkeylaw10.PadApart': WHATEVER THE INPUT: true; the input reads as it did. -/
def padApartSpec : ChangeSpec := { name := "padApart", fn := fun _ => fun
  | [d1, d2] => { results := [.lit (.bool true)], args := [d1, d2] }
  | _ => none }
def padApartRow : OpenClaim := { program := "ytjnmpeehadgeoaa", sum := "17f3b1e8b348bfed1dd182912d043ceeeeb8aa3d5e63bdfe5adf902966117029", func := "turnkey/turnkeylaw10.PadApart", spec := "padApart", inPlace := ["internal/bytealg.IndexByteString"], apart := false }
def PadApartSaid : Prop := padApartRow.holds Try.pinned (OpenSpec.ofChange padApartSpec)

/-- ITS FALSE NEIGHBOUR: 'it returns false'. Refute it at one input. -/
def padApartWrong : ChangeSpec := { name := "padApart", fn := fun _ => fun
  | [d1, d2] => { results := [.lit (.bool false)], args := [d1, d2] }
  | _ => none }
def PadApartWrongFalsely : Prop := padApartRow.holds Try.pinned (OpenSpec.ofChange padApartWrong)

/- THE SECOND FORM. 'bulk': how many values and letters a reading holds, each counted each time it is reached (what is shared counts as often as it is met; a slice's spare places count too). A statement '..UptoSaid' is the law's where the arguments, and the package variables that the reading takes, are together of bulk at most 1048576: NARROWER than '..Said'. Prove '..Said' where nothing that the law and all that it calls make is longer than what came in: it says more and counts as full. Else prove '..UptoSaid'. A law counts once. -/
mutual
def uptoBulk {H : Type} : DataW H → Nat
  | .lit (.string bytes) => bytes.length + 1
  | .lit _ => 1
  | .nil => 1
  | .ptr d => uptoBulk d + 1
  | .slice elems spare => uptoBulkAll elems + uptoBulkAll spare + 1
  | .agg parts => uptoBulkAll parts + 1
  | .iface _ d => uptoBulk d + 1
  | .map entries => uptoBulkEntries entries + 1
  | .held _ => 1
def uptoBulkAll {H : Type} : List (DataW H) → Nat
  | [] => 0
  | d :: r => uptoBulk d + uptoBulkAll r
def uptoBulkEntries {H : Type} : List (Lit × DataW H) → Nat
  | [] => 0
  | x :: r => uptoBulkEntry x + uptoBulkEntries r
def uptoBulkEntry {H : Type} : Lit × DataW H → Nat
  | (.string bytes, d) => bytes.length + uptoBulk d + 1
  | (_, d) => uptoBulk d + 1
 end
def uptoSmall : (H : Type) → List (DataW H) → Bool := fun _ ds => decide (uptoBulkAll ds ≤ 1048576)
def OpenSpec.upto (s : _root_.Go.ChangeSpec) : _root_.Go.OpenSpec := { _root_.Go.OpenSpec.ofChange s with cond := some uptoSmall }

/-- 'turnkeylaw10.PadNames', WHERE WHAT IT READS IS OF BULK AT MOST 1048576: true; the input reads as it did. -/
def padNamesUptoRow : OpenClaim := { program := "ytjnmpeehadgeoaa", sum := "17f3b1e8b348bfed1dd182912d043ceeeeb8aa3d5e63bdfe5adf902966117029", func := "turnkey/turnkeylaw10.PadNames", spec := "padNames", inPlace := ["internal/bytealg.IndexByteString"], apart := false, narrowed := true }
def PadNamesUptoSaid : Prop := padNamesUptoRow.holds Try.pinned (OpenSpec.upto padNamesSpec)

/-- 'turnkeylaw10.PadStrips', WHERE WHAT IT READS IS OF BULK AT MOST 1048576: true; the input reads as it did. -/
def padStripsUptoRow : OpenClaim := { program := "ytjnmpeehadgeoaa", sum := "17f3b1e8b348bfed1dd182912d043ceeeeb8aa3d5e63bdfe5adf902966117029", func := "turnkey/turnkeylaw10.PadStrips", spec := "padStrips", inPlace := ["internal/bytealg.IndexByteString"], apart := false, narrowed := true }
def PadStripsUptoSaid : Prop := padStripsUptoRow.holds Try.pinned (OpenSpec.upto padStripsSpec)

/-- 'turnkeylaw10.PadSizes', WHERE WHAT IT READS IS OF BULK AT MOST 1048576: true; the input reads as it did. -/
def padSizesUptoRow : OpenClaim := { program := "ytjnmpeehadgeoaa", sum := "17f3b1e8b348bfed1dd182912d043ceeeeb8aa3d5e63bdfe5adf902966117029", func := "turnkey/turnkeylaw10.PadSizes", spec := "padSizes", inPlace := ["internal/bytealg.IndexByteString"], apart := false, narrowed := true }
def PadSizesUptoSaid : Prop := padSizesUptoRow.holds Try.pinned (OpenSpec.upto padSizesSpec)

/-- 'turnkeylaw10.PadApart', WHERE WHAT IT READS IS OF BULK AT MOST 1048576: true; the input reads as it did. -/
def padApartUptoRow : OpenClaim := { program := "ytjnmpeehadgeoaa", sum := "17f3b1e8b348bfed1dd182912d043ceeeeb8aa3d5e63bdfe5adf902966117029", func := "turnkey/turnkeylaw10.PadApart", spec := "padApart", inPlace := ["internal/bytealg.IndexByteString"], apart := false, narrowed := true }
def PadApartUptoSaid : Prop := padApartUptoRow.holds Try.pinned (OpenSpec.upto padApartSpec)

end Rows
end Go.Proofs.Ytjnmpeehadgeoaa
