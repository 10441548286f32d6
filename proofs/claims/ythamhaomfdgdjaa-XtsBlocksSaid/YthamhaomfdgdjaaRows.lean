/-
  No cell of these rows narrows 'for every input' (looked for: loops, veiled, ifaces, maps, wideKeys, modest, calm, conditions, laid).
  DERIVED. THE GIVEN ROWS OF THIS SEAT. 3 by the template 'for every input the law returns true; each argument reads behind the call as it read before'; 0 by the template 'total and deterministic' (their statements: YthamhaomfdgdjaaTotals.lean).
  GIVEN WITH THE SEED: the statements are not yours to turn. If you find one false, say at which input.
  Laid BY PROGRAM, IN A SANDBOX (cutbox-rows.mjs): the forced cells as the released guide's own fill.sh prints them over the translation 46fae107a88b2d0a… (all of the seat's roots in one cut). By AI agents, Wed Nov 11 2026. No macro, syntax, notation, axiom, sorry.
-/
import Derived.Test.YthamhaomfdgdjaaChecked
import GoSem.Claim
import GoSem.ClaimJoined
import GoSem.ClaimMapViews
import Derived.JoinedTies
import Derived.KernelRfl
namespace Go.Proofs.Ythamhaomfdgdjaa
/- THE CELL 'sum', in the pinned program and in every row, IS THE sha256 OF THE DUMP (.gsa) THAT YthamhaomfdgdjaaProg.lean LOADS. Nothing in Lean hashes anything: it is a label: what it is worth is what the hold of that sum in a sandbox is worth. -/
noncomputable def Try.pinned : Pinned := { name := "ythamhaomfdgdjaa", sum := "46fae107a88b2d0a3acb85f8b07d8a6a0a559cf0f3855e8f9ab5bc4027766bb2", checked := Try.checked }
namespace Rows
def none {H : Type} : Left H := { results := [], args := [] }

/-- 'turnkeylaw08.XtsBlocks': WHATEVER THE INPUT: true; the input reads as it did. -/
def xtsBlocksSpec : ChangeSpec := { name := "xtsBlocks", fn := fun _ => fun
  | [d1, d2, d3] => { results := [.lit (.bool true)], args := [d1, d2, d3] }
  | _ => none }
def xtsBlocksRow : OpenClaim := { program := "ythamhaomfdgdjaa", sum := "46fae107a88b2d0a3acb85f8b07d8a6a0a559cf0f3855e8f9ab5bc4027766bb2", func := "turnkey/turnkeylaw08.XtsBlocks", spec := "xtsBlocks", unfollowed := true, recurses := true, apart := false }
def XtsBlocksSaid : Prop := xtsBlocksRow.holds Try.pinned (OpenSpec.ofChange xtsBlocksSpec)

/-- ITS FALSE NEIGHBOUR: 'it returns false'. Refute it at one input. -/
def xtsBlocksWrong : ChangeSpec := { name := "xtsBlocks", fn := fun _ => fun
  | [d1, d2, d3] => { results := [.lit (.bool false)], args := [d1, d2, d3] }
  | _ => none }
def XtsBlocksWrongFalsely : Prop := xtsBlocksRow.holds Try.pinned (OpenSpec.ofChange xtsBlocksWrong)

/-- 'turnkeylaw08.XtsUnits': WHATEVER THE INPUT: true; the input reads as it did. -/
def xtsUnitsSpec : ChangeSpec := { name := "xtsUnits", fn := fun _ => fun
  | [d1, d2, d3] => { results := [.lit (.bool true)], args := [d1, d2, d3] }
  | _ => none }
def xtsUnitsRow : OpenClaim := { program := "ythamhaomfdgdjaa", sum := "46fae107a88b2d0a3acb85f8b07d8a6a0a559cf0f3855e8f9ab5bc4027766bb2", func := "turnkey/turnkeylaw08.XtsUnits", spec := "xtsUnits", unfollowed := true, recurses := true, apart := false }
def XtsUnitsSaid : Prop := xtsUnitsRow.holds Try.pinned (OpenSpec.ofChange xtsUnitsSpec)

/-- ITS FALSE NEIGHBOUR: 'it returns false'. Refute it at one input. -/
def xtsUnitsWrong : ChangeSpec := { name := "xtsUnits", fn := fun _ => fun
  | [d1, d2, d3] => { results := [.lit (.bool false)], args := [d1, d2, d3] }
  | _ => none }
def XtsUnitsWrongFalsely : Prop := xtsUnitsRow.holds Try.pinned (OpenSpec.ofChange xtsUnitsWrong)

/-- 'turnkeylaw08.XtsPlaces': WHATEVER THE INPUT: true; the input reads as it did. -/
def xtsPlacesSpec : ChangeSpec := { name := "xtsPlaces", fn := fun _ => fun
  | [d1, d2, d3] => { results := [.lit (.bool true)], args := [d1, d2, d3] }
  | _ => none }
def xtsPlacesRow : OpenClaim := { program := "ythamhaomfdgdjaa", sum := "46fae107a88b2d0a3acb85f8b07d8a6a0a559cf0f3855e8f9ab5bc4027766bb2", func := "turnkey/turnkeylaw08.XtsPlaces", spec := "xtsPlaces", unfollowed := true, recurses := true, apart := false }
def XtsPlacesSaid : Prop := xtsPlacesRow.holds Try.pinned (OpenSpec.ofChange xtsPlacesSpec)

/-- ITS FALSE NEIGHBOUR: 'it returns false'. Refute it at one input. -/
def xtsPlacesWrong : ChangeSpec := { name := "xtsPlaces", fn := fun _ => fun
  | [d1, d2, d3] => { results := [.lit (.bool false)], args := [d1, d2, d3] }
  | _ => none }
def XtsPlacesWrongFalsely : Prop := xtsPlacesRow.holds Try.pinned (OpenSpec.ofChange xtsPlacesWrong)

/- THE SECOND FORM. 'bulk': how many values and letters a reading holds, each counted each time it is reached (what is shared counts as often as it is met; a slice's spare places count too). A statement '..UptoSaid' is the law's where the arguments, and the package variables that the reading takes, are together of bulk at most 1048576: NARROWER than '..Said'. Prove '..Said' where nothing that the law and all that it calls make is longer than what came in: it says more and counts as full. Else prove '..UptoSaid'. A law counts once. -/
mutual
def uptoBulk {H : Type} : DataW H → Nat
  | .lit (.string bytes) => bytes.length + 1
  | .lit _ => 1
  | .nil => 1
  | .ptr d => uptoBulk d + 1
  | .slice elems spare => uptoBulkAll elems + uptoBulkAll spare + 1
  | .agg parts => uptoBulkAll parts + 1
  | .iface _ d => uptoBulk d + 1
  | .map entries => uptoBulkEntries entries + 1
  | .held _ => 1
def uptoBulkAll {H : Type} : List (DataW H) → Nat
  | [] => 0
  | d :: r => uptoBulk d + uptoBulkAll r
def uptoBulkEntries {H : Type} : List (Lit × DataW H) → Nat
  | [] => 0
  | x :: r => uptoBulkEntry x + uptoBulkEntries r
def uptoBulkEntry {H : Type} : Lit × DataW H → Nat
  | (.string bytes, d) => bytes.length + uptoBulk d + 1
  | (_, d) => uptoBulk d + 1
 end
def uptoSmall : (H : Type) → List (DataW H) → Bool := fun _ ds => decide (uptoBulkAll ds ≤ 1048576)
def OpenSpec.upto (s : _root_.Go.ChangeSpec) : _root_.Go.OpenSpec := { _root_.Go.OpenSpec.ofChange s with cond := some uptoSmall }

/-- 'turnkeylaw08.XtsBlocks', WHERE WHAT IT READS IS OF BULK AT MOST 1048576: true; the input reads as it did. -/
def xtsBlocksUptoRow : OpenClaim := { program := "ythamhaomfdgdjaa", sum := "46fae107a88b2d0a3acb85f8b07d8a6a0a559cf0f3855e8f9ab5bc4027766bb2", func := "turnkey/turnkeylaw08.XtsBlocks", spec := "xtsBlocks", unfollowed := true, recurses := true, apart := false, narrowed := true }
def XtsBlocksUptoSaid : Prop := xtsBlocksUptoRow.holds Try.pinned (OpenSpec.upto xtsBlocksSpec)

/-- 'turnkeylaw08.XtsUnits', WHERE WHAT IT READS IS OF BULK AT MOST 1048576: true; the input reads as it did. -/
def xtsUnitsUptoRow : OpenClaim := { program := "ythamhaomfdgdjaa", sum := "46fae107a88b2d0a3acb85f8b07d8a6a0a559cf0f3855e8f9ab5bc4027766bb2", func := "turnkey/turnkeylaw08.XtsUnits", spec := "xtsUnits", unfollowed := true, recurses := true, apart := false, narrowed := true }
def XtsUnitsUptoSaid : Prop := xtsUnitsUptoRow.holds Try.pinned (OpenSpec.upto xtsUnitsSpec)

/-- 'turnkeylaw08.XtsPlaces', WHERE WHAT IT READS IS OF BULK AT MOST 1048576: true; the input reads as it did. -/
def xtsPlacesUptoRow : OpenClaim := { program := "ythamhaomfdgdjaa", sum := "46fae107a88b2d0a3acb85f8b07d8a6a0a559cf0f3855e8f9ab5bc4027766bb2", func := "turnkey/turnkeylaw08.XtsPlaces", spec := "xtsPlaces", unfollowed := true, recurses := true, apart := false, narrowed := true }
def XtsPlacesUptoSaid : Prop := xtsPlacesUptoRow.holds Try.pinned (OpenSpec.upto xtsPlacesSpec)

end Rows
end Go.Proofs.Ythamhaomfdgdjaa
