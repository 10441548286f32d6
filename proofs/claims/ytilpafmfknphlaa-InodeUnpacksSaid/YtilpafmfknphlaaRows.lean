/-
  No cell of these rows narrows 'for every input' (looked for: loops, veiled, ifaces, maps, wideKeys, modest, calm, conditions, laid).
  DERIVED. THE GIVEN ROWS OF THIS SEAT. 4 by the template 'for every input the law returns true; each argument reads behind the call as it read before'; 0 by the template 'total and deterministic' (their statements: YtilpafmfknphlaaTotals.lean).
  GIVEN WITH THE SEED: the statements are not yours to turn. If you find one false, say at which input.
  Laid BY PROGRAM, IN A SANDBOX (cutbox-rows.mjs): the forced cells as the released guide's own fill.sh prints them over the translation cd0d8fb4b432c58e… (all of the seat's roots in one cut). By AI agents, Wed Nov 11 2026. No macro, syntax, notation, axiom, sorry.
-/
import Derived.Test.YtilpafmfknphlaaChecked
import GoSem.Claim
import GoSem.ClaimJoined
import GoSem.ClaimMapViews
import Derived.JoinedTies
import Derived.KernelRfl
namespace Go.Proofs.Ytilpafmfknphlaa
/- THE CELL 'sum', in the pinned program and in every row, IS THE sha256 OF THE DUMP (.gsa) THAT YtilpafmfknphlaaProg.lean LOADS. Nothing in Lean hashes anything: it is a label: what it is worth is what the hold of that sum in a sandbox is worth. -/
noncomputable def Try.pinned : Pinned := { name := "ytilpafmfknphlaa", sum := "cd0d8fb4b432c58e89590ccef6f20b124551c15f907f7d714217b92a09837d62", checked := Try.checked }
namespace Rows
def none {H : Type} : Left H := { results := [], args := [] }

/-- 'turnkeylaw18.InodeApart': WHATEVER THE INPUT: true; the input reads as it did. -/
def inodeApartSpec : ChangeSpec := { name := "inodeApart", fn := fun _ => fun
  | [d1, d2] => { results := [.lit (.bool true)], args := [d1, d2] }
  | _ => none }
def inodeApartRow : OpenClaim := { program := "ytilpafmfknphlaa", sum := "cd0d8fb4b432c58e89590ccef6f20b124551c15f907f7d714217b92a09837d62", func := "turnkey/turnkeylaw18.InodeApart", spec := "inodeApart", apart := false }
def InodeApartSaid : Prop := inodeApartRow.holds Try.pinned (OpenSpec.ofChange inodeApartSpec)

/-- ITS FALSE NEIGHBOUR: 'it returns false'. Refute it at one input. -/
def inodeApartWrong : ChangeSpec := { name := "inodeApart", fn := fun _ => fun
  | [d1, d2] => { results := [.lit (.bool false)], args := [d1, d2] }
  | _ => none }
def InodeApartWrongFalsely : Prop := inodeApartRow.holds Try.pinned (OpenSpec.ofChange inodeApartWrong)

/-- 'turnkeylaw18.InodePacks': WHATEVER THE INPUT: true; the input reads as it did. -/
def inodePacksSpec : ChangeSpec := { name := "inodePacks", fn := fun _ => fun
  | [d] => { results := [.lit (.bool true)], args := [d] }
  | _ => none }
def inodePacksRow : OpenClaim := { program := "ytilpafmfknphlaa", sum := "cd0d8fb4b432c58e89590ccef6f20b124551c15f907f7d714217b92a09837d62", func := "turnkey/turnkeylaw18.InodePacks", spec := "inodePacks", apart := false }
def InodePacksSaid : Prop := inodePacksRow.holds Try.pinned (OpenSpec.ofChange inodePacksSpec)

/-- ITS FALSE NEIGHBOUR: 'it returns false'. Refute it at one input. -/
def inodePacksWrong : ChangeSpec := { name := "inodePacks", fn := fun _ => fun
  | [d] => { results := [.lit (.bool false)], args := [d] }
  | _ => none }
def InodePacksWrongFalsely : Prop := inodePacksRow.holds Try.pinned (OpenSpec.ofChange inodePacksWrong)

/-- 'turnkeylaw18.InodeUnpacks': WHATEVER THE INPUT: true; the input reads as it did. -/
def inodeUnpacksSpec : ChangeSpec := { name := "inodeUnpacks", fn := fun _ => fun
  | [d] => { results := [.lit (.bool true)], args := [d] }
  | _ => none }
def inodeUnpacksRow : OpenClaim := { program := "ytilpafmfknphlaa", sum := "cd0d8fb4b432c58e89590ccef6f20b124551c15f907f7d714217b92a09837d62", func := "turnkey/turnkeylaw18.InodeUnpacks", spec := "inodeUnpacks", apart := false }
def InodeUnpacksSaid : Prop := inodeUnpacksRow.holds Try.pinned (OpenSpec.ofChange inodeUnpacksSpec)

/-- ITS FALSE NEIGHBOUR: 'it returns false'. Refute it at one input. -/
def inodeUnpacksWrong : ChangeSpec := { name := "inodeUnpacks", fn := fun _ => fun
  | [d] => { results := [.lit (.bool false)], args := [d] }
  | _ => none }
def InodeUnpacksWrongFalsely : Prop := inodeUnpacksRow.holds Try.pinned (OpenSpec.ofChange inodeUnpacksWrong)

/-- 'turnkeylaw18.InodeTurned': WHATEVER THE INPUT: true; the input reads as it did. -/
def inodeTurnedSpec : ChangeSpec := { name := "inodeTurned", fn := fun _ => fun
  | [d1, d2, d3] => { results := [.lit (.bool true)], args := [d1, d2, d3] }
  | _ => none }
def inodeTurnedRow : OpenClaim := { program := "ytilpafmfknphlaa", sum := "cd0d8fb4b432c58e89590ccef6f20b124551c15f907f7d714217b92a09837d62", func := "turnkey/turnkeylaw18.InodeTurned", spec := "inodeTurned", apart := false }
def InodeTurnedSaid : Prop := inodeTurnedRow.holds Try.pinned (OpenSpec.ofChange inodeTurnedSpec)

/-- ITS FALSE NEIGHBOUR: 'it returns false'. Refute it at one input. -/
def inodeTurnedWrong : ChangeSpec := { name := "inodeTurned", fn := fun _ => fun
  | [d1, d2, d3] => { results := [.lit (.bool false)], args := [d1, d2, d3] }
  | _ => none }
def InodeTurnedWrongFalsely : Prop := inodeTurnedRow.holds Try.pinned (OpenSpec.ofChange inodeTurnedWrong)

/- THE SECOND FORM. 'bulk': how many values and letters a reading holds, each counted each time it is reached (what is shared counts as often as it is met; a slice's spare places count too). A statement '..UptoSaid' is the law's where the arguments, and the package variables that the reading takes, are together of bulk at most 1048576: NARROWER than '..Said'. Prove '..Said' where nothing that the law and all that it calls make is longer than what came in: it says more and counts as full. Else prove '..UptoSaid'. A law counts once. -/
mutual
def uptoBulk {H : Type} : DataW H → Nat
  | .lit (.string bytes) => bytes.length + 1
  | .lit _ => 1
  | .nil => 1
  | .ptr d => uptoBulk d + 1
  | .slice elems spare => uptoBulkAll elems + uptoBulkAll spare + 1
  | .agg parts => uptoBulkAll parts + 1
  | .iface _ d => uptoBulk d + 1
  | .map entries => uptoBulkEntries entries + 1
  | .held _ => 1
def uptoBulkAll {H : Type} : List (DataW H) → Nat
  | [] => 0
  | d :: r => uptoBulk d + uptoBulkAll r
def uptoBulkEntries {H : Type} : List (Lit × DataW H) → Nat
  | [] => 0
  | x :: r => uptoBulkEntry x + uptoBulkEntries r
def uptoBulkEntry {H : Type} : Lit × DataW H → Nat
  | (.string bytes, d) => bytes.length + uptoBulk d + 1
  | (_, d) => uptoBulk d + 1
 end
def uptoSmall : (H : Type) → List (DataW H) → Bool := fun _ ds => decide (uptoBulkAll ds ≤ 1048576)
def OpenSpec.upto (s : _root_.Go.ChangeSpec) : _root_.Go.OpenSpec := { _root_.Go.OpenSpec.ofChange s with cond := some uptoSmall }

/-- 'turnkeylaw18.InodeApart', WHERE WHAT IT READS IS OF BULK AT MOST 1048576: true; the input reads as it did. -/
def inodeApartUptoRow : OpenClaim := { program := "ytilpafmfknphlaa", sum := "cd0d8fb4b432c58e89590ccef6f20b124551c15f907f7d714217b92a09837d62", func := "turnkey/turnkeylaw18.InodeApart", spec := "inodeApart", apart := false, narrowed := true }
def InodeApartUptoSaid : Prop := inodeApartUptoRow.holds Try.pinned (OpenSpec.upto inodeApartSpec)

/-- 'turnkeylaw18.InodePacks', WHERE WHAT IT READS IS OF BULK AT MOST 1048576: true; the input reads as it did. -/
def inodePacksUptoRow : OpenClaim := { program := "ytilpafmfknphlaa", sum := "cd0d8fb4b432c58e89590ccef6f20b124551c15f907f7d714217b92a09837d62", func := "turnkey/turnkeylaw18.InodePacks", spec := "inodePacks", apart := false, narrowed := true }
def InodePacksUptoSaid : Prop := inodePacksUptoRow.holds Try.pinned (OpenSpec.upto inodePacksSpec)

/-- 'turnkeylaw18.InodeUnpacks', WHERE WHAT IT READS IS OF BULK AT MOST 1048576: true; the input reads as it did. -/
def inodeUnpacksUptoRow : OpenClaim := { program := "ytilpafmfknphlaa", sum := "cd0d8fb4b432c58e89590ccef6f20b124551c15f907f7d714217b92a09837d62", func := "turnkey/turnkeylaw18.InodeUnpacks", spec := "inodeUnpacks", apart := false, narrowed := true }
def InodeUnpacksUptoSaid : Prop := inodeUnpacksUptoRow.holds Try.pinned (OpenSpec.upto inodeUnpacksSpec)

/-- 'turnkeylaw18.InodeTurned', WHERE WHAT IT READS IS OF BULK AT MOST 1048576: true; the input reads as it did. -/
def inodeTurnedUptoRow : OpenClaim := { program := "ytilpafmfknphlaa", sum := "cd0d8fb4b432c58e89590ccef6f20b124551c15f907f7d714217b92a09837d62", func := "turnkey/turnkeylaw18.InodeTurned", spec := "inodeTurned", apart := false, narrowed := true }
def InodeTurnedUptoSaid : Prop := inodeTurnedUptoRow.holds Try.pinned (OpenSpec.upto inodeTurnedSpec)

end Rows
end Go.Proofs.Ytilpafmfknphlaa
