/-
  No cell of these rows narrows 'for every input' (looked for: loops, veiled, ifaces, maps, wideKeys, modest, calm, conditions, laid).
  DERIVED. THE GIVEN ROWS OF THIS SEAT. 4 by the template 'for every input the law returns true; each argument reads behind the call as it read before'; 0 by the template 'total and deterministic' (their statements: YtmpkbjkdmbgmhaaTotals.lean).
  GIVEN WITH THE SEED: the statements are not yours to turn. If you find one false, say at which input.
  Laid BY PROGRAM, IN A SANDBOX (cutbox-rows.mjs): the forced cells as the released guide's own fill.sh prints them over the translation 10de59418eb0b2d8… (all of the seat's roots in one cut). By AI agents, Wed Nov 11 2026. No macro, syntax, notation, axiom, sorry.
-/
import Derived.Test.YtmpkbjkdmbgmhaaChecked
import GoSem.Claim
import GoSem.ClaimJoined
import GoSem.ClaimMapViews
import Derived.JoinedTies
import Derived.KernelRfl
namespace Go.Proofs.Ytmpkbjkdmbgmhaa
/- THE CELL 'sum', in the pinned program and in every row, IS THE sha256 OF THE DUMP (.gsa) THAT YtmpkbjkdmbgmhaaProg.lean LOADS. Nothing in Lean hashes anything: it is a label: what it is worth is what the hold of that sum in a sandbox is worth. -/
noncomputable def Try.pinned : Pinned := { name := "ytmpkbjkdmbgmhaa", sum := "10de59418eb0b2d805804bbac0e850d5a597fd940862b6df52d3c2e226e7ae79", checked := Try.checked }
namespace Rows
def none {H : Type} : Left H := { results := [], args := [] }

/-- 'turnkeylaw02.Base64Texts': WHATEVER THE INPUT: true; the input reads as it did. -/
def base64TextsSpec : ChangeSpec := { name := "base64Texts", fn := fun _ => fun
  | [d] => { results := [.lit (.bool true)], args := [d] }
  | _ => none }
def base64TextsRow : OpenClaim := { program := "ytmpkbjkdmbgmhaa", sum := "10de59418eb0b2d805804bbac0e850d5a597fd940862b6df52d3c2e226e7ae79", func := "turnkey/turnkeylaw02.Base64Texts", spec := "base64Texts", inPlace := ["internal/bytealg.IndexByteString", "internal/abi.NoEscape"], unfollowed := true, recurses := true, apart := false }
def Base64TextsSaid : Prop := base64TextsRow.holds Try.pinned (OpenSpec.ofChange base64TextsSpec)

/-- ITS FALSE NEIGHBOUR: 'it returns false'. Refute it at one input. -/
def base64TextsWrong : ChangeSpec := { name := "base64Texts", fn := fun _ => fun
  | [d] => { results := [.lit (.bool false)], args := [d] }
  | _ => none }
def Base64TextsWrongFalsely : Prop := base64TextsRow.holds Try.pinned (OpenSpec.ofChange base64TextsWrong)

/-- 'turnkeylaw02.Base64Apart': WHATEVER THE INPUT: true; the input reads as it did. -/
def base64ApartSpec : ChangeSpec := { name := "base64Apart", fn := fun _ => fun
  | [d1, d2] => { results := [.lit (.bool true)], args := [d1, d2] }
  | _ => none }
def base64ApartRow : OpenClaim := { program := "ytmpkbjkdmbgmhaa", sum := "10de59418eb0b2d805804bbac0e850d5a597fd940862b6df52d3c2e226e7ae79", func := "turnkey/turnkeylaw02.Base64Apart", spec := "base64Apart", inPlace := ["internal/bytealg.IndexByteString", "internal/abi.NoEscape"], unfollowed := true, recurses := true, apart := false }
def Base64ApartSaid : Prop := base64ApartRow.holds Try.pinned (OpenSpec.ofChange base64ApartSpec)

/-- ITS FALSE NEIGHBOUR: 'it returns false'. Refute it at one input. -/
def base64ApartWrong : ChangeSpec := { name := "base64Apart", fn := fun _ => fun
  | [d1, d2] => { results := [.lit (.bool false)], args := [d1, d2] }
  | _ => none }
def Base64ApartWrongFalsely : Prop := base64ApartRow.holds Try.pinned (OpenSpec.ofChange base64ApartWrong)

/-- 'turnkeylaw02.Base64Signs': WHATEVER THE INPUT: true; the input reads as it did. -/
def base64SignsSpec : ChangeSpec := { name := "base64Signs", fn := fun _ => fun
  | [d1, d2] => { results := [.lit (.bool true)], args := [d1, d2] }
  | _ => none }
def base64SignsRow : OpenClaim := { program := "ytmpkbjkdmbgmhaa", sum := "10de59418eb0b2d805804bbac0e850d5a597fd940862b6df52d3c2e226e7ae79", func := "turnkey/turnkeylaw02.Base64Signs", spec := "base64Signs", inPlace := ["internal/bytealg.IndexByteString", "internal/abi.NoEscape"], unfollowed := true, recurses := true, apart := false }
def Base64SignsSaid : Prop := base64SignsRow.holds Try.pinned (OpenSpec.ofChange base64SignsSpec)

/-- ITS FALSE NEIGHBOUR: 'it returns false'. Refute it at one input. -/
def base64SignsWrong : ChangeSpec := { name := "base64Signs", fn := fun _ => fun
  | [d1, d2] => { results := [.lit (.bool false)], args := [d1, d2] }
  | _ => none }
def Base64SignsWrongFalsely : Prop := base64SignsRow.holds Try.pinned (OpenSpec.ofChange base64SignsWrong)

/-- 'turnkeylaw02.Base64Lengths': WHATEVER THE INPUT: true; the input reads as it did. -/
def base64LengthsSpec : ChangeSpec := { name := "base64Lengths", fn := fun _ => fun
  | [d] => { results := [.lit (.bool true)], args := [d] }
  | _ => none }
def base64LengthsRow : OpenClaim := { program := "ytmpkbjkdmbgmhaa", sum := "10de59418eb0b2d805804bbac0e850d5a597fd940862b6df52d3c2e226e7ae79", func := "turnkey/turnkeylaw02.Base64Lengths", spec := "base64Lengths", inPlace := ["internal/bytealg.IndexByteString", "internal/abi.NoEscape"], unfollowed := true, recurses := true, apart := false }
def Base64LengthsSaid : Prop := base64LengthsRow.holds Try.pinned (OpenSpec.ofChange base64LengthsSpec)

/-- ITS FALSE NEIGHBOUR: 'it returns false'. Refute it at one input. -/
def base64LengthsWrong : ChangeSpec := { name := "base64Lengths", fn := fun _ => fun
  | [d] => { results := [.lit (.bool false)], args := [d] }
  | _ => none }
def Base64LengthsWrongFalsely : Prop := base64LengthsRow.holds Try.pinned (OpenSpec.ofChange base64LengthsWrong)

/- THE SECOND FORM. 'bulk': how many values and letters a reading holds, each counted each time it is reached (what is shared counts as often as it is met; a slice's spare places count too). A statement '..UptoSaid' is the law's where the arguments, and the package variables that the reading takes, are together of bulk at most 1048576: NARROWER than '..Said'. Prove '..Said' where nothing that the law and all that it calls make is longer than what came in: it says more and counts as full. Else prove '..UptoSaid'. A law counts once. -/
mutual
def uptoBulk {H : Type} : DataW H → Nat
  | .lit (.string bytes) => bytes.length + 1
  | .lit _ => 1
  | .nil => 1
  | .ptr d => uptoBulk d + 1
  | .slice elems spare => uptoBulkAll elems + uptoBulkAll spare + 1
  | .agg parts => uptoBulkAll parts + 1
  | .iface _ d => uptoBulk d + 1
  | .map entries => uptoBulkEntries entries + 1
  | .held _ => 1
def uptoBulkAll {H : Type} : List (DataW H) → Nat
  | [] => 0
  | d :: r => uptoBulk d + uptoBulkAll r
def uptoBulkEntries {H : Type} : List (Lit × DataW H) → Nat
  | [] => 0
  | x :: r => uptoBulkEntry x + uptoBulkEntries r
def uptoBulkEntry {H : Type} : Lit × DataW H → Nat
  | (.string bytes, d) => bytes.length + uptoBulk d + 1
  | (_, d) => uptoBulk d + 1
 end
def uptoSmall : (H : Type) → List (DataW H) → Bool := fun _ ds => decide (uptoBulkAll ds ≤ 1048576)
def OpenSpec.upto (s : _root_.Go.ChangeSpec) : _root_.Go.OpenSpec := { _root_.Go.OpenSpec.ofChange s with cond := some uptoSmall }

/-- 'turnkeylaw02.Base64Texts', WHERE WHAT IT READS IS OF BULK AT MOST 1048576: true; the input reads as it did. -/
def base64TextsUptoRow : OpenClaim := { program := "ytmpkbjkdmbgmhaa", sum := "10de59418eb0b2d805804bbac0e850d5a597fd940862b6df52d3c2e226e7ae79", func := "turnkey/turnkeylaw02.Base64Texts", spec := "base64Texts", inPlace := ["internal/bytealg.IndexByteString", "internal/abi.NoEscape"], unfollowed := true, recurses := true, apart := false, narrowed := true }
def Base64TextsUptoSaid : Prop := base64TextsUptoRow.holds Try.pinned (OpenSpec.upto base64TextsSpec)

/-- 'turnkeylaw02.Base64Apart', WHERE WHAT IT READS IS OF BULK AT MOST 1048576: true; the input reads as it did. -/
def base64ApartUptoRow : OpenClaim := { program := "ytmpkbjkdmbgmhaa", sum := "10de59418eb0b2d805804bbac0e850d5a597fd940862b6df52d3c2e226e7ae79", func := "turnkey/turnkeylaw02.Base64Apart", spec := "base64Apart", inPlace := ["internal/bytealg.IndexByteString", "internal/abi.NoEscape"], unfollowed := true, recurses := true, apart := false, narrowed := true }
def Base64ApartUptoSaid : Prop := base64ApartUptoRow.holds Try.pinned (OpenSpec.upto base64ApartSpec)

/-- 'turnkeylaw02.Base64Signs', WHERE WHAT IT READS IS OF BULK AT MOST 1048576: true; the input reads as it did. -/
def base64SignsUptoRow : OpenClaim := { program := "ytmpkbjkdmbgmhaa", sum := "10de59418eb0b2d805804bbac0e850d5a597fd940862b6df52d3c2e226e7ae79", func := "turnkey/turnkeylaw02.Base64Signs", spec := "base64Signs", inPlace := ["internal/bytealg.IndexByteString", "internal/abi.NoEscape"], unfollowed := true, recurses := true, apart := false, narrowed := true }
def Base64SignsUptoSaid : Prop := base64SignsUptoRow.holds Try.pinned (OpenSpec.upto base64SignsSpec)

/-- 'turnkeylaw02.Base64Lengths', WHERE WHAT IT READS IS OF BULK AT MOST 1048576: true; the input reads as it did. -/
def base64LengthsUptoRow : OpenClaim := { program := "ytmpkbjkdmbgmhaa", sum := "10de59418eb0b2d805804bbac0e850d5a597fd940862b6df52d3c2e226e7ae79", func := "turnkey/turnkeylaw02.Base64Lengths", spec := "base64Lengths", inPlace := ["internal/bytealg.IndexByteString", "internal/abi.NoEscape"], unfollowed := true, recurses := true, apart := false, narrowed := true }
def Base64LengthsUptoSaid : Prop := base64LengthsUptoRow.holds Try.pinned (OpenSpec.upto base64LengthsSpec)

end Rows
end Go.Proofs.Ytmpkbjkdmbgmhaa
