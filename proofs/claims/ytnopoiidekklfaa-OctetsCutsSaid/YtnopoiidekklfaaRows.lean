/-
  No cell of these rows narrows 'for every input' (looked for: loops, veiled, ifaces, maps, wideKeys, modest, calm, conditions, laid).
  DERIVED. THE GIVEN ROWS OF THIS SEAT. 5 by the template 'for every input the law returns true; each argument reads behind the call as it read before'; 0 by the template 'total and deterministic' (their statements: YtnopoiidekklfaaTotals.lean).
  GIVEN WITH THE SEED: the statements are not yours to turn. If you find one false, say at which input.
  Laid BY PROGRAM, IN A SANDBOX (cutbox-rows.mjs): the forced cells as the released guide's own fill.sh prints them over the translation d295e6491d0a4bb7… (all of the seat's roots in one cut). By AI agents, Wed Nov 11 2026. No macro, syntax, notation, axiom, sorry.
-/
import Derived.Test.YtnopoiidekklfaaChecked
import GoSem.Claim
import GoSem.ClaimJoined
import GoSem.ClaimMapViews
import Derived.JoinedTies
import Derived.KernelRfl
namespace Go.Proofs.Ytnopoiidekklfaa
/- THE CELL 'sum', in the pinned program and in every row, IS THE sha256 OF THE DUMP (.gsa) THAT YtnopoiidekklfaaProg.lean LOADS. Nothing in Lean hashes anything: it is a label: what it is worth is what the hold of that sum in a sandbox is worth. -/
noncomputable def Try.pinned : Pinned := { name := "ytnopoiidekklfaa", sum := "d295e6491d0a4bb75a8628605fde2dfed0badbaa8aec70ddcdfd06a8b372dff5", checked := Try.checked }
namespace Rows
def none {H : Type} : Left H := { results := [], args := [] }

/-- 'turnkeylaw01.OctetsApart': WHATEVER THE INPUT: true; the input reads as it did. -/
def octetsApartSpec : ChangeSpec := { name := "octetsApart", fn := fun _ => fun
  | [d1, d2, d3] => { results := [.lit (.bool true)], args := [d1, d2, d3] }
  | _ => none }
def octetsApartRow : OpenClaim := { program := "ytnopoiidekklfaa", sum := "d295e6491d0a4bb75a8628605fde2dfed0badbaa8aec70ddcdfd06a8b372dff5", func := "turnkey/turnkeylaw01.OctetsApart", spec := "octetsApart", inPlace := ["internal/abi.NoEscape"], unfollowed := true, recurses := true, apart := false }
def OctetsApartSaid : Prop := octetsApartRow.holds Try.pinned (OpenSpec.ofChange octetsApartSpec)

/-- ITS FALSE NEIGHBOUR: 'it returns false'. Refute it at one input. -/
def octetsApartWrong : ChangeSpec := { name := "octetsApart", fn := fun _ => fun
  | [d1, d2, d3] => { results := [.lit (.bool false)], args := [d1, d2, d3] }
  | _ => none }
def OctetsApartWrongFalsely : Prop := octetsApartRow.holds Try.pinned (OpenSpec.ofChange octetsApartWrong)

/-- 'turnkeylaw01.OctetsNumbers': WHATEVER THE INPUT: true; the input reads as it did. -/
def octetsNumbersSpec : ChangeSpec := { name := "octetsNumbers", fn := fun _ => fun
  | [d1, d2, d3] => { results := [.lit (.bool true)], args := [d1, d2, d3] }
  | _ => none }
def octetsNumbersRow : OpenClaim := { program := "ytnopoiidekklfaa", sum := "d295e6491d0a4bb75a8628605fde2dfed0badbaa8aec70ddcdfd06a8b372dff5", func := "turnkey/turnkeylaw01.OctetsNumbers", spec := "octetsNumbers", inPlace := ["internal/abi.NoEscape"], unfollowed := true, recurses := true, apart := false }
def OctetsNumbersSaid : Prop := octetsNumbersRow.holds Try.pinned (OpenSpec.ofChange octetsNumbersSpec)

/-- ITS FALSE NEIGHBOUR: 'it returns false'. Refute it at one input. -/
def octetsNumbersWrong : ChangeSpec := { name := "octetsNumbers", fn := fun _ => fun
  | [d1, d2, d3] => { results := [.lit (.bool false)], args := [d1, d2, d3] }
  | _ => none }
def OctetsNumbersWrongFalsely : Prop := octetsNumbersRow.holds Try.pinned (OpenSpec.ofChange octetsNumbersWrong)

/-- 'turnkeylaw01.OctetsCuts': WHATEVER THE INPUT: true; the input reads as it did. -/
def octetsCutsSpec : ChangeSpec := { name := "octetsCuts", fn := fun _ => fun
  | [d1, d2] => { results := [.lit (.bool true)], args := [d1, d2] }
  | _ => none }
def octetsCutsRow : OpenClaim := { program := "ytnopoiidekklfaa", sum := "d295e6491d0a4bb75a8628605fde2dfed0badbaa8aec70ddcdfd06a8b372dff5", func := "turnkey/turnkeylaw01.OctetsCuts", spec := "octetsCuts", inPlace := ["internal/abi.NoEscape"], unfollowed := true, recurses := true, apart := false }
def OctetsCutsSaid : Prop := octetsCutsRow.holds Try.pinned (OpenSpec.ofChange octetsCutsSpec)

/-- ITS FALSE NEIGHBOUR: 'it returns false'. Refute it at one input. -/
def octetsCutsWrong : ChangeSpec := { name := "octetsCuts", fn := fun _ => fun
  | [d1, d2] => { results := [.lit (.bool false)], args := [d1, d2] }
  | _ => none }
def OctetsCutsWrongFalsely : Prop := octetsCutsRow.holds Try.pinned (OpenSpec.ofChange octetsCutsWrong)

/-- 'turnkeylaw01.OctetsDigits': WHATEVER THE INPUT: true; the input reads as it did. -/
def octetsDigitsSpec : ChangeSpec := { name := "octetsDigits", fn := fun _ => fun
  | [d1, d2] => { results := [.lit (.bool true)], args := [d1, d2] }
  | _ => none }
def octetsDigitsRow : OpenClaim := { program := "ytnopoiidekklfaa", sum := "d295e6491d0a4bb75a8628605fde2dfed0badbaa8aec70ddcdfd06a8b372dff5", func := "turnkey/turnkeylaw01.OctetsDigits", spec := "octetsDigits", inPlace := ["internal/abi.NoEscape", "internal/bytealg.IndexByteString"], unfollowed := true, recurses := true, apart := false }
def OctetsDigitsSaid : Prop := octetsDigitsRow.holds Try.pinned (OpenSpec.ofChange octetsDigitsSpec)

/-- ITS FALSE NEIGHBOUR: 'it returns false'. Refute it at one input. -/
def octetsDigitsWrong : ChangeSpec := { name := "octetsDigits", fn := fun _ => fun
  | [d1, d2] => { results := [.lit (.bool false)], args := [d1, d2] }
  | _ => none }
def OctetsDigitsWrongFalsely : Prop := octetsDigitsRow.holds Try.pinned (OpenSpec.ofChange octetsDigitsWrong)

/-- 'turnkeylaw01.OctetsXors': WHATEVER THE INPUT: true; the input reads as it did. -/
def octetsXorsSpec : ChangeSpec := { name := "octetsXors", fn := fun _ => fun
  | [d1, d2] => { results := [.lit (.bool true)], args := [d1, d2] }
  | _ => none }
def octetsXorsRow : OpenClaim := { program := "ytnopoiidekklfaa", sum := "d295e6491d0a4bb75a8628605fde2dfed0badbaa8aec70ddcdfd06a8b372dff5", func := "turnkey/turnkeylaw01.OctetsXors", spec := "octetsXors", inPlace := ["internal/abi.NoEscape"], unfollowed := true, recurses := true, apart := false }
def OctetsXorsSaid : Prop := octetsXorsRow.holds Try.pinned (OpenSpec.ofChange octetsXorsSpec)

/-- ITS FALSE NEIGHBOUR: 'it returns false'. Refute it at one input. -/
def octetsXorsWrong : ChangeSpec := { name := "octetsXors", fn := fun _ => fun
  | [d1, d2] => { results := [.lit (.bool false)], args := [d1, d2] }
  | _ => none }
def OctetsXorsWrongFalsely : Prop := octetsXorsRow.holds Try.pinned (OpenSpec.ofChange octetsXorsWrong)

/- THE SECOND FORM. 'bulk': how many values and letters a reading holds, each counted each time it is reached (what is shared counts as often as it is met; a slice's spare places count too). A statement '..UptoSaid' is the law's where the arguments, and the package variables that the reading takes, are together of bulk at most 1048576: NARROWER than '..Said'. Prove '..Said' where nothing that the law and all that it calls make is longer than what came in: it says more and counts as full. Else prove '..UptoSaid'. A law counts once. -/
mutual
def uptoBulk {H : Type} : DataW H → Nat
  | .lit (.string bytes) => bytes.length + 1
  | .lit _ => 1
  | .nil => 1
  | .ptr d => uptoBulk d + 1
  | .slice elems spare => uptoBulkAll elems + uptoBulkAll spare + 1
  | .agg parts => uptoBulkAll parts + 1
  | .iface _ d => uptoBulk d + 1
  | .map entries => uptoBulkEntries entries + 1
  | .held _ => 1
def uptoBulkAll {H : Type} : List (DataW H) → Nat
  | [] => 0
  | d :: r => uptoBulk d + uptoBulkAll r
def uptoBulkEntries {H : Type} : List (Lit × DataW H) → Nat
  | [] => 0
  | x :: r => uptoBulkEntry x + uptoBulkEntries r
def uptoBulkEntry {H : Type} : Lit × DataW H → Nat
  | (.string bytes, d) => bytes.length + uptoBulk d + 1
  | (_, d) => uptoBulk d + 1
 end
def uptoSmall : (H : Type) → List (DataW H) → Bool := fun _ ds => decide (uptoBulkAll ds ≤ 1048576)
def OpenSpec.upto (s : _root_.Go.ChangeSpec) : _root_.Go.OpenSpec := { _root_.Go.OpenSpec.ofChange s with cond := some uptoSmall }

/-- 'turnkeylaw01.OctetsApart', WHERE WHAT IT READS IS OF BULK AT MOST 1048576: true; the input reads as it did. -/
def octetsApartUptoRow : OpenClaim := { program := "ytnopoiidekklfaa", sum := "d295e6491d0a4bb75a8628605fde2dfed0badbaa8aec70ddcdfd06a8b372dff5", func := "turnkey/turnkeylaw01.OctetsApart", spec := "octetsApart", inPlace := ["internal/abi.NoEscape"], unfollowed := true, recurses := true, apart := false, narrowed := true }
def OctetsApartUptoSaid : Prop := octetsApartUptoRow.holds Try.pinned (OpenSpec.upto octetsApartSpec)

/-- 'turnkeylaw01.OctetsNumbers', WHERE WHAT IT READS IS OF BULK AT MOST 1048576: true; the input reads as it did. -/
def octetsNumbersUptoRow : OpenClaim := { program := "ytnopoiidekklfaa", sum := "d295e6491d0a4bb75a8628605fde2dfed0badbaa8aec70ddcdfd06a8b372dff5", func := "turnkey/turnkeylaw01.OctetsNumbers", spec := "octetsNumbers", inPlace := ["internal/abi.NoEscape"], unfollowed := true, recurses := true, apart := false, narrowed := true }
def OctetsNumbersUptoSaid : Prop := octetsNumbersUptoRow.holds Try.pinned (OpenSpec.upto octetsNumbersSpec)

/-- 'turnkeylaw01.OctetsCuts', WHERE WHAT IT READS IS OF BULK AT MOST 1048576: true; the input reads as it did. -/
def octetsCutsUptoRow : OpenClaim := { program := "ytnopoiidekklfaa", sum := "d295e6491d0a4bb75a8628605fde2dfed0badbaa8aec70ddcdfd06a8b372dff5", func := "turnkey/turnkeylaw01.OctetsCuts", spec := "octetsCuts", inPlace := ["internal/abi.NoEscape"], unfollowed := true, recurses := true, apart := false, narrowed := true }
def OctetsCutsUptoSaid : Prop := octetsCutsUptoRow.holds Try.pinned (OpenSpec.upto octetsCutsSpec)

/-- 'turnkeylaw01.OctetsDigits', WHERE WHAT IT READS IS OF BULK AT MOST 1048576: true; the input reads as it did. -/
def octetsDigitsUptoRow : OpenClaim := { program := "ytnopoiidekklfaa", sum := "d295e6491d0a4bb75a8628605fde2dfed0badbaa8aec70ddcdfd06a8b372dff5", func := "turnkey/turnkeylaw01.OctetsDigits", spec := "octetsDigits", inPlace := ["internal/abi.NoEscape", "internal/bytealg.IndexByteString"], unfollowed := true, recurses := true, apart := false, narrowed := true }
def OctetsDigitsUptoSaid : Prop := octetsDigitsUptoRow.holds Try.pinned (OpenSpec.upto octetsDigitsSpec)

/-- 'turnkeylaw01.OctetsXors', WHERE WHAT IT READS IS OF BULK AT MOST 1048576: true; the input reads as it did. -/
def octetsXorsUptoRow : OpenClaim := { program := "ytnopoiidekklfaa", sum := "d295e6491d0a4bb75a8628605fde2dfed0badbaa8aec70ddcdfd06a8b372dff5", func := "turnkey/turnkeylaw01.OctetsXors", spec := "octetsXors", inPlace := ["internal/abi.NoEscape"], unfollowed := true, recurses := true, apart := false, narrowed := true }
def OctetsXorsUptoSaid : Prop := octetsXorsUptoRow.holds Try.pinned (OpenSpec.upto octetsXorsSpec)

end Rows
end Go.Proofs.Ytnopoiidekklfaa
