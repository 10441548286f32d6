/-
  DERIVED. GIVEN WITH THE SEED: THE CARDS: each row of YtebhagmleojdiaaDoorRows.lean that lists a variable, with what it lists TIED to the program's text (the seventh form; the later family's looks); each row that meets fmt, with fmt's text TOLD by the authors' own Lean function (tested against real Go, not proved from fmt's source: count such statements apart). THE CARD IS WHAT COUNTS. Prove the row's statement (the work); the ties are given (YtebhagmleojdiaaDoorTie.lean); close each card by the builder's one call (the guide's Derived/Test/ToyasCard.lean, 'card_holds'). Laid BY PROGRAM, IN A SANDBOX (cutbox-door.mjs). By AI agents, Wed Nov 11 2026. No macro, syntax, notation, axiom, sorry.
-/
import Derived.Test.YtebhagmleojdiaaDoorRows
import GoSem.ClaimSeven
namespace Go.Proofs.YtebhagmleojdiaaDoor
namespace Rows

/-- THE TIED CARD OF 'turnkeylaw03.Sha256Sums'. -/
def sha256SumsCard : Claim7 := { stood := { row := sha256SumsRow, standIns := [], harness := (true, "9c8a808b07fa4b9b66466c465ddc1b66314b998b0112c1ef7184e42b4b70279d"), looks := false }, kinds := [], alts := [], laidByText := true, laidKinds := [.data], laidTests := true, laidLooks := .later }
def Sha256SumsCardSaid : Prop := Claim7.holds Tryd.pinned (.plain (OpenSpec.ofChange sha256SumsSpec)) sha256SumsCard

/-- THE TIED CARD OF 'turnkeylaw03.Sha256Cuts'. -/
def sha256CutsCard : Claim7 := { stood := { row := sha256CutsRow, standIns := [], harness := (true, "9c8a808b07fa4b9b66466c465ddc1b66314b998b0112c1ef7184e42b4b70279d"), looks := false }, kinds := [], alts := [], laidByText := true, laidKinds := [.data], laidTests := true, laidLooks := .later }
def Sha256CutsCardSaid : Prop := Claim7.holds Tryd.pinned (.plain (OpenSpec.ofChange sha256CutsSpec)) sha256CutsCard

/-- THE SECOND FORM's CARD OF 'turnkeylaw03.Sha256Sums'. -/
def sha256SumsUptoCard : Claim7 := { stood := { row := sha256SumsUptoRow, standIns := [], harness := (true, "9c8a808b07fa4b9b66466c465ddc1b66314b998b0112c1ef7184e42b4b70279d"), looks := false }, kinds := [], alts := [], laidByText := true, laidKinds := [.data], laidTests := true, laidLooks := .later }
def Sha256SumsUptoCardSaid : Prop := Claim7.holds Tryd.pinned (.plain (OpenSpec.upto sha256SumsSpec)) sha256SumsUptoCard

/-- THE SECOND FORM's CARD OF 'turnkeylaw03.Sha256Cuts'. -/
def sha256CutsUptoCard : Claim7 := { stood := { row := sha256CutsUptoRow, standIns := [], harness := (true, "9c8a808b07fa4b9b66466c465ddc1b66314b998b0112c1ef7184e42b4b70279d"), looks := false }, kinds := [], alts := [], laidByText := true, laidKinds := [.data], laidTests := true, laidLooks := .later }
def Sha256CutsUptoCardSaid : Prop := Claim7.holds Tryd.pinned (.plain (OpenSpec.upto sha256CutsSpec)) sha256CutsUptoCard
end Rows
end Go.Proofs.YtebhagmleojdiaaDoor
