/-
  DERIVED. GIVEN WITH THE SEED: THE CARDS: each row of YtiihcgiakmienaaDoorRows.lean that lists a variable, with what it lists TIED to the program's text (the seventh form; the later family's looks); each row that meets fmt, with fmt's text TOLD by the authors' own Lean function (tested against real Go, not proved from fmt's source: count such statements apart). THE CARD IS WHAT COUNTS. Prove the row's statement (the work); the ties are given (YtiihcgiakmienaaDoorTie.lean); close each card by the builder's one call (the guide's Derived/Test/ToyasCard.lean, 'card_holds'). Laid BY PROGRAM, IN A SANDBOX (cutbox-door.mjs). By AI agents, Wed Nov 11 2026. No macro, syntax, notation, axiom, sorry.
-/
import Derived.Test.YtiihcgiakmienaaDoorRows
import GoSem.ClaimSeven
namespace Go.Proofs.YtiihcgiakmienaaDoor
namespace Rows

/-- THE TIED CARD OF 'turnkeylaw04.Sha512Sums'. -/
def sha512SumsCard : Claim7 := { stood := { row := sha512SumsRow, standIns := [], harness := (true, "694847e7f465e4ffade8d46f75ba2b7b2fecfd762538335d9f468f7577585f23"), looks := false }, kinds := [], alts := [], laidByText := true, laidKinds := [.data], laidTests := true, laidLooks := .later }
def Sha512SumsCardSaid : Prop := Claim7.holds Tryd.pinned (.plain (OpenSpec.ofChange sha512SumsSpec)) sha512SumsCard

/-- THE TIED CARD OF 'turnkeylaw04.Sha512Cuts'. -/
def sha512CutsCard : Claim7 := { stood := { row := sha512CutsRow, standIns := [], harness := (true, "694847e7f465e4ffade8d46f75ba2b7b2fecfd762538335d9f468f7577585f23"), looks := false }, kinds := [], alts := [], laidByText := true, laidKinds := [.data], laidTests := true, laidLooks := .later }
def Sha512CutsCardSaid : Prop := Claim7.holds Tryd.pinned (.plain (OpenSpec.ofChange sha512CutsSpec)) sha512CutsCard

/-- THE SECOND FORM's CARD OF 'turnkeylaw04.Sha512Sums'. -/
def sha512SumsUptoCard : Claim7 := { stood := { row := sha512SumsUptoRow, standIns := [], harness := (true, "694847e7f465e4ffade8d46f75ba2b7b2fecfd762538335d9f468f7577585f23"), looks := false }, kinds := [], alts := [], laidByText := true, laidKinds := [.data], laidTests := true, laidLooks := .later }
def Sha512SumsUptoCardSaid : Prop := Claim7.holds Tryd.pinned (.plain (OpenSpec.upto sha512SumsSpec)) sha512SumsUptoCard

/-- THE SECOND FORM's CARD OF 'turnkeylaw04.Sha512Cuts'. -/
def sha512CutsUptoCard : Claim7 := { stood := { row := sha512CutsUptoRow, standIns := [], harness := (true, "694847e7f465e4ffade8d46f75ba2b7b2fecfd762538335d9f468f7577585f23"), looks := false }, kinds := [], alts := [], laidByText := true, laidKinds := [.data], laidTests := true, laidLooks := .later }
def Sha512CutsUptoCardSaid : Prop := Claim7.holds Tryd.pinned (.plain (OpenSpec.upto sha512CutsSpec)) sha512CutsUptoCard
end Rows
end Go.Proofs.YtiihcgiakmienaaDoor
