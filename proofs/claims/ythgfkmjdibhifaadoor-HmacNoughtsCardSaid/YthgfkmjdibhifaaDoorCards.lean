/-
  DERIVED. GIVEN WITH THE SEED: THE CARDS: each row of YthgfkmjdibhifaaDoorRows.lean that lists a variable, with what it lists TIED to the program's text (the seventh form; the later family's looks); each row that meets fmt, with fmt's text TOLD by the authors' own Lean function (tested against real Go, not proved from fmt's source: count such statements apart). THE CARD IS WHAT COUNTS. Prove the row's statement (the work); the ties are given (YthgfkmjdibhifaaDoorTie.lean); close each card by the builder's one call (the guide's Derived/Test/ToyasCard.lean, 'card_holds'). Laid BY PROGRAM, IN A SANDBOX (cutbox-door.mjs). By AI agents, Wed Nov 11 2026. No macro, syntax, notation, axiom, sorry.
-/
import Derived.Test.YthgfkmjdibhifaaDoorRows
import GoSem.ClaimSeven
namespace Go.Proofs.YthgfkmjdibhifaaDoor
namespace Rows

/-- THE TIED CARD OF 'turnkeylaw05.HmacNoughts'. -/
def hmacNoughtsCard : Claim7 := { stood := { row := hmacNoughtsRow, standIns := [], harness := (true, "7fa2684699943c32af52922ff5a0558ce53ae16c10fd3b4ceaa1464fa5447b12"), looks := false }, kinds := [], alts := [], laidByText := true, laidKinds := [.data], laidTests := true, laidLooks := .later }
def HmacNoughtsCardSaid : Prop := Claim7.holds Tryd.pinned (.plain (OpenSpec.ofChange hmacNoughtsSpec)) hmacNoughtsCard

/-- THE TIED CARD OF 'turnkeylaw05.HmacSums'. -/
def hmacSumsCard : Claim7 := { stood := { row := hmacSumsRow, standIns := [], harness := (true, "7fa2684699943c32af52922ff5a0558ce53ae16c10fd3b4ceaa1464fa5447b12"), looks := false }, kinds := [], alts := [], laidByText := true, laidKinds := [.data], laidTests := true, laidLooks := .later }
def HmacSumsCardSaid : Prop := Claim7.holds Tryd.pinned (.plain (OpenSpec.ofChange hmacSumsSpec)) hmacSumsCard

/-- THE TIED CARD OF 'turnkeylaw05.HmacLong'. -/
def hmacLongCard : Claim7 := { stood := { row := hmacLongRow, standIns := [], harness := (true, "7fa2684699943c32af52922ff5a0558ce53ae16c10fd3b4ceaa1464fa5447b12"), looks := false }, kinds := [], alts := [], laidByText := true, laidKinds := [.data], laidTests := true, laidLooks := .later }
def HmacLongCardSaid : Prop := Claim7.holds Tryd.pinned (.plain (OpenSpec.ofChange hmacLongSpec)) hmacLongCard

/-- THE TIED CARD OF 'turnkeylaw05.HmacRights'. -/
def hmacRightsCard : Claim7 := { stood := { row := hmacRightsRow, standIns := [], harness := (true, "7fa2684699943c32af52922ff5a0558ce53ae16c10fd3b4ceaa1464fa5447b12"), looks := false }, kinds := [], alts := [], laidByText := true, laidKinds := [.data], laidTests := true, laidLooks := .later }
def HmacRightsCardSaid : Prop := Claim7.holds Tryd.pinned (.plain (OpenSpec.ofChange hmacRightsSpec)) hmacRightsCard

/-- THE SECOND FORM's CARD OF 'turnkeylaw05.HmacNoughts'. -/
def hmacNoughtsUptoCard : Claim7 := { stood := { row := hmacNoughtsUptoRow, standIns := [], harness := (true, "7fa2684699943c32af52922ff5a0558ce53ae16c10fd3b4ceaa1464fa5447b12"), looks := false }, kinds := [], alts := [], laidByText := true, laidKinds := [.data], laidTests := true, laidLooks := .later }
def HmacNoughtsUptoCardSaid : Prop := Claim7.holds Tryd.pinned (.plain (OpenSpec.upto hmacNoughtsSpec)) hmacNoughtsUptoCard

/-- THE SECOND FORM's CARD OF 'turnkeylaw05.HmacSums'. -/
def hmacSumsUptoCard : Claim7 := { stood := { row := hmacSumsUptoRow, standIns := [], harness := (true, "7fa2684699943c32af52922ff5a0558ce53ae16c10fd3b4ceaa1464fa5447b12"), looks := false }, kinds := [], alts := [], laidByText := true, laidKinds := [.data], laidTests := true, laidLooks := .later }
def HmacSumsUptoCardSaid : Prop := Claim7.holds Tryd.pinned (.plain (OpenSpec.upto hmacSumsSpec)) hmacSumsUptoCard

/-- THE SECOND FORM's CARD OF 'turnkeylaw05.HmacLong'. -/
def hmacLongUptoCard : Claim7 := { stood := { row := hmacLongUptoRow, standIns := [], harness := (true, "7fa2684699943c32af52922ff5a0558ce53ae16c10fd3b4ceaa1464fa5447b12"), looks := false }, kinds := [], alts := [], laidByText := true, laidKinds := [.data], laidTests := true, laidLooks := .later }
def HmacLongUptoCardSaid : Prop := Claim7.holds Tryd.pinned (.plain (OpenSpec.upto hmacLongSpec)) hmacLongUptoCard

/-- THE SECOND FORM's CARD OF 'turnkeylaw05.HmacRights'. -/
def hmacRightsUptoCard : Claim7 := { stood := { row := hmacRightsUptoRow, standIns := [], harness := (true, "7fa2684699943c32af52922ff5a0558ce53ae16c10fd3b4ceaa1464fa5447b12"), looks := false }, kinds := [], alts := [], laidByText := true, laidKinds := [.data], laidTests := true, laidLooks := .later }
def HmacRightsUptoCardSaid : Prop := Claim7.holds Tryd.pinned (.plain (OpenSpec.upto hmacRightsSpec)) hmacRightsUptoCard
end Rows
end Go.Proofs.YthgfkmjdibhifaaDoor
