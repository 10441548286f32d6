/-
  DERIVED. GIVEN WITH THE SEED: THE CARDS: each row of YtfmfpckpldlahaaDoorRows.lean that lists a variable, with what it lists TIED to the program's text (the seventh form; the later family's looks); each row that meets fmt, with fmt's text TOLD by the authors' own Lean function (tested against real Go, not proved from fmt's source: count such statements apart). THE CARD IS WHAT COUNTS. Prove the row's statement (the work); the ties are given (YtfmfpckpldlahaaDoorTie.lean); close each card by the builder's one call (the guide's Derived/Test/ToyasCard.lean, 'card_holds'). Laid BY PROGRAM, IN A SANDBOX (cutbox-door.mjs). By AI agents, Wed Nov 11 2026. No macro, syntax, notation, axiom, sorry.
-/
import Derived.Test.YtfmfpckpldlahaaDoorRows
import GoSem.ClaimSeven
namespace Go.Proofs.YtfmfpckpldlahaaDoor
namespace Rows

/-- THE TIED CARD OF 'turnkeylaw06.HkdfBegins'. -/
def hkdfBeginsCard : Claim7 := { stood := { row := hkdfBeginsRow, standIns := [], harness := (true, "c22bd4b83e435d153822b44803905ba629cccded2491ce1985ef4c96d508b289"), looks := false }, kinds := [], alts := [], laidByText := true, laidKinds := [.data], laidTests := true, laidLooks := .later }
def HkdfBeginsCardSaid : Prop := Claim7.holds Tryd.pinned (.plain (OpenSpec.ofChange hkdfBeginsSpec)) hkdfBeginsCard

/-- THE TIED CARD OF 'turnkeylaw06.HkdfBlocks'. -/
def hkdfBlocksCard : Claim7 := { stood := { row := hkdfBlocksRow, standIns := [], harness := (true, "c22bd4b83e435d153822b44803905ba629cccded2491ce1985ef4c96d508b289"), looks := false }, kinds := [], alts := [], laidByText := true, laidKinds := [.data], laidTests := true, laidLooks := .later }
def HkdfBlocksCardSaid : Prop := Claim7.holds Tryd.pinned (.plain (OpenSpec.ofChange hkdfBlocksSpec)) hkdfBlocksCard

/-- THE TIED CARD OF 'turnkeylaw06.HkdfKeys'. -/
def hkdfKeysCard : Claim7 := { stood := { row := hkdfKeysRow, standIns := [], harness := (true, "c22bd4b83e435d153822b44803905ba629cccded2491ce1985ef4c96d508b289"), looks := false }, kinds := [], alts := [], laidByText := true, laidKinds := [.data], laidTests := true, laidLooks := .later }
def HkdfKeysCardSaid : Prop := Claim7.holds Tryd.pinned (.plain (OpenSpec.ofChange hkdfKeysSpec)) hkdfKeysCard

/-- THE TIED CARD OF 'turnkeylaw06.HkdfDerives'. -/
def hkdfDerivesCard : Claim7 := { stood := { row := hkdfDerivesRow, standIns := [], harness := (true, "c22bd4b83e435d153822b44803905ba629cccded2491ce1985ef4c96d508b289"), looks := false }, kinds := [], alts := [], laidByText := true, laidKinds := [.data], laidTests := true, laidLooks := .later }
def HkdfDerivesCardSaid : Prop := Claim7.holds Tryd.pinned (.plain (OpenSpec.ofChange hkdfDerivesSpec)) hkdfDerivesCard

/-- THE SECOND FORM's CARD OF 'turnkeylaw06.HkdfBegins'. -/
def hkdfBeginsUptoCard : Claim7 := { stood := { row := hkdfBeginsUptoRow, standIns := [], harness := (true, "c22bd4b83e435d153822b44803905ba629cccded2491ce1985ef4c96d508b289"), looks := false }, kinds := [], alts := [], laidByText := true, laidKinds := [.data], laidTests := true, laidLooks := .later }
def HkdfBeginsUptoCardSaid : Prop := Claim7.holds Tryd.pinned (.plain (OpenSpec.upto hkdfBeginsSpec)) hkdfBeginsUptoCard

/-- THE SECOND FORM's CARD OF 'turnkeylaw06.HkdfBlocks'. -/
def hkdfBlocksUptoCard : Claim7 := { stood := { row := hkdfBlocksUptoRow, standIns := [], harness := (true, "c22bd4b83e435d153822b44803905ba629cccded2491ce1985ef4c96d508b289"), looks := false }, kinds := [], alts := [], laidByText := true, laidKinds := [.data], laidTests := true, laidLooks := .later }
def HkdfBlocksUptoCardSaid : Prop := Claim7.holds Tryd.pinned (.plain (OpenSpec.upto hkdfBlocksSpec)) hkdfBlocksUptoCard

/-- THE SECOND FORM's CARD OF 'turnkeylaw06.HkdfKeys'. -/
def hkdfKeysUptoCard : Claim7 := { stood := { row := hkdfKeysUptoRow, standIns := [], harness := (true, "c22bd4b83e435d153822b44803905ba629cccded2491ce1985ef4c96d508b289"), looks := false }, kinds := [], alts := [], laidByText := true, laidKinds := [.data], laidTests := true, laidLooks := .later }
def HkdfKeysUptoCardSaid : Prop := Claim7.holds Tryd.pinned (.plain (OpenSpec.upto hkdfKeysSpec)) hkdfKeysUptoCard

/-- THE SECOND FORM's CARD OF 'turnkeylaw06.HkdfDerives'. -/
def hkdfDerivesUptoCard : Claim7 := { stood := { row := hkdfDerivesUptoRow, standIns := [], harness := (true, "c22bd4b83e435d153822b44803905ba629cccded2491ce1985ef4c96d508b289"), looks := false }, kinds := [], alts := [], laidByText := true, laidKinds := [.data], laidTests := true, laidLooks := .later }
def HkdfDerivesUptoCardSaid : Prop := Claim7.holds Tryd.pinned (.plain (OpenSpec.upto hkdfDerivesSpec)) hkdfDerivesUptoCard
end Rows
end Go.Proofs.YtfmfpckpldlahaaDoor
