/-
  DERIVED. GIVEN WITH THE SEED: THE CARDS: each row of YtkblmomfiimkiaaGreatDoorRows.lean that lists a variable, with what it lists TIED to the program's text (the seventh form; the later family's looks); each row that meets fmt, with fmt's text TOLD by the authors' own Lean function (tested against real Go, not proved from fmt's source: count such statements apart). THE CARD IS WHAT COUNTS. Prove the row's statement (the work); the ties are given (YtkblmomfiimkiaaGreatDoorTie.lean); close each card by the builder's one call (the guide's Derived/Test/ToyasCard.lean, 'card_holds'). Laid BY PROGRAM, IN A SANDBOX (cutbox-door.mjs). By AI agents, Wed Nov 11 2026. No macro, syntax, notation, axiom, sorry.
-/
import Derived.Test.YtkblmomfiimkiaaGreatDoorRows
import GoSem.ClaimSeven
namespace Go.Proofs.YtkblmomfiimkiaaGreatDoor
namespace Rows

/-- THE TIED CARD OF 'supercargolaw09.PostNames'. -/
def postNamesCard : Claim7 := { stood := { row := postNamesRow, standIns := [], harness := (true, "41138f73425698ce78896b7d647c5c9cb67ae76de2fdbde88d13e2b61f4abe3a"), looks := true }, kinds := [], alts := [], laidByText := true, laidKinds := [.data, .data, .data, .listed, .data], laidTests := true, laidLooks := .later }
def PostNamesCardSaid : Prop := Claim7.holds Tryz.pinned (.plain (OpenSpec.ofChange postNamesSpec)) postNamesCard

/-- THE TIED CARD OF 'supercargolaw09.PostSames'. -/
def postSamesCard : Claim7 := { stood := { row := postSamesRow, standIns := [], harness := (true, "41138f73425698ce78896b7d647c5c9cb67ae76de2fdbde88d13e2b61f4abe3a"), looks := true }, kinds := [], alts := [], laidByText := true, laidKinds := [.data, .data, .data, .listed, .data], laidTests := true, laidLooks := .later }
def PostSamesCardSaid : Prop := Claim7.holds Tryz.pinned (.plain (OpenSpec.ofChange postSamesSpec)) postSamesCard

/-- THE TIED CARD OF 'supercargolaw09.PostMays'. -/
def postMaysCard : Claim7 := { stood := { row := postMaysRow, standIns := [], harness := (true, "41138f73425698ce78896b7d647c5c9cb67ae76de2fdbde88d13e2b61f4abe3a"), looks := true }, kinds := [], alts := [], laidByText := true, laidKinds := [.data, .data, .data, .listed, .data], laidTests := true, laidLooks := .later }
def PostMaysCardSaid : Prop := Claim7.holds Tryz.pinned (.plain (OpenSpec.ofChange postMaysSpec)) postMaysCard

/-- THE TIED CARD OF 'supercargolaw09.PostFrom'. -/
def postFromCard : Claim7 := { stood := { row := postFromRow, standIns := [], harness := (true, "41138f73425698ce78896b7d647c5c9cb67ae76de2fdbde88d13e2b61f4abe3a"), looks := true }, kinds := [], alts := [], laidByText := true, laidKinds := [.data, .data, .data, .data, .sentinel, .sentinel, .listed, .data, .pinned], laidTests := true, laidLooks := .later }
def PostFromCardSaid : Prop := Claim7.holds Tryz.pinned (.plain (OpenSpec.ofChange postFromSpec)) postFromCard

/-- THE TIED CARD OF 'supercargolaw09.PostTexts'. -/
def postTextsCard : Claim7 := { stood := { row := postTextsRow, standIns := [], harness := (true, "41138f73425698ce78896b7d647c5c9cb67ae76de2fdbde88d13e2b61f4abe3a"), looks := true }, kinds := [], alts := [], laidByText := true, laidKinds := [.data, .data, .data, .data, .sentinel, .sentinel, .listed, .data, .pinned], laidTests := true, laidLooks := .later }
def PostTextsCardSaid : Prop := Claim7.holds Tryz.pinned (.plain (OpenSpec.ofChange postTextsSpec)) postTextsCard

/-- THE TIED CARD OF 'supercargolaw09.PostParses'. -/
def postParsesCard : Claim7 := { stood := { row := postParsesRow, standIns := [], harness := (true, "41138f73425698ce78896b7d647c5c9cb67ae76de2fdbde88d13e2b61f4abe3a"), looks := true }, kinds := [], alts := [], laidByText := true, laidKinds := [.data, .data, .data, .data, .sentinel, .sentinel, .listed, .data, .pinned], laidTests := true, laidLooks := .later }
def PostParsesCardSaid : Prop := Claim7.holds Tryz.pinned (.plain (OpenSpec.ofChange postParsesSpec)) postParsesCard

/-- THE SECOND FORM's CARD OF 'supercargolaw09.PostNames'. -/
def postNamesUptoCard : Claim7 := { stood := { row := postNamesUptoRow, standIns := [], harness := (true, "41138f73425698ce78896b7d647c5c9cb67ae76de2fdbde88d13e2b61f4abe3a"), looks := true }, kinds := [], alts := [], laidByText := true, laidKinds := [.data, .data, .data, .listed, .data], laidTests := true, laidLooks := .later }
def PostNamesUptoCardSaid : Prop := Claim7.holds Tryz.pinned (.plain (OpenSpec.upto postNamesSpec)) postNamesUptoCard

/-- THE SECOND FORM's CARD OF 'supercargolaw09.PostSames'. -/
def postSamesUptoCard : Claim7 := { stood := { row := postSamesUptoRow, standIns := [], harness := (true, "41138f73425698ce78896b7d647c5c9cb67ae76de2fdbde88d13e2b61f4abe3a"), looks := true }, kinds := [], alts := [], laidByText := true, laidKinds := [.data, .data, .data, .listed, .data], laidTests := true, laidLooks := .later }
def PostSamesUptoCardSaid : Prop := Claim7.holds Tryz.pinned (.plain (OpenSpec.upto postSamesSpec)) postSamesUptoCard

/-- THE SECOND FORM's CARD OF 'supercargolaw09.PostMays'. -/
def postMaysUptoCard : Claim7 := { stood := { row := postMaysUptoRow, standIns := [], harness := (true, "41138f73425698ce78896b7d647c5c9cb67ae76de2fdbde88d13e2b61f4abe3a"), looks := true }, kinds := [], alts := [], laidByText := true, laidKinds := [.data, .data, .data, .listed, .data], laidTests := true, laidLooks := .later }
def PostMaysUptoCardSaid : Prop := Claim7.holds Tryz.pinned (.plain (OpenSpec.upto postMaysSpec)) postMaysUptoCard

/-- THE SECOND FORM's CARD OF 'supercargolaw09.PostFrom'. -/
def postFromUptoCard : Claim7 := { stood := { row := postFromUptoRow, standIns := [], harness := (true, "41138f73425698ce78896b7d647c5c9cb67ae76de2fdbde88d13e2b61f4abe3a"), looks := true }, kinds := [], alts := [], laidByText := true, laidKinds := [.data, .data, .data, .data, .sentinel, .sentinel, .listed, .data, .pinned], laidTests := true, laidLooks := .later }
def PostFromUptoCardSaid : Prop := Claim7.holds Tryz.pinned (.plain (OpenSpec.upto postFromSpec)) postFromUptoCard

/-- THE SECOND FORM's CARD OF 'supercargolaw09.PostTexts'. -/
def postTextsUptoCard : Claim7 := { stood := { row := postTextsUptoRow, standIns := [], harness := (true, "41138f73425698ce78896b7d647c5c9cb67ae76de2fdbde88d13e2b61f4abe3a"), looks := true }, kinds := [], alts := [], laidByText := true, laidKinds := [.data, .data, .data, .data, .sentinel, .sentinel, .listed, .data, .pinned], laidTests := true, laidLooks := .later }
def PostTextsUptoCardSaid : Prop := Claim7.holds Tryz.pinned (.plain (OpenSpec.upto postTextsSpec)) postTextsUptoCard

/-- THE SECOND FORM's CARD OF 'supercargolaw09.PostParses'. -/
def postParsesUptoCard : Claim7 := { stood := { row := postParsesUptoRow, standIns := [], harness := (true, "41138f73425698ce78896b7d647c5c9cb67ae76de2fdbde88d13e2b61f4abe3a"), looks := true }, kinds := [], alts := [], laidByText := true, laidKinds := [.data, .data, .data, .data, .sentinel, .sentinel, .listed, .data, .pinned], laidTests := true, laidLooks := .later }
def PostParsesUptoCardSaid : Prop := Claim7.holds Tryz.pinned (.plain (OpenSpec.upto postParsesSpec)) postParsesUptoCard
end Rows
end Go.Proofs.YtkblmomfiimkiaaGreatDoor
