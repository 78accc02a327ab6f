/-
  DERIVED. GIVEN WITH THE SEED: THE CARDS: each row of YtacepalmphbnfaaGreatDoorRows.lean that lists a variable, with what it lists TIED to the program's text (the seventh form; the later family's looks); each row that meets fmt, with fmt's text TOLD by the authors' own Lean function (tested against real Go, not proved from fmt's source: count such statements apart). THE CARD IS WHAT COUNTS. Prove the row's statement (the work); the ties are given (YtacepalmphbnfaaGreatDoorTie.lean); close each card by the builder's one call (the guide's Derived/Test/ToyasCard.lean, 'card_holds'). Laid BY PROGRAM, IN A SANDBOX (cutbox-door.mjs). By AI agents, Wed Nov 11 2026. No macro, syntax, notation, axiom, sorry.
-/
import Derived.Test.YtacepalmphbnfaaGreatDoorRows
import GoSem.ClaimSeven
namespace Go.Proofs.YtacepalmphbnfaaGreatDoor
namespace Rows

/-- THE TIED CARD OF 'tablefinderlaw06.FixedInfers'. -/
def fixedInfersCard : Claim7 := { stood := { row := fixedInfersRow, standIns := [], harness := (true, "092ad8a67491137db2df35b40d58df4e61f9a8f144de63ee475758f8d8d2c036"), looks := true }, kinds := [], alts := [], laidByText := true, laidKinds := [.data, .data, .data, .data, .pinned], laidTests := true, laidLooks := .later }
def FixedInfersCardSaid : Prop := Claim7.holds Tryz.pinned (.plain (OpenSpec.ofChange fixedInfersSpec)) fixedInfersCard

/-- THE TIED CARD OF 'tablefinderlaw06.FixedFinds'. -/
def fixedFindsCard : Claim7 := { stood := { row := fixedFindsRow, standIns := [], harness := (true, "092ad8a67491137db2df35b40d58df4e61f9a8f144de63ee475758f8d8d2c036"), looks := true }, kinds := [], alts := [], laidByText := true, laidKinds := [.data, .data, .data, .data, .pinned], laidTests := true, laidLooks := .later }
def FixedFindsCardSaid : Prop := Claim7.holds Tryz.pinned (.plain (OpenSpec.ofChange fixedFindsSpec)) fixedFindsCard

/-- THE TIED CARD OF 'tablefinderlaw06.FixedSteps'. -/
def fixedStepsCard : Claim7 := { stood := { row := fixedStepsRow, standIns := [], harness := (true, "092ad8a67491137db2df35b40d58df4e61f9a8f144de63ee475758f8d8d2c036"), looks := true }, kinds := [], alts := [], laidByText := true, laidKinds := [.data, .data, .data, .data, .sentinel, .sentinel, .pinned], laidTests := true, laidLooks := .later }
def FixedStepsCardSaid : Prop := Claim7.holds Tryz.pinned (.plain (OpenSpec.ofChange fixedStepsSpec)) fixedStepsCard

/-- THE TIED CARD OF 'tablefinderlaw06.FixedBack'. -/
def fixedBackCard : Claim7 := { stood := { row := fixedBackRow, standIns := [], harness := (true, "092ad8a67491137db2df35b40d58df4e61f9a8f144de63ee475758f8d8d2c036"), looks := true }, kinds := [], alts := [], laidByText := true, laidKinds := [.data, .data, .data, .data, .sentinel, .sentinel, .pinned], laidTests := true, laidLooks := .later }
def FixedBackCardSaid : Prop := Claim7.holds Tryz.pinned (.plain (OpenSpec.ofChange fixedBackSpec)) fixedBackCard

/-- THE TIED CARD OF 'tablefinderlaw08.SheetJoins'. -/
def sheetJoinsCard : Claim7 := { stood := { row := sheetJoinsRow, standIns := [], harness := (true, "092ad8a67491137db2df35b40d58df4e61f9a8f144de63ee475758f8d8d2c036"), looks := true }, kinds := [], alts := [], laidByText := true, laidKinds := [.data, .data, .data, .data, .sentinel, .sentinel, .pinned], laidTests := true, laidLooks := .later }
def SheetJoinsCardSaid : Prop := Claim7.holds Tryz.pinned (.plain (OpenSpec.ofChange sheetJoinsSpec)) sheetJoinsCard

/-- THE TIED CARD OF 'tablefinderlaw08.SheetMoves'. -/
def sheetMovesCard : Claim7 := { stood := { row := sheetMovesRow, standIns := [], harness := (true, "092ad8a67491137db2df35b40d58df4e61f9a8f144de63ee475758f8d8d2c036"), looks := true }, kinds := [], alts := [], laidByText := true, laidKinds := [.data, .data, .data, .data, .sentinel, .sentinel, .pinned], laidTests := true, laidLooks := .later }
def SheetMovesCardSaid : Prop := Claim7.holds Tryz.pinned (.plain (OpenSpec.ofChange sheetMovesSpec)) sheetMovesCard

/-- THE TIED CARD OF 'tablefinderlaw08.SheetSteps'. -/
def sheetStepsCard : Claim7 := { stood := { row := sheetStepsRow, standIns := [], harness := (true, "092ad8a67491137db2df35b40d58df4e61f9a8f144de63ee475758f8d8d2c036"), looks := true }, kinds := [], alts := [], laidByText := true, laidKinds := [.data, .data, .data, .data, .sentinel, .sentinel, .pinned], laidTests := true, laidLooks := .later }
def SheetStepsCardSaid : Prop := Claim7.holds Tryz.pinned (.plain (OpenSpec.ofChange sheetStepsSpec)) sheetStepsCard

/-- THE TIED CARD OF 'tablefinderlaw08.SheetCovers'. -/
def sheetCoversCard : Claim7 := { stood := { row := sheetCoversRow, standIns := [], harness := (true, "092ad8a67491137db2df35b40d58df4e61f9a8f144de63ee475758f8d8d2c036"), looks := true }, kinds := [], alts := [], laidByText := true, laidKinds := [.data, .data, .data, .data, .sentinel, .sentinel, .pinned], laidTests := true, laidLooks := .later }
def SheetCoversCardSaid : Prop := Claim7.holds Tryz.pinned (.plain (OpenSpec.ofChange sheetCoversSpec)) sheetCoversCard

/-- THE SECOND FORM's CARD OF 'tablefinderlaw06.FixedInfers'. -/
def fixedInfersUptoCard : Claim7 := { stood := { row := fixedInfersUptoRow, standIns := [], harness := (true, "092ad8a67491137db2df35b40d58df4e61f9a8f144de63ee475758f8d8d2c036"), looks := true }, kinds := [], alts := [], laidByText := true, laidKinds := [.data, .data, .data, .data, .pinned], laidTests := true, laidLooks := .later }
def FixedInfersUptoCardSaid : Prop := Claim7.holds Tryz.pinned (.plain (OpenSpec.upto fixedInfersSpec)) fixedInfersUptoCard

/-- THE SECOND FORM's CARD OF 'tablefinderlaw06.FixedFinds'. -/
def fixedFindsUptoCard : Claim7 := { stood := { row := fixedFindsUptoRow, standIns := [], harness := (true, "092ad8a67491137db2df35b40d58df4e61f9a8f144de63ee475758f8d8d2c036"), looks := true }, kinds := [], alts := [], laidByText := true, laidKinds := [.data, .data, .data, .data, .pinned], laidTests := true, laidLooks := .later }
def FixedFindsUptoCardSaid : Prop := Claim7.holds Tryz.pinned (.plain (OpenSpec.upto fixedFindsSpec)) fixedFindsUptoCard

/-- THE SECOND FORM's CARD OF 'tablefinderlaw06.FixedSteps'. -/
def fixedStepsUptoCard : Claim7 := { stood := { row := fixedStepsUptoRow, standIns := [], harness := (true, "092ad8a67491137db2df35b40d58df4e61f9a8f144de63ee475758f8d8d2c036"), looks := true }, kinds := [], alts := [], laidByText := true, laidKinds := [.data, .data, .data, .data, .sentinel, .sentinel, .pinned], laidTests := true, laidLooks := .later }
def FixedStepsUptoCardSaid : Prop := Claim7.holds Tryz.pinned (.plain (OpenSpec.upto fixedStepsSpec)) fixedStepsUptoCard

/-- THE SECOND FORM's CARD OF 'tablefinderlaw06.FixedBack'. -/
def fixedBackUptoCard : Claim7 := { stood := { row := fixedBackUptoRow, standIns := [], harness := (true, "092ad8a67491137db2df35b40d58df4e61f9a8f144de63ee475758f8d8d2c036"), looks := true }, kinds := [], alts := [], laidByText := true, laidKinds := [.data, .data, .data, .data, .sentinel, .sentinel, .pinned], laidTests := true, laidLooks := .later }
def FixedBackUptoCardSaid : Prop := Claim7.holds Tryz.pinned (.plain (OpenSpec.upto fixedBackSpec)) fixedBackUptoCard

/-- THE SECOND FORM's CARD OF 'tablefinderlaw08.SheetJoins'. -/
def sheetJoinsUptoCard : Claim7 := { stood := { row := sheetJoinsUptoRow, standIns := [], harness := (true, "092ad8a67491137db2df35b40d58df4e61f9a8f144de63ee475758f8d8d2c036"), looks := true }, kinds := [], alts := [], laidByText := true, laidKinds := [.data, .data, .data, .data, .sentinel, .sentinel, .pinned], laidTests := true, laidLooks := .later }
def SheetJoinsUptoCardSaid : Prop := Claim7.holds Tryz.pinned (.plain (OpenSpec.upto sheetJoinsSpec)) sheetJoinsUptoCard

/-- THE SECOND FORM's CARD OF 'tablefinderlaw08.SheetMoves'. -/
def sheetMovesUptoCard : Claim7 := { stood := { row := sheetMovesUptoRow, standIns := [], harness := (true, "092ad8a67491137db2df35b40d58df4e61f9a8f144de63ee475758f8d8d2c036"), looks := true }, kinds := [], alts := [], laidByText := true, laidKinds := [.data, .data, .data, .data, .sentinel, .sentinel, .pinned], laidTests := true, laidLooks := .later }
def SheetMovesUptoCardSaid : Prop := Claim7.holds Tryz.pinned (.plain (OpenSpec.upto sheetMovesSpec)) sheetMovesUptoCard

/-- THE SECOND FORM's CARD OF 'tablefinderlaw08.SheetSteps'. -/
def sheetStepsUptoCard : Claim7 := { stood := { row := sheetStepsUptoRow, standIns := [], harness := (true, "092ad8a67491137db2df35b40d58df4e61f9a8f144de63ee475758f8d8d2c036"), looks := true }, kinds := [], alts := [], laidByText := true, laidKinds := [.data, .data, .data, .data, .sentinel, .sentinel, .pinned], laidTests := true, laidLooks := .later }
def SheetStepsUptoCardSaid : Prop := Claim7.holds Tryz.pinned (.plain (OpenSpec.upto sheetStepsSpec)) sheetStepsUptoCard

/-- THE SECOND FORM's CARD OF 'tablefinderlaw08.SheetCovers'. -/
def sheetCoversUptoCard : Claim7 := { stood := { row := sheetCoversUptoRow, standIns := [], harness := (true, "092ad8a67491137db2df35b40d58df4e61f9a8f144de63ee475758f8d8d2c036"), looks := true }, kinds := [], alts := [], laidByText := true, laidKinds := [.data, .data, .data, .data, .sentinel, .sentinel, .pinned], laidTests := true, laidLooks := .later }
def SheetCoversUptoCardSaid : Prop := Claim7.holds Tryz.pinned (.plain (OpenSpec.upto sheetCoversSpec)) sheetCoversUptoCard
end Rows
end Go.Proofs.YtacepalmphbnfaaGreatDoor
