/-
  DERIVED. GIVEN WITH THE SEED: THE CARDS: each row of YtmidaophnbdcdaaGreatDoorRows.lean that lists a variable, with what it lists TIED to the program's text (the seventh form; the later family's looks); each row that meets fmt, with fmt's text TOLD by the authors' own Lean function (tested against real Go, not proved from fmt's source: count such statements apart). THE CARD IS WHAT COUNTS. Prove the row's statement (the work); the ties are given (YtmidaophnbdcdaaGreatDoorTie.lean); close each card by the builder's one call (the guide's Derived/Test/ToyasCard.lean, 'card_holds'). Laid BY PROGRAM, IN A SANDBOX (cutbox-door.mjs). By AI agents, Wed Nov 11 2026. No macro, syntax, notation, axiom, sorry.
-/
import Derived.Test.YtmidaophnbdcdaaGreatDoorRows
import GoSem.ClaimSeven
namespace Go.Proofs.YtmidaophnbdcdaaGreatDoor
namespace Rows

/-- THE TIED CARD OF 'tablefinderlaw07.NestedTables'. -/
def nestedTablesCard : Claim7 := { stood := { row := nestedTablesRow, standIns := [], harness := (true, "eefae32c0c732fa34c21c7e2dd7b707e40a161fae3211a4af5c8e92b76539ba6"), looks := true }, kinds := [], alts := [], laidByText := true, laidKinds := [.data, .data, .data, .data, .widerDeep, .pinned], laidTests := true, laidLooks := .later }
def NestedTablesCardSaid : Prop := Claim7.holds Tryz.pinned (.plain (OpenSpec.ofChange nestedTablesSpec)) nestedTablesCard

/-- THE TIED CARD OF 'tablefinderlaw07.NestedAlone'. -/
def nestedAloneCard : Claim7 := { stood := { row := nestedAloneRow, standIns := [], harness := (true, "eefae32c0c732fa34c21c7e2dd7b707e40a161fae3211a4af5c8e92b76539ba6"), looks := true }, kinds := [], alts := [], laidByText := true, laidKinds := [.data, .data, .data, .data, .widerDeep, .pinned], laidTests := true, laidLooks := .later }
def NestedAloneCardSaid : Prop := Claim7.holds Tryz.pinned (.plain (OpenSpec.ofChange nestedAloneSpec)) nestedAloneCard

/-- THE TIED CARD OF 'tablefinderlaw07.NestedSteps'. -/
def nestedStepsCard : Claim7 := { stood := { row := nestedStepsRow, standIns := [], harness := (true, "eefae32c0c732fa34c21c7e2dd7b707e40a161fae3211a4af5c8e92b76539ba6"), looks := true }, kinds := [], alts := [], laidByText := true, laidKinds := [.data, .data, .data, .data, .widerDeep, .pinned], laidTests := true, laidLooks := .later }
def NestedStepsCardSaid : Prop := Claim7.holds Tryz.pinned (.plain (OpenSpec.ofChange nestedStepsSpec)) nestedStepsCard

/-- THE TIED CARD OF 'tablefinderlaw07.NestedBack'. -/
def nestedBackCard : Claim7 := { stood := { row := nestedBackRow, standIns := [], harness := (true, "eefae32c0c732fa34c21c7e2dd7b707e40a161fae3211a4af5c8e92b76539ba6"), looks := true }, kinds := [], alts := [], laidByText := true, laidKinds := [.data, .data, .data, .data, .widerDeep, .pinned], laidTests := true, laidLooks := .later }
def NestedBackCardSaid : Prop := Claim7.holds Tryz.pinned (.plain (OpenSpec.ofChange nestedBackSpec)) nestedBackCard

/-- THE SECOND FORM's CARD OF 'tablefinderlaw07.NestedTables'. -/
def nestedTablesUptoCard : Claim7 := { stood := { row := nestedTablesUptoRow, standIns := [], harness := (true, "eefae32c0c732fa34c21c7e2dd7b707e40a161fae3211a4af5c8e92b76539ba6"), looks := true }, kinds := [], alts := [], laidByText := true, laidKinds := [.data, .data, .data, .data, .widerDeep, .pinned], laidTests := true, laidLooks := .later }
def NestedTablesUptoCardSaid : Prop := Claim7.holds Tryz.pinned (.plain (OpenSpec.upto nestedTablesSpec)) nestedTablesUptoCard

/-- THE SECOND FORM's CARD OF 'tablefinderlaw07.NestedAlone'. -/
def nestedAloneUptoCard : Claim7 := { stood := { row := nestedAloneUptoRow, standIns := [], harness := (true, "eefae32c0c732fa34c21c7e2dd7b707e40a161fae3211a4af5c8e92b76539ba6"), looks := true }, kinds := [], alts := [], laidByText := true, laidKinds := [.data, .data, .data, .data, .widerDeep, .pinned], laidTests := true, laidLooks := .later }
def NestedAloneUptoCardSaid : Prop := Claim7.holds Tryz.pinned (.plain (OpenSpec.upto nestedAloneSpec)) nestedAloneUptoCard

/-- THE SECOND FORM's CARD OF 'tablefinderlaw07.NestedSteps'. -/
def nestedStepsUptoCard : Claim7 := { stood := { row := nestedStepsUptoRow, standIns := [], harness := (true, "eefae32c0c732fa34c21c7e2dd7b707e40a161fae3211a4af5c8e92b76539ba6"), looks := true }, kinds := [], alts := [], laidByText := true, laidKinds := [.data, .data, .data, .data, .widerDeep, .pinned], laidTests := true, laidLooks := .later }
def NestedStepsUptoCardSaid : Prop := Claim7.holds Tryz.pinned (.plain (OpenSpec.upto nestedStepsSpec)) nestedStepsUptoCard

/-- THE SECOND FORM's CARD OF 'tablefinderlaw07.NestedBack'. -/
def nestedBackUptoCard : Claim7 := { stood := { row := nestedBackUptoRow, standIns := [], harness := (true, "eefae32c0c732fa34c21c7e2dd7b707e40a161fae3211a4af5c8e92b76539ba6"), looks := true }, kinds := [], alts := [], laidByText := true, laidKinds := [.data, .data, .data, .data, .widerDeep, .pinned], laidTests := true, laidLooks := .later }
def NestedBackUptoCardSaid : Prop := Claim7.holds Tryz.pinned (.plain (OpenSpec.upto nestedBackSpec)) nestedBackUptoCard
end Rows
end Go.Proofs.YtmidaophnbdcdaaGreatDoor
