/-
  DERIVED. GIVEN WITH THE SEED: THE CARDS: each row of YthbnileadffpiaaGreatDoorRows.lean that lists a variable, with what it lists TIED to the program's text (the seventh form; the later family's looks); each row that meets fmt, with fmt's text TOLD by the authors' own Lean function (tested against real Go, not proved from fmt's source: count such statements apart). THE CARD IS WHAT COUNTS. Prove the row's statement (the work); the ties are given (YthbnileadffpiaaGreatDoorTie.lean); close each card by the builder's one call (the guide's Derived/Test/ToyasCard.lean, 'card_holds'). Laid BY PROGRAM, IN A SANDBOX (cutbox-door.mjs). By AI agents, Wed Nov 11 2026. No macro, syntax, notation, axiom, sorry.
-/
import Derived.Test.YthbnileadffpiaaGreatDoorRows
import GoSem.ClaimSeven
namespace Go.Proofs.YthbnileadffpiaaGreatDoor
namespace Rows

/-- THE TIED CARD OF 'tablefinderlaw09.HeaderSteps'. -/
def headerStepsCard : Claim7 := { stood := { row := headerStepsRow, standIns := [], harness := (true, "c451e5e5b6653b8f80b9797498ebe4c59ab767082ea760c706c0dd8845a12894"), looks := false }, kinds := [], alts := [], laidByText := true, laidKinds := [.data, .data, .data, .data, .widerDeep, .pinned], laidTests := true, laidLooks := .later }
def HeaderStepsCardSaid : Prop := Claim7.holds Tryz.pinned (.plain (OpenSpec.ofChange headerStepsSpec)) headerStepsCard

/-- THE TIED CARD OF 'tablefinderlaw09.HeaderNames'. -/
def headerNamesCard : Claim7 := { stood := { row := headerNamesRow, standIns := [], harness := (true, "c451e5e5b6653b8f80b9797498ebe4c59ab767082ea760c706c0dd8845a12894"), looks := false }, kinds := [], alts := [], laidByText := true, laidKinds := [.data, .data, .data, .data, .widerDeep, .pinned], laidTests := true, laidLooks := .later }
def HeaderNamesCardSaid : Prop := Claim7.holds Tryz.pinned (.plain (OpenSpec.ofChange headerNamesSpec)) headerNamesCard

/-- THE TIED CARD OF 'tablefinderlaw09.HeaderFinds'. -/
def headerFindsCard : Claim7 := { stood := { row := headerFindsRow, standIns := [], harness := (true, "c451e5e5b6653b8f80b9797498ebe4c59ab767082ea760c706c0dd8845a12894"), looks := false }, kinds := [], alts := [], laidByText := true, laidKinds := [.data, .data, .data, .data, .widerDeep, .pinned], laidTests := true, laidLooks := .later }
def HeaderFindsCardSaid : Prop := Claim7.holds Tryz.pinned (.plain (OpenSpec.ofChange headerFindsSpec)) headerFindsCard

/-- THE TIED CARD OF 'tablefinderlaw09.HeaderRows'. -/
def headerRowsCard : Claim7 := { stood := { row := headerRowsRow, standIns := [], harness := (true, "c451e5e5b6653b8f80b9797498ebe4c59ab767082ea760c706c0dd8845a12894"), looks := false }, kinds := [], alts := [], laidByText := true, laidKinds := [.data, .data, .data, .data, .widerDeep, .pinned], laidTests := true, laidLooks := .later }
def HeaderRowsCardSaid : Prop := Claim7.holds Tryz.pinned (.plain (OpenSpec.ofChange headerRowsSpec)) headerRowsCard

/-- THE SECOND FORM's CARD OF 'tablefinderlaw09.HeaderSteps'. -/
def headerStepsUptoCard : Claim7 := { stood := { row := headerStepsUptoRow, standIns := [], harness := (true, "c451e5e5b6653b8f80b9797498ebe4c59ab767082ea760c706c0dd8845a12894"), looks := false }, kinds := [], alts := [], laidByText := true, laidKinds := [.data, .data, .data, .data, .widerDeep, .pinned], laidTests := true, laidLooks := .later }
def HeaderStepsUptoCardSaid : Prop := Claim7.holds Tryz.pinned (.plain (OpenSpec.upto headerStepsSpec)) headerStepsUptoCard

/-- THE SECOND FORM's CARD OF 'tablefinderlaw09.HeaderNames'. -/
def headerNamesUptoCard : Claim7 := { stood := { row := headerNamesUptoRow, standIns := [], harness := (true, "c451e5e5b6653b8f80b9797498ebe4c59ab767082ea760c706c0dd8845a12894"), looks := false }, kinds := [], alts := [], laidByText := true, laidKinds := [.data, .data, .data, .data, .widerDeep, .pinned], laidTests := true, laidLooks := .later }
def HeaderNamesUptoCardSaid : Prop := Claim7.holds Tryz.pinned (.plain (OpenSpec.upto headerNamesSpec)) headerNamesUptoCard

/-- THE SECOND FORM's CARD OF 'tablefinderlaw09.HeaderFinds'. -/
def headerFindsUptoCard : Claim7 := { stood := { row := headerFindsUptoRow, standIns := [], harness := (true, "c451e5e5b6653b8f80b9797498ebe4c59ab767082ea760c706c0dd8845a12894"), looks := false }, kinds := [], alts := [], laidByText := true, laidKinds := [.data, .data, .data, .data, .widerDeep, .pinned], laidTests := true, laidLooks := .later }
def HeaderFindsUptoCardSaid : Prop := Claim7.holds Tryz.pinned (.plain (OpenSpec.upto headerFindsSpec)) headerFindsUptoCard

/-- THE SECOND FORM's CARD OF 'tablefinderlaw09.HeaderRows'. -/
def headerRowsUptoCard : Claim7 := { stood := { row := headerRowsUptoRow, standIns := [], harness := (true, "c451e5e5b6653b8f80b9797498ebe4c59ab767082ea760c706c0dd8845a12894"), looks := false }, kinds := [], alts := [], laidByText := true, laidKinds := [.data, .data, .data, .data, .widerDeep, .pinned], laidTests := true, laidLooks := .later }
def HeaderRowsUptoCardSaid : Prop := Claim7.holds Tryz.pinned (.plain (OpenSpec.upto headerRowsSpec)) headerRowsUptoCard
end Rows
end Go.Proofs.YthbnileadffpiaaGreatDoor
