/-
  DERIVED. GIVEN WITH THE SEED: THE CARDS: each row of YtkppgdialedoeaaGreatDoorRows.lean that lists a variable, with what it lists TIED to the program's text (the seventh form; the later family's looks); each row that meets fmt, with fmt's text TOLD by the authors' own Lean function (tested against real Go, not proved from fmt's source: count such statements apart). THE CARD IS WHAT COUNTS. Prove the row's statement (the work); the ties are given (YtkppgdialedoeaaGreatDoorTie.lean); close each card by the builder's one call (the guide's Derived/Test/ToyasCard.lean, 'card_holds'). Laid BY PROGRAM, IN A SANDBOX (cutbox-door.mjs). By AI agents, Wed Nov 11 2026. No macro, syntax, notation, axiom, sorry.
-/
import Derived.Test.YtkppgdialedoeaaGreatDoorRows
import GoSem.ClaimSeven
namespace Go.Proofs.YtkppgdialedoeaaGreatDoor
namespace Rows

/-- THE TIED CARD OF 'tablefinderlaw01.FractionSteps'. -/
def fractionStepsCard : Claim7 := { stood := { row := fractionStepsRow, standIns := [], harness := (true, "4d3787b7aba4db470cca96a11cd89e5025c72c779b10f42c9f1d1c9664ec1b6e"), looks := false }, kinds := [], alts := [], laidByText := true, laidKinds := [.data, .widerDeep, .pinned], laidTests := true, laidLooks := .later }
def FractionStepsCardSaid : Prop := Claim7.holds Tryz.pinned (.plain (OpenSpec.ofChange fractionStepsSpec)) fractionStepsCard

/-- THE TIED CARD OF 'tablefinderlaw01.FractionRules'. -/
def fractionRulesCard : Claim7 := { stood := { row := fractionRulesRow, standIns := [], harness := (true, "4d3787b7aba4db470cca96a11cd89e5025c72c779b10f42c9f1d1c9664ec1b6e"), looks := false }, kinds := [], alts := [], laidByText := true, laidKinds := [.data, .widerDeep, .pinned], laidTests := true, laidLooks := .later }
def FractionRulesCardSaid : Prop := Claim7.holds Tryz.pinned (.plain (OpenSpec.ofChange fractionRulesSpec)) fractionRulesCard

/-- THE TIED CARD OF 'tablefinderlaw01.FractionBigs'. -/
def fractionBigsCard : Claim7 := { stood := { row := fractionBigsRow, standIns := [], harness := (true, "4d3787b7aba4db470cca96a11cd89e5025c72c779b10f42c9f1d1c9664ec1b6e"), looks := false }, kinds := [], alts := [], laidByText := true, laidKinds := [.data, .widerDeep, .pinned], laidTests := true, laidLooks := .later }
def FractionBigsCardSaid : Prop := Claim7.holds Tryz.pinned (.plain (OpenSpec.ofChange fractionBigsSpec)) fractionBigsCard

/-- THE TIED CARD OF 'tablefinderlaw01.FractionDecimals'. -/
def fractionDecimalsCard : Claim7 := { stood := { row := fractionDecimalsRow, standIns := [], harness := (true, "4d3787b7aba4db470cca96a11cd89e5025c72c779b10f42c9f1d1c9664ec1b6e"), looks := false }, kinds := [], alts := [], laidByText := true, laidKinds := [.data, .data, .data, .data, .widerDeep, .pinned], laidTests := true, laidLooks := .later }
def FractionDecimalsCardSaid : Prop := Claim7.holds Tryz.pinned (.plain (OpenSpec.ofChange fractionDecimalsSpec)) fractionDecimalsCard

/-- THE SECOND FORM's CARD OF 'tablefinderlaw01.FractionSteps'. -/
def fractionStepsUptoCard : Claim7 := { stood := { row := fractionStepsUptoRow, standIns := [], harness := (true, "4d3787b7aba4db470cca96a11cd89e5025c72c779b10f42c9f1d1c9664ec1b6e"), looks := false }, kinds := [], alts := [], laidByText := true, laidKinds := [.data, .widerDeep, .pinned], laidTests := true, laidLooks := .later }
def FractionStepsUptoCardSaid : Prop := Claim7.holds Tryz.pinned (.plain (OpenSpec.upto fractionStepsSpec)) fractionStepsUptoCard

/-- THE SECOND FORM's CARD OF 'tablefinderlaw01.FractionRules'. -/
def fractionRulesUptoCard : Claim7 := { stood := { row := fractionRulesUptoRow, standIns := [], harness := (true, "4d3787b7aba4db470cca96a11cd89e5025c72c779b10f42c9f1d1c9664ec1b6e"), looks := false }, kinds := [], alts := [], laidByText := true, laidKinds := [.data, .widerDeep, .pinned], laidTests := true, laidLooks := .later }
def FractionRulesUptoCardSaid : Prop := Claim7.holds Tryz.pinned (.plain (OpenSpec.upto fractionRulesSpec)) fractionRulesUptoCard

/-- THE SECOND FORM's CARD OF 'tablefinderlaw01.FractionBigs'. -/
def fractionBigsUptoCard : Claim7 := { stood := { row := fractionBigsUptoRow, standIns := [], harness := (true, "4d3787b7aba4db470cca96a11cd89e5025c72c779b10f42c9f1d1c9664ec1b6e"), looks := false }, kinds := [], alts := [], laidByText := true, laidKinds := [.data, .widerDeep, .pinned], laidTests := true, laidLooks := .later }
def FractionBigsUptoCardSaid : Prop := Claim7.holds Tryz.pinned (.plain (OpenSpec.upto fractionBigsSpec)) fractionBigsUptoCard

/-- THE SECOND FORM's CARD OF 'tablefinderlaw01.FractionDecimals'. -/
def fractionDecimalsUptoCard : Claim7 := { stood := { row := fractionDecimalsUptoRow, standIns := [], harness := (true, "4d3787b7aba4db470cca96a11cd89e5025c72c779b10f42c9f1d1c9664ec1b6e"), looks := false }, kinds := [], alts := [], laidByText := true, laidKinds := [.data, .data, .data, .data, .widerDeep, .pinned], laidTests := true, laidLooks := .later }
def FractionDecimalsUptoCardSaid : Prop := Claim7.holds Tryz.pinned (.plain (OpenSpec.upto fractionDecimalsSpec)) fractionDecimalsUptoCard
end Rows
end Go.Proofs.YtkppgdialedoeaaGreatDoor
