/-
  DERIVED. GIVEN WITH THE SEED: THE CARDS: each row of YtkppgdialedoeaaDoorRows.lean that lists a variable, with what it lists TIED to the program's text (the seventh form; the later family's looks); each row that meets fmt, with fmt's text TOLD by the authors' own Lean function (tested against real Go, not proved from fmt's source: count such statements apart). THE CARD IS WHAT COUNTS. Prove the row's statement (the work); the ties are given (YtkppgdialedoeaaDoorTie.lean); close each card by the builder's one call (the guide's Derived/Test/ToyasCard.lean, 'card_holds'). Laid BY PROGRAM, IN A SANDBOX (cutbox-door.mjs). By AI agents, Wed Nov 11 2026. No macro, syntax, notation, axiom, sorry.
-/
import Derived.Test.YtkppgdialedoeaaDoorRows
import GoSem.ClaimSeven
namespace Go.Proofs.YtkppgdialedoeaaDoor
namespace Rows

/-- THE TIED CARD OF 'tablefinderlaw27.AssignmentBest'. -/
def assignmentBestCard : Claim7 := { stood := { row := assignmentBestRow, standIns := [], harness := (true, "7038a5f87031c069a12aadcf8f20236c07d5fad2c61be91efdd820855791e6b9"), looks := false }, kinds := [], alts := [], laidByText := true, laidKinds := [.widerDeep], laidTests := true, laidLooks := .later }
def AssignmentBestCardSaid : Prop := Claim7.holds Tryd.pinned (.plain (OpenSpec.ofChange assignmentBestSpec)) assignmentBestCard

/-- THE TIED CARD OF 'tablefinderlaw27.AssignmentScales'. -/
def assignmentScalesCard : Claim7 := { stood := { row := assignmentScalesRow, standIns := [], harness := (true, "7038a5f87031c069a12aadcf8f20236c07d5fad2c61be91efdd820855791e6b9"), looks := false }, kinds := [], alts := [], laidByText := true, laidKinds := [.widerDeep], laidTests := true, laidLooks := .later }
def AssignmentScalesCardSaid : Prop := Claim7.holds Tryd.pinned (.plain (OpenSpec.ofChange assignmentScalesSpec)) assignmentScalesCard

/-- THE TIED CARD OF 'tablefinderlaw27.AssignmentGrows'. -/
def assignmentGrowsCard : Claim7 := { stood := { row := assignmentGrowsRow, standIns := [], harness := (true, "7038a5f87031c069a12aadcf8f20236c07d5fad2c61be91efdd820855791e6b9"), looks := false }, kinds := [], alts := [], laidByText := true, laidKinds := [.widerDeep], laidTests := true, laidLooks := .later }
def AssignmentGrowsCardSaid : Prop := Claim7.holds Tryd.pinned (.plain (OpenSpec.ofChange assignmentGrowsSpec)) assignmentGrowsCard

/-- THE TIED CARD OF 'tablefinderlaw27.AssignmentRow'. -/
def assignmentRowCard : Claim7 := { stood := { row := assignmentRowRow, standIns := [], harness := (true, "7038a5f87031c069a12aadcf8f20236c07d5fad2c61be91efdd820855791e6b9"), looks := false }, kinds := [], alts := [], laidByText := true, laidKinds := [.widerDeep], laidTests := true, laidLooks := .later }
def AssignmentRowCardSaid : Prop := Claim7.holds Tryd.pinned (.plain (OpenSpec.ofChange assignmentRowSpec)) assignmentRowCard

/-- THE TIED CARD OF 'tablefinderlaw27.AssignmentWeights'. -/
def assignmentWeightsCard : Claim7 := { stood := { row := assignmentWeightsRow, standIns := [], harness := (true, "7038a5f87031c069a12aadcf8f20236c07d5fad2c61be91efdd820855791e6b9"), looks := false }, kinds := [], alts := [], laidByText := true, laidKinds := [.widerDeep], laidTests := true, laidLooks := .later }
def AssignmentWeightsCardSaid : Prop := Claim7.holds Tryd.pinned (.plain (OpenSpec.ofChange assignmentWeightsSpec)) assignmentWeightsCard

/-- THE TIED CARD OF 'tablefinderlaw27.AssignmentMost'. -/
def assignmentMostCard : Claim7 := { stood := { row := assignmentMostRow, standIns := [], harness := (true, "7038a5f87031c069a12aadcf8f20236c07d5fad2c61be91efdd820855791e6b9"), looks := false }, kinds := [], alts := [], laidByText := true, laidKinds := [.widerDeep], laidTests := true, laidLooks := .later }
def AssignmentMostCardSaid : Prop := Claim7.holds Tryd.pinned (.plain (OpenSpec.ofChange assignmentMostSpec)) assignmentMostCard

/-- THE TIED CARD OF 'tablefinderlaw01.FractionOrder'. -/
def fractionOrderCard : Claim7 := { stood := { row := fractionOrderRow, standIns := [], harness := (true, "7038a5f87031c069a12aadcf8f20236c07d5fad2c61be91efdd820855791e6b9"), looks := false }, kinds := [], alts := [], laidByText := true, laidKinds := [.data, .widerDeep, .pinned], laidTests := true, laidLooks := .later }
def FractionOrderCardSaid : Prop := Claim7.holds Tryd.pinned (.plain (OpenSpec.ofChange fractionOrderSpec)) fractionOrderCard

/-- THE TIED CARD OF 'tablefinderlaw01.FractionDivides'. -/
def fractionDividesCard : Claim7 := { stood := { row := fractionDividesRow, standIns := [], harness := (true, "7038a5f87031c069a12aadcf8f20236c07d5fad2c61be91efdd820855791e6b9"), looks := false }, kinds := [], alts := [], laidByText := true, laidKinds := [.data, .widerDeep, .pinned], laidTests := true, laidLooks := .later }
def FractionDividesCardSaid : Prop := Claim7.holds Tryd.pinned (.plain (OpenSpec.ofChange fractionDividesSpec)) fractionDividesCard

/-- THE SECOND FORM's CARD OF 'tablefinderlaw27.AssignmentBest'. -/
def assignmentBestUptoCard : Claim7 := { stood := { row := assignmentBestUptoRow, standIns := [], harness := (true, "7038a5f87031c069a12aadcf8f20236c07d5fad2c61be91efdd820855791e6b9"), looks := false }, kinds := [], alts := [], laidByText := true, laidKinds := [.widerDeep], laidTests := true, laidLooks := .later }
def AssignmentBestUptoCardSaid : Prop := Claim7.holds Tryd.pinned (.plain (OpenSpec.upto assignmentBestSpec)) assignmentBestUptoCard

/-- THE SECOND FORM's CARD OF 'tablefinderlaw27.AssignmentScales'. -/
def assignmentScalesUptoCard : Claim7 := { stood := { row := assignmentScalesUptoRow, standIns := [], harness := (true, "7038a5f87031c069a12aadcf8f20236c07d5fad2c61be91efdd820855791e6b9"), looks := false }, kinds := [], alts := [], laidByText := true, laidKinds := [.widerDeep], laidTests := true, laidLooks := .later }
def AssignmentScalesUptoCardSaid : Prop := Claim7.holds Tryd.pinned (.plain (OpenSpec.upto assignmentScalesSpec)) assignmentScalesUptoCard

/-- THE SECOND FORM's CARD OF 'tablefinderlaw27.AssignmentGrows'. -/
def assignmentGrowsUptoCard : Claim7 := { stood := { row := assignmentGrowsUptoRow, standIns := [], harness := (true, "7038a5f87031c069a12aadcf8f20236c07d5fad2c61be91efdd820855791e6b9"), looks := false }, kinds := [], alts := [], laidByText := true, laidKinds := [.widerDeep], laidTests := true, laidLooks := .later }
def AssignmentGrowsUptoCardSaid : Prop := Claim7.holds Tryd.pinned (.plain (OpenSpec.upto assignmentGrowsSpec)) assignmentGrowsUptoCard

/-- THE SECOND FORM's CARD OF 'tablefinderlaw27.AssignmentRow'. -/
def assignmentRowUptoCard : Claim7 := { stood := { row := assignmentRowUptoRow, standIns := [], harness := (true, "7038a5f87031c069a12aadcf8f20236c07d5fad2c61be91efdd820855791e6b9"), looks := false }, kinds := [], alts := [], laidByText := true, laidKinds := [.widerDeep], laidTests := true, laidLooks := .later }
def AssignmentRowUptoCardSaid : Prop := Claim7.holds Tryd.pinned (.plain (OpenSpec.upto assignmentRowSpec)) assignmentRowUptoCard

/-- THE SECOND FORM's CARD OF 'tablefinderlaw27.AssignmentWeights'. -/
def assignmentWeightsUptoCard : Claim7 := { stood := { row := assignmentWeightsUptoRow, standIns := [], harness := (true, "7038a5f87031c069a12aadcf8f20236c07d5fad2c61be91efdd820855791e6b9"), looks := false }, kinds := [], alts := [], laidByText := true, laidKinds := [.widerDeep], laidTests := true, laidLooks := .later }
def AssignmentWeightsUptoCardSaid : Prop := Claim7.holds Tryd.pinned (.plain (OpenSpec.upto assignmentWeightsSpec)) assignmentWeightsUptoCard

/-- THE SECOND FORM's CARD OF 'tablefinderlaw27.AssignmentMost'. -/
def assignmentMostUptoCard : Claim7 := { stood := { row := assignmentMostUptoRow, standIns := [], harness := (true, "7038a5f87031c069a12aadcf8f20236c07d5fad2c61be91efdd820855791e6b9"), looks := false }, kinds := [], alts := [], laidByText := true, laidKinds := [.widerDeep], laidTests := true, laidLooks := .later }
def AssignmentMostUptoCardSaid : Prop := Claim7.holds Tryd.pinned (.plain (OpenSpec.upto assignmentMostSpec)) assignmentMostUptoCard

/-- THE SECOND FORM's CARD OF 'tablefinderlaw01.FractionOrder'. -/
def fractionOrderUptoCard : Claim7 := { stood := { row := fractionOrderUptoRow, standIns := [], harness := (true, "7038a5f87031c069a12aadcf8f20236c07d5fad2c61be91efdd820855791e6b9"), looks := false }, kinds := [], alts := [], laidByText := true, laidKinds := [.data, .widerDeep, .pinned], laidTests := true, laidLooks := .later }
def FractionOrderUptoCardSaid : Prop := Claim7.holds Tryd.pinned (.plain (OpenSpec.upto fractionOrderSpec)) fractionOrderUptoCard

/-- THE SECOND FORM's CARD OF 'tablefinderlaw01.FractionDivides'. -/
def fractionDividesUptoCard : Claim7 := { stood := { row := fractionDividesUptoRow, standIns := [], harness := (true, "7038a5f87031c069a12aadcf8f20236c07d5fad2c61be91efdd820855791e6b9"), looks := false }, kinds := [], alts := [], laidByText := true, laidKinds := [.data, .widerDeep, .pinned], laidTests := true, laidLooks := .later }
def FractionDividesUptoCardSaid : Prop := Claim7.holds Tryd.pinned (.plain (OpenSpec.upto fractionDividesSpec)) fractionDividesUptoCard
end Rows
end Go.Proofs.YtkppgdialedoeaaDoor
