/-
  DERIVED. GIVEN WITH THE SEED: THE CARDS: each row of YtjjanbljkoaojaaGreatDoorRows.lean that lists a variable, with what it lists TIED to the program's text (the seventh form; the later family's looks); each row that meets fmt, with fmt's text TOLD by the authors' own Lean function (tested against real Go, not proved from fmt's source: count such statements apart). THE CARD IS WHAT COUNTS. Prove the row's statement (the work); the ties are given (YtjjanbljkoaojaaGreatDoorTie.lean); close each card by the builder's one call (the guide's Derived/Test/ToyasCard.lean, 'card_holds'). Laid BY PROGRAM, IN A SANDBOX (cutbox-door.mjs). By AI agents, Wed Nov 11 2026. No macro, syntax, notation, axiom, sorry.
-/
import Derived.Test.YtjjanbljkoaojaaGreatDoorRows
import GoSem.ClaimSeven
namespace Go.Proofs.YtjjanbljkoaojaaGreatDoor
namespace Rows

/-- THE TIED CARD OF 'tablefinderlaw04.DelimitedSteps'. -/
def delimitedStepsCard : Claim7 := { stood := { row := delimitedStepsRow, standIns := [], harness := (true, "deb20fe6dc18ea97e128540293a3cca8d13829e93d410aa292e3c1a837428928"), looks := false }, kinds := [], alts := [], laidByText := true, laidKinds := [.data, .data, .data, .data, .pinned], laidTests := true, laidLooks := .later }
def DelimitedStepsCardSaid : Prop := Claim7.holds Tryz.pinned (.plain (OpenSpec.ofChange delimitedStepsSpec)) delimitedStepsCard

/-- THE SECOND FORM's CARD OF 'tablefinderlaw04.DelimitedSteps'. -/
def delimitedStepsUptoCard : Claim7 := { stood := { row := delimitedStepsUptoRow, standIns := [], harness := (true, "deb20fe6dc18ea97e128540293a3cca8d13829e93d410aa292e3c1a837428928"), looks := false }, kinds := [], alts := [], laidByText := true, laidKinds := [.data, .data, .data, .data, .pinned], laidTests := true, laidLooks := .later }
def DelimitedStepsUptoCardSaid : Prop := Claim7.holds Tryz.pinned (.plain (OpenSpec.upto delimitedStepsSpec)) delimitedStepsUptoCard
end Rows
end Go.Proofs.YtjjanbljkoaojaaGreatDoor
