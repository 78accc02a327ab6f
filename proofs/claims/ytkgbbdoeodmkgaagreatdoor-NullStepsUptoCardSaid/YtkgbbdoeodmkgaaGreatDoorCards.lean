/-
  DERIVED. GIVEN WITH THE SEED: THE CARDS: each row of YtkgbbdoeodmkgaaGreatDoorRows.lean that lists a variable, with what it lists TIED to the program's text (the seventh form; the later family's looks); each row that meets fmt, with fmt's text TOLD by the authors' own Lean function (tested against real Go, not proved from fmt's source: count such statements apart). THE CARD IS WHAT COUNTS. Prove the row's statement (the work); the ties are given (YtkgbbdoeodmkgaaGreatDoorTie.lean); close each card by the builder's one call (the guide's Derived/Test/ToyasCard.lean, 'card_holds'). Laid BY PROGRAM, IN A SANDBOX (cutbox-door.mjs). By AI agents, Wed Nov 11 2026. No macro, syntax, notation, axiom, sorry.
-/
import Derived.Test.YtkgbbdoeodmkgaaGreatDoorRows
import GoSem.ClaimSeven
namespace Go.Proofs.YtkgbbdoeodmkgaaGreatDoor
namespace Rows

/-- THE TIED CARD OF 'tablefinderlaw10.NullTwice'. -/
def nullTwiceCard : Claim7 := { stood := { row := nullTwiceRow, standIns := [], harness := (true, "248781ee287ba6a846d6840eddbcc25212b8ba53492a7ad409e612ea9bbf72ae"), looks := false }, kinds := [], alts := [], laidByText := true, laidKinds := [.data, .data, .data, .data, .widerDeep, .widerDeep, .pinned], laidTests := true, laidLooks := .later }
def NullTwiceCardSaid : Prop := Claim7.holds Tryz.pinned (.plain (OpenSpec.ofChange nullTwiceSpec)) nullTwiceCard

/-- THE TIED CARD OF 'tablefinderlaw10.NullSteps'. -/
def nullStepsCard : Claim7 := { stood := { row := nullStepsRow, standIns := [], harness := (true, "248781ee287ba6a846d6840eddbcc25212b8ba53492a7ad409e612ea9bbf72ae"), looks := false }, kinds := [], alts := [], laidByText := true, laidKinds := [.data, .data, .data, .data, .widerDeep, .widerDeep, .pinned], laidTests := true, laidLooks := .later }
def NullStepsCardSaid : Prop := Claim7.holds Tryz.pinned (.plain (OpenSpec.ofChange nullStepsSpec)) nullStepsCard

/-- THE SECOND FORM's CARD OF 'tablefinderlaw10.NullTwice'. -/
def nullTwiceUptoCard : Claim7 := { stood := { row := nullTwiceUptoRow, standIns := [], harness := (true, "248781ee287ba6a846d6840eddbcc25212b8ba53492a7ad409e612ea9bbf72ae"), looks := false }, kinds := [], alts := [], laidByText := true, laidKinds := [.data, .data, .data, .data, .widerDeep, .widerDeep, .pinned], laidTests := true, laidLooks := .later }
def NullTwiceUptoCardSaid : Prop := Claim7.holds Tryz.pinned (.plain (OpenSpec.upto nullTwiceSpec)) nullTwiceUptoCard

/-- THE SECOND FORM's CARD OF 'tablefinderlaw10.NullSteps'. -/
def nullStepsUptoCard : Claim7 := { stood := { row := nullStepsUptoRow, standIns := [], harness := (true, "248781ee287ba6a846d6840eddbcc25212b8ba53492a7ad409e612ea9bbf72ae"), looks := false }, kinds := [], alts := [], laidByText := true, laidKinds := [.data, .data, .data, .data, .widerDeep, .widerDeep, .pinned], laidTests := true, laidLooks := .later }
def NullStepsUptoCardSaid : Prop := Claim7.holds Tryz.pinned (.plain (OpenSpec.upto nullStepsSpec)) nullStepsUptoCard
end Rows
end Go.Proofs.YtkgbbdoeodmkgaaGreatDoor
