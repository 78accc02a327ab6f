/-
  DERIVED. GIVEN WITH THE SEED: THE CARDS: each row of YtdpjcghiegggbaaGreatDoorRows.lean that lists a variable, with what it lists TIED to the program's text (the seventh form; the later family's looks); each row that meets fmt, with fmt's text TOLD by the authors' own Lean function (tested against real Go, not proved from fmt's source: count such statements apart). THE CARD IS WHAT COUNTS. Prove the row's statement (the work); the ties are given (YtdpjcghiegggbaaGreatDoorTie.lean); close each card by the builder's one call (the guide's Derived/Test/ToyasCard.lean, 'card_holds'). Laid BY PROGRAM, IN A SANDBOX (cutbox-door.mjs). By AI agents, Wed Nov 11 2026. No macro, syntax, notation, axiom, sorry.
-/
import Derived.Test.YtdpjcghiegggbaaGreatDoorRows
import GoSem.ClaimSeven
namespace Go.Proofs.YtdpjcghiegggbaaGreatDoor
namespace Rows

/-- THE TIED CARD OF 'tablefinderlaw11.TypesDates'. -/
def typesDatesCard : Claim7 := { stood := { row := typesDatesRow, standIns := [], harness := (true, "99f38b4c2d3389ec540dc1616e25304557fb94a23de83df188182d01974001dc"), looks := true }, kinds := [], alts := [], laidByText := true, laidKinds := [.data, .data, .data, .data, .sentinel, .sentinel, .widerDeep, .pinned], laidTests := true, laidLooks := .later }
def TypesDatesCardSaid : Prop := Claim7.holds Tryz.pinned (.plain (OpenSpec.ofChange typesDatesSpec)) typesDatesCard

/-- THE TIED CARD OF 'tablefinderlaw11.TypesTwice'. -/
def typesTwiceCard : Claim7 := { stood := { row := typesTwiceRow, standIns := [], harness := (true, "99f38b4c2d3389ec540dc1616e25304557fb94a23de83df188182d01974001dc"), looks := true }, kinds := [], alts := [], laidByText := true, laidKinds := [.data, .data, .data, .data, .sentinel, .sentinel, .widerDeep, .pinned], laidTests := true, laidLooks := .later }
def TypesTwiceCardSaid : Prop := Claim7.holds Tryz.pinned (.plain (OpenSpec.ofChange typesTwiceSpec)) typesTwiceCard

/-- THE TIED CARD OF 'tablefinderlaw11.TypesMore'. -/
def typesMoreCard : Claim7 := { stood := { row := typesMoreRow, standIns := [], harness := (true, "99f38b4c2d3389ec540dc1616e25304557fb94a23de83df188182d01974001dc"), looks := true }, kinds := [], alts := [], laidByText := true, laidKinds := [.data, .data, .data, .data, .sentinel, .sentinel, .widerDeep, .data, .pinned], laidTests := true, laidLooks := .later }
def TypesMoreCardSaid : Prop := Claim7.holds Tryz.pinned (.plain (OpenSpec.ofChange typesMoreSpec)) typesMoreCard

/-- THE TIED CARD OF 'tablefinderlaw11.TypesSteps'. -/
def typesStepsCard : Claim7 := { stood := { row := typesStepsRow, standIns := [], harness := (true, "99f38b4c2d3389ec540dc1616e25304557fb94a23de83df188182d01974001dc"), looks := true }, kinds := [], alts := [], laidByText := true, laidKinds := [.data, .data, .data, .data, .sentinel, .sentinel, .widerDeep, .data, .pinned], laidTests := true, laidLooks := .later }
def TypesStepsCardSaid : Prop := Claim7.holds Tryz.pinned (.plain (OpenSpec.ofChange typesStepsSpec)) typesStepsCard

/-- THE TIED CARD OF 'tablefinderlaw11.TypesGuess'. -/
def typesGuessCard : Claim7 := { stood := { row := typesGuessRow, standIns := [], harness := (true, "99f38b4c2d3389ec540dc1616e25304557fb94a23de83df188182d01974001dc"), looks := true }, kinds := [], alts := [], laidByText := true, laidKinds := [.data, .data, .data, .data, .sentinel, .sentinel, .widerDeep, .data, .pinned], laidTests := true, laidLooks := .later }
def TypesGuessCardSaid : Prop := Claim7.holds Tryz.pinned (.plain (OpenSpec.ofChange typesGuessSpec)) typesGuessCard

/-- THE SECOND FORM's CARD OF 'tablefinderlaw11.TypesDates'. -/
def typesDatesUptoCard : Claim7 := { stood := { row := typesDatesUptoRow, standIns := [], harness := (true, "99f38b4c2d3389ec540dc1616e25304557fb94a23de83df188182d01974001dc"), looks := true }, kinds := [], alts := [], laidByText := true, laidKinds := [.data, .data, .data, .data, .sentinel, .sentinel, .widerDeep, .pinned], laidTests := true, laidLooks := .later }
def TypesDatesUptoCardSaid : Prop := Claim7.holds Tryz.pinned (.plain (OpenSpec.upto typesDatesSpec)) typesDatesUptoCard

/-- THE SECOND FORM's CARD OF 'tablefinderlaw11.TypesTwice'. -/
def typesTwiceUptoCard : Claim7 := { stood := { row := typesTwiceUptoRow, standIns := [], harness := (true, "99f38b4c2d3389ec540dc1616e25304557fb94a23de83df188182d01974001dc"), looks := true }, kinds := [], alts := [], laidByText := true, laidKinds := [.data, .data, .data, .data, .sentinel, .sentinel, .widerDeep, .pinned], laidTests := true, laidLooks := .later }
def TypesTwiceUptoCardSaid : Prop := Claim7.holds Tryz.pinned (.plain (OpenSpec.upto typesTwiceSpec)) typesTwiceUptoCard

/-- THE SECOND FORM's CARD OF 'tablefinderlaw11.TypesMore'. -/
def typesMoreUptoCard : Claim7 := { stood := { row := typesMoreUptoRow, standIns := [], harness := (true, "99f38b4c2d3389ec540dc1616e25304557fb94a23de83df188182d01974001dc"), looks := true }, kinds := [], alts := [], laidByText := true, laidKinds := [.data, .data, .data, .data, .sentinel, .sentinel, .widerDeep, .data, .pinned], laidTests := true, laidLooks := .later }
def TypesMoreUptoCardSaid : Prop := Claim7.holds Tryz.pinned (.plain (OpenSpec.upto typesMoreSpec)) typesMoreUptoCard

/-- THE SECOND FORM's CARD OF 'tablefinderlaw11.TypesSteps'. -/
def typesStepsUptoCard : Claim7 := { stood := { row := typesStepsUptoRow, standIns := [], harness := (true, "99f38b4c2d3389ec540dc1616e25304557fb94a23de83df188182d01974001dc"), looks := true }, kinds := [], alts := [], laidByText := true, laidKinds := [.data, .data, .data, .data, .sentinel, .sentinel, .widerDeep, .data, .pinned], laidTests := true, laidLooks := .later }
def TypesStepsUptoCardSaid : Prop := Claim7.holds Tryz.pinned (.plain (OpenSpec.upto typesStepsSpec)) typesStepsUptoCard

/-- THE SECOND FORM's CARD OF 'tablefinderlaw11.TypesGuess'. -/
def typesGuessUptoCard : Claim7 := { stood := { row := typesGuessUptoRow, standIns := [], harness := (true, "99f38b4c2d3389ec540dc1616e25304557fb94a23de83df188182d01974001dc"), looks := true }, kinds := [], alts := [], laidByText := true, laidKinds := [.data, .data, .data, .data, .sentinel, .sentinel, .widerDeep, .data, .pinned], laidTests := true, laidLooks := .later }
def TypesGuessUptoCardSaid : Prop := Claim7.holds Tryz.pinned (.plain (OpenSpec.upto typesGuessSpec)) typesGuessUptoCard
end Rows
end Go.Proofs.YtdpjcghiegggbaaGreatDoor
