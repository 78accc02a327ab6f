/-
  DERIVED. GIVEN WITH THE SEED: THE CARDS: each row of YtjecgoddmkaboaaGreatDoorRows.lean that lists a variable, with what it lists TIED to the program's text (the seventh form; the later family's looks); each row that meets fmt, with fmt's text TOLD by the authors' own Lean function (tested against real Go, not proved from fmt's source: count such statements apart). THE CARD IS WHAT COUNTS. Prove the row's statement (the work); the ties are given (YtjecgoddmkaboaaGreatDoorTie.lean); close each card by the builder's one call (the guide's Derived/Test/ToyasCard.lean, 'card_holds'). Laid BY PROGRAM, IN A SANDBOX (cutbox-door.mjs). By AI agents, Wed Nov 11 2026. No macro, syntax, notation, axiom, sorry.
-/
import Derived.Test.YtjecgoddmkaboaaGreatDoorRows
import GoSem.ClaimSeven
namespace Go.Proofs.YtjecgoddmkaboaaGreatDoor
namespace Rows

/-- THE TIED CARD OF 'tablefinderlaw11.TypesDays'. -/
def typesDaysCard : Claim7 := { stood := { row := typesDaysRow, standIns := [], harness := (true, "ad21a5c0fba02c74a328c8e294f3946b7460f39c6c0f5b5e39007c879d561940"), looks := true }, kinds := [], alts := [], laidByText := true, laidKinds := [.data, .data, .data, .data, .sentinel, .sentinel, .widerDeep, .pinned], laidTests := true, laidLooks := .later }
def TypesDaysCardSaid : Prop := Claim7.holds Tryz.pinned (.plain (OpenSpec.ofChange typesDaysSpec)) typesDaysCard

/-- THE SECOND FORM's CARD OF 'tablefinderlaw11.TypesDays'. -/
def typesDaysUptoCard : Claim7 := { stood := { row := typesDaysUptoRow, standIns := [], harness := (true, "ad21a5c0fba02c74a328c8e294f3946b7460f39c6c0f5b5e39007c879d561940"), looks := true }, kinds := [], alts := [], laidByText := true, laidKinds := [.data, .data, .data, .data, .sentinel, .sentinel, .widerDeep, .pinned], laidTests := true, laidLooks := .later }
def TypesDaysUptoCardSaid : Prop := Claim7.holds Tryz.pinned (.plain (OpenSpec.upto typesDaysSpec)) typesDaysUptoCard
end Rows
end Go.Proofs.YtjecgoddmkaboaaGreatDoor
