/-
  DERIVED. GIVEN WITH THE SEED: THE CARDS: each row of YtacepalmphbnfaaDoorRows.lean that lists a variable, with what it lists TIED to the program's text (the seventh form; the later family's looks); each row that meets fmt, with fmt's text TOLD by the authors' own Lean function (tested against real Go, not proved from fmt's source: count such statements apart). THE CARD IS WHAT COUNTS. Prove the row's statement (the work); the ties are given (YtacepalmphbnfaaDoorTie.lean); close each card by the builder's one call (the guide's Derived/Test/ToyasCard.lean, 'card_holds'). Laid BY PROGRAM, IN A SANDBOX (cutbox-door.mjs). By AI agents, Wed Nov 11 2026. No macro, syntax, notation, axiom, sorry.
-/
import Derived.Test.YtacepalmphbnfaaDoorRows
import GoSem.ClaimSeven
namespace Go.Proofs.YtacepalmphbnfaaDoor
namespace Rows

/-- THE TIED CARD OF 'tablefinderlaw06.FixedGaps'. -/
def fixedGapsCard : Claim7 := { stood := { row := fixedGapsRow, standIns := [], harness := (true, "62f07564c43cd0eef65616d588e8258d8deb68a40c92ed7eed6da276e8e4093e"), looks := false }, kinds := [], alts := [], laidByText := true, laidKinds := [.data, .data, .data, .data, .pinned], laidTests := true, laidLooks := .later }
def FixedGapsCardSaid : Prop := Claim7.holds Tryd.pinned (.plain (OpenSpec.ofChange fixedGapsSpec)) fixedGapsCard

/-- THE SECOND FORM's CARD OF 'tablefinderlaw06.FixedGaps'. -/
def fixedGapsUptoCard : Claim7 := { stood := { row := fixedGapsUptoRow, standIns := [], harness := (true, "62f07564c43cd0eef65616d588e8258d8deb68a40c92ed7eed6da276e8e4093e"), looks := false }, kinds := [], alts := [], laidByText := true, laidKinds := [.data, .data, .data, .data, .pinned], laidTests := true, laidLooks := .later }
def FixedGapsUptoCardSaid : Prop := Claim7.holds Tryd.pinned (.plain (OpenSpec.upto fixedGapsSpec)) fixedGapsUptoCard
end Rows
end Go.Proofs.YtacepalmphbnfaaDoor
