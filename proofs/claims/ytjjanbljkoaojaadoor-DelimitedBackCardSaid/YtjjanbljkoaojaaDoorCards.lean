/-
  DERIVED. GIVEN WITH THE SEED: THE CARDS: each row of YtjjanbljkoaojaaDoorRows.lean that lists a variable, with what it lists TIED to the program's text (the seventh form; the later family's looks); each row that meets fmt, with fmt's text TOLD by the authors' own Lean function (tested against real Go, not proved from fmt's source: count such statements apart). THE CARD IS WHAT COUNTS. Prove the row's statement (the work); the ties are given (YtjjanbljkoaojaaDoorTie.lean); close each card by the builder's one call (the guide's Derived/Test/ToyasCard.lean, 'card_holds'). Laid BY PROGRAM, IN A SANDBOX (cutbox-door.mjs). By AI agents, Wed Nov 11 2026. No macro, syntax, notation, axiom, sorry.
-/
import Derived.Test.YtjjanbljkoaojaaDoorRows
import GoSem.ClaimSeven
namespace Go.Proofs.YtjjanbljkoaojaaDoor
namespace Rows

/-- THE TIED CARD OF 'tablefinderlaw04.DelimitedLimits'. -/
def delimitedLimitsCard : Claim7 := { stood := { row := delimitedLimitsRow, standIns := [], harness := (true, "c29cebfe262fa61670a37b6b4dc62e2ba1312c3d18cd45656993c144951978df"), looks := false }, kinds := [], alts := [], laidByText := true, laidKinds := [.data, .pinned], laidTests := true, laidLooks := .later }
def DelimitedLimitsCardSaid : Prop := Claim7.holds Tryd.pinned (.plain (OpenSpec.ofChange delimitedLimitsSpec)) delimitedLimitsCard

/-- THE TIED CARD OF 'tablefinderlaw04.DelimitedBack'. -/
def delimitedBackCard : Claim7 := { stood := { row := delimitedBackRow, standIns := [], harness := (true, "c29cebfe262fa61670a37b6b4dc62e2ba1312c3d18cd45656993c144951978df"), looks := false }, kinds := [], alts := [], laidByText := true, laidKinds := [.data, .data, .data, .data, .pinned], laidTests := true, laidLooks := .later }
def DelimitedBackCardSaid : Prop := Claim7.holds Tryd.pinned (.plain (OpenSpec.ofChange delimitedBackSpec)) delimitedBackCard

/-- THE TIED CARD OF 'tablefinderlaw04.DelimitedJoins'. -/
def delimitedJoinsCard : Claim7 := { stood := { row := delimitedJoinsRow, standIns := [], harness := (true, "c29cebfe262fa61670a37b6b4dc62e2ba1312c3d18cd45656993c144951978df"), looks := false }, kinds := [], alts := [], laidByText := true, laidKinds := [.data, .data, .data, .data, .pinned], laidTests := true, laidLooks := .later }
def DelimitedJoinsCardSaid : Prop := Claim7.holds Tryd.pinned (.plain (OpenSpec.ofChange delimitedJoinsSpec)) delimitedJoinsCard

/-- THE SECOND FORM's CARD OF 'tablefinderlaw04.DelimitedLimits'. -/
def delimitedLimitsUptoCard : Claim7 := { stood := { row := delimitedLimitsUptoRow, standIns := [], harness := (true, "c29cebfe262fa61670a37b6b4dc62e2ba1312c3d18cd45656993c144951978df"), looks := false }, kinds := [], alts := [], laidByText := true, laidKinds := [.data, .pinned], laidTests := true, laidLooks := .later }
def DelimitedLimitsUptoCardSaid : Prop := Claim7.holds Tryd.pinned (.plain (OpenSpec.upto delimitedLimitsSpec)) delimitedLimitsUptoCard

/-- THE SECOND FORM's CARD OF 'tablefinderlaw04.DelimitedBack'. -/
def delimitedBackUptoCard : Claim7 := { stood := { row := delimitedBackUptoRow, standIns := [], harness := (true, "c29cebfe262fa61670a37b6b4dc62e2ba1312c3d18cd45656993c144951978df"), looks := false }, kinds := [], alts := [], laidByText := true, laidKinds := [.data, .data, .data, .data, .pinned], laidTests := true, laidLooks := .later }
def DelimitedBackUptoCardSaid : Prop := Claim7.holds Tryd.pinned (.plain (OpenSpec.upto delimitedBackSpec)) delimitedBackUptoCard

/-- THE SECOND FORM's CARD OF 'tablefinderlaw04.DelimitedJoins'. -/
def delimitedJoinsUptoCard : Claim7 := { stood := { row := delimitedJoinsUptoRow, standIns := [], harness := (true, "c29cebfe262fa61670a37b6b4dc62e2ba1312c3d18cd45656993c144951978df"), looks := false }, kinds := [], alts := [], laidByText := true, laidKinds := [.data, .data, .data, .data, .pinned], laidTests := true, laidLooks := .later }
def DelimitedJoinsUptoCardSaid : Prop := Claim7.holds Tryd.pinned (.plain (OpenSpec.upto delimitedJoinsSpec)) delimitedJoinsUptoCard
end Rows
end Go.Proofs.YtjjanbljkoaojaaDoor
