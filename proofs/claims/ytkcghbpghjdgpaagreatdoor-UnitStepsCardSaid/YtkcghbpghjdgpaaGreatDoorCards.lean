/-
  DERIVED. GIVEN WITH THE SEED: THE CARDS: each row of YtkcghbpghjdgpaaGreatDoorRows.lean that lists a variable, with what it lists TIED to the program's text (the seventh form; the later family's looks); each row that meets fmt, with fmt's text TOLD by the authors' own Lean function (tested against real Go, not proved from fmt's source: count such statements apart). THE CARD IS WHAT COUNTS. Prove the row's statement (the work); the ties are given (YtkcghbpghjdgpaaGreatDoorTie.lean); close each card by the builder's one call (the guide's Derived/Test/ToyasCard.lean, 'card_holds'). Laid BY PROGRAM, IN A SANDBOX (cutbox-door.mjs). By AI agents, Wed Nov 11 2026. No macro, syntax, notation, axiom, sorry.
-/
import Derived.Test.YtkcghbpghjdgpaaGreatDoorRows
import GoSem.ClaimSeven
namespace Go.Proofs.YtkcghbpghjdgpaaGreatDoor
namespace Rows

/-- THE TIED CARD OF 'tablefinderlaw12.UnitColumns'. -/
def unitColumnsCard : Claim7 := { stood := { row := unitColumnsRow, standIns := [], harness := (true, "738dcd5a50d1852f383cdd6aa31cca564a893d24aea6de9a29409352f16fb1d8"), looks := true }, kinds := [], alts := [], laidByText := true, laidKinds := [.data, .data, .data, .data, .sentinel, .sentinel, .widerDeep, .widerDeep, .widerDeep, .pinned], laidTests := true, laidLooks := .later }
def UnitColumnsCardSaid : Prop := Claim7.holds Tryz.pinned (.plain (OpenSpec.ofChange unitColumnsSpec)) unitColumnsCard

/-- THE TIED CARD OF 'tablefinderlaw12.UnitCounts'. -/
def unitCountsCard : Claim7 := { stood := { row := unitCountsRow, standIns := [], harness := (true, "738dcd5a50d1852f383cdd6aa31cca564a893d24aea6de9a29409352f16fb1d8"), looks := true }, kinds := [], alts := [], laidByText := true, laidKinds := [.data, .data, .data, .data, .sentinel, .sentinel, .widerDeep, .widerDeep, .widerDeep, .pinned], laidTests := true, laidLooks := .later }
def UnitCountsCardSaid : Prop := Claim7.holds Tryz.pinned (.plain (OpenSpec.ofChange unitCountsSpec)) unitCountsCard

/-- THE TIED CARD OF 'tablefinderlaw12.UnitSteps'. -/
def unitStepsCard : Claim7 := { stood := { row := unitStepsRow, standIns := [], harness := (true, "738dcd5a50d1852f383cdd6aa31cca564a893d24aea6de9a29409352f16fb1d8"), looks := true }, kinds := [], alts := [], laidByText := true, laidKinds := [.data, .data, .data, .data, .sentinel, .sentinel, .widerDeep, .widerDeep, .widerDeep, .pinned], laidTests := true, laidLooks := .later }
def UnitStepsCardSaid : Prop := Claim7.holds Tryz.pinned (.plain (OpenSpec.ofChange unitStepsSpec)) unitStepsCard

/-- THE TIED CARD OF 'tablefinderlaw12.UnitValues'. -/
def unitValuesCard : Claim7 := { stood := { row := unitValuesRow, standIns := [], harness := (true, "738dcd5a50d1852f383cdd6aa31cca564a893d24aea6de9a29409352f16fb1d8"), looks := true }, kinds := [], alts := [], laidByText := true, laidKinds := [.data, .data, .data, .data, .sentinel, .sentinel, .widerDeep, .widerDeep, .widerDeep, .pinned], laidTests := true, laidLooks := .later }
def UnitValuesCardSaid : Prop := Claim7.holds Tryz.pinned (.plain (OpenSpec.ofChange unitValuesSpec)) unitValuesCard

/-- THE SECOND FORM's CARD OF 'tablefinderlaw12.UnitColumns'. -/
def unitColumnsUptoCard : Claim7 := { stood := { row := unitColumnsUptoRow, standIns := [], harness := (true, "738dcd5a50d1852f383cdd6aa31cca564a893d24aea6de9a29409352f16fb1d8"), looks := true }, kinds := [], alts := [], laidByText := true, laidKinds := [.data, .data, .data, .data, .sentinel, .sentinel, .widerDeep, .widerDeep, .widerDeep, .pinned], laidTests := true, laidLooks := .later }
def UnitColumnsUptoCardSaid : Prop := Claim7.holds Tryz.pinned (.plain (OpenSpec.upto unitColumnsSpec)) unitColumnsUptoCard

/-- THE SECOND FORM's CARD OF 'tablefinderlaw12.UnitCounts'. -/
def unitCountsUptoCard : Claim7 := { stood := { row := unitCountsUptoRow, standIns := [], harness := (true, "738dcd5a50d1852f383cdd6aa31cca564a893d24aea6de9a29409352f16fb1d8"), looks := true }, kinds := [], alts := [], laidByText := true, laidKinds := [.data, .data, .data, .data, .sentinel, .sentinel, .widerDeep, .widerDeep, .widerDeep, .pinned], laidTests := true, laidLooks := .later }
def UnitCountsUptoCardSaid : Prop := Claim7.holds Tryz.pinned (.plain (OpenSpec.upto unitCountsSpec)) unitCountsUptoCard

/-- THE SECOND FORM's CARD OF 'tablefinderlaw12.UnitSteps'. -/
def unitStepsUptoCard : Claim7 := { stood := { row := unitStepsUptoRow, standIns := [], harness := (true, "738dcd5a50d1852f383cdd6aa31cca564a893d24aea6de9a29409352f16fb1d8"), looks := true }, kinds := [], alts := [], laidByText := true, laidKinds := [.data, .data, .data, .data, .sentinel, .sentinel, .widerDeep, .widerDeep, .widerDeep, .pinned], laidTests := true, laidLooks := .later }
def UnitStepsUptoCardSaid : Prop := Claim7.holds Tryz.pinned (.plain (OpenSpec.upto unitStepsSpec)) unitStepsUptoCard

/-- THE SECOND FORM's CARD OF 'tablefinderlaw12.UnitValues'. -/
def unitValuesUptoCard : Claim7 := { stood := { row := unitValuesUptoRow, standIns := [], harness := (true, "738dcd5a50d1852f383cdd6aa31cca564a893d24aea6de9a29409352f16fb1d8"), looks := true }, kinds := [], alts := [], laidByText := true, laidKinds := [.data, .data, .data, .data, .sentinel, .sentinel, .widerDeep, .widerDeep, .widerDeep, .pinned], laidTests := true, laidLooks := .later }
def UnitValuesUptoCardSaid : Prop := Claim7.holds Tryz.pinned (.plain (OpenSpec.upto unitValuesSpec)) unitValuesUptoCard
end Rows
end Go.Proofs.YtkcghbpghjdgpaaGreatDoor
