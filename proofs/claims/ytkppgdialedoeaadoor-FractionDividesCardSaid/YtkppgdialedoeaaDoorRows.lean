/-
  NARROWER THAN 'FOR EVERY INPUT', by the rows' own cells (each row's printed sentence says how): AssignmentBest: laid · AssignmentScales: laid · AssignmentGrows: laid · AssignmentRow: laid · AssignmentWeights: laid · AssignmentMost: laid · FractionOrder: laid · FractionDivides: laid.
  DERIVED. THE GIVEN ROWS OF THIS SEAT. 8 by the template 'for every input the law returns true; each argument reads behind the call as it read before'; 0 by the template 'total and deterministic' (their statements: YtkppgdialedoeaaDoorTotals.lean).
  GIVEN WITH THE SEED: the statements are not yours to turn. If you find one false, say at which input.
  Laid BY PROGRAM, IN A SANDBOX (cutbox-rows.mjs): the forced cells as the released guide's own fill.sh prints them over the translation 0f9c7bed8e9896f3… (all of the seat's roots in one cut). By AI agents, Wed Nov 11 2026. No macro, syntax, notation, axiom, sorry.
-/
import Derived.Test.YtkppgdialedoeaaDoorChecked
import GoSem.PinnedTables
import GoSem.Claim
import GoSem.ClaimJoined
import GoSem.ClaimMapViews
import Derived.JoinedTies
import Derived.KernelRfl
namespace Go.Proofs.YtkppgdialedoeaaDoor
/- THE CELL 'sum', in the pinned program and in every row, IS THE sha256 OF THE DUMP (.gsa) THAT YtkppgdialedoeaaDoorProg.lean LOADS. Nothing in Lean hashes anything: it is a label: what it is worth is what the hold of that sum in a sandbox is worth. -/
noncomputable def Tryd.pinned : Pinned := { name := "ytkppgdialedoeaadoor", sum := "0f9c7bed8e9896f3cbccba712853751cc50877293808716cb4fccd1924dbdf01", checked := Tryd.checked }
namespace Rows
def none {H : Type} : Left H := { results := [], args := [] }

/- WHAT THE LISTED PACKAGE-LEVEL VARIABLES READ AS WHEN THE CALL BEGINS. Each datum BY PROGRAM (the guide's laid-datum.mjs) off the statement by which the dump's own 'gosem.cut.vars' lays the variable. In a bare row this is a premise. The card (YtkppgdialedoeaaDoorCards.lean) ties it to the program's text. -/
def laid_tablefinder_fraction_one {H : Type} : DataW H := .slice [.lit (.int .u32 1)] []
def laid_unicode_utf8_acceptRanges {H : Type} : DataW H := .agg [.agg [.lit (.int .u8 128), .lit (.int .u8 191)], .agg [.lit (.int .u8 160), .lit (.int .u8 191)], .agg [.lit (.int .u8 128), .lit (.int .u8 159)], .agg [.lit (.int .u8 144), .lit (.int .u8 191)], .agg [.lit (.int .u8 128), .lit (.int .u8 143)], .agg [.lit (.int .u8 0), .lit (.int .u8 0)], .agg [.lit (.int .u8 0), .lit (.int .u8 0)], .agg [.lit (.int .u8 0), .lit (.int .u8 0)], .agg [.lit (.int .u8 0), .lit (.int .u8 0)], .agg [.lit (.int .u8 0), .lit (.int .u8 0)], .agg [.lit (.int .u8 0), .lit (.int .u8 0)], .agg [.lit (.int .u8 0), .lit (.int .u8 0)], .agg [.lit (.int .u8 0), .lit (.int .u8 0)], .agg [.lit (.int .u8 0), .lit (.int .u8 0)], .agg [.lit (.int .u8 0), .lit (.int .u8 0)], .agg [.lit (.int .u8 0), .lit (.int .u8 0)]]
/-- One of Go's own tables, pinned by name: the form's constant. -/
def laid_unicode_utf8_first : DataW Unit := Go.Pinned.utf8First

/-- 'tablefinderlaw27.AssignmentBest': WHATEVER THE INPUT: true; the input reads as it did. -/
def assignmentBestSpec : ChangeSpec := { name := "assignmentBest", fn := fun _ => fun
  | [d1, d2, d3, d4] => { results := [.lit (.bool true)], args := [d1, d2, d3, d4] }
  | _ => none }
def assignmentBestRow : OpenClaim := { program := "ytkppgdialedoeaadoor", sum := "0f9c7bed8e9896f3cbccba712853751cc50877293808716cb4fccd1924dbdf01", func := "tablefinder/tablefinderlaw27.AssignmentBest", spec := "assignmentBest", unfollowed := true, recurses := true, named := ["math/bits.overflowError", "tablefinder/fraction.one"], plainKeys := false, apart := false, laid := [("tablefinder/fraction.one", laid_tablefinder_fraction_one)] }
def AssignmentBestSaid : Prop := assignmentBestRow.holds Tryd.pinned (OpenSpec.ofChange assignmentBestSpec)

/-- ITS FALSE NEIGHBOUR: 'it returns false'. Refute it at one input. -/
def assignmentBestWrong : ChangeSpec := { name := "assignmentBest", fn := fun _ => fun
  | [d1, d2, d3, d4] => { results := [.lit (.bool false)], args := [d1, d2, d3, d4] }
  | _ => none }
def AssignmentBestWrongFalsely : Prop := assignmentBestRow.holds Tryd.pinned (OpenSpec.ofChange assignmentBestWrong)

/-- 'tablefinderlaw27.AssignmentScales': WHATEVER THE INPUT: true; the input reads as it did. -/
def assignmentScalesSpec : ChangeSpec := { name := "assignmentScales", fn := fun _ => fun
  | [d1, d2] => { results := [.lit (.bool true)], args := [d1, d2] }
  | _ => none }
def assignmentScalesRow : OpenClaim := { program := "ytkppgdialedoeaadoor", sum := "0f9c7bed8e9896f3cbccba712853751cc50877293808716cb4fccd1924dbdf01", func := "tablefinder/tablefinderlaw27.AssignmentScales", spec := "assignmentScales", unfollowed := true, recurses := true, named := ["math/bits.overflowError", "tablefinder/fraction.one"], plainKeys := false, apart := false, laid := [("tablefinder/fraction.one", laid_tablefinder_fraction_one)] }
def AssignmentScalesSaid : Prop := assignmentScalesRow.holds Tryd.pinned (OpenSpec.ofChange assignmentScalesSpec)

/-- ITS FALSE NEIGHBOUR: 'it returns false'. Refute it at one input. -/
def assignmentScalesWrong : ChangeSpec := { name := "assignmentScales", fn := fun _ => fun
  | [d1, d2] => { results := [.lit (.bool false)], args := [d1, d2] }
  | _ => none }
def AssignmentScalesWrongFalsely : Prop := assignmentScalesRow.holds Tryd.pinned (OpenSpec.ofChange assignmentScalesWrong)

/-- 'tablefinderlaw27.AssignmentGrows': WHATEVER THE INPUT: true; the input reads as it did. -/
def assignmentGrowsSpec : ChangeSpec := { name := "assignmentGrows", fn := fun _ => fun
  | [d] => { results := [.lit (.bool true)], args := [d] }
  | _ => none }
def assignmentGrowsRow : OpenClaim := { program := "ytkppgdialedoeaadoor", sum := "0f9c7bed8e9896f3cbccba712853751cc50877293808716cb4fccd1924dbdf01", func := "tablefinder/tablefinderlaw27.AssignmentGrows", spec := "assignmentGrows", unfollowed := true, recurses := true, named := ["math/bits.overflowError", "tablefinder/fraction.one"], plainKeys := false, apart := false, laid := [("tablefinder/fraction.one", laid_tablefinder_fraction_one)] }
def AssignmentGrowsSaid : Prop := assignmentGrowsRow.holds Tryd.pinned (OpenSpec.ofChange assignmentGrowsSpec)

/-- ITS FALSE NEIGHBOUR: 'it returns false'. Refute it at one input. -/
def assignmentGrowsWrong : ChangeSpec := { name := "assignmentGrows", fn := fun _ => fun
  | [d] => { results := [.lit (.bool false)], args := [d] }
  | _ => none }
def AssignmentGrowsWrongFalsely : Prop := assignmentGrowsRow.holds Tryd.pinned (OpenSpec.ofChange assignmentGrowsWrong)

/-- 'tablefinderlaw27.AssignmentRow': WHATEVER THE INPUT: true; the input reads as it did. -/
def assignmentRowSpec : ChangeSpec := { name := "assignmentRow", fn := fun _ => fun
  | [d] => { results := [.lit (.bool true)], args := [d] }
  | _ => none }
def assignmentRowRow : OpenClaim := { program := "ytkppgdialedoeaadoor", sum := "0f9c7bed8e9896f3cbccba712853751cc50877293808716cb4fccd1924dbdf01", func := "tablefinder/tablefinderlaw27.AssignmentRow", spec := "assignmentRow", unfollowed := true, recurses := true, named := ["math/bits.overflowError", "tablefinder/fraction.one"], plainKeys := false, apart := false, laid := [("tablefinder/fraction.one", laid_tablefinder_fraction_one)] }
def AssignmentRowSaid : Prop := assignmentRowRow.holds Tryd.pinned (OpenSpec.ofChange assignmentRowSpec)

/-- ITS FALSE NEIGHBOUR: 'it returns false'. Refute it at one input. -/
def assignmentRowWrong : ChangeSpec := { name := "assignmentRow", fn := fun _ => fun
  | [d] => { results := [.lit (.bool false)], args := [d] }
  | _ => none }
def AssignmentRowWrongFalsely : Prop := assignmentRowRow.holds Tryd.pinned (OpenSpec.ofChange assignmentRowWrong)

/-- 'tablefinderlaw27.AssignmentWeights': WHATEVER THE INPUT: true; the input reads as it did. -/
def assignmentWeightsSpec : ChangeSpec := { name := "assignmentWeights", fn := fun _ => fun
  | [d1, d2] => { results := [.lit (.bool true)], args := [d1, d2] }
  | _ => none }
def assignmentWeightsRow : OpenClaim := { program := "ytkppgdialedoeaadoor", sum := "0f9c7bed8e9896f3cbccba712853751cc50877293808716cb4fccd1924dbdf01", func := "tablefinder/tablefinderlaw27.AssignmentWeights", spec := "assignmentWeights", unfollowed := true, recurses := true, named := ["math/bits.overflowError", "tablefinder/fraction.one"], plainKeys := false, apart := false, laid := [("tablefinder/fraction.one", laid_tablefinder_fraction_one)] }
def AssignmentWeightsSaid : Prop := assignmentWeightsRow.holds Tryd.pinned (OpenSpec.ofChange assignmentWeightsSpec)

/-- ITS FALSE NEIGHBOUR: 'it returns false'. Refute it at one input. -/
def assignmentWeightsWrong : ChangeSpec := { name := "assignmentWeights", fn := fun _ => fun
  | [d1, d2] => { results := [.lit (.bool false)], args := [d1, d2] }
  | _ => none }
def AssignmentWeightsWrongFalsely : Prop := assignmentWeightsRow.holds Tryd.pinned (OpenSpec.ofChange assignmentWeightsWrong)

/-- 'tablefinderlaw27.AssignmentMost': WHATEVER THE INPUT: true; the input reads as it did. -/
def assignmentMostSpec : ChangeSpec := { name := "assignmentMost", fn := fun _ => fun
  | [d] => { results := [.lit (.bool true)], args := [d] }
  | _ => none }
def assignmentMostRow : OpenClaim := { program := "ytkppgdialedoeaadoor", sum := "0f9c7bed8e9896f3cbccba712853751cc50877293808716cb4fccd1924dbdf01", func := "tablefinder/tablefinderlaw27.AssignmentMost", spec := "assignmentMost", unfollowed := true, recurses := true, named := ["math/bits.overflowError", "tablefinder/fraction.one"], plainKeys := false, apart := false, laid := [("tablefinder/fraction.one", laid_tablefinder_fraction_one)] }
def AssignmentMostSaid : Prop := assignmentMostRow.holds Tryd.pinned (OpenSpec.ofChange assignmentMostSpec)

/-- ITS FALSE NEIGHBOUR: 'it returns false'. Refute it at one input. -/
def assignmentMostWrong : ChangeSpec := { name := "assignmentMost", fn := fun _ => fun
  | [d] => { results := [.lit (.bool false)], args := [d] }
  | _ => none }
def AssignmentMostWrongFalsely : Prop := assignmentMostRow.holds Tryd.pinned (OpenSpec.ofChange assignmentMostWrong)

/-- 'tablefinderlaw01.FractionOrder': WHATEVER THE INPUT: true; the input reads as it did. -/
def fractionOrderSpec : ChangeSpec := { name := "fractionOrder", fn := fun _ => fun
  | [d] => { results := [.lit (.bool true)], args := [d] }
  | _ => none }
def fractionOrderRow : OpenClaim := { program := "ytkppgdialedoeaadoor", sum := "0f9c7bed8e9896f3cbccba712853751cc50877293808716cb4fccd1924dbdf01", func := "tablefinder/tablefinderlaw01.FractionOrder", spec := "fractionOrder", inPlace := ["internal/bytealg.IndexByteString", "internal/bytealg.IndexString"], unfollowed := true, recurses := true, named := ["math/bits.overflowError", "tablefinder/fraction.one", "internal/bytealg.MaxLen", "unicode/utf8.first", "unicode/utf8.acceptRanges"], plainKeys := false, apart := false, laid := [("unicode/utf8.acceptRanges", laid_unicode_utf8_acceptRanges), ("tablefinder/fraction.one", laid_tablefinder_fraction_one), ("unicode/utf8.first", laid_unicode_utf8_first)] }
def FractionOrderSaid : Prop := fractionOrderRow.holds Tryd.pinned (OpenSpec.ofChange fractionOrderSpec)

/-- ITS FALSE NEIGHBOUR: 'it returns false'. Refute it at one input. -/
def fractionOrderWrong : ChangeSpec := { name := "fractionOrder", fn := fun _ => fun
  | [d] => { results := [.lit (.bool false)], args := [d] }
  | _ => none }
def FractionOrderWrongFalsely : Prop := fractionOrderRow.holds Tryd.pinned (OpenSpec.ofChange fractionOrderWrong)

/-- 'tablefinderlaw01.FractionDivides': WHATEVER THE INPUT: true; the input reads as it did. -/
def fractionDividesSpec : ChangeSpec := { name := "fractionDivides", fn := fun _ => fun
  | [d1, d2, d3] => { results := [.lit (.bool true)], args := [d1, d2, d3] }
  | _ => none }
def fractionDividesRow : OpenClaim := { program := "ytkppgdialedoeaadoor", sum := "0f9c7bed8e9896f3cbccba712853751cc50877293808716cb4fccd1924dbdf01", func := "tablefinder/tablefinderlaw01.FractionDivides", spec := "fractionDivides", inPlace := ["internal/bytealg.IndexByteString", "internal/bytealg.IndexString"], unfollowed := true, recurses := true, named := ["math/bits.overflowError", "tablefinder/fraction.one", "internal/bytealg.MaxLen", "unicode/utf8.first", "unicode/utf8.acceptRanges"], plainKeys := false, apart := false, laid := [("unicode/utf8.acceptRanges", laid_unicode_utf8_acceptRanges), ("tablefinder/fraction.one", laid_tablefinder_fraction_one), ("unicode/utf8.first", laid_unicode_utf8_first)] }
def FractionDividesSaid : Prop := fractionDividesRow.holds Tryd.pinned (OpenSpec.ofChange fractionDividesSpec)

/-- ITS FALSE NEIGHBOUR: 'it returns false'. Refute it at one input. -/
def fractionDividesWrong : ChangeSpec := { name := "fractionDivides", fn := fun _ => fun
  | [d1, d2, d3] => { results := [.lit (.bool false)], args := [d1, d2, d3] }
  | _ => none }
def FractionDividesWrongFalsely : Prop := fractionDividesRow.holds Tryd.pinned (OpenSpec.ofChange fractionDividesWrong)

/- THE SECOND FORM. 'bulk': how many values and letters a reading holds, each counted each time it is reached (what is shared counts as often as it is met; a slice's spare places count too). A statement '..UptoSaid' is the law's where the arguments, and the package variables that the reading takes, are together of bulk at most 1048576: NARROWER than '..Said'. Prove '..Said' where nothing that the law and all that it calls make is longer than what came in: it says more and counts as full. Else prove '..UptoSaid'. A law counts once. -/
mutual
def uptoBulk {H : Type} : DataW H → Nat
  | .lit (.string bytes) => bytes.length + 1
  | .lit _ => 1
  | .nil => 1
  | .ptr d => uptoBulk d + 1
  | .slice elems spare => uptoBulkAll elems + uptoBulkAll spare + 1
  | .agg parts => uptoBulkAll parts + 1
  | .iface _ d => uptoBulk d + 1
  | .map entries => uptoBulkEntries entries + 1
  | .held _ => 1
def uptoBulkAll {H : Type} : List (DataW H) → Nat
  | [] => 0
  | d :: r => uptoBulk d + uptoBulkAll r
def uptoBulkEntries {H : Type} : List (Lit × DataW H) → Nat
  | [] => 0
  | x :: r => uptoBulkEntry x + uptoBulkEntries r
def uptoBulkEntry {H : Type} : Lit × DataW H → Nat
  | (.string bytes, d) => bytes.length + uptoBulk d + 1
  | (_, d) => uptoBulk d + 1
 end
def uptoSmall : (H : Type) → List (DataW H) → Bool := fun _ ds => decide (uptoBulkAll ds ≤ 1048576)
def OpenSpec.upto (s : _root_.Go.ChangeSpec) : _root_.Go.OpenSpec := { _root_.Go.OpenSpec.ofChange s with cond := some uptoSmall }

/-- 'tablefinderlaw27.AssignmentBest', WHERE WHAT IT READS IS OF BULK AT MOST 1048576: true; the input reads as it did. -/
def assignmentBestUptoRow : OpenClaim := { program := "ytkppgdialedoeaadoor", sum := "0f9c7bed8e9896f3cbccba712853751cc50877293808716cb4fccd1924dbdf01", func := "tablefinder/tablefinderlaw27.AssignmentBest", spec := "assignmentBest", unfollowed := true, recurses := true, named := ["math/bits.overflowError", "tablefinder/fraction.one"], plainKeys := false, apart := false, laid := [("tablefinder/fraction.one", laid_tablefinder_fraction_one)], narrowed := true }
def AssignmentBestUptoSaid : Prop := assignmentBestUptoRow.holds Tryd.pinned (OpenSpec.upto assignmentBestSpec)

/-- 'tablefinderlaw27.AssignmentScales', WHERE WHAT IT READS IS OF BULK AT MOST 1048576: true; the input reads as it did. -/
def assignmentScalesUptoRow : OpenClaim := { program := "ytkppgdialedoeaadoor", sum := "0f9c7bed8e9896f3cbccba712853751cc50877293808716cb4fccd1924dbdf01", func := "tablefinder/tablefinderlaw27.AssignmentScales", spec := "assignmentScales", unfollowed := true, recurses := true, named := ["math/bits.overflowError", "tablefinder/fraction.one"], plainKeys := false, apart := false, laid := [("tablefinder/fraction.one", laid_tablefinder_fraction_one)], narrowed := true }
def AssignmentScalesUptoSaid : Prop := assignmentScalesUptoRow.holds Tryd.pinned (OpenSpec.upto assignmentScalesSpec)

/-- 'tablefinderlaw27.AssignmentGrows', WHERE WHAT IT READS IS OF BULK AT MOST 1048576: true; the input reads as it did. -/
def assignmentGrowsUptoRow : OpenClaim := { program := "ytkppgdialedoeaadoor", sum := "0f9c7bed8e9896f3cbccba712853751cc50877293808716cb4fccd1924dbdf01", func := "tablefinder/tablefinderlaw27.AssignmentGrows", spec := "assignmentGrows", unfollowed := true, recurses := true, named := ["math/bits.overflowError", "tablefinder/fraction.one"], plainKeys := false, apart := false, laid := [("tablefinder/fraction.one", laid_tablefinder_fraction_one)], narrowed := true }
def AssignmentGrowsUptoSaid : Prop := assignmentGrowsUptoRow.holds Tryd.pinned (OpenSpec.upto assignmentGrowsSpec)

/-- 'tablefinderlaw27.AssignmentRow', WHERE WHAT IT READS IS OF BULK AT MOST 1048576: true; the input reads as it did. -/
def assignmentRowUptoRow : OpenClaim := { program := "ytkppgdialedoeaadoor", sum := "0f9c7bed8e9896f3cbccba712853751cc50877293808716cb4fccd1924dbdf01", func := "tablefinder/tablefinderlaw27.AssignmentRow", spec := "assignmentRow", unfollowed := true, recurses := true, named := ["math/bits.overflowError", "tablefinder/fraction.one"], plainKeys := false, apart := false, laid := [("tablefinder/fraction.one", laid_tablefinder_fraction_one)], narrowed := true }
def AssignmentRowUptoSaid : Prop := assignmentRowUptoRow.holds Tryd.pinned (OpenSpec.upto assignmentRowSpec)

/-- 'tablefinderlaw27.AssignmentWeights', WHERE WHAT IT READS IS OF BULK AT MOST 1048576: true; the input reads as it did. -/
def assignmentWeightsUptoRow : OpenClaim := { program := "ytkppgdialedoeaadoor", sum := "0f9c7bed8e9896f3cbccba712853751cc50877293808716cb4fccd1924dbdf01", func := "tablefinder/tablefinderlaw27.AssignmentWeights", spec := "assignmentWeights", unfollowed := true, recurses := true, named := ["math/bits.overflowError", "tablefinder/fraction.one"], plainKeys := false, apart := false, laid := [("tablefinder/fraction.one", laid_tablefinder_fraction_one)], narrowed := true }
def AssignmentWeightsUptoSaid : Prop := assignmentWeightsUptoRow.holds Tryd.pinned (OpenSpec.upto assignmentWeightsSpec)

/-- 'tablefinderlaw27.AssignmentMost', WHERE WHAT IT READS IS OF BULK AT MOST 1048576: true; the input reads as it did. -/
def assignmentMostUptoRow : OpenClaim := { program := "ytkppgdialedoeaadoor", sum := "0f9c7bed8e9896f3cbccba712853751cc50877293808716cb4fccd1924dbdf01", func := "tablefinder/tablefinderlaw27.AssignmentMost", spec := "assignmentMost", unfollowed := true, recurses := true, named := ["math/bits.overflowError", "tablefinder/fraction.one"], plainKeys := false, apart := false, laid := [("tablefinder/fraction.one", laid_tablefinder_fraction_one)], narrowed := true }
def AssignmentMostUptoSaid : Prop := assignmentMostUptoRow.holds Tryd.pinned (OpenSpec.upto assignmentMostSpec)

/-- 'tablefinderlaw01.FractionOrder', WHERE WHAT IT READS IS OF BULK AT MOST 1048576: true; the input reads as it did. -/
def fractionOrderUptoRow : OpenClaim := { program := "ytkppgdialedoeaadoor", sum := "0f9c7bed8e9896f3cbccba712853751cc50877293808716cb4fccd1924dbdf01", func := "tablefinder/tablefinderlaw01.FractionOrder", spec := "fractionOrder", inPlace := ["internal/bytealg.IndexByteString", "internal/bytealg.IndexString"], unfollowed := true, recurses := true, named := ["math/bits.overflowError", "tablefinder/fraction.one", "internal/bytealg.MaxLen", "unicode/utf8.first", "unicode/utf8.acceptRanges"], plainKeys := false, apart := false, laid := [("unicode/utf8.acceptRanges", laid_unicode_utf8_acceptRanges), ("tablefinder/fraction.one", laid_tablefinder_fraction_one), ("unicode/utf8.first", laid_unicode_utf8_first)], narrowed := true }
def FractionOrderUptoSaid : Prop := fractionOrderUptoRow.holds Tryd.pinned (OpenSpec.upto fractionOrderSpec)

/-- 'tablefinderlaw01.FractionDivides', WHERE WHAT IT READS IS OF BULK AT MOST 1048576: true; the input reads as it did. -/
def fractionDividesUptoRow : OpenClaim := { program := "ytkppgdialedoeaadoor", sum := "0f9c7bed8e9896f3cbccba712853751cc50877293808716cb4fccd1924dbdf01", func := "tablefinder/tablefinderlaw01.FractionDivides", spec := "fractionDivides", inPlace := ["internal/bytealg.IndexByteString", "internal/bytealg.IndexString"], unfollowed := true, recurses := true, named := ["math/bits.overflowError", "tablefinder/fraction.one", "internal/bytealg.MaxLen", "unicode/utf8.first", "unicode/utf8.acceptRanges"], plainKeys := false, apart := false, laid := [("unicode/utf8.acceptRanges", laid_unicode_utf8_acceptRanges), ("tablefinder/fraction.one", laid_tablefinder_fraction_one), ("unicode/utf8.first", laid_unicode_utf8_first)], narrowed := true }
def FractionDividesUptoSaid : Prop := fractionDividesUptoRow.holds Tryd.pinned (OpenSpec.upto fractionDividesSpec)

end Rows
end Go.Proofs.YtkppgdialedoeaaDoor
