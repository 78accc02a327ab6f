/-
  No cell of these rows narrows 'for every input' (looked for: loops, veiled, ifaces, maps, wideKeys, modest, calm, conditions, laid).
  DERIVED. THE GIVEN ROWS OF THIS SEAT. 5 by the template 'for every input the law returns true; each argument reads behind the call as it read before'; 0 by the template 'total and deterministic' (their statements: YtpnhbjabnnibcaaTotals.lean).
  GIVEN WITH THE SEED: the statements are not yours to turn. If you find one false, say at which input.
  Laid BY PROGRAM, IN A SANDBOX (cutbox-rows.mjs): the forced cells as the released guide's own fill.sh prints them over the translation 200d6115c177d9e1… (all of the seat's roots in one cut). By AI agents, Wed Nov 11 2026. No macro, syntax, notation, axiom, sorry.
-/
import Derived.Test.YtpnhbjabnnibcaaChecked
import GoSem.Claim
import GoSem.ClaimJoined
import GoSem.ClaimMapViews
import Derived.JoinedTies
import Derived.KernelRfl
namespace Go.Proofs.Ytpnhbjabnnibcaa
/- THE CELL 'sum', in the pinned program and in every row, IS THE sha256 OF THE DUMP (.gsa) THAT YtpnhbjabnnibcaaProg.lean LOADS. Nothing in Lean hashes anything: it is a label: what it is worth is what the hold of that sum in a sandbox is worth. -/
noncomputable def Try.pinned : Pinned := { name := "ytpnhbjabnnibcaa", sum := "200d6115c177d9e1c3b901d9a76004aa709e6e314ce78edea8ae50f6cb8c64ce", checked := Try.checked }
namespace Rows
def none {H : Type} : Left H := { results := [], args := [] }

/-- 'tablefinderlaw16.DistanceMetric': WHATEVER THE INPUT: true; the input reads as it did. -/
def distanceMetricSpec : ChangeSpec := { name := "distanceMetric", fn := fun _ => fun
  | [d] => { results := [.lit (.bool true)], args := [d] }
  | _ => none }
def distanceMetricRow : OpenClaim := { program := "ytpnhbjabnnibcaa", sum := "200d6115c177d9e1c3b901d9a76004aa709e6e314ce78edea8ae50f6cb8c64ce", func := "tablefinder/tablefinderlaw16.DistanceMetric", spec := "distanceMetric", unfollowed := true, recurses := true, apart := false }
def DistanceMetricSaid : Prop := distanceMetricRow.holds Try.pinned (OpenSpec.ofChange distanceMetricSpec)

/-- ITS FALSE NEIGHBOUR: 'it returns false'. Refute it at one input. -/
def distanceMetricWrong : ChangeSpec := { name := "distanceMetric", fn := fun _ => fun
  | [d] => { results := [.lit (.bool false)], args := [d] }
  | _ => none }
def DistanceMetricWrongFalsely : Prop := distanceMetricRow.holds Try.pinned (OpenSpec.ofChange distanceMetricWrong)

/-- 'tablefinderlaw16.DistanceEdits': WHATEVER THE INPUT: true; the input reads as it did. -/
def distanceEditsSpec : ChangeSpec := { name := "distanceEdits", fn := fun _ => fun
  | [d1, d2] => { results := [.lit (.bool true)], args := [d1, d2] }
  | _ => none }
def distanceEditsRow : OpenClaim := { program := "ytpnhbjabnnibcaa", sum := "200d6115c177d9e1c3b901d9a76004aa709e6e314ce78edea8ae50f6cb8c64ce", func := "tablefinder/tablefinderlaw16.DistanceEdits", spec := "distanceEdits", unfollowed := true, recurses := true, apart := false }
def DistanceEditsSaid : Prop := distanceEditsRow.holds Try.pinned (OpenSpec.ofChange distanceEditsSpec)

/-- ITS FALSE NEIGHBOUR: 'it returns false'. Refute it at one input. -/
def distanceEditsWrong : ChangeSpec := { name := "distanceEdits", fn := fun _ => fun
  | [d1, d2] => { results := [.lit (.bool false)], args := [d1, d2] }
  | _ => none }
def DistanceEditsWrongFalsely : Prop := distanceEditsRow.holds Try.pinned (OpenSpec.ofChange distanceEditsWrong)

/-- 'tablefinderlaw16.DistanceWords': WHATEVER THE INPUT: true; the input reads as it did. -/
def distanceWordsSpec : ChangeSpec := { name := "distanceWords", fn := fun _ => fun
  | [d] => { results := [.lit (.bool true)], args := [d] }
  | _ => none }
def distanceWordsRow : OpenClaim := { program := "ytpnhbjabnnibcaa", sum := "200d6115c177d9e1c3b901d9a76004aa709e6e314ce78edea8ae50f6cb8c64ce", func := "tablefinder/tablefinderlaw16.DistanceWords", spec := "distanceWords", unfollowed := true, recurses := true, apart := false }
def DistanceWordsSaid : Prop := distanceWordsRow.holds Try.pinned (OpenSpec.ofChange distanceWordsSpec)

/-- ITS FALSE NEIGHBOUR: 'it returns false'. Refute it at one input. -/
def distanceWordsWrong : ChangeSpec := { name := "distanceWords", fn := fun _ => fun
  | [d] => { results := [.lit (.bool false)], args := [d] }
  | _ => none }
def DistanceWordsWrongFalsely : Prop := distanceWordsRow.holds Try.pinned (OpenSpec.ofChange distanceWordsWrong)

/-- 'tablefinderlaw16.DistanceSteps': WHATEVER THE INPUT: true; the input reads as it did. -/
def distanceStepsSpec : ChangeSpec := { name := "distanceSteps", fn := fun _ => fun
  | [d1, d2, d3, d4, d5, d6, d7] => { results := [.lit (.bool true)], args := [d1, d2, d3, d4, d5, d6, d7] }
  | _ => none }
def distanceStepsRow : OpenClaim := { program := "ytpnhbjabnnibcaa", sum := "200d6115c177d9e1c3b901d9a76004aa709e6e314ce78edea8ae50f6cb8c64ce", func := "tablefinder/tablefinderlaw16.DistanceSteps", spec := "distanceSteps", unfollowed := true, recurses := true, apart := false }
def DistanceStepsSaid : Prop := distanceStepsRow.holds Try.pinned (OpenSpec.ofChange distanceStepsSpec)

/-- ITS FALSE NEIGHBOUR: 'it returns false'. Refute it at one input. -/
def distanceStepsWrong : ChangeSpec := { name := "distanceSteps", fn := fun _ => fun
  | [d1, d2, d3, d4, d5, d6, d7] => { results := [.lit (.bool false)], args := [d1, d2, d3, d4, d5, d6, d7] }
  | _ => none }
def DistanceStepsWrongFalsely : Prop := distanceStepsRow.holds Try.pinned (OpenSpec.ofChange distanceStepsWrong)

/-- 'tablefinderlaw16.DistanceRules': WHATEVER THE INPUT: true; the input reads as it did. -/
def distanceRulesSpec : ChangeSpec := { name := "distanceRules", fn := fun _ => fun
  | [d] => { results := [.lit (.bool true)], args := [d] }
  | _ => none }
def distanceRulesRow : OpenClaim := { program := "ytpnhbjabnnibcaa", sum := "200d6115c177d9e1c3b901d9a76004aa709e6e314ce78edea8ae50f6cb8c64ce", func := "tablefinder/tablefinderlaw16.DistanceRules", spec := "distanceRules", unfollowed := true, recurses := true, apart := false }
def DistanceRulesSaid : Prop := distanceRulesRow.holds Try.pinned (OpenSpec.ofChange distanceRulesSpec)

/-- ITS FALSE NEIGHBOUR: 'it returns false'. Refute it at one input. -/
def distanceRulesWrong : ChangeSpec := { name := "distanceRules", fn := fun _ => fun
  | [d] => { results := [.lit (.bool false)], args := [d] }
  | _ => none }
def DistanceRulesWrongFalsely : Prop := distanceRulesRow.holds Try.pinned (OpenSpec.ofChange distanceRulesWrong)

/- THE SECOND FORM. 'bulk': how many values and letters a reading holds, each counted each time it is reached (what is shared counts as often as it is met; a slice's spare places count too). A statement '..UptoSaid' is the law's where the arguments, and the package variables that the reading takes, are together of bulk at most 1048576: NARROWER than '..Said'. Prove '..Said' where nothing that the law and all that it calls make is longer than what came in: it says more and counts as full. Else prove '..UptoSaid'. A law counts once. -/
mutual
def uptoBulk {H : Type} : DataW H → Nat
  | .lit (.string bytes) => bytes.length + 1
  | .lit _ => 1
  | .nil => 1
  | .ptr d => uptoBulk d + 1
  | .slice elems spare => uptoBulkAll elems + uptoBulkAll spare + 1
  | .agg parts => uptoBulkAll parts + 1
  | .iface _ d => uptoBulk d + 1
  | .map entries => uptoBulkEntries entries + 1
  | .held _ => 1
def uptoBulkAll {H : Type} : List (DataW H) → Nat
  | [] => 0
  | d :: r => uptoBulk d + uptoBulkAll r
def uptoBulkEntries {H : Type} : List (Lit × DataW H) → Nat
  | [] => 0
  | x :: r => uptoBulkEntry x + uptoBulkEntries r
def uptoBulkEntry {H : Type} : Lit × DataW H → Nat
  | (.string bytes, d) => bytes.length + uptoBulk d + 1
  | (_, d) => uptoBulk d + 1
 end
def uptoSmall : (H : Type) → List (DataW H) → Bool := fun _ ds => decide (uptoBulkAll ds ≤ 1048576)
def OpenSpec.upto (s : _root_.Go.ChangeSpec) : _root_.Go.OpenSpec := { _root_.Go.OpenSpec.ofChange s with cond := some uptoSmall }

/-- 'tablefinderlaw16.DistanceMetric', WHERE WHAT IT READS IS OF BULK AT MOST 1048576: true; the input reads as it did. -/
def distanceMetricUptoRow : OpenClaim := { program := "ytpnhbjabnnibcaa", sum := "200d6115c177d9e1c3b901d9a76004aa709e6e314ce78edea8ae50f6cb8c64ce", func := "tablefinder/tablefinderlaw16.DistanceMetric", spec := "distanceMetric", unfollowed := true, recurses := true, apart := false, narrowed := true }
def DistanceMetricUptoSaid : Prop := distanceMetricUptoRow.holds Try.pinned (OpenSpec.upto distanceMetricSpec)

/-- 'tablefinderlaw16.DistanceEdits', WHERE WHAT IT READS IS OF BULK AT MOST 1048576: true; the input reads as it did. -/
def distanceEditsUptoRow : OpenClaim := { program := "ytpnhbjabnnibcaa", sum := "200d6115c177d9e1c3b901d9a76004aa709e6e314ce78edea8ae50f6cb8c64ce", func := "tablefinder/tablefinderlaw16.DistanceEdits", spec := "distanceEdits", unfollowed := true, recurses := true, apart := false, narrowed := true }
def DistanceEditsUptoSaid : Prop := distanceEditsUptoRow.holds Try.pinned (OpenSpec.upto distanceEditsSpec)

/-- 'tablefinderlaw16.DistanceWords', WHERE WHAT IT READS IS OF BULK AT MOST 1048576: true; the input reads as it did. -/
def distanceWordsUptoRow : OpenClaim := { program := "ytpnhbjabnnibcaa", sum := "200d6115c177d9e1c3b901d9a76004aa709e6e314ce78edea8ae50f6cb8c64ce", func := "tablefinder/tablefinderlaw16.DistanceWords", spec := "distanceWords", unfollowed := true, recurses := true, apart := false, narrowed := true }
def DistanceWordsUptoSaid : Prop := distanceWordsUptoRow.holds Try.pinned (OpenSpec.upto distanceWordsSpec)

/-- 'tablefinderlaw16.DistanceSteps', WHERE WHAT IT READS IS OF BULK AT MOST 1048576: true; the input reads as it did. -/
def distanceStepsUptoRow : OpenClaim := { program := "ytpnhbjabnnibcaa", sum := "200d6115c177d9e1c3b901d9a76004aa709e6e314ce78edea8ae50f6cb8c64ce", func := "tablefinder/tablefinderlaw16.DistanceSteps", spec := "distanceSteps", unfollowed := true, recurses := true, apart := false, narrowed := true }
def DistanceStepsUptoSaid : Prop := distanceStepsUptoRow.holds Try.pinned (OpenSpec.upto distanceStepsSpec)

/-- 'tablefinderlaw16.DistanceRules', WHERE WHAT IT READS IS OF BULK AT MOST 1048576: true; the input reads as it did. -/
def distanceRulesUptoRow : OpenClaim := { program := "ytpnhbjabnnibcaa", sum := "200d6115c177d9e1c3b901d9a76004aa709e6e314ce78edea8ae50f6cb8c64ce", func := "tablefinder/tablefinderlaw16.DistanceRules", spec := "distanceRules", unfollowed := true, recurses := true, apart := false, narrowed := true }
def DistanceRulesUptoSaid : Prop := distanceRulesUptoRow.holds Try.pinned (OpenSpec.upto distanceRulesSpec)

end Rows
end Go.Proofs.Ytpnhbjabnnibcaa
