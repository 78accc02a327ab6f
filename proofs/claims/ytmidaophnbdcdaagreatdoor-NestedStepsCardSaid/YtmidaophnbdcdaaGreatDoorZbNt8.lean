/-
  NestedSteps: said.
-/
import Derived.Test.YtmidaophnbdcdaaGreatDoorZbNt7
import Derived.ChangeMaps5
set_option linter.all false
set_option maxHeartbeats 4000000
namespace Go.Proofs.YtmidaophnbdcdaaGreatDoor
section
open Go Go.Proofs Go.Abs Go.RowKit Go.ChangeShapes Go.WideShapes Go.ChangeAt
namespace nestedSteps
theorem said:Rows.NestedStepsSaid :=
 OpenClaim.holds_of_cond 5 Tryz.f5 rfl rfl rfl rfl rfl rfl rfl ⟨rfl,rfl,rfl,rfl,rfl⟩ rfl rfl rfl rfl rfl (by as_aux_lemma=>kernel_rfl) Tryz.func5 (by as_aux_lemma=>kernel_rfl)
  (of_decide_eq_true (by as_aux_lemma=>kernel_rfl)) (by unfold Func.isWrapper;first | (rw[if_pos (by decide +kernel)];as_aux_lemma=>kernel_rfl) | (rw[if_neg (by decide +kernel)];exact ⟨rfl,rfl⟩))
  (fun os started H enc _ F=>by rw[OpenClaim.pre_eq_preRow];exact lifted os started H enc F)
end nestedSteps
end
end Go.Proofs.YtmidaophnbdcdaaGreatDoor
