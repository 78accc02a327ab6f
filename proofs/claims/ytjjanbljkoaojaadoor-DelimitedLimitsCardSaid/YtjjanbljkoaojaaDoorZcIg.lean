/-
  DelimitedLimits: for every input the law returns true, and the arguments read as they did. No condition.
-/
import Derived.Test.YtjjanbljkoaojaaDoorMb3
import Derived.ChangeMaps5
set_option linter.all false

namespace Go.Proofs.YtjjanbljkoaojaaDoor
open Go Go.Proofs Go.Abs Go.RowKit Go.ChangeShapes Go.WideShapes Go.ChangeAt
namespace delimitedLimits
set_option maxRecDepth 100000 in
theorem contract (H : Type) (enc : TypeId × Value → H) (X : World) (base : Nat) (args : Array Value) (ds gs : List (DataW H)) (before : List MemPlace)
    (hval : ∀ (j : Nat) t v, Tryd.f3.params[j]? = some t → args[j]? = some v → Value.okWide Tryd.prog X .any base t v)
    (hW : DataW.Whole enc Tryd.prog Tryd.f3.params.toList Rows.delimitedLimitsSpec.vars false X args.toList ds gs before) (hL : laidMetH Tryd.prog Rows.delimitedLimitsRow.laid X) (hsh : X.ShapedOpen Tryd.prog) :
    Calls Tryd.prog 3 args X fun e X' => ∃ v, e = .returned v ∧ Rows.delimitedLimitsSpec.post enc Tryd.prog Tryd.f3 false true false false X args v X' := by
  have hW' := hW
  obtain ⟨p, q, hA0, hV, rfl, hfz, hnd⟩ := hW
  have hA : DataW.TrodAll enc Tryd.prog X 0 (fun _ => true) true Tryd.f3.params.toList args.toList ds p := hA0
  rw [Tryd.params3] at hA hval
  obtain ⟨v0, vs0, d0, ds0, p0, q0, hargs, rfl, rfl, h0, r0⟩ := trodAll_cons hA
  obtain ⟨v1, vs1, d1, ds1, p1, q1, rfl, rfl, rfl, h1, r1⟩ := trodAll_cons r0
  obtain ⟨rfl, rfl, rfl⟩ := trodAll_nil r1
  obtain rfl : args = #[v0, v1] := by cases args; simp_all
  obtain ⟨rfl, rfl⟩ := trodVars_none hV
  obtain ⟨n0, rfl, rfl, rfl, wf0⟩ := open_int Tryd.underlying3 (hval 0 3 v0 rfl rfl) h0
  have b10 : -9223372036854775808 ≤ n0 ∧ n0 ≤ 9223372036854775807 := by simp [Lit.wf, IntKind.min, IntKind.max, IntKind.bits, IntKind.signed] at wf0; omega
  obtain ⟨n1, rfl, rfl, rfl⟩ := open_boolA Tryd.underlying4 (hval 1 4 v1 rfl rfl) h1
  clear hA0
  obtain ⟨mx, hmx⟩ := maxLen_of hsh
  have hgl := globOK (Lib.laidMet.reads hL (.tail _ (.head _))) (Lib.laidMet.reads hL (.head _)) hmx
  refine ((limits_law (G := G1 mx) hT1 hM1 n0 b10.1 b10.2 n1).law hgl (RL.two (.d _ _ (.int _ _)) (.d _ _ (.bool _)))).mono fun e X' ⟨he, bel⟩ => ?_
  subst he
  exact ⟨_, rfl, _, _, _, [], _, [], hW', trodAll_mk1 (shut_bool Tryd.underlying4 _), (trodAll_cons_mk (shut_int Tryd.underlying3 wf0) (trodAll_cons_mk (shut_bool Tryd.underlying4 _) trodAll_mk0)), rfl, bel.frame _, fun h => by cases h⟩
theorem reads (os : Os) {H : Type} (enc : TypeId × Value → H) : ∃ places, DataW.whole enc Tryd.prog ((laidWorld_delimitedLimits os).forCall (fun _ _ => 0) ⟨#[], #[.int .i64 0, .bool false], []⟩).memory Tryd.f3.params.toList Rows.delimitedLimitsSpec.vars false (#[.int .i64 0, .bool false] : Array Value).toList 8 = some ([.lit (.int .i64 0), .lit (.bool false)], [], places) :=
  ⟨[], by kernel_rfl⟩
set_option maxRecDepth 100000 in
theorem lifted (os : Os) (started : os.Started) (H : Type) (enc : TypeId × Value → H) (F : Stop.Interp) :
    ReturnsInHanded {} Tryd.checked os 3 .any ((OpenSpec.ofChange Rows.delimitedLimitsSpec).preRow enc Tryd.prog Tryd.f3 Rows.delimitedLimitsRow.domain false Rows.delimitedLimitsRow.laid) (((OpenSpec.ofChange Rows.delimitedLimitsSpec).at F).post enc Tryd.prog Tryd.f3 false true false false) := by
  obtain ⟨places, hx⟩ := reads os enc
  refine returnsInHanded_of_row (C := Tryd.checked) (s := OpenSpec.ofChange Rows.delimitedLimitsSpec) own started (by kernel_rfl) Tryd.func3
    (witness_row_atRef (enc := enc) (C := Tryd.checked) false (laidWorld_delimitedLimits os) #[.int .i64 0, .bool false] rfl (by kernel_rfl) (by kernel_rfl) (by kernel_rfl)
      (OpenSpec.preRow_of_cond 8 hx (by kernel_rfl) (fun k hk => by cases hk) (by kernel_rfl) (laid_met_delimitedLimits os _))) ?_
  intro X base args ds gs before hval hW _ _ _ hL hsh _
  exact contract H enc X base args ds gs before hval hW hL hsh
theorem said : Rows.DelimitedLimitsSaid :=
  OpenClaim.holds_of_cond 3 Tryd.f3 rfl rfl rfl rfl rfl rfl rfl ⟨rfl, rfl, rfl, rfl, rfl⟩ rfl rfl rfl rfl rfl (by kernel_rfl) Tryd.func3 (by kernel_rfl)
    (of_decide_eq_true (by kernel_rfl)) (by unfold Func.isWrapper; first | (rw [if_pos (by decide +kernel)]; kernel_rfl) | (rw [if_neg (by decide +kernel)]; exact ⟨rfl, rfl⟩))
    (fun os started H enc _ F => by rw [OpenClaim.pre_eq_preRow]; exact lifted os started H enc F)
theorem plain (f : FuncId) (fn : Func) (hf : Tryd.pinned.checked.prog.funcNamed "tablefinder/tablefinderlaw04.DelimitedLimits" = some f) (hfn : Tryd.pinned.checked.prog.funcs[f]? = some fn) :
    false = Tryd.pinned.checked.prog.looks [] ∧ ∀ (j : Nat) t, fn.params[j]? = some t → Tryd.pinned.checked.prog.wantsStandIn t = false := by
  obtain rfl : f = 3 := Option.some.inj ((show Tryd.prog.funcNamed "tablefinder/tablefinderlaw04.DelimitedLimits" = some 3 by kernel_rfl).symm.trans hf) |>.symm
  obtain rfl : fn = Tryd.f3 := (Option.some.inj (Tryd.func3.symm.trans hfn)).symm
  refine ⟨by kernel_rfl, fun j t ht => ?_⟩
  rw [Tryd.params3] at ht
  have hm : t ∈ [3, 4] := by simpa using Array.mem_of_getElem? ht
  have hall : ([3, 4].all fun u => !Tryd.prog.wantsStandIn u) = true := by kernel_rfl
  exact (show Tryd.prog.wantsStandIn t = false by simpa using List.all_eq_true.1 hall t hm)
theorem card : Rows.DelimitedLimitsCardSaid :=
  Claim7.holds_tied_plain_at .later [] _ _ _ _ said (fun _ h => by cases h) (by kernel_rfl) (fun _ h => by cases h) delimitedLimits_row_tie rfl ⟨rfl, rfl⟩ (by kernel_rfl) rfl plain (by kernel_rfl)
#print axioms card
end delimitedLimits
end Go.Proofs.YtjjanbljkoaojaaDoor
