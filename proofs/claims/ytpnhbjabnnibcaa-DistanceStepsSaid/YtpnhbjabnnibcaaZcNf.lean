/-
  DistanceSteps: for every input the law returns true, and the arguments read as they did. No condition.
-/
import Derived.Test.YtpnhbjabnnibcaaZbNf1
import Derived.ChangeMaps5
set_option linter.all false

namespace Go.Proofs.Ytpnhbjabnnibcaa
open Go Go.Proofs Go.Abs Go.RowKit Go.ChangeShapes Go.WideShapes Go.ChangeAt
namespace distanceSteps
set_option maxRecDepth 100000 in
theorem contract (H : Type) (enc : TypeId × Value → H) (X : World) (base : Nat) (args : Array Value) (ds gs : List (DataW H)) (before : List MemPlace)
    (hval : ∀ (j : Nat) t v, Try.f6.params[j]? = some t → args[j]? = some v → Value.okWide Try.prog X .any base t v)
    (hW : DataW.Whole enc Try.prog Try.f6.params.toList Rows.distanceStepsSpec.vars false X args.toList ds gs before) (hL : laidMetH Try.prog Rows.distanceStepsRow.laid X) :
    Calls Try.prog 6 args X fun e X' => ∃ v, e = .returned v ∧ Rows.distanceStepsSpec.post enc Try.prog Try.f6 false true false false X args v X' := by
  have hW' := hW
  obtain ⟨p, q, hA0, hV, rfl, hfz, hnd⟩ := hW
  have hA : DataW.TrodAll enc Try.prog X 0 (fun _ => true) true Try.f6.params.toList args.toList ds p := hA0
  rw [Try.params6] at hA hval
  obtain ⟨v0, vs0, d0, ds0, p0, q0, hargs, rfl, rfl, h0, r0⟩ := trodAll_cons hA
  obtain ⟨v1, vs1, d1, ds1, p1, q1, rfl, rfl, rfl, h1, r1⟩ := trodAll_cons r0
  obtain ⟨v2, vs2, d2, ds2, p2, q2, rfl, rfl, rfl, h2, r2⟩ := trodAll_cons r1
  obtain ⟨v3, vs3, d3, ds3, p3, q3, rfl, rfl, rfl, h3, r3⟩ := trodAll_cons r2
  obtain ⟨v4, vs4, d4, ds4, p4, q4, rfl, rfl, rfl, h4, r4⟩ := trodAll_cons r3
  obtain ⟨v5, vs5, d5, ds5, p5, q5, rfl, rfl, rfl, h5, r5⟩ := trodAll_cons r4
  obtain ⟨v6, vs6, d6, ds6, p6, q6, rfl, rfl, rfl, h6, r6⟩ := trodAll_cons r5
  obtain ⟨rfl, rfl, rfl⟩ := trodAll_nil r6
  obtain rfl : args = #[v0, v1, v2, v3, v4, v5, v6] := by cases args; simp_all
  obtain ⟨rfl, rfl⟩ := trodVars_none hV
  have lt0 : ∀ x ∈ p0, x.block < X.heap.size := by obtain ⟨m, hm⟩ := h0; exact DataW.trod_lt m _ _ _ hm
  have o0 : ∃ a n c, v0 = .slice a n c := okWide_slice Try.underlying22 (hval 0 22 v0 rfl rfl)
  have k0 := h0
  obtain ⟨fuel0, hf0⟩ := h0
  obtain ⟨l0, e0, w0, b0⟩ := open_list Try.underlying22 Try.underlying5 cU8 o0 hf0
  obtain ⟨s1, rfl, rfl, rfl, wf1⟩ := Go.ChangeMaps.open_string Try.underlying9 (hval 1 9 v1 rfl rfl) h1
  obtain ⟨x1, rfl⟩ : ∃ x, s1 = bs x := ⟨_, bs_of s1⟩
  have b11 : x1.length ≤ maxLen := by rw [← bs_size (l := x1)]; exact wf1
  obtain ⟨s2, rfl, rfl, rfl, wf2⟩ := Go.ChangeMaps.open_string Try.underlying9 (hval 2 9 v2 rfl rfl) h2
  obtain ⟨x2, rfl⟩ : ∃ x, s2 = bs x := ⟨_, bs_of s2⟩
  have b12 : x2.length ≤ maxLen := by rw [← bs_size (l := x2)]; exact wf2
  have lt3 : ∀ x ∈ p3, x.block < X.heap.size := by obtain ⟨m, hm⟩ := h3; exact DataW.trod_lt m _ _ _ hm
  obtain ⟨ra3, rb3, rc3, rd3, e3, wa3, wb3, wc3, wd3⟩ := open_four Try.underlying40 (by kernel_rfl) (by kernel_rfl) Try.underlying3 Try.underlying3 Try.underlying3 Try.underlying3 (hval 3 40 v3 rfl rfl) h3
  have ba3 : -9223372036854775808 ≤ ra3 ∧ ra3 ≤ 9223372036854775807 := by simp [Lit.wf, IntKind.min, IntKind.max, IntKind.bits, IntKind.signed] at wa3; omega
  have bb3 : -9223372036854775808 ≤ rb3 ∧ rb3 ≤ 9223372036854775807 := by simp [Lit.wf, IntKind.min, IntKind.max, IntKind.bits, IntKind.signed] at wb3; omega
  have bc3 : -9223372036854775808 ≤ rc3 ∧ rc3 ≤ 9223372036854775807 := by simp [Lit.wf, IntKind.min, IntKind.max, IntKind.bits, IntKind.signed] at wc3; omega
  have bd3 : -9223372036854775808 ≤ rd3 ∧ rd3 ≤ 9223372036854775807 := by simp [Lit.wf, IntKind.min, IntKind.max, IntKind.bits, IntKind.signed] at wd3; omega
  obtain ⟨n4, rfl, rfl, rfl, wf4⟩ := open_int Try.underlying3 (hval 4 3 v4 rfl rfl) h4
  have b14 : -9223372036854775808 ≤ n4 ∧ n4 ≤ 9223372036854775807 := by simp [Lit.wf, IntKind.min, IntKind.max, IntKind.bits, IntKind.signed] at wf4; omega
  have lt5 : ∀ x ∈ p5, x.block < X.heap.size := by obtain ⟨m, hm⟩ := h5; exact DataW.trod_lt m _ _ _ hm
  have o5 : ∃ a n c, v5 = .slice a n c := okWide_slice Try.underlying35 (hval 5 35 v5 rfl rfl)
  have k5 := h5
  obtain ⟨fuel5, hf5⟩ := h5
  obtain ⟨l5, e5, w5, b5⟩ := open_strlist Try.underlying35 Try.underlying9 cStr o5 hf5
  have lt6 : ∀ x ∈ p6, x.block < X.heap.size := by obtain ⟨m, hm⟩ := h6; exact DataW.trod_lt m _ _ _ hm
  have o6 : ∃ a n c, v6 = .slice a n c := okWide_slice Try.underlying35 (hval 6 35 v6 rfl rfl)
  have k6 := h6
  obtain ⟨fuel6, hf6⟩ := h6
  obtain ⟨l6, e6, w6, b6⟩ := open_strlist Try.underlying35 Try.underlying9 cStr o6 hf6
  clear hA0
  have hgl := globOK (X := X)
  refine ((steps_law (G := G1)  l0 (list_u8 w0) (by unfold maxLen at b0; omega) x1 (by unfold maxLen at b11; omega) x2 (by unfold maxLen at b12; omega) ra3 rb3 rc3 rd3 ba3.1 ba3.2 bb3.1 bb3.2 bc3.1 bc3.2 bd3.1 bd3.2 n4 b14.1 b14.2 l5 (by unfold maxLen at b5; omega) l6 (by unfold maxLen at b6; omega)).law hgl (RL.seven e0 (.d _ _ (.str _)) (.d _ _ (.str _)) e3 (.d _ _ (.int _ _)) e5 e6)).mono fun e X' ⟨he, bel⟩ => ?_
  subst he
  exact ⟨_, rfl, _, _, _, [], _, [], hW', trodAll_mk1 (shut_bool Try.underlying4 _), (trodAll_cons_mk (Below.trod laidOut (by kernel_rfl) (of_decide_eq_true (by kernel_rfl)) k0 bel lt0) (trodAll_cons_mk (Go.ChangeMaps.shut_string Try.underlying9 wf1) (trodAll_cons_mk (Go.ChangeMaps.shut_string Try.underlying9 wf2) (trodAll_cons_mk (Below.trod laidOut (by kernel_rfl) (of_decide_eq_true (by kernel_rfl)) h3 bel lt3) (trodAll_cons_mk (shut_int Try.underlying3 wf4) (trodAll_cons_mk (Below.trod laidOut (by kernel_rfl) (of_decide_eq_true (by kernel_rfl)) k5 bel lt5) (trodAll_cons_mk (Below.trod laidOut (by kernel_rfl) (of_decide_eq_true (by kernel_rfl)) k6 bel lt6) trodAll_mk0))))))), rfl, bel.frame _, fun h => by cases h⟩
theorem reads (os : Os) {H : Type} (enc : TypeId × Value → H) : ∃ places, DataW.whole enc Try.prog ((laidWorld os).forCall (fun _ _ => 0) ⟨#[], #[.slice none 0 0, .string .empty, .string .empty, .agg #[.int .i64 0, .int .i64 0, .int .i64 0, .int .i64 0], .int .i64 0, .slice none 0 0, .slice none 0 0], []⟩).memory Try.f6.params.toList Rows.distanceStepsSpec.vars false (#[.slice none 0 0, .string .empty, .string .empty, .agg #[.int .i64 0, .int .i64 0, .int .i64 0, .int .i64 0], .int .i64 0, .slice none 0 0, .slice none 0 0] : Array Value).toList 8 = some ([.nil, .lit (.string []), .lit (.string []), .agg [.lit (.int .i64 0), .lit (.int .i64 0), .lit (.int .i64 0), .lit (.int .i64 0)], .lit (.int .i64 0), .nil, .nil], [], places) :=
  ⟨[], by kernel_rfl⟩
set_option maxRecDepth 100000 in
theorem lifted (os : Os) (started : os.Started) (H : Type) (enc : TypeId × Value → H) (F : Stop.Interp) :
    ReturnsInHanded {} Try.checked os 6 .any ((OpenSpec.ofChange Rows.distanceStepsSpec).preRow enc Try.prog Try.f6 Rows.distanceStepsRow.domain false Rows.distanceStepsRow.laid) (((OpenSpec.ofChange Rows.distanceStepsSpec).at F).post enc Try.prog Try.f6 false true false false) := by
  obtain ⟨places, hx⟩ := reads os enc
  refine returnsInHanded_of_row (C := Try.checked) (s := OpenSpec.ofChange Rows.distanceStepsSpec) own started (by kernel_rfl) Try.func6
    (witness_row_atRef (enc := enc) (C := Try.checked) false (laidWorld os) #[.slice none 0 0, .string .empty, .string .empty, .agg #[.int .i64 0, .int .i64 0, .int .i64 0, .int .i64 0], .int .i64 0, .slice none 0 0, .slice none 0 0] rfl (by kernel_rfl) (by kernel_rfl) (by kernel_rfl)
      (OpenSpec.preRow_of_cond 8 hx (by kernel_rfl) (fun k hk => by cases hk) (by kernel_rfl) (laid_met os _))) ?_
  intro X base args ds gs before hval hW _ _ _ hL _ _
  exact contract H enc X base args ds gs before hval hW hL
theorem said : Rows.DistanceStepsSaid :=
  OpenClaim.holds_of_cond 6 Try.f6 rfl rfl rfl rfl rfl rfl rfl ⟨rfl, rfl, rfl, rfl, rfl⟩ rfl rfl rfl rfl rfl (by kernel_rfl) Try.func6 (by kernel_rfl)
    (of_decide_eq_true (by kernel_rfl)) (by unfold Func.isWrapper; first | (rw [if_pos (by decide +kernel)]; kernel_rfl) | (rw [if_neg (by decide +kernel)]; exact ⟨rfl, rfl⟩))
    (fun os started H enc _ F => by rw [OpenClaim.pre_eq_preRow]; exact lifted os started H enc F)
#print axioms said
end distanceSteps
end Go.Proofs.Ytpnhbjabnnibcaa
