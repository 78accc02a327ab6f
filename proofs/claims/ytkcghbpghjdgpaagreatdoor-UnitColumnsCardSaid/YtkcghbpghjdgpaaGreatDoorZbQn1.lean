/-
  A world that lays the variables of unitColumns.
-/
import Derived.Test.YtkcghbpghjdgpaaGreatDoorMb3
set_option linter.all false
open Go.Abs renaming ofVal → Qa, ofVal0 → Qb, isShift → Qc, aggK → Qd, purePost → Qe, combine → Qf, idsA → Qg, cellsA → Qh, numsOf → Qi, srcA → Qj, calleeA → Qk, refsA → Ql, isScalar → Qm, scalarD → Qn, scalar0 → Qo, putL → Qr, unfA → Qs, sidsB → QJ, keyKD → QL, isIntK → QM, aggD → QN, aggL → QO, eqKs → QP, boxRow → QQ, nextC_more → QT, nextC_over → QU, bs_size → QV, bs_extract → QW, bs_toList → QX, bs_append → QY, byteAt_bs → QZ, bs_cells → Q0, nums_length → Q1, nums_getD → Q2
open Go.Abs.AV renaming one → Qp
open Go.Abs.D renaming one → Qq
open Go.IntKind renaming signed → Qt
open Nat renaming reduceAdd → Qu, reduceSub → Qv, reduceMul → Qw, reducePow → Qx, reduceDiv → Qy, reduceMod → Qz, reduceEqDiff → QI, reduceBEq → QK
open Int renaming reduceAdd → QA, reduceSub → QB, reduceMul → QC, reducePow → QD, reduceNeg → QE, reduceToNat → QF, reduceLT → QG, reduceLE → QH
open Option renaming toList_some → QR, toList_none → QS

namespace Go.Proofs.YtkcghbpghjdgpaaGreatDoor
open Go Go.Proofs Go.Abs Go.RowKit Go.ChangeShapes Go.WideShapes Go.ChangeAt
noncomputable def laidWorld_unitColumns (os : Os) : World :=
  { World.holding Tryz.prog os ⟨#[.cells #[.string ⟨#[118, 97, 108, 117, 101, 32, 111, 117, 116, 32, 111, 102, 32, 114, 97, 110, 103, 101]⟩] 230, .cells #[.string ⟨#[105, 110, 118, 97, 108, 105, 100, 32, 115, 121, 110, 116, 97, 120]⟩] 230, .cells #[.int .u32 1] 98, .cells #[.string ⟨#[107, 103]⟩, .string ⟨#[107, 103]⟩, .int .i64 1, .int .i64 1, .string ⟨#[103]⟩, .string ⟨#[107, 103]⟩, .int .i64 1, .int .i64 1000, .string ⟨#[116]⟩, .string ⟨#[107, 103]⟩, .int .i64 1000, .int .i64 1, .string ⟨#[109]⟩, .string ⟨#[109]⟩, .int .i64 1, .int .i64 1, .string ⟨#[107, 109]⟩, .string ⟨#[109]⟩, .int .i64 1000, .int .i64 1, .string ⟨#[99, 109]⟩, .string ⟨#[109]⟩, .int .i64 1, .int .i64 100, .string ⟨#[109, 109]⟩, .string ⟨#[109]⟩, .int .i64 1, .int .i64 1000, .string ⟨#[115]⟩, .string ⟨#[115]⟩, .int .i64 1, .int .i64 1, .string ⟨#[109, 105, 110]⟩, .string ⟨#[115]⟩, .int .i64 60, .int .i64 1, .string ⟨#[104]⟩, .string ⟨#[115]⟩, .int .i64 3600, .int .i64 1, .string ⟨#[109, 115]⟩, .string ⟨#[115]⟩, .int .i64 1, .int .i64 1000, .string ⟨#[37]⟩, .string ⟨#[37]⟩, .int .i64 1, .int .i64 1] 51, .cells #[.string ⟨#[107, 103]⟩, .string ⟨#[109]⟩, .string ⟨#[115]⟩, .string ⟨#[37]⟩] 9], #[], []⟩ with heap := (((((((((((World.holding Tryz.prog os ⟨#[.cells #[.string ⟨#[118, 97, 108, 117, 101, 32, 111, 117, 116, 32, 111, 102, 32, 114, 97, 110, 103, 101]⟩] 230, .cells #[.string ⟨#[105, 110, 118, 97, 108, 105, 100, 32, 115, 121, 110, 116, 97, 120]⟩] 230, .cells #[.int .u32 1] 98, .cells #[.string ⟨#[107, 103]⟩, .string ⟨#[107, 103]⟩, .int .i64 1, .int .i64 1, .string ⟨#[103]⟩, .string ⟨#[107, 103]⟩, .int .i64 1, .int .i64 1000, .string ⟨#[116]⟩, .string ⟨#[107, 103]⟩, .int .i64 1000, .int .i64 1, .string ⟨#[109]⟩, .string ⟨#[109]⟩, .int .i64 1, .int .i64 1, .string ⟨#[107, 109]⟩, .string ⟨#[109]⟩, .int .i64 1000, .int .i64 1, .string ⟨#[99, 109]⟩, .string ⟨#[109]⟩, .int .i64 1, .int .i64 100, .string ⟨#[109, 109]⟩, .string ⟨#[109]⟩, .int .i64 1, .int .i64 1000, .string ⟨#[115]⟩, .string ⟨#[115]⟩, .int .i64 1, .int .i64 1, .string ⟨#[109, 105, 110]⟩, .string ⟨#[115]⟩, .int .i64 60, .int .i64 1, .string ⟨#[104]⟩, .string ⟨#[115]⟩, .int .i64 3600, .int .i64 1, .string ⟨#[109, 115]⟩, .string ⟨#[115]⟩, .int .i64 1, .int .i64 1000, .string ⟨#[37]⟩, .string ⟨#[37]⟩, .int .i64 1, .int .i64 1] 51, .cells #[.string ⟨#[107, 103]⟩, .string ⟨#[109]⟩, .string ⟨#[115]⟩, .string ⟨#[37]⟩] 9], #[], []⟩).heap.modify 8 fun
      | .cells _ t frozen => .cells #[.int .u8 0, .int .u8 1, .int .u8 28, .int .u8 2, .int .u8 29, .int .u8 14, .int .u8 24, .int .u8 3, .int .u8 30, .int .u8 22, .int .u8 20, .int .u8 15, .int .u8 25, .int .u8 17, .int .u8 4, .int .u8 8, .int .u8 31, .int .u8 27, .int .u8 13, .int .u8 23, .int .u8 21, .int .u8 19, .int .u8 16, .int .u8 7, .int .u8 26, .int .u8 12, .int .u8 18, .int .u8 6, .int .u8 11, .int .u8 5, .int .u8 10, .int .u8 9] t frozen
      | o => o).modify 9 fun
      | .cells _ t frozen => .cells #[.int .u8 0, .int .u8 1, .int .u8 56, .int .u8 2, .int .u8 57, .int .u8 49, .int .u8 28, .int .u8 3, .int .u8 61, .int .u8 58, .int .u8 42, .int .u8 50, .int .u8 38, .int .u8 29, .int .u8 17, .int .u8 4, .int .u8 62, .int .u8 47, .int .u8 59, .int .u8 36, .int .u8 45, .int .u8 43, .int .u8 51, .int .u8 22, .int .u8 53, .int .u8 39, .int .u8 33, .int .u8 30, .int .u8 24, .int .u8 18, .int .u8 12, .int .u8 5, .int .u8 63, .int .u8 55, .int .u8 48, .int .u8 27, .int .u8 60, .int .u8 41, .int .u8 37, .int .u8 16, .int .u8 46, .int .u8 35, .int .u8 44, .int .u8 21, .int .u8 52, .int .u8 32, .int .u8 23, .int .u8 11, .int .u8 54, .int .u8 26, .int .u8 40, .int .u8 15, .int .u8 34, .int .u8 20, .int .u8 31, .int .u8 10, .int .u8 25, .int .u8 14, .int .u8 19, .int .u8 9, .int .u8 13, .int .u8 8, .int .u8 7, .int .u8 6] t frozen
      | o => o).modify 3 fun
      | .cells _ t frozen => .cells #[.int .u64 1, .int .u64 10, .int .u64 100, .int .u64 1000, .int .u64 10000, .int .u64 100000, .int .u64 1000000, .int .u64 10000000, .int .u64 100000000, .int .u64 1000000000, .int .u64 10000000000, .int .u64 100000000000, .int .u64 1000000000000, .int .u64 10000000000000, .int .u64 100000000000000, .int .u64 1000000000000000, .int .u64 10000000000000000, .int .u64 100000000000000000, .int .u64 1000000000000000000, .int .u64 10000000000000000000] t frozen
      | o => o).modify 7 fun
      | .cells _ t frozen => .cells #[.int .u8 128, .int .u8 191, .int .u8 160, .int .u8 191, .int .u8 128, .int .u8 159, .int .u8 144, .int .u8 191, .int .u8 128, .int .u8 143, .int .u8 0, .int .u8 0, .int .u8 0, .int .u8 0, .int .u8 0, .int .u8 0, .int .u8 0, .int .u8 0, .int .u8 0, .int .u8 0, .int .u8 0, .int .u8 0, .int .u8 0, .int .u8 0, .int .u8 0, .int .u8 0, .int .u8 0, .int .u8 0, .int .u8 0, .int .u8 0, .int .u8 0, .int .u8 0] t frozen
      | o => o).modify 11 fun
      | .cells _ t frozen => .cells #[.iface 228 (.pointer (some ⟨(World.settled Tryz.prog os).heap.size, 0, none⟩))] t frozen
      | o => o).modify 10 fun
      | .cells _ t frozen => .cells #[.iface 228 (.pointer (some ⟨(World.settled Tryz.prog os).heap.size + 1, 0, none⟩))] t frozen
      | o => o).modify 2 fun
      | .cells _ t frozen => .cells #[.slice (some ⟨(World.settled Tryz.prog os).heap.size + 2, 0, none⟩) 1 1] t frozen
      | o => o).modify 1 fun
      | .cells _ t frozen => .cells #[.slice (some ⟨(World.settled Tryz.prog os).heap.size + 3, 0, none⟩) 12 12] t frozen
      | o => o).modify 0 fun
      | .cells _ t frozen => .cells #[.slice (some ⟨(World.settled Tryz.prog os).heap.size + 4, 0, none⟩) 4 4] t frozen
      | o => o).modify 6 fun
      | .cells _ t frozen => .cells (Go.Pinned.utf8FirstZ.map fun (n : Nat) => Value.int .u8 (n : Int)).toArray t frozen
      | o => o) }
set_option maxRecDepth 100000 in
theorem laid_met_unitColumns (os : Os) (args : Array Value) : laidMet Tryz.prog [("math/bits.deBruijn32tab", Rows.laid_math_bits_deBruijn32tab), ("math/bits.deBruijn64tab", Rows.laid_math_bits_deBruijn64tab), ("internal/strconv.uint64pow10", Rows.laid_internal_strconv_uint64pow10), ("unicode/utf8.acceptRanges", Rows.laid_unicode_utf8_acceptRanges), ("strconv.ErrRange", Rows.laid_strconv_ErrRange), ("strconv.ErrSyntax", Rows.laid_strconv_ErrSyntax), ("tablefinder/fraction.one", Rows.laid_tablefinder_fraction_one), ("tablefinder/unit.units", Rows.laid_tablefinder_unit_units), ("tablefinder/unit.bases", Rows.laid_tablefinder_unit_bases), ("unicode/utf8.first", Rows.laid_unicode_utf8_first)] ((laidWorld_unitColumns os).forCall (fun _ _ => 0) ⟨#[], args, []⟩).memory :=
  laidMet_of_run' 8 (by kernel_rfl) (by kernel_rfl)
end Go.Proofs.YtkcghbpghjdgpaaGreatDoor

namespace Go.Proofs.YtkcghbpghjdgpaaGreatDoor
open Go Go.Proofs Go.Abs
variable {G : Globals}
/-! unit.Take, unit.Apply; cloned cells. -/
abbrev OU := List UInt8 × Int × Int
abbrev OUC (o : OU) : List D := [S o.1, .int .i64 o.2.1, .int .i64 o.2.2]
def ouC (l : List OU) : List D := l.flatMap OUC
def toU (l : List Opt) : List OU := l.map fun o => (o.txt, (o.fr : Int), (o.ag : Int))
def noOU : OU := ([], 0, 0)
theorem toU_len (l : List Opt) : (toU l).length = l.length := by simp [toU]
theorem ouC_to : ∀ l : List Opt, ouC (toU l) = optC l
  | [] => rfl
  | o :: l => by
    have ih := ouC_to l
    simp only [ouC, toU, List.map_cons, List.flatMap_cons, optC] at ih ⊢
    rw [ih]
theorem ouC_length : ∀ l : List OU, (ouC l).length = 3 * l.length
  | [] => rfl
  | o :: l => by
    have ih := ouC_length l
    simp only [ouC, List.flatMap_cons, List.length_append, List.length_cons, List.length_nil] at ih ⊢
    omega
theorem ouC_get : ∀ {l : List OU} {k : Nat}, k < l.length → ((ouC l).drop (k * 3)).take 3 = OUC (l.getD k noOU)
  | [], k, h => absurd h (Nat.not_lt_zero _)
  | o :: l, 0, _ => by simp [ouC]
  | o :: l, k + 1, h => by
    have ih := ouC_get (l := l) (k := k) (by simpa using h)
    have e2 : ouC (o :: l) = S o.1 :: .int .i64 o.2.1 :: .int .i64 o.2.2 :: ouC l := rfl
    rw [show (k + 1) * 3 = k * 3 + 3 by omega, e2]
    simpa using ih
theorem ouC_txt : ∀ {l : List OU} {k : Nat}, k < l.length → (ouC l).getD (k * 3) .nilp = S (l.getD k noOU).1
  | [], k, h => absurd h (Nat.not_lt_zero _)
  | o :: l, 0, _ => by simp [ouC]
  | o :: l, k + 1, h => by
    have ih := ouC_txt (l := l) (k := k) (by simpa using h)
    have e2 : ouC (o :: l) = S o.1 :: .int .i64 o.2.1 :: .int .i64 o.2.2 :: ouC l := rfl
    rw [show (k + 1) * 3 = k * 3 + 3 by omega, e2]
    simpa using ih
def goodU (o : OU) : Bool := decide (0 < o.2.1) && decide (o.2.2 = 0)
def takeU (l : List OU) : List UInt8 := match l.find? goodU with | some o => o.1 | none => []
theorem ixF_find {α : Type} {p : α → Bool} {d : α} : ∀ (l : List α) (k : Int), 0 ≤ k → (ixF p l k < 0 ∧ l.find? p = none) ∨ ∃ n, n < l.length ∧ ixF p l k = k + n ∧ l.find? p = some (l.getD n d)
  | [], k, h => .inl ⟨by rw [ixF]; omega, rfl⟩
  | x :: r, k, h => by
    rw [ixF, List.find?_cons]
    cases hx : p x
    · rcases ixF_find (d := d) r (k + 1) (by omega) with ⟨h1, h2⟩ | ⟨n, h1, h2, h3⟩
      · exact .inl ⟨by simpa using h1, h2⟩
      · exact .inr ⟨n + 1, by simp; omega, by simp; omega, by simpa using h3⟩
    · exact .inr ⟨0, by simp, by simp, by simp⟩
set_option maxRecDepth 100000 in
theorem take1_spec (o : OU) : Ctr Tryz.prog G 35 [.d (.agg (OUC o))] [] (.d (.bool (goodU o))) [] := by
  obtain ⟨t, a, b⟩ := o
  obtain ⟨r, hr⟩ : ∃ r, r = goodU (t, a, b) := ⟨_, rfl⟩
  rw [← hr]
  unfold goodU at hr
  simp only at hr
  refine Ctr.pure (M := M0) hmix Tryz.func35 rfl go35 ?_
  by_cases e1 : 0 < a
  · rw [decide_eq_true e1, Bool.true_and] at hr
    subst hr
    simp (config := { maxSteps := 1000000 }) (disch := ((try simp only [awL]); omega)) only [QR, QS, QT, QU, QV, QW, QX, QY, QZ, Q0, Q1, Q2, Tryz.f35, ↓awU, awV, awF, Qa, Qb, Qc, Qd, forall_const, ↓reduceIte, ↓reduceDIte, ↓Qe, Qf, Qg, Qh, Qi, Qj, Qk, Ql, Qm, Qn, Qo, Qp, Qq, Qr, Qs, implies_true, Qt, Qu, Qv, Qw, Qx, Qy, Qz, QA, QB, QC, QD, QE, QF, QG, QH, QI, QJ, QK, QL, QM, QN, QO, QP, QQ]
    first | done | rfl
  · rw [decide_eq_false e1, Bool.false_and] at hr
    subst hr
    simp (config := { maxSteps := 1000000 }) (disch := ((try simp only [awL]); omega)) only [QR, QS, QT, QU, QV, QW, QX, QY, QZ, Q0, Q1, Q2, Tryz.f35, ↓awU, awV, awF, Qa, Qb, Qc, Qd, forall_const, ↓reduceIte, ↓reduceDIte, ↓Qe, Qf, Qg, Qh, Qi, Qj, Qk, Ql, Qm, Qn, Qo, Qp, Qq, Qr, Qs, implies_true, Qt, Qu, Qv, Qw, Qx, Qy, Qz, QA, QB, QC, QD, QE, QF, QG, QH, QI, QJ, QK, QL, QM, QN, QO, QP, QQ]
    first | done | rfl
set_option maxHeartbeats 4000000 in
theorem ixU_spec (l : List OU) (full : Bool) (hl : l.length ≤ 1000000) :
    Ctr Tryz.prog G 34 [.d (.sl l.length full (ouC l)), .d (.fn (.func 35) [] [])] [] (.d (.int .i64 (ixF goodU l 0))) [] := by
  refine Ctr.pure (M := M0) hmix Tryz.func34 rfl go34 ?_
  have sl := @ouC_length l
  simp (config := { maxSteps := 1000000 }) (disch := ((try simp only [awL]); omega)) only [QR, QS, QT, QU, QV, QW, QX, QY, QZ, Q0, Q1, Q2, sl, Tryz.f34, ↓awU, awV, awF, Qa, Qb, Qc, Qd, forall_const, ↓reduceIte, ↓reduceDIte, ↓Qe, Qf, Qg, Qh, Qi, Qj, Qk, Ql, Qm, Qn, Qo, Qp, Qq, Qr, Qs, implies_true, Qt, Qu, Qv, Qw, Qx, Qy, Qz, QA, QB, QC, QD, QE, QF, QG, QH, QI, QJ, QK, QL, QM, QN, QO, QP, QQ]
  refine LoopC.fr 131 (α := Nat) (fun i => l.length - i) (fun i => [(8, .d (.int .i64 i))]) (fun _ => []) (fun i => i ≤ l.length ∧ ixF goodU l 0 = ixF goodU (l.drop i) i) 0 ⟨Nat.zero_le _, rfl⟩ ?_ ?_
  · exact ⟨[], rfl, by simp, by simp [setsA, keepA, SWeak, AWeak], by simp [HWeak, BWeak, SWeak, AWeak]⟩
  · rintro i ⟨h1, h2⟩
    simp only [awK, Nat.reduceMod, Nat.reduceDiv, reduceIte]
    rw [h2]
    rcases Nat.lt_or_ge i l.length with h | h
    · have g := ouC_get h
      rw [ixF_at (d := noOU) h]
      generalize l.getD i noOU = o at *
      simp (config := { maxSteps := 1000000 }) (disch := ((try simp only [awL]); omega)) only [QR, QS, QT, QU, QV, QW, QX, QY, QZ, Q0, Q1, Q2, sl, g, ↓awU, awV, awF, Qa, Qb, Qc, Qd, forall_const, ↓reduceIte, ↓reduceDIte, ↓Qe, Qf, Qg, Qh, Qi, Qj, Qk, Ql, Qm, Qn, Qo, Qp, Qq, Qr, Qs, implies_true, Qt, Qu, Qv, Qw, Qx, Qy, Qz, QA, QB, QC, QD, QE, QF, QG, QH, QI, QJ, QK, QL, QM, QN, QO, QP, QQ]
      refine CallC.of (take1_spec o) (by rfl) ?_
      cases hx : goodU o
      · simp (config := { maxSteps := 1000000 }) (disch := ((try simp only [awL]); omega)) only [QR, QS, QT, QU, QV, QW, QX, QY, QZ, Q0, Q1, Q2, ↓awU, awV, awF, Qa, Qb, Qc, Qd, forall_const, ↓reduceIte, ↓reduceDIte, ↓Qe, Qf, Qg, Qh, Qi, Qj, Qk, Ql, Qm, Qn, Qo, Qp, Qq, Qr, Qs, implies_true, Qt, Qu, Qv, Qw, Qx, Qy, Qz, QA, QB, QC, QD, QE, QF, QG, QH, QI, QJ, QK, QL, QM, QN, QO, QP, QQ]
        exact ⟨i + 1, ⟨h, rfl⟩, by simp only; omega, ⟨[], rfl, by simp, by simp [setsA, keepA, SWeak, AWeak], by simp [HWeak, BWeak, SWeak, AWeak]⟩⟩
      · simp (config := { maxSteps := 1000000 }) (disch := ((try simp only [awL]); omega)) only [QR, QS, QT, QU, QV, QW, QX, QY, QZ, Q0, Q1, Q2, ↓awU, awV, awF, Qa, Qb, Qc, Qd, forall_const, ↓reduceIte, ↓reduceDIte, ↓Qe, Qf, Qg, Qh, Qi, Qj, Qk, Ql, Qm, Qn, Qo, Qp, Qq, Qr, Qs, implies_true, Qt, Qu, Qv, Qw, Qx, Qy, Qz, QA, QB, QC, QD, QE, QF, QG, QH, QI, QJ, QK, QL, QM, QN, QO, QP, QQ]
    · rw [List.drop_eq_nil_of_le h]
      simp (config := { maxSteps := 1000000 }) (disch := ((try simp only [awL]); omega)) only [QR, QS, QT, QU, QV, QW, QX, QY, QZ, Q0, Q1, Q2, sl, ↓awU, awV, awF, Qa, Qb, Qc, Qd, forall_const, ↓reduceIte, ↓reduceDIte, ↓Qe, Qf, Qg, Qh, Qi, Qj, Qk, Ql, Qm, Qn, Qo, Qp, Qq, Qr, Qs, implies_true, Qt, Qu, Qv, Qw, Qx, Qy, Qz, QA, QB, QC, QD, QE, QF, QG, QH, QI, QJ, QK, QL, QM, QN, QO, QP, QQ]
      rfl
set_option maxHeartbeats 4000000 in
set_option maxRecDepth 100000 in
theorem utake_spec (l : List OU) (full : Bool) (hl : l.length ≤ 1000000) : Ctr Tryz.prog G 10 [.d (.sl l.length full (ouC l))] [] (.d (S (takeU l))) [] := by
  obtain ⟨r, hr⟩ : ∃ r, r = takeU l := ⟨_, rfl⟩
  rw [← hr]
  unfold takeU at hr
  have sl := @ouC_length l
  refine Ctr.pure (M := M0) hmix Tryz.func10 rfl go10 ?_
  simp (config := { maxSteps := 1000000 }) (disch := ((try simp only [awL]); omega)) only [QR, QS, QT, QU, QV, QW, QX, QY, QZ, Q0, Q1, Q2, Tryz.f10, ↓awU, awV, awF, Qa, Qb, Qc, Qd, forall_const, ↓reduceIte, ↓reduceDIte, ↓Qe, Qf, Qg, Qh, Qi, Qj, Qk, Ql, Qm, Qn, Qo, Qp, Qq, Qr, Qs, implies_true, Qt, Qu, Qv, Qw, Qx, Qy, Qz, QA, QB, QC, QD, QE, QF, QG, QH, QI, QJ, QK, QL, QM, QN, QO, QP, QQ]
  refine CallC.of (ixU_spec l false hl) (by rfl) ?_
  rcases ixF_find (p := goodU) (d := noOU) l 0 (Int.le_refl _) with ⟨h1, h2⟩ | ⟨n, h1, h2, h3⟩
  · rw [h2] at hr
    simp only at hr
    subst hr
    generalize ixF goodU l 0 = z at *
    simp (config := { maxSteps := 1000000 }) (disch := ((try simp only [awL]); omega)) only [QR, QS, QT, QU, QV, QW, QX, QY, QZ, Q0, Q1, Q2, ↓awU, awV, awF, Qa, Qb, Qc, Qd, forall_const, ↓reduceIte, ↓reduceDIte, ↓Qe, Qf, Qg, Qh, Qi, Qj, Qk, Ql, Qm, Qn, Qo, Qp, Qq, Qr, Qs, implies_true, Qt, Qu, Qv, Qw, Qx, Qy, Qz, QA, QB, QC, QD, QE, QF, QG, QH, QI, QJ, QK, QL, QM, QN, QO, QP, QQ]
    first | done | rfl
  · rw [h3] at hr
    simp only at hr
    rw [h2, Int.zero_add]
    have gt := ouC_txt h1
    rw [← hr] at gt
    simp (config := { maxSteps := 1000000 }) (disch := ((try simp only [awL]); omega)) only [QR, QS, QT, QU, QV, QW, QX, QY, QZ, Q0, Q1, Q2, sl, gt, ↓awU, awV, awF, Qa, Qb, Qc, Qd, forall_const, ↓reduceIte, ↓reduceDIte, ↓Qe, Qf, Qg, Qh, Qi, Qj, Qk, Ql, Qm, Qn, Qo, Qp, Qq, Qr, Qs, implies_true, Qt, Qu, Qv, Qw, Qx, Qy, Qz, QA, QB, QC, QD, QE, QF, QG, QH, QI, QJ, QK, QL, QM, QN, QO, QP, QQ]
    first | done | rfl
theorem celsD_unf {l : List Cel} : (celsD l).map unf0 = celsD l := by
  induction l with
  | nil => rfl
  | cons x l ih =>
    have e : celsD (x :: l) = .bool x.2 :: S x.1 :: celsD l := rfl
    rw [e, List.map_cons, List.map_cons, ih]; rfl
theorem cloneC_spec (l : List Cel) (full : Bool) (hl : l.length < 2 ^ 40) : Ctr Tryz.prog G 37 [.d (CelS l full)] [] (.d (CelS l false)) [] := by
  refine Ctr.of_body Tryz.func37 rfl go37 rfl ?_
  have sl := celsD_length l
  refine Tri.seq (Tri.of_awp (M := M0) hmix _ _ _ _ ?_)
  simp (config := { maxSteps := 1000000 }) (disch := ((try simp only [awL]); omega)) only [QR, QS, QT, QU, QV, QW, QX, QY, QZ, Q0, Q1, Q2, aseq_normal, Tryz.f37, ↓awU, awV, awF, Qa, Qb, Qc, Qd, forall_const, ↓reduceIte, ↓reduceDIte, ↓Qe, Qf, Qg, Qh, Qi, Qj, Qk, Ql, Qm, Qn, Qo, Qp, Qq, Qr, Qs, implies_true, Qt, Qu, Qv, Qw, Qx, Qy, Qz, QA, QB, QC, QD, QE, QF, QG, QH, QI, QJ, QK, QL, QM, QN, QO, QP, QQ]
  refine Tri.seq (Tri.seq (Tri.nilRegion (e := 38) (by kernel_rfl) rfl ?_ ?_))
  · simp
  intro b hb
  simp only [aseq_normal]
  refine Tri.of_awp (M := M0) hmix _ _ _ _ ?_
  cases b
  · simp (config := { maxSteps := 1000000 }) (disch := ((try simp only [awL]); omega)) only [QR, QS, QT, QU, QV, QW, QX, QY, QZ, Q0, Q1, Q2, aseq_normal, Tryz.f37, aseq_ret, ↓awU, awV, awF, Qa, Qb, Qc, Qd, forall_const, ↓reduceIte, ↓reduceDIte, ↓Qe, Qf, Qg, Qh, Qi, Qj, Qk, Ql, Qm, Qn, Qo, Qp, Qq, Qr, Qs, implies_true, Qt, Qu, Qv, Qw, Qx, Qy, Qz, QA, QB, QC, QD, QE, QF, QG, QH, QI, QJ, QK, QL, QM, QN, QO, QP, QQ]
    refine Tri.of_awp (M := M0) hmix _ _ _ _ ?_
    simp (config := { maxSteps := 1000000 }) (disch := ((try simp only [awL]); omega)) only [QR, QS, QT, QU, QV, QW, QX, QY, QZ, Q0, Q1, Q2, sl, aseq_normal, Tryz.f37, aseq_ret, ↓awU, awV, awF, Qa, Qb, Qc, Qd, forall_const, ↓reduceIte, ↓reduceDIte, ↓Qe, Qf, Qg, Qh, Qi, Qj, Qk, Ql, Qm, Qn, Qo, Qp, Qq, Qr, Qs, implies_true, Qt, Qu, Qv, Qw, Qx, Qy, Qz, QA, QB, QC, QD, QE, QF, QG, QH, QI, QJ, QK, QL, QM, QN, QO, QP, QQ]
    have cu : cut (celsD l) 0 (l.length * 2) = celsD l := by unfold cut; rw [List.drop_zero, List.take_of_length_le (by omega)]
    refine ⟨[], rfl, List.nodup_nil, trivial, .inr ⟨CelS l false, ?_, ?_, rfl⟩⟩
    · simp [sealA, cu]
    · simp only [unf_sl, celsD_unf]
  · simp (config := { maxSteps := 1000000 }) (disch := ((try simp only [awL]); omega)) only [QR, QS, QT, QU, QV, QW, QX, QY, QZ, Q0, Q1, Q2, aseq_normal, Tryz.f37, aseq_ret, ↓awU, awV, awF, Qa, Qb, Qc, Qd, forall_const, ↓reduceIte, ↓reduceDIte, ↓Qe, Qf, Qg, Qh, Qi, Qj, Qk, Ql, Qm, Qn, Qo, Qp, Qq, Qr, Qs, implies_true, Qt, Qu, Qv, Qw, Qx, Qy, Qz, QA, QB, QC, QD, QE, QF, QG, QH, QI, QJ, QK, QL, QM, QN, QO, QP, QQ]
    have h0 : l = [] := List.length_eq_zero_iff.1 (hb rfl)
    subst h0
    exact ⟨[], rfl, List.nodup_nil, trivial, .inr ⟨.sl 0 true [], rfl, rfl, rfl⟩⟩
theorem cloneR_spec (l : List Cel) (full : Bool) (hl : l.length < 2 ^ 40) (h0 : 0 < l.length) : Ctr Tryz.prog G 37 [.d (CelS l full)] [] (.lsl 0 2 0 l.length) [.row false (celsD l)] := by
  refine Ctr.of_body Tryz.func37 rfl go37 rfl ?_
  have sl := celsD_length l
  refine Tri.seq (Tri.of_awp (M := M0) hmix _ _ _ _ ?_)
  simp (config := { maxSteps := 1000000 }) (disch := ((try simp only [awL]); omega)) only [QR, QS, QT, QU, QV, QW, QX, QY, QZ, Q0, Q1, Q2, aseq_normal, Tryz.f37, ↓awU, awV, awF, Qa, Qb, Qc, Qd, forall_const, ↓reduceIte, ↓reduceDIte, ↓Qe, Qf, Qg, Qh, Qi, Qj, Qk, Ql, Qm, Qn, Qo, Qp, Qq, Qr, Qs, implies_true, Qt, Qu, Qv, Qw, Qx, Qy, Qz, QA, QB, QC, QD, QE, QF, QG, QH, QI, QJ, QK, QL, QM, QN, QO, QP, QQ]
  refine Tri.seq (Tri.seq (Tri.nilRegion (e := 38) (by kernel_rfl) rfl ?_ ?_))
  · simp
  intro b hb
  simp only [aseq_normal]
  refine Tri.of_awp (M := M0) hmix _ _ _ _ ?_
  cases b
  · simp (config := { maxSteps := 1000000 }) (disch := ((try simp only [awL]); omega)) only [QR, QS, QT, QU, QV, QW, QX, QY, QZ, Q0, Q1, Q2, aseq_normal, Tryz.f37, aseq_ret, ↓awU, awV, awF, Qa, Qb, Qc, Qd, forall_const, ↓reduceIte, ↓reduceDIte, ↓Qe, Qf, Qg, Qh, Qi, Qj, Qk, Ql, Qm, Qn, Qo, Qp, Qq, Qr, Qs, implies_true, Qt, Qu, Qv, Qw, Qx, Qy, Qz, QA, QB, QC, QD, QE, QF, QG, QH, QI, QJ, QK, QL, QM, QN, QO, QP, QQ]
    refine Tri.of_awp (M := M0) hmix _ _ _ _ ?_
    simp (config := { maxSteps := 1000000 }) (disch := ((try simp only [awL]); omega)) only [QR, QS, QT, QU, QV, QW, QX, QY, QZ, Q0, Q1, Q2, sl, aseq_normal, Tryz.f37, aseq_ret, ↓awU, awV, awF, Qa, Qb, Qc, Qd, forall_const, ↓reduceIte, ↓reduceDIte, ↓Qe, Qf, Qg, Qh, Qi, Qj, Qk, Ql, Qm, Qn, Qo, Qp, Qq, Qr, Qs, implies_true, Qt, Qu, Qv, Qw, Qx, Qy, Qz, QA, QB, QC, QD, QE, QF, QG, QH, QI, QJ, QK, QL, QM, QN, QO, QP, QQ]
    have cu : cut (celsD l) 0 (l.length * 2) = celsD l := by unfold cut; rw [List.drop_zero, List.take_of_length_le (by omega)]
    exact ⟨[some 1], rfl, by simp, by simp [HWeak, BWeak, SWeak, AWeak], .inl (by simp [AWeak, SWeak])⟩
  · exact absurd (hb rfl) (by omega)
end Go.Proofs.YtkcghbpghjdgpaaGreatDoor

namespace Go.Proofs.YtkcghbpghjdgpaaGreatDoor
open Go Go.Proofs Go.Abs
variable {G : Globals}
/-! unit.Apply. -/
def apU (b : List UInt8) (x : Cel) : Cel := if x.2 = true then x else ((basedU x.1 b).1, x.2)
def fitU (b : List UInt8) (x : Cel) : Bool := x.2 || (basedU x.1 b).2
def uapE (b : List UInt8) (l : List Cel) : Int := if b = [] then 0 else if b ∈ basesL then (if l.all (fitU b) = true then 0 else 4) else 5
def uapL (b : List UInt8) (l : List Cel) : List Cel := if b = [] then l else l.map (apU b)
def uapR (nm b : List UInt8) (l : List Cel) : D := .tup [if uapE b l = 0 then .agg [S nm, CelS (uapL b l) false] else .agg [S [], .sl 0 false []], .int .i64 (uapE b l)]
def mixU (b : List UInt8) (l : List Cel) (i : Nat) : List Cel := (l.take i).map (apU b) ++ l.drop i
theorem mixU_len (b : List UInt8) (l : List Cel) (i : Nat) : (mixU b l i).length = l.length := by
  unfold mixU; rw [List.length_append, List.length_map, List.length_take, List.length_drop]; omega
theorem mixU_get {b : List UInt8} {l : List Cel} {i : Nat} (h : i < l.length) : (mixU b l i).getD i noC = l.getD i noC := by
  unfold mixU
  rw [List.getD_eq_getElem?_getD, List.getElem?_append_right (by simp; omega), List.getElem?_drop, ← List.getD_eq_getElem?_getD]
  congr 1; simp; omega
theorem mixU_step {b : List UInt8} {l : List Cel} {i : Nat} (h : i < l.length) : mixU b l i = (l.take i).map (apU b) ++ l.getD i noC :: l.drop (i + 1) ∧ mixU b l (i + 1) = (l.take i).map (apU b) ++ apU b (l.getD i noC) :: l.drop (i + 1) := by
  unfold mixU
  constructor
  · rw [List.drop_eq_getElem_cons h, List.getD_eq_getElem?_getD, List.getElem?_eq_getElem h]; rfl
  · rw [List.take_add_one, getD_some (d := noC) h]; simp
theorem mixU_end {b : List UInt8} {l : List Cel} : mixU b l l.length = l.map (apU b) := by unfold mixU; simp
theorem celsD_txt {A Z : List Cel} {x : Cel} {i : Nat} (ha : A.length = i) (t : List UInt8) : (celsD (A ++ x :: Z)).set (i * 2 + 1) (.str (bs t)) = celsD (A ++ (t, x.2) :: Z) := by
  have hl := celsD_length A
  rw [celsD_app, celsD_app, List.set_append_right _ _ (by omega), show i * 2 + 1 - (celsD A).length = 1 by omega]
  rfl
theorem mixU_set {b : List UInt8} {l : List Cel} {i : Nat} (h : i < l.length) {t : List UInt8} (hx : l.getD i noC = (t, false)) : (celsD (mixU b l i)).set (i * 2 + 1) (.str (bs (basedU t b).1)) = celsD (mixU b l (i + 1)) := by
  obtain ⟨h1, h2⟩ := mixU_step (b := b) h
  rw [h1, h2, celsD_txt (by simp; omega), hx]
  rfl
theorem mixU_null {b : List UInt8} {l : List Cel} {i : Nat} (h : i < l.length) {t : List UInt8} (hx : l.getD i noC = (t, true)) : mixU b l (i + 1) = mixU b l i := by
  obtain ⟨h1, h2⟩ := mixU_step (b := b) h
  rw [h1, h2, hx]
  rfl
theorem all_takeU {l : List Cel} {p : Cel → Bool} {i : Nat} (h : i < l.length) (h1 : (l.take i).all p = true) (h2 : p (l.getD i noC) = true) : (l.take (i + 1)).all p = true := by
  rw [List.take_add_one, getD_some (d := noC) h, List.all_append, h1]
  simpa using h2
set_option maxHeartbeats 16000000 in
set_option maxRecDepth 100000 in
theorem uapply_spec (hG : Num.HG G) (hU : HU G) (hB : HB G) (nm : List UInt8) (l : List Cel) (full : Bool) (hl : okU l) (b : List UInt8) :
    Ctr Tryz.prog G 12 [.d (.agg [S nm, CelS l full]), .d (S b)] [] (.d (uapR nm b l)) [] := by
  obtain ⟨r, hr⟩ : ∃ r, r = uapR nm b l := ⟨_, rfl⟩
  rw [← hr]
  unfold uapR uapE uapL at hr
  have lc := celsD_length l
  have l1 := hl.1
  have hb0 : ByteArray.empty = bs [] := rfl
  refine Ctr.pure (M := M0) hmix Tryz.func12 rfl go12 ?_
  by_cases e0 : b = []
  · subst e0
    rw [if_pos rfl, if_pos rfl, if_pos rfl] at hr
    have e0' : (([] : List UInt8) = []) = True := eq_true rfl
    simp (config := { maxSteps := 1000000 }) (disch := ((try simp only [awL]); omega)) only [QR, QS, QT, QU, QV, QW, QX, QY, QZ, Q0, Q1, Q2, lc, Tryz.f12, ↓awU, awV, awF, Qa, Qb, Qc, Qd, forall_const, ↓reduceIte, ↓reduceDIte, ↓Qe, Qf, Qg, Qh, Qi, Qj, Qk, Ql, Qm, Qn, Qo, Qp, Qq, Qr, Qs, implies_true, Qt, Qu, Qv, Qw, Qx, Qy, Qz, QA, QB, QC, QD, QE, QF, QG, QH, QI, QJ, QK, QL, QM, QN, QO, QP, QQ]
    refine CallC.of (cloneC_spec l false (by omega)) (by rfl) ?_
    subst hr
    simp (config := { maxSteps := 1000000 }) (disch := ((try simp only [awL]); omega)) only [QR, QS, QT, QU, QV, QW, QX, QY, QZ, Q0, Q1, Q2, lc, ↓awU, awV, awF, Qa, Qb, Qc, Qd, forall_const, ↓reduceIte, ↓reduceDIte, ↓Qe, Qf, Qg, Qh, Qi, Qj, Qk, Ql, Qm, Qn, Qo, Qp, Qq, Qr, Qs, implies_true, Qt, Qu, Qv, Qw, Qx, Qy, Qz, QA, QB, QC, QD, QE, QF, QG, QH, QI, QJ, QK, QL, QM, QN, QO, QP, QQ]
    refine ⟨by rfl, ?_⟩
    refine LoopC.fr 201326674 (α := Nat) (fun i => l.length - i) (fun i => [(28, .d (.int .i64 (i : Nat)))])
      (fun _ => [.dead, .box [.d (.str ByteArray.empty), .d (.sl 0 true [])], .box [.d (S nm), .d (CelS l false)]]) (fun i => i ≤ l.length) 0 (Nat.zero_le _) ?_ ?_
    · exact ⟨[some 0, some 1, some 2], rfl, by simp, by simp [setsA, keepA, SWeak, AWeak], by simp [HWeak, BWeak, SWeak, AWeak]⟩
    · intro i hi
      simp only [awK, Nat.reduceMod, Nat.reduceDiv, reduceIte]
      rcases Nat.lt_or_ge i l.length with h | h
      · have gc := celsD_get h
        generalize l.getD i noC = x at *
        obtain ⟨t, nul⟩ := x
        have gc : ((celsD l).drop (i * 2)).take 2 = [.bool nul, S t] := gc
        simp (config := { maxSteps := 1000000 }) (disch := ((try simp only [awL]); omega)) only [QR, QS, QT, QU, QV, QW, QX, QY, QZ, Q0, Q1, Q2, lc, gc, ↓awU, awV, awF, Qa, Qb, Qc, Qd, forall_const, ↓reduceIte, ↓reduceDIte, ↓Qe, Qf, Qg, Qh, Qi, Qj, Qk, Ql, Qm, Qn, Qo, Qp, Qq, Qr, Qs, implies_true, Qt, Qu, Qv, Qw, Qx, Qy, Qz, QA, QB, QC, QD, QE, QF, QG, QH, QI, QJ, QK, QL, QM, QN, QO, QP, QQ]
        first
        | exact ⟨i + 1, h, by simp only; omega, ⟨[some 0, some 1, some 2], rfl, by simp, by simp [setsA, keepA, SWeak, AWeak], by simp [HWeak, BWeak, SWeak, AWeak]⟩⟩
        | exact ⟨by rfl, i + 1, h, by simp only; omega, ⟨[some 0, some 1, some 2], rfl, by simp, by simp [setsA, keepA, SWeak, AWeak], by simp [HWeak, BWeak, SWeak, AWeak]⟩⟩
      · simp (config := { maxSteps := 1000000 }) (disch := ((try simp only [awL]); omega)) only [QR, QS, QT, QU, QV, QW, QX, QY, QZ, Q0, Q1, Q2, lc, ↓awU, awV, awF, Qa, Qb, Qc, Qd, forall_const, ↓reduceIte, ↓reduceDIte, ↓Qe, Qf, Qg, Qh, Qi, Qj, Qk, Ql, Qm, Qn, Qo, Qp, Qq, Qr, Qs, implies_true, Qt, Qu, Qv, Qw, Qx, Qy, Qz, QA, QB, QC, QD, QE, QF, QG, QH, QI, QJ, QK, QL, QM, QN, QO, QP, QQ]
        first | done | rfl
  · rw [if_neg e0, if_neg e0] at hr
    have e0' : (b = []) = False := eq_false e0
    by_cases e1 : b ∈ basesL
    · rw [if_pos e1] at hr
      simp (config := { maxSteps := 1000000 }) (disch := ((try simp only [awL]); omega)) only [QR, QS, QT, QU, QV, QW, QX, QY, QZ, Q0, Q1, Q2, lc, e0', Tryz.f12, ↓awU, awV, awF, Qa, Qb, Qc, Qd, forall_const, ↓reduceIte, ↓reduceDIte, ↓Qe, Qf, Qg, Qh, Qi, Qj, Qk, Ql, Qm, Qn, Qo, Qp, Qq, Qr, Qs, implies_true, Qt, Qu, Qv, Qw, Qx, Qy, Qz, QA, QB, QC, QD, QE, QF, QG, QH, QI, QJ, QK, QL, QM, QN, QO, QP, QQ]
      refine CallC.of (known_spec hB b) (by rfl) ?_
      rw [decide_eq_true e1]
      rcases Nat.eq_zero_or_pos l.length with h0 | h0
      · have e2 := List.length_eq_zero_iff.1 h0
        subst e2
        rw [show List.all [] (fitU b) = true from rfl, if_pos rfl, if_pos rfl] at hr
        subst hr
        simp (config := { maxSteps := 1000000 }) (disch := ((try simp only [awL]); omega)) only [QR, QS, QT, QU, QV, QW, QX, QY, QZ, Q0, Q1, Q2, lc, ↓awU, awV, awF, Qa, Qb, Qc, Qd, forall_const, ↓reduceIte, ↓reduceDIte, ↓Qe, Qf, Qg, Qh, Qi, Qj, Qk, Ql, Qm, Qn, Qo, Qp, Qq, Qr, Qs, implies_true, Qt, Qu, Qv, Qw, Qx, Qy, Qz, QA, QB, QC, QD, QE, QF, QG, QH, QI, QJ, QK, QL, QM, QN, QO, QP, QQ]
        refine CallC.of (cloneC_spec [] false (by decide)) (by rfl) ?_
        simp (config := { maxSteps := 1000000 }) (disch := ((try simp only [awL]); omega)) only [QR, QS, QT, QU, QV, QW, QX, QY, QZ, Q0, Q1, Q2, lc, ↓awU, awV, awF, Qa, Qb, Qc, Qd, forall_const, ↓reduceIte, ↓reduceDIte, ↓Qe, Qf, Qg, Qh, Qi, Qj, Qk, Ql, Qm, Qn, Qo, Qp, Qq, Qr, Qs, implies_true, Qt, Qu, Qv, Qw, Qx, Qy, Qz, QA, QB, QC, QD, QE, QF, QG, QH, QI, QJ, QK, QL, QM, QN, QO, QP, QQ]
        refine ⟨by rfl, ?_⟩
        refine LoopC.fr 201326674 (α := Nat) (fun i => 0 - i) (fun i => [(28, .d (.int .i64 (i : Nat)))])
          (fun _ => [.dead, .box [.d (.str ByteArray.empty), .d (.sl 0 true [])], .box [.d (S nm), .d (CelS [] false)]]) (fun i => i ≤ 0) 0 (Nat.zero_le _) ?_ ?_
        · exact ⟨[some 0, some 1, some 2], rfl, by simp, by simp [setsA, keepA, SWeak, AWeak], by simp [HWeak, BWeak, SWeak, AWeak]⟩
        · intro i hi
          obtain rfl : i = 0 := by omega
          simp only [awK, Nat.reduceMod, Nat.reduceDiv, reduceIte]
          simp (config := { maxSteps := 1000000 }) (disch := ((try simp only [awL]); omega)) only [QR, QS, QT, QU, QV, QW, QX, QY, QZ, Q0, Q1, Q2, lc, List.length_nil, ↓awU, awV, awF, Qa, Qb, Qc, Qd, forall_const, ↓reduceIte, ↓reduceDIte, ↓Qe, Qf, Qg, Qh, Qi, Qj, Qk, Ql, Qm, Qn, Qo, Qp, Qq, Qr, Qs, implies_true, Qt, Qu, Qv, Qw, Qx, Qy, Qz, QA, QB, QC, QD, QE, QF, QG, QH, QI, QJ, QK, QL, QM, QN, QO, QP, QQ]
          first | done | rfl
      · simp (config := { maxSteps := 1000000 }) (disch := ((try simp only [awL]); omega)) only [QR, QS, QT, QU, QV, QW, QX, QY, QZ, Q0, Q1, Q2, lc, ↓awU, awV, awF, Qa, Qb, Qc, Qd, forall_const, ↓reduceIte, ↓reduceDIte, ↓Qe, Qf, Qg, Qh, Qi, Qj, Qk, Ql, Qm, Qn, Qo, Qp, Qq, Qr, Qs, implies_true, Qt, Qu, Qv, Qw, Qx, Qy, Qz, QA, QB, QC, QD, QE, QF, QG, QH, QI, QJ, QK, QL, QM, QN, QO, QP, QQ]
        refine CallC.by (cloneR_spec l false (by omega) h0) (by rfl) (by rfl) (Nat.zero_le _) ?_
        simp (config := { maxSteps := 1000000 }) (disch := ((try simp only [awL]); omega)) only [QR, QS, QT, QU, QV, QW, QX, QY, QZ, Q0, Q1, Q2, lc, ↓awU, awV, awF, Qa, Qb, Qc, Qd, forall_const, ↓reduceIte, ↓reduceDIte, ↓Qe, Qf, Qg, Qh, Qi, Qj, Qk, Ql, Qm, Qn, Qo, Qp, Qq, Qr, Qs, implies_true, Qt, Qu, Qv, Qw, Qx, Qy, Qz, QA, QB, QC, QD, QE, QF, QG, QH, QI, QJ, QK, QL, QM, QN, QO, QP, QQ]
        refine ⟨by rfl, ?_⟩
        refine LoopC.fr 201326674 (α := Nat) (fun i => l.length - i) (fun i => [(28, .d (.int .i64 (i : Nat)))])
          (fun i => [.dead, .box [.d (.str ByteArray.empty), .d (.sl 0 true [])], .row false (celsD (mixU b l i)), .box [.d (S nm), .lsl 2 2 0 l.length]]) (fun i => i ≤ l.length ∧ (l.take i).all (fitU b) = true) 0 ⟨Nat.zero_le _, rfl⟩ ?_ ?_
        · exact ⟨[some 0, some 1, some 2, some 3], rfl, by simp, by simp [setsA, keepA, SWeak, AWeak], by simp [HWeak, BWeak, SWeak, AWeak, mixU]⟩
        · rintro i ⟨hi, ha⟩
          have al := celsD_length (mixU b l i)
          have ml := mixU_len b l i
          rw [ml] at al
          simp only [awK, Nat.reduceMod, Nat.reduceDiv, reduceIte]
          rcases Nat.lt_or_ge i l.length with h | h
          · have gc := celsD_get (l := mixU b l i) (k := i) (by omega)
            rw [mixU_get h] at gc
            have gx := hl.at h
            have at1 := @all_takeU l (fitU b) i h ha
            rcases hx : l.getD i noC with ⟨t, nul⟩
            have ms := @mixU_set b l i h t
            have mn := @mixU_null b l i h t
            rw [hx] at gc gx at1 ms mn
            simp only at gx
            cases nul
            · have mf : fitU b (t, false) = (basedU t b).2 := rfl
              have ms := ms rfl
              rw [mf] at at1
              have gc : ((celsD (mixU b l i)).drop (i * 2)).take 2 = [.bool false, S t] := gc
              have nf : (basedU t b).2 = false → l.all (fitU b) = false := fun q => by
                cases q2 : l.all (fitU b)
                · rfl
                · have := List.all_eq_true.1 q2 _ (memD (d := noC) h)
                  rw [hx, mf, q] at this
                  cases this
              simp (config := { maxSteps := 1000000 }) (disch := ((try simp only [awL]); omega)) only [QR, QS, QT, QU, QV, QW, QX, QY, QZ, Q0, Q1, Q2, lc, al, gc, e0', ↓awU, awV, awF, Qa, Qb, Qc, Qd, forall_const, ↓reduceIte, ↓reduceDIte, ↓Qe, Qf, Qg, Qh, Qi, Qj, Qk, Ql, Qm, Qn, Qo, Qp, Qq, Qr, Qs, implies_true, Qt, Qu, Qv, Qw, Qx, Qy, Qz, QA, QB, QC, QD, QE, QF, QG, QH, QI, QJ, QK, QL, QM, QN, QO, QP, QQ]
              refine CallC.of (based_spec hG hU t b gx) (by rfl) ?_
              generalize basedU t b = y at *
              obtain ⟨y1, y2⟩ := y
              simp only at at1 ms nf
              cases y2
              · rw [nf rfl, if_neg Bool.false_ne_true, if_neg (by decide)] at hr
                subst hr
                simp (config := { maxSteps := 1000000 }) (disch := ((try simp only [awL]); omega)) only [QR, QS, QT, QU, QV, QW, QX, QY, QZ, Q0, Q1, Q2, lc, al, ↓awU, awV, awF, Qa, Qb, Qc, Qd, forall_const, ↓reduceIte, ↓reduceDIte, ↓Qe, Qf, Qg, Qh, Qi, Qj, Qk, Ql, Qm, Qn, Qo, Qp, Qq, Qr, Qs, implies_true, Qt, Qu, Qv, Qw, Qx, Qy, Qz, QA, QB, QC, QD, QE, QF, QG, QH, QI, QJ, QK, QL, QM, QN, QO, QP, QQ]
                first | done | rfl
              · simp (config := { maxSteps := 1000000 }) (disch := ((try simp only [awL]); omega)) only [QR, QS, QT, QU, QV, QW, QX, QY, QZ, Q0, Q1, Q2, lc, al, ↓awU, awV, awF, Qa, Qb, Qc, Qd, forall_const, ↓reduceIte, ↓reduceDIte, ↓Qe, Qf, Qg, Qh, Qi, Qj, Qk, Ql, Qm, Qn, Qo, Qp, Qq, Qr, Qs, implies_true, Qt, Qu, Qv, Qw, Qx, Qy, Qz, QA, QB, QC, QD, QE, QF, QG, QH, QI, QJ, QK, QL, QM, QN, QO, QP, QQ]
                first
                | exact ⟨i + 1, ⟨h, at1 rfl⟩, by simp only; omega, ⟨[some 0, some 1, some 2, some 3], rfl, by simp, by simp [setsA, keepA, SWeak, AWeak], by simp [HWeak, BWeak, SWeak, AWeak, ms]⟩⟩
                | exact ⟨by rfl, i + 1, ⟨h, at1 rfl⟩, by simp only; omega, ⟨[some 0, some 1, some 2, some 3], rfl, by simp, by simp [setsA, keepA, SWeak, AWeak], by simp [HWeak, BWeak, SWeak, AWeak, ms]⟩⟩
            · have gc : ((celsD (mixU b l i)).drop (i * 2)).take 2 = [.bool true, S t] := gc
              have mn := mn rfl
              simp (config := { maxSteps := 1000000 }) (disch := ((try simp only [awL]); omega)) only [QR, QS, QT, QU, QV, QW, QX, QY, QZ, Q0, Q1, Q2, lc, al, gc, e0', ↓awU, awV, awF, Qa, Qb, Qc, Qd, forall_const, ↓reduceIte, ↓reduceDIte, ↓Qe, Qf, Qg, Qh, Qi, Qj, Qk, Ql, Qm, Qn, Qo, Qp, Qq, Qr, Qs, implies_true, Qt, Qu, Qv, Qw, Qx, Qy, Qz, QA, QB, QC, QD, QE, QF, QG, QH, QI, QJ, QK, QL, QM, QN, QO, QP, QQ]
              first
              | exact ⟨i + 1, ⟨h, at1 rfl⟩, by simp only; omega, ⟨[some 0, some 1, some 2, some 3], rfl, by simp, by simp [setsA, keepA, SWeak, AWeak], by simp [HWeak, BWeak, SWeak, AWeak, mn]⟩⟩
              | exact ⟨by rfl, i + 1, ⟨h, at1 rfl⟩, by simp only; omega, ⟨[some 0, some 1, some 2, some 3], rfl, by simp, by simp [setsA, keepA, SWeak, AWeak], by simp [HWeak, BWeak, SWeak, AWeak, mn]⟩⟩
          · have e : i = l.length := by omega
            subst e
            rw [List.take_length] at ha
            rw [ha, if_pos rfl, if_pos rfl] at hr
            have me := @mixU_end b l
            have ll : (l.map (apU b)).length = l.length := by simp
            rw [me] at al ⊢
            have cu : cut (celsD (l.map (apU b))) 0 (l.length * 2) = celsD (l.map (apU b)) := by unfold cut; rw [List.drop_zero, List.take_of_length_le (by omega)]
            subst hr
            unfold CelS
            rw [ll]
            simp (config := { maxSteps := 1000000 }) (disch := ((try simp only [awL]); omega)) only [QR, QS, QT, QU, QV, QW, QX, QY, QZ, Q0, Q1, Q2, lc, al, cu, ↓awU, awV, awF, Qa, Qb, Qc, Qd, forall_const, ↓reduceIte, ↓reduceDIte, ↓Qe, Qf, Qg, Qh, Qi, Qj, Qk, Ql, Qm, Qn, Qo, Qp, Qq, Qr, Qs, implies_true, Qt, Qu, Qv, Qw, Qx, Qy, Qz, QA, QB, QC, QD, QE, QF, QG, QH, QI, QJ, QK, QL, QM, QN, QO, QP, QQ]
            first | done | rfl
    · rw [if_neg e1, if_neg (by decide)] at hr
      subst hr
      simp (config := { maxSteps := 1000000 }) (disch := ((try simp only [awL]); omega)) only [QR, QS, QT, QU, QV, QW, QX, QY, QZ, Q0, Q1, Q2, lc, e0', Tryz.f12, ↓awU, awV, awF, Qa, Qb, Qc, Qd, forall_const, ↓reduceIte, ↓reduceDIte, ↓Qe, Qf, Qg, Qh, Qi, Qj, Qk, Ql, Qm, Qn, Qo, Qp, Qq, Qr, Qs, implies_true, Qt, Qu, Qv, Qw, Qx, Qy, Qz, QA, QB, QC, QD, QE, QF, QG, QH, QI, QJ, QK, QL, QM, QN, QO, QP, QQ]
      refine CallC.of (known_spec hB b) (by rfl) ?_
      rw [decide_eq_false e1]
      simp (config := { maxSteps := 1000000 }) (disch := ((try simp only [awL]); omega)) only [QR, QS, QT, QU, QV, QW, QX, QY, QZ, Q0, Q1, Q2, lc, ↓awU, awV, awF, Qa, Qb, Qc, Qd, forall_const, ↓reduceIte, ↓reduceDIte, ↓Qe, Qf, Qg, Qh, Qi, Qj, Qk, Ql, Qm, Qn, Qo, Qp, Qq, Qr, Qs, implies_true, Qt, Qu, Qv, Qw, Qx, Qy, Qz, QA, QB, QC, QD, QE, QF, QG, QH, QI, QJ, QK, QL, QM, QN, QO, QP, QQ]
      first | done | rfl
end Go.Proofs.YtkcghbpghjdgpaaGreatDoor

namespace Go.Proofs.YtkcghbpghjdgpaaGreatDoor
open Go Go.Proofs Go.Abs
variable {G : Globals}
/-! The dice's columns of quantities. -/
def unitsR : List Row := [[[32, 107, 103], [103], [116]], [[107, 109], [32, 109], [99, 109], [32, 32, 109, 109]], [[32, 115], [109, 105, 110], [104], [109, 115]], [[37]], [[], [32, 107, 103], [109], [37]]]
def oddU (s : List UInt8) : Row := [[32] ++ s ++ [32], s ++ [120], [57, 57, 57, 57, 57, 57, 57, 57, 57, 57, 57, 57, 57, 57, 57, 32, 107, 109], [48, 46, 48, 48, 48, 48, 48, 48, 48, 48, 49, 109, 109], [75, 71]]
def txS (t : List Int) (row : Row) (k : Nat) : List UInt8 := numM t k ++ row.getD (pk t (numK t k) row.length).toNat []
def txM (t : List Int) (row : Row) (k : Nat) : List UInt8 := if pk t (numK t k + 1) 9 = 0 then (oddU (txS t row k)).getD (pk t (numK t k + 2) 5).toNat [] else txS t row k
def txK (t : List Int) (k : Nat) : Nat := if pk t (numK t k + 1) 9 = 0 then numK t k + 3 else numK t k + 2
def muCel (t : List Int) (row : Row) (k : Nat) : Cel := if pk t (txK t k) 9 = 0 then ([], true) else (txM t row k, false)
def muL (t : List Int) (row : Row) : Nat → Nat → List Cel × Nat
  | 0, k => ([], k)
  | n + 1, k => (muCel t row k :: (muL t row n (txK t k + 1)).1, (muL t row n (txK t k + 1)).2)
def unR (t : List Int) (k : Nat) : Row := unitsR.getD (pk t k 5).toNat []
def madeU (t : List Int) (k : Nat) : List Cel := (muL t (unR t k) (pk t (k + 1) 7).toNat (k + 2)).1
def madeUK (t : List Int) (k : Nat) : Nat := (muL t (unR t k) (pk t (k + 1) 7).toNat (k + 2)).2
theorem unR_ok (t : List Int) (k : Nat) : 1 ≤ (unR t k).length ∧ (unR t k).length ≤ 4 ∧ ∀ s ∈ unR t k, s.length ≤ 4 := by
  have h : ∀ r ∈ unitsR, 1 ≤ r.length ∧ r.length ≤ 4 ∧ ∀ s ∈ r, s.length ≤ 4 := by decide
  have h2 := @pk_range t k 5 (by decide)
  exact h _ (memD (d := []) (show (pk t k 5).toNat < unitsR.length from by rw [show unitsR.length = 5 from rfl]; omega))
theorem txS_len (t : List Int) {row : Row} (hr : ∀ s ∈ row, s.length ≤ 4) (k : Nat) : (txS t row k).length ≤ 24 := by
  have h1 := numM_len t k
  have h2 := get_len hr (pk t (numK t k) row.length).toNat
  unfold txS
  rw [List.length_append]; omega
theorem oddU_len {s : List UInt8} (h : s.length ≤ 24) : ∀ x ∈ oddU s, x.length ≤ 26 := by
  intro x hx
  unfold oddU at hx
  simp only [List.mem_cons, List.not_mem_nil, or_false] at hx
  rcases hx with e | e | e | e | e <;> subst e <;> simp <;> omega
theorem txM_len (t : List Int) {row : Row} (hr : ∀ s ∈ row, s.length ≤ 4) (k : Nat) : (txM t row k).length ≤ 26 := by
  have h1 := txS_len t hr k
  have h2 := get_len (oddU_len h1) (pk t (numK t k + 2) 5).toNat
  unfold txM
  split <;> omega
theorem muL_ok (t : List Int) {row : Row} (hr : ∀ s ∈ row, s.length ≤ 4) : ∀ n k, (muL t row n k).1.length = n ∧ ∀ x ∈ (muL t row n k).1, x.1.length ≤ 26
  | 0, k => ⟨rfl, fun x h => by cases h⟩
  | n + 1, k => by
    rw [muL]
    have ih := muL_ok t hr n (txK t k + 1)
    refine ⟨by rw [List.length_cons, ih.1], fun x hx => ?_⟩
    rcases List.mem_cons.1 hx with e | hx
    · rw [e]
      have := txM_len t hr k
      unfold muCel
      split
      · simp
      · exact this
    · exact ih.2 x hx
theorem madeU_ok (t : List Int) (k : Nat) : (madeU t k).length ≤ 6 ∧ ∀ x ∈ madeU t k, x.1.length ≤ 26 := by
  have h1 := muL_ok t (unR_ok t k).2.2 (pk t (k + 1) 7).toNat (k + 2)
  have h2 := @pk_range t (k + 1) 7 (by decide)
  unfold madeU
  exact ⟨by omega, h1.2⟩
theorem madeU_okU (t : List Int) (k : Nat) : okU (madeU t k) := ⟨by have := (madeU_ok t k).1; omega, fun x hx => by have := (madeU_ok t k).2 x hx; omega⟩
theorem row_unR : [D.sl 3 false (cut [D.str ⟨#[32, 107, 103]⟩, D.str ⟨#[103]⟩, D.str ⟨#[116]⟩] 0 3), D.sl 4 false (cut [D.str ⟨#[107, 109]⟩, D.str ⟨#[32, 109]⟩, D.str ⟨#[99, 109]⟩, D.str ⟨#[32, 32, 109, 109]⟩] 0 4), D.sl 4 false (cut [D.str ⟨#[32, 115]⟩, D.str ⟨#[109, 105, 110]⟩, D.str ⟨#[104]⟩, D.str ⟨#[109, 115]⟩] 0 4), D.sl 1 false [D.str ⟨#[37]⟩], D.sl 4 false (cut [D.str ⟨#[]⟩, D.str ⟨#[32, 107, 103]⟩, D.str ⟨#[109]⟩, D.str ⟨#[37]⟩] 0 4)] = rowsD unitsR := rfl
theorem row_oddU (s : List UInt8) : [D.str (bs (32 :: (s ++ [32]))), D.str (bs (s ++ [120])), D.str ⟨#[57, 57, 57, 57, 57, 57, 57, 57, 57, 57, 57, 57, 57, 57, 57, 32, 107, 109]⟩, D.str ⟨#[48, 46, 48, 48, 48, 48, 48, 48, 48, 48, 49, 109, 109]⟩, D.str ⟨#[75, 71]⟩] = strs (oddU s) := rfl
theorem celsD_setU {l : List Cel} {x y : Cel} : (celsD (l ++ [x])).take (l.length * 2) ++ CelC y ++ (celsD (l ++ [x])).drop (l.length * 2 + 2) = celsD (l ++ [y]) := by
  have e : celsD (l ++ [x]) = celsD l ++ CelC x := by simp [celsD]
  have e2 : celsD (l ++ [y]) = celsD l ++ CelC y := by simp [celsD]
  have ll := celsD_length l
  rw [e, e2, List.take_append_of_le_length (by omega), List.take_of_length_le (by omega), List.drop_append, List.drop_of_length_le (by omega), show l.length * 2 + 2 - (celsD l).length = 2 by omega]
  simp
theorem celsD_pushU (a : List Cel) (x : Cel) : celsD a ++ [.bool x.2, S x.1] = celsD (a ++ [x]) := by simp [celsD]
set_option maxHeartbeats 16000000 in
set_option maxRecDepth 100000 in
theorem umade_spec (t : List Int) (k : Nat) (ht : OkM t) :
    Ctr Tryz.prog G 9 [.ptr 0 0] [DiceM t k] (.d (.agg [S [99], CelS (madeU t k) false])) [DiceM t (madeUK t k)] := by
  obtain ⟨r, hr⟩ : ∃ r, r = madeU t k := ⟨_, rfl⟩
  obtain ⟨k2, hk⟩ : ∃ k2, k2 = madeUK t k := ⟨_, rfl⟩
  rw [← hr, ← hk]
  unfold madeU at hr
  unfold madeUK at hk
  have rok := unR_ok t k
  unfold unR at hr hk rok
  refine Ctr.body (M := M0) hmix Tryz.func9 rfl go9 ?_
  obtain ⟨ri, hc, hc2⟩ := pk_nat t k 5 (by decide)
  obtain ⟨m, hm, hm2⟩ := pk_nat t (k + 1) 7 (by decide)
  rw [hc, hm, Int.toNat_natCast, Int.toNat_natCast] at hr hk
  rw [hc, Int.toNat_natCast] at rok
  have gr := rowsD_getD (g := unitsR) (i := ri) (by rw [show unitsR.length = 5 from rfl]; omega)
  generalize unitsR.getD ri [] = row at *
  have rl := @strs_length row
  have ul : (rowsD unitsR).length = 5 := rfl
  have hb0 : ByteArray.empty = bs [] := rfl
  simp (config := { maxSteps := 1000000 }) (disch := ((try simp only [awL]); omega)) only [QR, QS, QT, QU, QV, QW, QX, QY, QZ, Q0, Q1, Q2, Tryz.f9, ↓awU, awV, awF, Qa, Qb, Qc, Qd, forall_const, ↓reduceIte, ↓reduceDIte, ↓Qe, Qf, Qg, Qh, Qi, Qj, Qk, Ql, Qm, Qn, Qo, Qp, Qq, Qr, Qs, implies_true, Qt, Qu, Qv, Qw, Qx, Qy, Qz, QA, QB, QC, QD, QE, QF, QG, QH, QI, QJ, QK, QL, QM, QN, QO, QP, QQ]
  rw [row_unR]
  refine CallC.by (pick_spec t k 5 ht (by decide) (by decide)) (by rfl) (by rfl) (Nat.le_refl _) ?_
  rw [hc]
  simp (config := { maxSteps := 1000000 }) (disch := ((try simp only [awL]); omega)) only [QR, QS, QT, QU, QV, QW, QX, QY, QZ, Q0, Q1, Q2, gr, ul, rl, rowsD_unf, ↓awU, awV, awF, Qa, Qb, Qc, Qd, forall_const, ↓reduceIte, ↓reduceDIte, ↓Qe, Qf, Qg, Qh, Qi, Qj, Qk, Ql, Qm, Qn, Qo, Qp, Qq, Qr, Qs, implies_true, Qt, Qu, Qv, Qw, Qx, Qy, Qz, QA, QB, QC, QD, QE, QF, QG, QH, QI, QJ, QK, QL, QM, QN, QO, QP, QQ]
  refine CallC.by (pick_spec t (k + 1) 7 ht (by decide) (by decide)) (by rfl) (by rfl) (Nat.le_refl _) ?_
  rw [hm]
  simp (config := { maxSteps := 1000000 }) (disch := ((try simp only [awL]); omega)) only [QR, QS, QT, QU, QV, QW, QX, QY, QZ, Q0, Q1, Q2, rl, ↓awU, awV, awF, Qa, Qb, Qc, Qd, forall_const, ↓reduceIte, ↓reduceDIte, ↓Qe, Qf, Qg, Qh, Qi, Qj, Qk, Ql, Qm, Qn, Qo, Qp, Qq, Qr, Qs, implies_true, Qt, Qu, Qv, Qw, Qx, Qy, Qz, QA, QB, QC, QD, QE, QF, QG, QH, QI, QJ, QK, QL, QM, QN, QO, QP, QQ]
  refine LoopC.fr 29 (α := List Cel × Nat × Nat) (fun x => x.2.1) (fun x => [(5, .d (.int .i64 (x.2.1 : Nat)))]) (fun x => [DiceM t x.2.2, .box [.d (.str ByteArray.empty), .d (.sl 0 true [])], .box [.d (S [99]), .lsl 3 2 0 x.1.length], .row false (celsD x.1)])
    (fun x => x.1.length + x.2.1 ≤ 6 ∧ r = x.1 ++ (muL t row x.2.1 x.2.2).1 ∧ k2 = (muL t row x.2.1 x.2.2).2) ([], m, k + 2) ⟨by simp only [List.length_nil]; omega, hr, hk⟩ ?_ ?_
  · exact ⟨[some 0, some 1, some 2, none], rfl, by simp, by simp [setsA, keepA, SWeak, AWeak], by simp [HWeak, BWeak, SWeak, AWeak, celsD]⟩
  · rintro ⟨acc, n, p⟩ ⟨h1, h2, h3⟩
    simp only at h1 h2 h3
    have al := celsD_length acc
    simp only [awK, Nat.reduceMod, Nat.reduceDiv, reduceIte]
    match n with
    | 0 =>
      simp only [muL, List.append_nil] at h2 h3
      subst h2 h3
      have cu : cut (celsD r) 0 (r.length * 2) = celsD r := by unfold cut; rw [List.drop_zero, List.take_of_length_le (by omega)]
      simp (config := { maxSteps := 1000000 }) (disch := ((try simp only [awL]); omega)) only [QR, QS, QT, QU, QV, QW, QX, QY, QZ, Q0, Q1, Q2, al, cu, ↓awU, awV, awF, Qa, Qb, Qc, Qd, forall_const, ↓reduceIte, ↓reduceDIte, ↓Qe, Qf, Qg, Qh, Qi, Qj, Qk, Ql, Qm, Qn, Qo, Qp, Qq, Qr, Qs, implies_true, Qt, Qu, Qv, Qw, Qx, Qy, Qz, QA, QB, QC, QD, QE, QF, QG, QH, QI, QJ, QK, QL, QM, QN, QO, QP, QQ]
      refine ⟨[some 0], rfl, by simp, by simp [HWeak, BWeak, SWeak, AWeak], .inr ⟨_, rfl, ?_, rfl⟩⟩
      simp (config := { maxSteps := 1000000 }) (disch := ((try simp only [awL]); omega)) only [QR, QS, QT, QU, QV, QW, QX, QY, QZ, Q0, Q1, Q2, cu, ↓awU, awV, awF, Qa, Qb, Qc, Qd, forall_const, ↓reduceIte, ↓reduceDIte, ↓Qe, Qf, Qg, Qh, Qi, Qj, Qk, Ql, Qm, Qn, Qo, Qp, Qq, Qr, Qs, implies_true, Qt, Qu, Qv, Qw, Qx, Qy, Qz, QA, QB, QC, QD, QE, QF, QG, QH, QI, QJ, QK, QL, QM, QN, QO, QP, QQ]
      try rfl
    | n + 1 =>
      simp only [muL] at h2 h3
      unfold muCel txM txS txK at h2
      unfold txK at h3
      simp (config := { maxSteps := 1000000 }) (disch := ((try simp only [awL]); omega)) only [QR, QS, QT, QU, QV, QW, QX, QY, QZ, Q0, Q1, Q2, rl, ↓awU, awV, awF, Qa, Qb, Qc, Qd, forall_const, ↓reduceIte, ↓reduceDIte, ↓Qe, Qf, Qg, Qh, Qi, Qj, Qk, Ql, Qm, Qn, Qo, Qp, Qq, Qr, Qs, implies_true, Qt, Qu, Qv, Qw, Qx, Qy, Qz, QA, QB, QC, QD, QE, QF, QG, QH, QI, QJ, QK, QL, QM, QN, QO, QP, QQ]
      refine CallC.by (number_spec t p ht) (by rfl) (by rfl) (Nat.le_refl _) ?_
      have nl := (numM_len t p).2
      generalize numM t p = nn at *
      generalize numK t p = p1 at *
      simp (config := { maxSteps := 1000000 }) (disch := ((try simp only [awL]); omega)) only [QR, QS, QT, QU, QV, QW, QX, QY, QZ, Q0, Q1, Q2, rl, ↓awU, awV, awF, Qa, Qb, Qc, Qd, forall_const, ↓reduceIte, ↓reduceDIte, ↓Qe, Qf, Qg, Qh, Qi, Qj, Qk, Ql, Qm, Qn, Qo, Qp, Qq, Qr, Qs, implies_true, Qt, Qu, Qv, Qw, Qx, Qy, Qz, QA, QB, QC, QD, QE, QF, QG, QH, QI, QJ, QK, QL, QM, QN, QO, QP, QQ]
      refine CallC.by (pick_spec t p1 row.length ht (by omega) (by omega)) (by rfl) (by rfl) (Nat.le_refl _) ?_
      obtain ⟨ui, hu, hu2⟩ := pk_nat t p1 row.length (by omega)
      rw [hu] at h2 ⊢
      rw [Int.toNat_natCast] at h2
      have gu := strs_getD (l := row) (i := ui) (by omega)
      have ull := get_len rok.2.2 ui
      generalize row.getD ui [] = uu at *
      simp (config := { maxSteps := 1000000 }) (disch := ((try simp only [awL]); omega)) only [QR, QS, QT, QU, QV, QW, QX, QY, QZ, Q0, Q1, Q2, rl, gu, ↓awU, awV, awF, Qa, Qb, Qc, Qd, forall_const, ↓reduceIte, ↓reduceDIte, ↓Qe, Qf, Qg, Qh, Qi, Qj, Qk, Ql, Qm, Qn, Qo, Qp, Qq, Qr, Qs, implies_true, Qt, Qu, Qv, Qw, Qx, Qy, Qz, QA, QB, QC, QD, QE, QF, QG, QH, QI, QJ, QK, QL, QM, QN, QO, QP, QQ]
      generalize hs : nn ++ uu = s at *
      have sl : s.length ≤ 24 := by rw [← hs, List.length_append]; omega
      refine CallC.by (pick_spec t (p1 + 1) 9 ht (by decide) (by decide)) (by rfl) (by rfl) (Nat.le_refl _) ?_
      by_cases e9 : pk t (p1 + 1) 9 = 0
      · simp only [if_pos e9] at h2 h3
        rw [e9]
        obtain ⟨oi, ho, ho2⟩ := pk_nat t (p1 + 2) 5 (by decide)
        rw [ho, Int.toNat_natCast] at h2
        have go := strs_getD (l := oddU s) (i := oi) (by rw [show (oddU s).length = 5 from rfl]; omega)
        have ol := @strs_length (oddU s)
        have ol5 : (oddU s).length = 5 := rfl
        have ogl := get_len (oddU_len sl) oi
        generalize (oddU s).getD oi [] = x at *
        simp (config := { maxSteps := 1000000 }) (disch := ((try simp only [awL]); omega)) only [QR, QS, QT, QU, QV, QW, QX, QY, QZ, Q0, Q1, Q2, ↓awU, awV, awF, Qa, Qb, Qc, Qd, forall_const, ↓reduceIte, ↓reduceDIte, ↓Qe, Qf, Qg, Qh, Qi, Qj, Qk, Ql, Qm, Qn, Qo, Qp, Qq, Qr, Qs, implies_true, Qt, Qu, Qv, Qw, Qx, Qy, Qz, QA, QB, QC, QD, QE, QF, QG, QH, QI, QJ, QK, QL, QM, QN, QO, QP, QQ]
        rw [row_oddU s]
        refine CallC.by (pick_spec t (p1 + 1 + 1) 5 ht (by decide) (by decide)) (by rfl) (by rfl) (Nat.le_refl _) ?_
        rw [show p1 + 1 + 1 = p1 + 2 from rfl, ho]
        simp (config := { maxSteps := 1000000 }) (disch := ((try simp only [awL]); omega)) only [QR, QS, QT, QU, QV, QW, QX, QY, QZ, Q0, Q1, Q2, ol, ol5, go, ↓awU, awV, awF, Qa, Qb, Qc, Qd, forall_const, ↓reduceIte, ↓reduceDIte, ↓Qe, Qf, Qg, Qh, Qi, Qj, Qk, Ql, Qm, Qn, Qo, Qp, Qq, Qr, Qs, implies_true, Qt, Qu, Qv, Qw, Qx, Qy, Qz, QA, QB, QC, QD, QE, QF, QG, QH, QI, QJ, QK, QL, QM, QN, QO, QP, QQ]
        have sp := celsD_pushU acc (x, false)
        have tl : (acc ++ [(x, false)]).length = acc.length + 1 := by simp
        have st := @celsD_setU acc (x, false) ([], true)
        simp only at sp
        have cu2 : cut [D.bool false, D.str (bs x)] 0 2 = [D.bool false, D.str (bs x)] := rfl
        simp (config := { maxSteps := 1000000 }) (disch := ((try simp only [awL]); omega)) only [QR, QS, QT, QU, QV, QW, QX, QY, QZ, Q0, Q1, Q2, al, cu2, sp, List.length_cons, List.length_nil, ↓awU, awV, awF, Qa, Qb, Qc, Qd, forall_const, ↓reduceIte, ↓reduceDIte, ↓Qe, Qf, Qg, Qh, Qi, Qj, Qk, Ql, Qm, Qn, Qo, Qp, Qq, Qr, Qs, implies_true, Qt, Qu, Qv, Qw, Qx, Qy, Qz, QA, QB, QC, QD, QE, QF, QG, QH, QI, QJ, QK, QL, QM, QN, QO, QP, QQ]
        try refine ⟨by rfl, ?_⟩
        refine CallC.by (pick_spec t (p1 + 3) 9 ht (by decide) (by decide)) (by rfl) (by rfl) (Nat.le_refl _) ?_
        by_cases q : pk t (p1 + 3) 9 = 0
        · rw [if_pos q] at h2
          rw [q]
          have h4 : r = (acc ++ [([], true)]) ++ (muL t row n ((p1 + 3) + 1)).1 := by rw [h2]; simp
          have tl2 : (acc ++ [(([], true) : Cel)]).length = acc.length + 1 := by simp
          generalize acc ++ [(x, false)] = acc1 at *
          generalize acc ++ [(([], true) : Cel)] = acc2 at *
          simp (config := { maxSteps := 1000000 }) (disch := ((try simp only [awL]); omega)) only [QR, QS, QT, QU, QV, QW, QX, QY, QZ, Q0, Q1, Q2, al, tl, ↓awU, awV, awF, Qa, Qb, Qc, Qd, forall_const, ↓reduceIte, ↓reduceDIte, ↓Qe, Qf, Qg, Qh, Qi, Qj, Qk, Ql, Qm, Qn, Qo, Qp, Qq, Qr, Qs, implies_true, Qt, Qu, Qv, Qw, Qx, Qy, Qz, QA, QB, QC, QD, QE, QF, QG, QH, QI, QJ, QK, QL, QM, QN, QO, QP, QQ]
          have st2 : List.take (acc.length * 2) (celsD acc1) ++ [D.bool true, D.str ByteArray.empty] ++ List.drop (acc.length * 2 + 2) (celsD acc1) = celsD acc2 := st
          rw [st2]
          exact ⟨by rw [celsD_length]; omega, (acc2, n, (p1 + 3) + 1), ⟨by simp only; omega, h4, h3⟩, by simp only; omega, ⟨[some 0, some 1, some 2, some 6], rfl, by simp, by simp [setsA, keepA, SWeak, AWeak], by simp [HWeak, BWeak, SWeak, AWeak, tl2]⟩⟩
        · rw [if_neg q] at h2
          have q0 : (pk t (p1 + 3) 9 = 0) = False := eq_false q
          have h4 : r = (acc ++ [(x, false)]) ++ (muL t row n ((p1 + 3) + 1)).1 := by rw [h2]; simp
          generalize acc ++ [(x, false)] = acc2 at *
          simp (config := { maxSteps := 1000000 }) (disch := ((try simp only [awL]); omega)) only [QR, QS, QT, QU, QV, QW, QX, QY, QZ, Q0, Q1, Q2, al, q0, ↓awU, awV, awF, Qa, Qb, Qc, Qd, forall_const, ↓reduceIte, ↓reduceDIte, ↓Qe, Qf, Qg, Qh, Qi, Qj, Qk, Ql, Qm, Qn, Qo, Qp, Qq, Qr, Qs, implies_true, Qt, Qu, Qv, Qw, Qx, Qy, Qz, QA, QB, QC, QD, QE, QF, QG, QH, QI, QJ, QK, QL, QM, QN, QO, QP, QQ]
          first
          | exact ⟨(acc2, n, (p1 + 3) + 1), ⟨by simp only; omega, h4, h3⟩, by simp only; omega, ⟨[some 0, some 1, some 2, some 6], rfl, by simp, by simp [setsA, keepA, SWeak, AWeak], by simp [HWeak, BWeak, SWeak, AWeak, tl]⟩⟩
      · have e90 : (pk t (p1 + 1) 9 = 0) = False := eq_false e9
        simp only [if_neg e9] at h2 h3
        simp (config := { maxSteps := 1000000 }) (disch := ((try simp only [awL]); omega)) only [QR, QS, QT, QU, QV, QW, QX, QY, QZ, Q0, Q1, Q2, e90, ↓awU, awV, awF, Qa, Qb, Qc, Qd, forall_const, ↓reduceIte, ↓reduceDIte, ↓Qe, Qf, Qg, Qh, Qi, Qj, Qk, Ql, Qm, Qn, Qo, Qp, Qq, Qr, Qs, implies_true, Qt, Qu, Qv, Qw, Qx, Qy, Qz, QA, QB, QC, QD, QE, QF, QG, QH, QI, QJ, QK, QL, QM, QN, QO, QP, QQ]
        have sp := celsD_pushU acc (s, false)
        have tl : (acc ++ [(s, false)]).length = acc.length + 1 := by simp
        have st := @celsD_setU acc (s, false) ([], true)
        simp only at sp
        have cu2 : cut [D.bool false, D.str (bs s)] 0 2 = [D.bool false, D.str (bs s)] := rfl
        simp (config := { maxSteps := 1000000 }) (disch := ((try simp only [awL]); omega)) only [QR, QS, QT, QU, QV, QW, QX, QY, QZ, Q0, Q1, Q2, al, cu2, sp, List.length_cons, List.length_nil, ↓awU, awV, awF, Qa, Qb, Qc, Qd, forall_const, ↓reduceIte, ↓reduceDIte, ↓Qe, Qf, Qg, Qh, Qi, Qj, Qk, Ql, Qm, Qn, Qo, Qp, Qq, Qr, Qs, implies_true, Qt, Qu, Qv, Qw, Qx, Qy, Qz, QA, QB, QC, QD, QE, QF, QG, QH, QI, QJ, QK, QL, QM, QN, QO, QP, QQ]
        try refine ⟨by rfl, ?_⟩
        refine CallC.by (pick_spec t (p1 + 2) 9 ht (by decide) (by decide)) (by rfl) (by rfl) (Nat.le_refl _) ?_
        by_cases q : pk t (p1 + 2) 9 = 0
        · rw [if_pos q] at h2
          rw [q]
          have h4 : r = (acc ++ [([], true)]) ++ (muL t row n ((p1 + 2) + 1)).1 := by rw [h2]; simp
          have tl2 : (acc ++ [(([], true) : Cel)]).length = acc.length + 1 := by simp
          generalize acc ++ [(s, false)] = acc1 at *
          generalize acc ++ [(([], true) : Cel)] = acc2 at *
          simp (config := { maxSteps := 1000000 }) (disch := ((try simp only [awL]); omega)) only [QR, QS, QT, QU, QV, QW, QX, QY, QZ, Q0, Q1, Q2, al, tl, ↓awU, awV, awF, Qa, Qb, Qc, Qd, forall_const, ↓reduceIte, ↓reduceDIte, ↓Qe, Qf, Qg, Qh, Qi, Qj, Qk, Ql, Qm, Qn, Qo, Qp, Qq, Qr, Qs, implies_true, Qt, Qu, Qv, Qw, Qx, Qy, Qz, QA, QB, QC, QD, QE, QF, QG, QH, QI, QJ, QK, QL, QM, QN, QO, QP, QQ]
          have st2 : List.take (acc.length * 2) (celsD acc1) ++ [D.bool true, D.str ByteArray.empty] ++ List.drop (acc.length * 2 + 2) (celsD acc1) = celsD acc2 := st
          rw [st2]
          exact ⟨by rw [celsD_length]; omega, (acc2, n, (p1 + 2) + 1), ⟨by simp only; omega, h4, h3⟩, by simp only; omega, ⟨[some 0, some 1, some 2, some 5], rfl, by simp, by simp [setsA, keepA, SWeak, AWeak], by simp [HWeak, BWeak, SWeak, AWeak, tl2]⟩⟩
        · rw [if_neg q] at h2
          have q0 : (pk t (p1 + 2) 9 = 0) = False := eq_false q
          have h4 : r = (acc ++ [(s, false)]) ++ (muL t row n ((p1 + 2) + 1)).1 := by rw [h2]; simp
          generalize acc ++ [(s, false)] = acc2 at *
          simp (config := { maxSteps := 1000000 }) (disch := ((try simp only [awL]); omega)) only [QR, QS, QT, QU, QV, QW, QX, QY, QZ, Q0, Q1, Q2, al, q0, ↓awU, awV, awF, Qa, Qb, Qc, Qd, forall_const, ↓reduceIte, ↓reduceDIte, ↓Qe, Qf, Qg, Qh, Qi, Qj, Qk, Ql, Qm, Qn, Qo, Qp, Qq, Qr, Qs, implies_true, Qt, Qu, Qv, Qw, Qx, Qy, Qz, QA, QB, QC, QD, QE, QF, QG, QH, QI, QJ, QK, QL, QM, QN, QO, QP, QQ]
          first
          | exact ⟨(acc2, n, (p1 + 2) + 1), ⟨by simp only; omega, h4, h3⟩, by simp only; omega, ⟨[some 0, some 1, some 2, some 5], rfl, by simp, by simp [setsA, keepA, SWeak, AWeak], by simp [HWeak, BWeak, SWeak, AWeak, tl]⟩⟩
end Go.Proofs.YtkcghbpghjdgpaaGreatDoor

namespace Go.Proofs.YtkcghbpghjdgpaaGreatDoor
open Go Go.Proofs Go.Abs
variable {G : Globals}
/-! The base that a column takes, plain; the example of the chapter. -/
def baseU (l : List Cel) : List UInt8 := takeU (toU (optsU l))
theorem utakeO_spec (l : List Cel) : Ctr Tryz.prog G 10 [.d (.sl 4 false (optC (optsU l)))] [] (.d (S (baseU l))) [] := by
  have h := utake_spec (G := G) (toU (optsU l)) false (by rw [toU_len]; show 4 ≤ 1000000; decide)
  rw [ouC_to, toU_len] at h
  exact h
def goodO (o : Opt) : Bool := decide (0 < o.fr) && decide (o.ag = 0)
theorem good_toU (o : Opt) : goodU (o.txt, (o.fr : Int), (o.ag : Int)) = goodO o := by
  unfold goodU goodO
  congr 1
  · exact decide_eq_decide.2 (by show 0 < (o.fr : Int) ↔ _; omega)
  · exact decide_eq_decide.2 (by show (o.ag : Int) = 0 ↔ _; omega)
/-- All cells that are not null fit a base, and one does. -/
def okB (l : List Cel) (b : List UInt8) : Bool := goodO (optU l b)
theorem baseU_eq (l : List Cel) : baseU l = (basesL.find? (okB l)).getD [] := by
  unfold baseU takeU toU optsU okB
  rw [List.map_map, List.find?_map]
  have : (goodU ∘ (fun o : Opt => (o.txt, (o.fr : Int), (o.ag : Int))) ∘ optU l) = fun b => goodO (optU l b) := by
    funext b; exact good_toU _
  rw [this]
  cases basesL.find? (fun b => goodO (optU l b)) <;> rfl
theorem base_mem {l : List Cel} (h : baseU l ≠ []) : baseU l ∈ basesL ∧ okB l (baseU l) = true := by
  rw [baseU_eq] at h ⊢
  cases e : basesL.find? (okB l) with
  | none => rw [e] at h; exact absurd rfl h
  | some b => exact ⟨List.mem_of_find?_eq_some e, List.find?_some e⟩
/-! The example. -/
def exU : List Cel := [([50, 46, 53, 32, 107, 109], false), ([51, 48, 48, 32, 109], false), ([52, 99, 109], false)]
theorem exU_ok : okU exU := ⟨by decide, by decide⟩
theorem exU_base : baseU exU = [109] := by decide +kernel
theorem exU_e : uapE [109] exU = 0 := by decide +kernel
theorem exU_l : uapL [109] exU = [([50, 53, 48, 48], false), ([51, 48, 48], false), ([48, 46, 48, 52], false)] := by decide +kernel
set_option maxHeartbeats 16000000 in
set_option maxRecDepth 100000 in
theorem usane_spec (hG : Num.HG G) (hU : HU G) (hB : HB G) : Ctr Tryz.prog G 7 [] [] (.d (.bool true)) [] := by
  refine Ctr.pure (M := M0) hmix Tryz.func7 rfl go7 ?_
  have o1 := uoptions_spec hG hU hB [] exU false exU_ok
  have t1 := utakeO_spec (G := G) exU
  rw [exU_base] at t1
  have a1 := uapply_spec hG hU hB [] exU false exU_ok [109]
  unfold uapR at a1
  rw [exU_e, exU_l, if_pos rfl] at a1
  have a1 : Ctr Tryz.prog G 12 [.d (.agg [S [], CelS exU false]), .d (S [109])] [] (.d (.tup [.agg [S [], .sl 3 false [.bool false, S [50, 53, 48, 48], .bool false, S [51, 48, 48], .bool false, S [48, 46, 48, 52]]], .int .i64 0])) [] := a1
  have k1 := known_spec hB [107, 103]
  have k2 := known_spec hB [103]
  rw [show decide (([107, 103] : List UInt8) ∈ basesL) = true from rfl] at k1
  rw [show decide (([103] : List UInt8) ∈ basesL) = false from rfl] at k2
  simp (config := { maxSteps := 1000000 }) (disch := ((try simp only [awL]); omega)) only [QR, QS, QT, QU, QV, QW, QX, QY, QZ, Q0, Q1, Q2, Tryz.f7, ↓awU, awV, awF, Qa, Qb, Qc, Qd, forall_const, ↓reduceIte, ↓reduceDIte, ↓Qe, Qf, Qg, Qh, Qi, Qj, Qk, Ql, Qm, Qn, Qo, Qp, Qq, Qr, Qs, implies_true, Qt, Qu, Qv, Qw, Qx, Qy, Qz, QA, QB, QC, QD, QE, QF, QG, QH, QI, QJ, QK, QL, QM, QN, QO, QP, QQ]
  refine CallC.frozenE o1 (by rfl) ?_
  generalize hO : optC (optsU exU) = O at *
  simp (config := { maxSteps := 1000000 }) (disch := ((try simp only [awL]); omega)) only [QR, QS, QT, QU, QV, QW, QX, QY, QZ, Q0, Q1, Q2, ↓awU, awV, awF, Qa, Qb, Qc, Qd, forall_const, ↓reduceIte, ↓reduceDIte, ↓Qe, Qf, Qg, Qh, Qi, Qj, Qk, Ql, Qm, Qn, Qo, Qp, Qq, Qr, Qs, implies_true, Qt, Qu, Qv, Qw, Qx, Qy, Qz, QA, QB, QC, QD, QE, QF, QG, QH, QI, QJ, QK, QL, QM, QN, QO, QP, QQ]
  refine CallC.of t1 (by rfl) ?_
  simp (config := { maxSteps := 1000000 }) (disch := ((try simp only [awL]); omega)) only [QR, QS, QT, QU, QV, QW, QX, QY, QZ, Q0, Q1, Q2, ↓awU, awV, awF, Qa, Qb, Qc, Qd, forall_const, ↓reduceIte, ↓reduceDIte, ↓Qe, Qf, Qg, Qh, Qi, Qj, Qk, Ql, Qm, Qn, Qo, Qp, Qq, Qr, Qs, implies_true, Qt, Qu, Qv, Qw, Qx, Qy, Qz, QA, QB, QC, QD, QE, QF, QG, QH, QI, QJ, QK, QL, QM, QN, QO, QP, QQ]
  refine CallC.frozenE a1 (by rfl) ?_
  simp (config := { maxSteps := 1000000 }) (disch := ((try simp only [awL]); omega)) only [QR, QS, QT, QU, QV, QW, QX, QY, QZ, Q0, Q1, Q2, ↓awU, awV, awF, Qa, Qb, Qc, Qd, forall_const, ↓reduceIte, ↓reduceDIte, ↓Qe, Qf, Qg, Qh, Qi, Qj, Qk, Ql, Qm, Qn, Qo, Qp, Qq, Qr, Qs, implies_true, Qt, Qu, Qv, Qw, Qx, Qy, Qz, QA, QB, QC, QD, QE, QF, QG, QH, QI, QJ, QK, QL, QM, QN, QO, QP, QQ]
  refine ⟨by rfl, ?_⟩
  refine CallC.of k1 (by rfl) ?_
  simp (config := { maxSteps := 1000000 }) (disch := ((try simp only [awL]); omega)) only [QR, QS, QT, QU, QV, QW, QX, QY, QZ, Q0, Q1, Q2, ↓awU, awV, awF, Qa, Qb, Qc, Qd, forall_const, ↓reduceIte, ↓reduceDIte, ↓Qe, Qf, Qg, Qh, Qi, Qj, Qk, Ql, Qm, Qn, Qo, Qp, Qq, Qr, Qs, implies_true, Qt, Qu, Qv, Qw, Qx, Qy, Qz, QA, QB, QC, QD, QE, QF, QG, QH, QI, QJ, QK, QL, QM, QN, QO, QP, QQ]
  refine CallC.of k2 (by rfl) ?_
  simp (config := { maxSteps := 1000000 }) (disch := ((try simp only [awL]); omega)) only [QR, QS, QT, QU, QV, QW, QX, QY, QZ, Q0, Q1, Q2, ↓awU, awV, awF, Qa, Qb, Qc, Qd, forall_const, ↓reduceIte, ↓reduceDIte, ↓Qe, Qf, Qg, Qh, Qi, Qj, Qk, Ql, Qm, Qn, Qo, Qp, Qq, Qr, Qs, implies_true, Qt, Qu, Qv, Qw, Qx, Qy, Qz, QA, QB, QC, QD, QE, QF, QG, QH, QI, QJ, QK, QL, QM, QN, QO, QP, QQ]
  first | done | rfl | decide
end Go.Proofs.YtkcghbpghjdgpaaGreatDoor

namespace Go.Proofs.YtkcghbpghjdgpaaGreatDoor
open Go Go.Proofs Go.Abs
variable {G : Globals}
/-! The law UnitCounts. -/
end Go.Proofs.YtkcghbpghjdgpaaGreatDoor

namespace Go.Proofs.YtkcghbpghjdgpaaGreatDoor
open Go Go.Proofs Go.Abs
/-! Decimals, plain: the canonical text of a decimal is a decimal of the same value. -/
namespace Decs
abbrev dg (b : UInt8) : Bool := Num.dig10.contains b
theorem cutL_num (c : UInt8) : ∀ s : List UInt8, cutL c s = Num.cutL c s
  | [] => rfl
  | b :: l => by rw [cutL, Num.cutL, cutL_num c l]
theorem cutR_num (c : UInt8) : ∀ s : List UInt8, cutR c s = Num.cutR c s
  | [] => rfl
  | b :: l => by rw [cutR, Num.cutR, cutR_num c l]
theorem dg_ne {b : UInt8} (h : dg b = true) : b ≠ 46 ∧ b ≠ 45 ∧ b ≠ 43 ∧ b ≠ 32 ∧ b ≠ 47 := by
  have := Num.dig_range h
  refine ⟨?_, ?_, ?_, ?_, ?_⟩ <;> rintro rfl <;> revert this <;> decide
/-- The whole part and the part behind the point. -/
structure Dig2 (F B : List UInt8) : Prop where
  f1 : 1 ≤ F.length
  fd : ∀ b ∈ F, dg b = true
  bd : ∀ b ∈ B, dg b = true
/-- Not too many. -/
structure Dec (F B : List UInt8) : Prop where
  f1 : 1 ≤ F.length
  f2 : F.length ≤ 15
  fd : ∀ b ∈ F, dg b = true
  b2 : B.length ≤ 9
  bd : ∀ b ∈ B, dg b = true
theorem Dec.two {F B : List UInt8} (h : Dec F B) : Dig2 F B := ⟨h.f1, h.fd, h.bd⟩
def pt (F B : List UInt8) : List UInt8 := F ++ (if B = [] then [] else 46 :: B)
theorem cutL_pt {F : List UInt8} (h : ∀ b ∈ F, dg b = true) (X : List UInt8) : Num.cutL 46 (F ++ 46 :: X) = F ∧ Num.cutR 46 (F ++ 46 :: X) = X := by
  induction F with
  | nil => simp [Num.cutL, Num.cutR]
  | cons b l ih =>
    have hb := (dg_ne (h b (List.mem_cons_self ..))).1
    have := ih (fun c hc => h c (List.mem_cons_of_mem _ hc))
    rw [List.cons_append, Num.cutL, Num.cutR, if_neg hb, if_neg hb, this.1, this.2]
    exact ⟨rfl, rfl⟩
theorem cut_none {F : List UInt8} (h : ∀ b ∈ F, dg b = true) : (46 : UInt8) ∉ F ∧ Num.cutL 46 F = F ∧ Num.cutR 46 F = [] := by
  have hn : (46 : UInt8) ∉ F := fun hm => (dg_ne (h _ hm)).1 rfl
  exact ⟨hn, ((Num.cut_index 46 F).2 hn).2⟩
theorem pt_cut {F B : List UInt8} (h : Dig2 F B) : Num.cutL 46 (pt F B) = F ∧ Num.cutR 46 (pt F B) = B ∧ (46 ∈ pt F B ↔ B ≠ []) := by
  unfold pt
  by_cases e : B = []
  · rw [if_pos e, List.append_nil]
    have := cut_none h.fd
    exact ⟨this.2.1, by rw [this.2.2, e], ⟨fun q => absurd q this.1, fun q => absurd e q⟩⟩
  · rw [if_neg e]
    have := cutL_pt h.fd B
    exact ⟨this.1, this.2, ⟨fun _ => e, fun _ => by simp⟩⟩
theorem pt_head {F B : List UInt8} (h : Dig2 F B) : ∃ b l, pt F B = b :: l ∧ dg b = true := by
  obtain ⟨b, l, e⟩ : ∃ b l, F = b :: l := by
    match F, h.f1 with
    | b :: l, _ => exact ⟨b, l, rfl⟩
  refine ⟨b, l ++ (if B = [] then [] else 46 :: B), by unfold pt; rw [e]; rfl, h.fd b (by rw [e]; exact List.mem_cons_self ..)⟩
/-- A sign ahead. -/
def sg (c : Option UInt8) (o : List UInt8) : List UInt8 := match c with | none => o | some c => c :: o
theorem hasP_ne {b c : UInt8} {l : List UInt8} (h : b ≠ c) : Num.hasP (b :: l) [c] = false := by
  unfold Num.hasP
  exact decide_eq_false (by simpa using h)
theorem hasP_eq {c : UInt8} {l : List UInt8} : Num.hasP (c :: l) [c] = true := by
  unfold Num.hasP
  exact decide_eq_true (by simp)
theorem body_sg {F B : List UInt8} (h : Dig2 F B) {c : Option UInt8} (hc : c = none ∨ c = some 45 ∨ c = some 43) : Num.decBody (sg c (pt F B)) = pt F B ∧ Num.decNeg (sg c (pt F B)) = decide (c = some 45) ∧ Num.trimL [43, 45] (sg c (pt F B)) = pt F B ∧ ((sg c (pt F B)).getD 0 0 = 45 ↔ c = some 45) := by
  obtain ⟨b, l, e, hb⟩ := pt_head h
  have hn := dg_ne hb
  have tb : Num.trimL [43, 45] (b :: l) = b :: l := by
    unfold Num.trimL
    rw [List.dropWhile_cons, if_neg (by simp [hn.2.1, hn.2.2.1])]
  rw [e]
  rcases hc with rfl | rfl | rfl
  · unfold sg Num.decBody Num.decNeg
    simp only
    rw [hasP_ne hn.2.1, hasP_ne hn.2.2.1]
    refine ⟨by simp, by simp, tb, ?_⟩
    simp [hn.2.1]
  · unfold sg Num.decBody Num.decNeg
    simp only
    rw [hasP_eq]
    refine ⟨by simp, by simp, ?_, by simp⟩
    unfold Num.trimL at tb ⊢
    rw [List.dropWhile_cons, if_pos (by decide)]
    exact tb
  · unfold sg Num.decBody Num.decNeg
    simp only
    rw [hasP_ne (show (43 : UInt8) ≠ 45 by decide), hasP_eq]
    refine ⟨by simp, by simp, ?_, by simp⟩
    unfold Num.trimL at tb ⊢
    rw [List.dropWhile_cons, if_pos (by decide)]
    exact tb
theorem digB_of {s : List UInt8} {m : Int} (h1 : 1 ≤ s.length) (h2 : (s.length : Int) ≤ m) (h3 : ∀ b ∈ s, dg b = true) : Num.digB s m = true := by
  unfold Num.digB
  rw [decide_eq_true ⟨h1, h2⟩, Bool.true_and, List.all_eq_true]
  exact h3
theorem ok_sg {F B : List UInt8} (h : Dec F B) {c : Option UInt8} (hc : c = none ∨ c = some 45 ∨ c = some 43) : Num.decOk (sg c (pt F B)) = true ∧ Num.decF (sg c (pt F B)) = F ∧ Num.decB (sg c (pt F B)) = B := by
  obtain ⟨h1, _, _⟩ := body_sg h.two hc
  obtain ⟨p1, p2, p3⟩ := pt_cut h.two
  have eF : Num.decF (sg c (pt F B)) = F := by unfold Num.decF; rw [h1, p1]
  have eB : Num.decB (sg c (pt F B)) = B := by unfold Num.decB; rw [h1, p2]
  refine ⟨?_, eF, eB⟩
  unfold Num.decOk
  rw [eF, eB, h1, digB_of h.f1 (by have := h.f2; omega) h.fd, Bool.true_and]
  by_cases e : B = []
  · rw [decide_eq_false (fun q => p3.1 q e)]; rfl
  · have bl : 1 ≤ B.length := by
      rcases B with _ | _
      · exact absurd rfl e
      · simp
    rw [digB_of bl (by have := h.b2; omega) h.bd, Bool.or_true]
theorem cut_back {s : List UInt8} (h : (46 : UInt8) ∈ s) : s = Num.cutL 46 s ++ 46 :: Num.cutR 46 s := by
  induction s with
  | nil => cases h
  | cons b l ih =>
    rw [Num.cutL, Num.cutR]
    by_cases e : b = 46
    · rw [if_pos e, if_pos e, e]; rfl
    · rw [if_neg e, if_neg e]
      rcases List.mem_cons.1 h with h | h
      · exact absurd h.symm e
      · rw [List.cons_append, ← ih h]
/-- Each decimal is a sign and two rows of digits; the second one is empty only if there is no point. -/
theorem dec_of {t : List UInt8} (h : Num.decOk t = true) : ∃ c F B, t = sg c (pt F B) ∧ Dec F B ∧ (c = none ∨ c = some 45 ∨ c = some 43) := by
  have hf := h
  unfold Num.decOk at h
  rw [Bool.and_eq_true, Bool.or_eq_true] at h
  obtain ⟨h1, h2⟩ := h
  unfold Num.digB at h1
  rw [Bool.and_eq_true, decide_eq_true_eq] at h1
  obtain ⟨⟨l1, l2⟩, ad⟩ := h1
  have fd := List.all_eq_true.1 ad
  have key : ∃ B, Num.decBody t = pt (Num.decF t) B ∧ Dec (Num.decF t) B := by
    by_cases e : (46 : UInt8) ∈ Num.decBody t
    · rcases h2 with h2 | h2
      · rw [decide_eq_true e] at h2; cases h2
      · unfold Num.digB at h2
        rw [Bool.and_eq_true, decide_eq_true_eq] at h2
        obtain ⟨⟨m1, m2⟩, bd⟩ := h2
        have bd := List.all_eq_true.1 bd
        refine ⟨Num.decB t, ?_, ⟨l1, by omega, fd, by omega, bd⟩⟩
        have hne : Num.decB t ≠ [] := by intro q; rw [q] at m1; simp at m1
        have := cut_back e
        unfold pt
        rw [if_neg hne]
        exact this
    · refine ⟨[], ?_, ⟨l1, by omega, fd, by simp, fun b hb => by cases hb⟩⟩
      unfold pt Num.decF
      rw [if_pos rfl, List.append_nil, ((Num.cut_index 46 (Num.decBody t)).2 e).2.1]
  obtain ⟨B, hb, hd⟩ := key
  unfold Num.decBody at hb
  rcases t with _ | ⟨a, l⟩
  · have : Num.decF [] = [] := rfl
    rw [this] at l1; simp at l1
  · by_cases q : a = 45
    · subst q
      rw [hasP_eq, if_pos rfl] at hb
      exact ⟨some 45, _, B, by rw [← hb]; rfl, hd, .inr (.inl rfl)⟩
    · rw [hasP_ne q, if_neg Bool.false_ne_true] at hb
      by_cases q2 : a = 43
      · subst q2
        rw [hasP_eq, if_pos rfl] at hb
        exact ⟨some 43, _, B, by rw [← hb]; rfl, hd, .inr (.inr rfl)⟩
      · rw [hasP_ne q2, if_neg Bool.false_ne_true] at hb
        exact ⟨none, _, B, by rw [← hb]; rfl, hd, .inl rfl⟩
/-! The canonical text. -/
def cF (F : List UInt8) : List UInt8 := if Lib.trimLeftB F 48 = [] then [48] else Lib.trimLeftB F 48
def cB (B : List UInt8) : List UInt8 := Lib.trimRightB B 48
theorem trimL_mem {l : List UInt8} {c b : UInt8} (h : b ∈ Lib.trimLeftB l c) : b ∈ l := (List.dropWhile_sublist _).subset h
theorem trimR_mem {l : List UInt8} {c b : UInt8} (h : b ∈ Lib.trimRightB l c) : b ∈ l := by
  unfold Lib.trimRightB at h
  exact List.mem_reverse.1 ((List.dropWhile_sublist _).subset (List.mem_reverse.1 h))
theorem canDec {F B : List UInt8} (h : Dec F B) : Dec (cF F) (cB B) := by
  have l1 : (Lib.trimLeftB F 48).length ≤ F.length := (List.dropWhile_sublist _).length_le
  have l2 := trimRB_le B 48
  have f2 := h.f2
  have b2 := h.b2
  refine ⟨?_, ?_, ?_, by unfold cB; omega, fun b hb => h.bd b (trimR_mem hb)⟩
  · unfold cF
    split
    · simp
    · rename_i e
      rcases hh : Lib.trimLeftB F 48 with _ | _
      · exact absurd hh e
      · simp
  · unfold cF; split
    · simp
    · omega
  · intro b hb
    unfold cF at hb
    split at hb
    · rw [List.mem_singleton.1 hb]; decide
    · exact h.fd b (trimL_mem hb)
theorem canO_pt {F B : List UInt8} : canO (Lib.trimLeftB F 48) (Lib.trimRightB B 48) = pt (cF F) (cB B) := rfl
theorem canD_sg {F B : List UInt8} (h : Dec F B) {c : Option UInt8} (hc : c = none ∨ c = some 45 ∨ c = some 43) :
    canD (sg c (pt F B)) = sg (if c = some 45 ∧ pt (cF F) (cB B) ≠ [48] then some 45 else none) (pt (cF F) (cB B)) := by
  obtain ⟨h1, h2, h3, h4⟩ := body_sg h.two hc
  obtain ⟨p1, p2, p3⟩ := pt_cut h.two
  unfold canD canS
  rw [cutL_num, cutR_num, h3, p1, p2, canO_pt]
  by_cases e : c = some 45
  · rw [decide_eq_true (h4.2 e)]
    by_cases q : pt (cF F) (cB B) = [48]
    · rw [if_neg (fun x => x.2 q), if_neg (fun x => x.2 q)]; rfl
    · rw [if_pos ⟨rfl, q⟩, if_pos ⟨e, q⟩]; rfl
  · rw [decide_eq_false (fun q => e (h4.1 q)), if_neg (fun x => by cases x.1), if_neg (fun x => e x.1)]; rfl
theorem canSg (c : Option UInt8) (p : Prop) [Decidable p] : (if p then some (45 : UInt8) else none) = none ∨ (if p then some (45 : UInt8) else none) = some 45 ∨ (if p then some (45 : UInt8) else none) = some 43 := by
  split
  · exact .inr (.inl rfl)
  · exact .inl rfl
theorem canD_ok {t : List UInt8} (h : Num.decOk t = true) : Num.decOk (canD t) = true := by
  obtain ⟨c, F, B, rfl, hd, hc⟩ := dec_of h
  rw [canD_sg hd hc]
  exact (ok_sg (canDec hd) (canSg c _)).1
/-! Values. -/
theorem dropW (c : UInt8) : ∀ l : List UInt8, ∃ k, l = List.replicate k c ++ l.dropWhile (· == c)
  | [] => ⟨0, rfl⟩
  | b :: l => by
    by_cases e : b = c
    · obtain ⟨k, hk⟩ := dropW c l
      refine ⟨k + 1, ?_⟩
      rw [List.dropWhile_cons, if_pos (by simpa using e), List.replicate_succ, List.cons_append, ← hk, e]
    · exact ⟨0, by rw [List.dropWhile_cons, if_neg (by simpa using e)]; rfl⟩
end Decs
end Go.Proofs.YtkcghbpghjdgpaaGreatDoor

namespace Go.Proofs.YtkcghbpghjdgpaaGreatDoor
open Go Go.Proofs Go.Abs
variable {G : Globals}
/-! The law UnitColumns. -/
theorem decOk_len {t : List UInt8} (h : Num.decOk t = true) : t.length ≤ 26 := by
  obtain ⟨c, F, B, rfl, hd, hc⟩ := Decs.dec_of h
  have h1 := hd.f2
  have h2 := hd.b2
  have : (Decs.pt F B).length ≤ 25 := by
    unfold Decs.pt
    rw [List.length_append]
    split
    · simp; omega
    · rw [List.length_cons]; omega
  unfold Decs.sg
  rcases c with _ | c
  · simp only; omega
  · simp only [List.length_cons]; omega
theorem canT_ok {t : List UInt8} : ((canT t).2 = true → Num.decOk (canT t).1 = true) ∧ (canT t).1.length ≤ 26 := by
  unfold canT
  cases h : Num.decOk (Lib.trimB t 32)
  · exact ⟨fun q => (Bool.false_ne_true q).elim, by rw [if_neg Bool.false_ne_true]; exact Nat.zero_le _⟩
  · rw [if_pos rfl]
    exact ⟨fun _ => Decs.canD_ok h, decOk_len (Decs.canD_ok h)⟩
theorem convU_ok (s : List UInt8) (u : Un) : ((convU s u).2 = true → Num.decOk (convU s u).1 = true) ∧ (convU s u).1.length ≤ 26 := by
  unfold convU
  by_cases h : Num.decOk s = true ∧ u ∈ uL
  · rw [if_pos h]
    unfold decU
    by_cases h2 : (47 : UInt8) ∈ dcT (Num.decVal s * Rat.divInt u.2.2.1 u.2.2.2)
    · rw [if_pos h2]; exact ⟨fun q => (Bool.false_ne_true q).elim, Nat.zero_le _⟩
    · rw [if_neg h2]; exact canT_ok
  · rw [if_neg h]; exact ⟨fun q => (Bool.false_ne_true q).elim, Nat.zero_le _⟩
theorem basedU_ok (s b : List UInt8) : ((basedU s b).2 = true → Num.decOk (basedU s b).1 = true) ∧ (basedU s b).1.length ≤ 26 := by
  unfold basedU
  cases splU s with
  | none => exact ⟨fun q => (Bool.false_ne_true q).elim, Nat.zero_le _⟩
  | some u =>
    simp only
    by_cases h : u.2.1 = b
    · rw [if_pos h]; exact convU_ok _ _
    · rw [if_neg h]; exact ⟨fun q => (Bool.false_ne_true q).elim, Nat.zero_le _⟩
theorem okB_all {l : List Cel} {b : List UInt8} (h : okB l b = true) : l.all (fitU b) = true := by
  unfold okB goodO at h
  simp only [Bool.and_eq_true, decide_eq_true_eq] at h
  have h3 : l.countP (noU b) = 0 := h.2
  rw [List.all_eq_true]
  intro x hx
  have := List.countP_eq_zero.1 h3 x hx
  obtain ⟨s, nul⟩ := x
  unfold noU at this
  unfold fitU
  cases nul
  · cases q : (basedU s b).2
    · simp only at this; rw [q] at this; exact absurd rfl this
    · rfl
  · rfl
theorem celsD_getN : ∀ {l : List Cel} {k : Nat}, k < l.length → (celsD l).getD (k * 2) .nilp = .bool (l.getD k noC).2
  | [], k, h => absurd h (Nat.not_lt_zero _)
  | o :: l, 0, _ => by simp [celsD]
  | o :: l, k + 1, h => by
    have ih := celsD_getN (l := l) (k := k) (by simpa using h)
    have e2 : celsD (o :: l) = .bool o.2 :: S o.1 :: celsD l := rfl
    rw [show (k + 1) * 2 = k * 2 + 2 by omega, e2]
    simpa using ih
set_option maxHeartbeats 16000000 in
set_option maxRecDepth 100000 in
theorem ucolumns_law (hG : Num.HG G) (hU : HU G) (hB : HB G) (t : List Int) (ht : OkS t) (hl : t.length ≤ 9223372036854775807) :
    Ctr Tryz.prog G 3 [.d (.sl t.length false (ints .u8 t))] [] (.d (.bool true)) [] := by
  refine Ctr.pure (M := M0) hmix Tryz.func3 rfl go3 ?_
  have hmm := ht.take
  simp (config := { maxSteps := 1000000 }) (disch := ((try simp only [awL]); omega)) only [QR, QS, QT, QU, QV, QW, QX, QY, QZ, Q0, Q1, Q2, Tryz.f3, ↓awU, awV, awF, Qa, Qb, Qc, Qd, forall_const, ↓reduceIte, ↓reduceDIte, ↓Qe, Qf, Qg, Qh, Qi, Qj, Qk, Ql, Qm, Qn, Qo, Qp, Qq, Qr, Qs, implies_true, Qt, Qu, Qv, Qw, Qx, Qy, Qz, QA, QB, QC, QD, QE, QF, QG, QH, QI, QJ, QK, QL, QM, QN, QO, QP, QQ]
  refine CallC.pure (usane_spec hG hU hB) ?_
  simp (config := { maxSteps := 1000000 }) (disch := ((try simp only [awL]); omega)) only [QR, QS, QT, QU, QV, QW, QX, QY, QZ, Q0, Q1, Q2, ↓awU, awV, awF, Qa, Qb, Qc, Qd, forall_const, ↓reduceIte, ↓reduceDIte, ↓Qe, Qf, Qg, Qh, Qi, Qj, Qk, Ql, Qm, Qn, Qo, Qp, Qq, Qr, Qs, implies_true, Qt, Qu, Qv, Qw, Qx, Qy, Qz, QA, QB, QC, QD, QE, QF, QG, QH, QI, QJ, QK, QL, QM, QN, QO, QP, QQ]
  refine CallC.by (new_spec t hl) (by rfl) (by rfl) (Nat.zero_le _) ?_
  generalize t.take 300 = t0 at *
  simp (config := { maxSteps := 1000000 }) (disch := ((try simp only [awL]); omega)) only [QR, QS, QT, QU, QV, QW, QX, QY, QZ, Q0, Q1, Q2, ↓awU, awV, awF, Qa, Qb, Qc, Qd, forall_const, ↓reduceIte, ↓reduceDIte, ↓Qe, Qf, Qg, Qh, Qi, Qj, Qk, Ql, Qm, Qn, Qo, Qp, Qq, Qr, Qs, implies_true, Qt, Qu, Qv, Qw, Qx, Qy, Qz, QA, QB, QC, QD, QE, QF, QG, QH, QI, QJ, QK, QL, QM, QN, QO, QP, QQ]
  refine CallC.by (umade_spec t0 0 hmm) (by rfl) (by rfl) (Nat.le_refl _) ?_
  have ok := madeU_okU t0 0
  have l6 := (madeU_ok t0 0).1
  have x26 := (madeU_ok t0 0).2
  generalize madeUK t0 0 = k2 at *
  generalize madeU t0 0 = l at *
  have lc := celsD_length l
  simp (config := { maxSteps := 1000000 }) (disch := ((try simp only [awL]); omega)) only [QR, QS, QT, QU, QV, QW, QX, QY, QZ, Q0, Q1, Q2, ↓awU, awV, awF, Qa, Qb, Qc, Qd, forall_const, ↓reduceIte, ↓reduceDIte, ↓Qe, Qf, Qg, Qh, Qi, Qj, Qk, Ql, Qm, Qn, Qo, Qp, Qq, Qr, Qs, implies_true, Qt, Qu, Qv, Qw, Qx, Qy, Qz, QA, QB, QC, QD, QE, QF, QG, QH, QI, QJ, QK, QL, QM, QN, QO, QP, QQ]
  refine CallC.of (uoptions_spec hG hU hB [99] l false ok) (by rfl) ?_
  generalize hO : optC (optsU l) = O at *
  simp (config := { maxSteps := 1000000 }) (disch := ((try simp only [awL]); omega)) only [QR, QS, QT, QU, QV, QW, QX, QY, QZ, Q0, Q1, Q2, lc, ↓awU, awV, awF, Qa, Qb, Qc, Qd, forall_const, ↓reduceIte, ↓reduceDIte, ↓Qe, Qf, Qg, Qh, Qi, Qj, Qk, Ql, Qm, Qn, Qo, Qp, Qq, Qr, Qs, implies_true, Qt, Qu, Qv, Qw, Qx, Qy, Qz, QA, QB, QC, QD, QE, QF, QG, QH, QI, QJ, QK, QL, QM, QN, QO, QP, QQ]
  have ts := utakeO_spec (G := G) l
  rw [hO] at ts
  refine CallC.of ts (by rfl) ?_
  have ua := uapply_spec hG hU hB [99] l false ok (baseU l)
  unfold uapR at ua
  by_cases b0 : baseU l = []
  · have e0 : uapE (baseU l) l = 0 := by unfold uapE; rw [if_pos b0]
    have e1 : uapL (baseU l) l = l := by unfold uapL; rw [if_pos b0]
    rw [e0, e1, if_pos rfl] at ua
    rw [b0] at ua ⊢
    simp (config := { maxSteps := 1000000 }) (disch := ((try simp only [awL]); omega)) only [QR, QS, QT, QU, QV, QW, QX, QY, QZ, Q0, Q1, Q2, lc, ↓awU, awV, awF, Qa, Qb, Qc, Qd, forall_const, ↓reduceIte, ↓reduceDIte, ↓Qe, Qf, Qg, Qh, Qi, Qj, Qk, Ql, Qm, Qn, Qo, Qp, Qq, Qr, Qs, implies_true, Qt, Qu, Qv, Qw, Qx, Qy, Qz, QA, QB, QC, QD, QE, QF, QG, QH, QI, QJ, QK, QL, QM, QN, QO, QP, QQ]
    refine CallC.of ua (by rfl) ?_
    simp (config := { maxSteps := 1000000 }) (disch := ((try simp only [awL]); omega)) only [QR, QS, QT, QU, QV, QW, QX, QY, QZ, Q0, Q1, Q2, lc, ↓awU, awV, awF, Qa, Qb, Qc, Qd, forall_const, ↓reduceIte, ↓reduceDIte, ↓Qe, Qf, Qg, Qh, Qi, Qj, Qk, Ql, Qm, Qn, Qo, Qp, Qq, Qr, Qs, implies_true, Qt, Qu, Qv, Qw, Qx, Qy, Qz, QA, QB, QC, QD, QE, QF, QG, QH, QI, QJ, QK, QL, QM, QN, QO, QP, QQ]
    refine CallC.of (sameCells_spec ⟨[99], l⟩ false false (by simp only; omega)) (by rfl) ?_
    simp (config := { maxSteps := 1000000 }) (disch := ((try simp only [awL]); omega)) only [QR, QS, QT, QU, QV, QW, QX, QY, QZ, Q0, Q1, Q2, lc, ↓awU, awV, awF, Qa, Qb, Qc, Qd, forall_const, ↓reduceIte, ↓reduceDIte, ↓Qe, Qf, Qg, Qh, Qi, Qj, Qk, Ql, Qm, Qn, Qo, Qp, Qq, Qr, Qs, implies_true, Qt, Qu, Qv, Qw, Qx, Qy, Qz, QA, QB, QC, QD, QE, QF, QG, QH, QI, QJ, QK, QL, QM, QN, QO, QP, QQ]
    first | done | rfl | exact ⟨by rfl, by rfl⟩
  · obtain ⟨bm, bo⟩ := base_mem b0
    have ba := okB_all bo
    have e0 : uapE (baseU l) l = 0 := by unfold uapE; rw [if_neg b0, if_pos bm, if_pos ba]
    have e1 : uapL (baseU l) l = l.map (apU (baseU l)) := by unfold uapL; rw [if_neg b0]
    rw [e0, e1, if_pos rfl] at ua
    generalize baseU l = b at *
    have b0' : (b = []) = False := eq_false b0
    have lm : (l.map (apU b)).length = l.length := by simp
    have cm := celsD_length (l.map (apU b))
    unfold CelS at ua
    rw [lm] at ua cm
    simp (config := { maxSteps := 1000000 }) (disch := ((try simp only [awL]); omega)) only [QR, QS, QT, QU, QV, QW, QX, QY, QZ, Q0, Q1, Q2, lc, ↓awU, awV, awF, Qa, Qb, Qc, Qd, forall_const, ↓reduceIte, ↓reduceDIte, ↓Qe, Qf, Qg, Qh, Qi, Qj, Qk, Ql, Qm, Qn, Qo, Qp, Qq, Qr, Qs, implies_true, Qt, Qu, Qv, Qw, Qx, Qy, Qz, QA, QB, QC, QD, QE, QF, QG, QH, QI, QJ, QK, QL, QM, QN, QO, QP, QQ]
    refine CallC.of ua (by rfl) ?_
    simp (config := { maxSteps := 1000000 }) (disch := ((try simp only [awL]); omega)) only [QR, QS, QT, QU, QV, QW, QX, QY, QZ, Q0, Q1, Q2, lc, cm, b0', ↓awU, awV, awF, Qa, Qb, Qc, Qd, forall_const, ↓reduceIte, ↓reduceDIte, ↓Qe, Qf, Qg, Qh, Qi, Qj, Qk, Ql, Qm, Qn, Qo, Qp, Qq, Qr, Qs, implies_true, Qt, Qu, Qv, Qw, Qx, Qy, Qz, QA, QB, QC, QD, QE, QF, QG, QH, QI, QJ, QK, QL, QM, QN, QO, QP, QQ]
    refine LoopC.fr 52776558133296 (α := Nat) (fun i => l.length - i) (fun i => [(46, .d (.int .i64 (i : Nat)))])
      (fun _ => [.dead, .box [.d (S [99]), .d (CelS l false)]]) (fun i => i ≤ l.length) 0 (Nat.zero_le _) ?_ ?_
    · exact ⟨[some 0, some 1], rfl, by simp, by simp [setsA, keepA, SWeak, AWeak], by simp [HWeak, BWeak, SWeak, AWeak]⟩
    · intro i hi
      simp only [awK, Nat.reduceMod, Nat.reduceDiv, reduceIte]
      rcases Nat.lt_or_ge i l.length with h | h
      · have gm := celsD_get (l := l.map (apU b)) (k := i) (by omega)
        have gc := celsD_getN h
        have am : (l.map (apU b)).getD i noC = apU b (l.getD i noC) := by
          rw [List.getD_eq_getElem?_getD, List.getElem?_map, List.getD_eq_getElem?_getD, List.getElem?_eq_getElem h]; rfl
        rw [am] at gm
        have fx := List.all_eq_true.1 ba _ (memD (d := noC) h)
        have x2 := x26 _ (memD (d := noC) h)
        generalize l.getD i noC = x at *
        obtain ⟨s, nul⟩ := x
        simp only at x2 gc
        have bo2 := basedU_ok s b
        cases nul
        · have gm : ((celsD (l.map (apU b))).drop (i * 2)).take 2 = [.bool false, S (basedU s b).1] := gm
          have fx : (basedU s b).2 = true := fx
          have od := bo2.1 fx
          have ol := bo2.2
          generalize (basedU s b).1 = y at *
          simp (config := { maxSteps := 1000000 }) (disch := ((try simp only [awL]); omega)) only [QR, QS, QT, QU, QV, QW, QX, QY, QZ, Q0, Q1, Q2, lc, cm, gm, gc, ↓awU, awV, awF, Qa, Qb, Qc, Qd, forall_const, ↓reduceIte, ↓reduceDIte, ↓Qe, Qf, Qg, Qh, Qi, Qj, Qk, Ql, Qm, Qn, Qo, Qp, Qq, Qr, Qs, implies_true, Qt, Qu, Qv, Qw, Qx, Qy, Qz, QA, QB, QC, QD, QE, QF, QG, QH, QI, QJ, QK, QL, QM, QN, QO, QP, QQ]
          refine ⟨by rfl, ?_⟩
          refine CallC.of (Num.rdecimal_spec y (by omega)) (by rfl) ?_
          rw [od, if_pos rfl]
          simp (config := { maxSteps := 1000000 }) (disch := ((try simp only [awL]); omega)) only [QR, QS, QT, QU, QV, QW, QX, QY, QZ, Q0, Q1, Q2, lc, cm, ↓awU, awV, awF, Qa, Qb, Qc, Qd, forall_const, ↓reduceIte, ↓reduceDIte, ↓Qe, Qf, Qg, Qh, Qi, Qj, Qk, Ql, Qm, Qn, Qo, Qp, Qq, Qr, Qs, implies_true, Qt, Qu, Qv, Qw, Qx, Qy, Qz, QA, QB, QC, QD, QE, QF, QG, QH, QI, QJ, QK, QL, QM, QN, QO, QP, QQ]
          first
          | exact ⟨i + 1, h, by simp only; omega, ⟨[some 0, some 1], rfl, by simp, by simp [setsA, keepA, SWeak, AWeak], by simp [HWeak, BWeak, SWeak, AWeak]⟩⟩
          | exact ⟨by rfl, i + 1, h, by simp only; omega, ⟨[some 0, some 1], rfl, by simp, by simp [setsA, keepA, SWeak, AWeak], by simp [HWeak, BWeak, SWeak, AWeak]⟩⟩
        · have gm : ((celsD (l.map (apU b))).drop (i * 2)).take 2 = [.bool true, S s] := gm
          simp (config := { maxSteps := 1000000 }) (disch := ((try simp only [awL]); omega)) only [QR, QS, QT, QU, QV, QW, QX, QY, QZ, Q0, Q1, Q2, lc, cm, gm, gc, ↓awU, awV, awF, Qa, Qb, Qc, Qd, forall_const, ↓reduceIte, ↓reduceDIte, ↓Qe, Qf, Qg, Qh, Qi, Qj, Qk, Ql, Qm, Qn, Qo, Qp, Qq, Qr, Qs, implies_true, Qt, Qu, Qv, Qw, Qx, Qy, Qz, QA, QB, QC, QD, QE, QF, QG, QH, QI, QJ, QK, QL, QM, QN, QO, QP, QQ]
          refine ⟨by rfl, ?_⟩
          refine CallC.of (Num.rdecimal_spec s (by omega)) (by rfl) ?_
          cases Num.decOk s
          · simp (config := { maxSteps := 1000000 }) (disch := ((try simp only [awL]); omega)) only [QR, QS, QT, QU, QV, QW, QX, QY, QZ, Q0, Q1, Q2, lc, cm, ↓awU, awV, awF, Qa, Qb, Qc, Qd, forall_const, ↓reduceIte, ↓reduceDIte, ↓Qe, Qf, Qg, Qh, Qi, Qj, Qk, Ql, Qm, Qn, Qo, Qp, Qq, Qr, Qs, implies_true, Qt, Qu, Qv, Qw, Qx, Qy, Qz, QA, QB, QC, QD, QE, QF, QG, QH, QI, QJ, QK, QL, QM, QN, QO, QP, QQ]
            first
            | exact ⟨i + 1, h, by simp only; omega, ⟨[some 0, some 1], rfl, by simp, by simp [setsA, keepA, SWeak, AWeak], by simp [HWeak, BWeak, SWeak, AWeak]⟩⟩
            | exact ⟨by rfl, i + 1, h, by simp only; omega, ⟨[some 0, some 1], rfl, by simp, by simp [setsA, keepA, SWeak, AWeak], by simp [HWeak, BWeak, SWeak, AWeak]⟩⟩
          · rw [if_pos rfl]
            simp (config := { maxSteps := 1000000 }) (disch := ((try simp only [awL]); omega)) only [QR, QS, QT, QU, QV, QW, QX, QY, QZ, Q0, Q1, Q2, lc, cm, ↓awU, awV, awF, Qa, Qb, Qc, Qd, forall_const, ↓reduceIte, ↓reduceDIte, ↓Qe, Qf, Qg, Qh, Qi, Qj, Qk, Ql, Qm, Qn, Qo, Qp, Qq, Qr, Qs, implies_true, Qt, Qu, Qv, Qw, Qx, Qy, Qz, QA, QB, QC, QD, QE, QF, QG, QH, QI, QJ, QK, QL, QM, QN, QO, QP, QQ]
            first
            | exact ⟨i + 1, h, by simp only; omega, ⟨[some 0, some 1], rfl, by simp, by simp [setsA, keepA, SWeak, AWeak], by simp [HWeak, BWeak, SWeak, AWeak]⟩⟩
            | exact ⟨by rfl, i + 1, h, by simp only; omega, ⟨[some 0, some 1], rfl, by simp, by simp [setsA, keepA, SWeak, AWeak], by simp [HWeak, BWeak, SWeak, AWeak]⟩⟩
      · simp (config := { maxSteps := 1000000 }) (disch := ((try simp only [awL]); omega)) only [QR, QS, QT, QU, QV, QW, QX, QY, QZ, Q0, Q1, Q2, lc, cm, ↓awU, awV, awF, Qa, Qb, Qc, Qd, forall_const, ↓reduceIte, ↓reduceDIte, ↓Qe, Qf, Qg, Qh, Qi, Qj, Qk, Ql, Qm, Qn, Qo, Qp, Qq, Qr, Qs, implies_true, Qt, Qu, Qv, Qw, Qx, Qy, Qz, QA, QB, QC, QD, QE, QF, QG, QH, QI, QJ, QK, QL, QM, QN, QO, QP, QQ]
        have kb := known_spec (G := G) hB b
        rw [decide_eq_true bm] at kb
        refine CallC.of kb (by rfl) ?_
        simp (config := { maxSteps := 1000000 }) (disch := ((try simp only [awL]); omega)) only [QR, QS, QT, QU, QV, QW, QX, QY, QZ, Q0, Q1, Q2, ↓awU, awV, awF, Qa, Qb, Qc, Qd, forall_const, ↓reduceIte, ↓reduceDIte, ↓Qe, Qf, Qg, Qh, Qi, Qj, Qk, Ql, Qm, Qn, Qo, Qp, Qq, Qr, Qs, implies_true, Qt, Qu, Qv, Qw, Qx, Qy, Qz, QA, QB, QC, QD, QE, QF, QG, QH, QI, QJ, QK, QL, QM, QN, QO, QP, QQ]
        first | done | rfl | exact ⟨by rfl, by rfl⟩
end Go.Proofs.YtkcghbpghjdgpaaGreatDoor
