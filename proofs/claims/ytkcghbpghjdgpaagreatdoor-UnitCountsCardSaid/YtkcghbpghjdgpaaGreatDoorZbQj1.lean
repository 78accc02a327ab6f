/-
  A world that lays the variables of unitCounts.
-/
import Derived.Test.YtkcghbpghjdgpaaGreatDoorMb3
set_option linter.all false
open Go.Abs renaming ofVal → Qa, ofVal0 → Qb, isShift → Qc, aggK → Qd, purePost → Qe, combine → Qf, idsA → Qg, cellsA → Qh, numsOf → Qi, srcA → Qj, calleeA → Qk, refsA → Ql, isScalar → Qm, scalarD → Qn, scalar0 → Qo, putL → Qr, unfA → Qs, sidsB → QJ, keyKD → QL, isIntK → QM, aggD → QN, aggL → QO, eqKs → QP, boxRow → QQ, nextC_more → QT, nextC_over → QU, bs_size → QV, bs_extract → QW, bs_toList → QX, bs_append → QY, byteAt_bs → QZ, bs_cells → Q0, nums_length → Q1, nums_getD → Q2
open Go.Abs.AV renaming one → Qp
open Go.Abs.D renaming one → Qq
open Go.IntKind renaming signed → Qt
open Nat renaming reduceAdd → Qu, reduceSub → Qv, reduceMul → Qw, reducePow → Qx, reduceDiv → Qy, reduceMod → Qz, reduceEqDiff → QI, reduceBEq → QK
open Int renaming reduceAdd → QA, reduceSub → QB, reduceMul → QC, reducePow → QD, reduceNeg → QE, reduceToNat → QF, reduceLT → QG, reduceLE → QH
open Option renaming toList_some → QR, toList_none → QS

namespace Go.Proofs.YtkcghbpghjdgpaaGreatDoor
open Go Go.Proofs Go.Abs Go.RowKit Go.ChangeShapes Go.WideShapes Go.ChangeAt
noncomputable def laidWorld_unitCounts (os : Os) : World :=
  { World.holding Tryz.prog os ⟨#[.cells #[.string ⟨#[118, 97, 108, 117, 101, 32, 111, 117, 116, 32, 111, 102, 32, 114, 97, 110, 103, 101]⟩] 230, .cells #[.string ⟨#[105, 110, 118, 97, 108, 105, 100, 32, 115, 121, 110, 116, 97, 120]⟩] 230, .cells #[.int .u32 1] 98, .cells #[.string ⟨#[107, 103]⟩, .string ⟨#[107, 103]⟩, .int .i64 1, .int .i64 1, .string ⟨#[103]⟩, .string ⟨#[107, 103]⟩, .int .i64 1, .int .i64 1000, .string ⟨#[116]⟩, .string ⟨#[107, 103]⟩, .int .i64 1000, .int .i64 1, .string ⟨#[109]⟩, .string ⟨#[109]⟩, .int .i64 1, .int .i64 1, .string ⟨#[107, 109]⟩, .string ⟨#[109]⟩, .int .i64 1000, .int .i64 1, .string ⟨#[99, 109]⟩, .string ⟨#[109]⟩, .int .i64 1, .int .i64 100, .string ⟨#[109, 109]⟩, .string ⟨#[109]⟩, .int .i64 1, .int .i64 1000, .string ⟨#[115]⟩, .string ⟨#[115]⟩, .int .i64 1, .int .i64 1, .string ⟨#[109, 105, 110]⟩, .string ⟨#[115]⟩, .int .i64 60, .int .i64 1, .string ⟨#[104]⟩, .string ⟨#[115]⟩, .int .i64 3600, .int .i64 1, .string ⟨#[109, 115]⟩, .string ⟨#[115]⟩, .int .i64 1, .int .i64 1000, .string ⟨#[37]⟩, .string ⟨#[37]⟩, .int .i64 1, .int .i64 1] 51, .cells #[.string ⟨#[107, 103]⟩, .string ⟨#[109]⟩, .string ⟨#[115]⟩, .string ⟨#[37]⟩] 9], #[], []⟩ with heap := (((((((((((World.holding Tryz.prog os ⟨#[.cells #[.string ⟨#[118, 97, 108, 117, 101, 32, 111, 117, 116, 32, 111, 102, 32, 114, 97, 110, 103, 101]⟩] 230, .cells #[.string ⟨#[105, 110, 118, 97, 108, 105, 100, 32, 115, 121, 110, 116, 97, 120]⟩] 230, .cells #[.int .u32 1] 98, .cells #[.string ⟨#[107, 103]⟩, .string ⟨#[107, 103]⟩, .int .i64 1, .int .i64 1, .string ⟨#[103]⟩, .string ⟨#[107, 103]⟩, .int .i64 1, .int .i64 1000, .string ⟨#[116]⟩, .string ⟨#[107, 103]⟩, .int .i64 1000, .int .i64 1, .string ⟨#[109]⟩, .string ⟨#[109]⟩, .int .i64 1, .int .i64 1, .string ⟨#[107, 109]⟩, .string ⟨#[109]⟩, .int .i64 1000, .int .i64 1, .string ⟨#[99, 109]⟩, .string ⟨#[109]⟩, .int .i64 1, .int .i64 100, .string ⟨#[109, 109]⟩, .string ⟨#[109]⟩, .int .i64 1, .int .i64 1000, .string ⟨#[115]⟩, .string ⟨#[115]⟩, .int .i64 1, .int .i64 1, .string ⟨#[109, 105, 110]⟩, .string ⟨#[115]⟩, .int .i64 60, .int .i64 1, .string ⟨#[104]⟩, .string ⟨#[115]⟩, .int .i64 3600, .int .i64 1, .string ⟨#[109, 115]⟩, .string ⟨#[115]⟩, .int .i64 1, .int .i64 1000, .string ⟨#[37]⟩, .string ⟨#[37]⟩, .int .i64 1, .int .i64 1] 51, .cells #[.string ⟨#[107, 103]⟩, .string ⟨#[109]⟩, .string ⟨#[115]⟩, .string ⟨#[37]⟩] 9], #[], []⟩).heap.modify 8 fun
      | .cells _ t frozen => .cells #[.int .u8 0, .int .u8 1, .int .u8 28, .int .u8 2, .int .u8 29, .int .u8 14, .int .u8 24, .int .u8 3, .int .u8 30, .int .u8 22, .int .u8 20, .int .u8 15, .int .u8 25, .int .u8 17, .int .u8 4, .int .u8 8, .int .u8 31, .int .u8 27, .int .u8 13, .int .u8 23, .int .u8 21, .int .u8 19, .int .u8 16, .int .u8 7, .int .u8 26, .int .u8 12, .int .u8 18, .int .u8 6, .int .u8 11, .int .u8 5, .int .u8 10, .int .u8 9] t frozen
      | o => o).modify 9 fun
      | .cells _ t frozen => .cells #[.int .u8 0, .int .u8 1, .int .u8 56, .int .u8 2, .int .u8 57, .int .u8 49, .int .u8 28, .int .u8 3, .int .u8 61, .int .u8 58, .int .u8 42, .int .u8 50, .int .u8 38, .int .u8 29, .int .u8 17, .int .u8 4, .int .u8 62, .int .u8 47, .int .u8 59, .int .u8 36, .int .u8 45, .int .u8 43, .int .u8 51, .int .u8 22, .int .u8 53, .int .u8 39, .int .u8 33, .int .u8 30, .int .u8 24, .int .u8 18, .int .u8 12, .int .u8 5, .int .u8 63, .int .u8 55, .int .u8 48, .int .u8 27, .int .u8 60, .int .u8 41, .int .u8 37, .int .u8 16, .int .u8 46, .int .u8 35, .int .u8 44, .int .u8 21, .int .u8 52, .int .u8 32, .int .u8 23, .int .u8 11, .int .u8 54, .int .u8 26, .int .u8 40, .int .u8 15, .int .u8 34, .int .u8 20, .int .u8 31, .int .u8 10, .int .u8 25, .int .u8 14, .int .u8 19, .int .u8 9, .int .u8 13, .int .u8 8, .int .u8 7, .int .u8 6] t frozen
      | o => o).modify 3 fun
      | .cells _ t frozen => .cells #[.int .u64 1, .int .u64 10, .int .u64 100, .int .u64 1000, .int .u64 10000, .int .u64 100000, .int .u64 1000000, .int .u64 10000000, .int .u64 100000000, .int .u64 1000000000, .int .u64 10000000000, .int .u64 100000000000, .int .u64 1000000000000, .int .u64 10000000000000, .int .u64 100000000000000, .int .u64 1000000000000000, .int .u64 10000000000000000, .int .u64 100000000000000000, .int .u64 1000000000000000000, .int .u64 10000000000000000000] t frozen
      | o => o).modify 7 fun
      | .cells _ t frozen => .cells #[.int .u8 128, .int .u8 191, .int .u8 160, .int .u8 191, .int .u8 128, .int .u8 159, .int .u8 144, .int .u8 191, .int .u8 128, .int .u8 143, .int .u8 0, .int .u8 0, .int .u8 0, .int .u8 0, .int .u8 0, .int .u8 0, .int .u8 0, .int .u8 0, .int .u8 0, .int .u8 0, .int .u8 0, .int .u8 0, .int .u8 0, .int .u8 0, .int .u8 0, .int .u8 0, .int .u8 0, .int .u8 0, .int .u8 0, .int .u8 0, .int .u8 0, .int .u8 0] t frozen
      | o => o).modify 11 fun
      | .cells _ t frozen => .cells #[.iface 228 (.pointer (some ⟨(World.settled Tryz.prog os).heap.size, 0, none⟩))] t frozen
      | o => o).modify 10 fun
      | .cells _ t frozen => .cells #[.iface 228 (.pointer (some ⟨(World.settled Tryz.prog os).heap.size + 1, 0, none⟩))] t frozen
      | o => o).modify 2 fun
      | .cells _ t frozen => .cells #[.slice (some ⟨(World.settled Tryz.prog os).heap.size + 2, 0, none⟩) 1 1] t frozen
      | o => o).modify 1 fun
      | .cells _ t frozen => .cells #[.slice (some ⟨(World.settled Tryz.prog os).heap.size + 3, 0, none⟩) 12 12] t frozen
      | o => o).modify 0 fun
      | .cells _ t frozen => .cells #[.slice (some ⟨(World.settled Tryz.prog os).heap.size + 4, 0, none⟩) 4 4] t frozen
      | o => o).modify 6 fun
      | .cells _ t frozen => .cells (Go.Pinned.utf8FirstZ.map fun (n : Nat) => Value.int .u8 (n : Int)).toArray t frozen
      | o => o) }
set_option maxRecDepth 100000 in
theorem laid_met_unitCounts (os : Os) (args : Array Value) : laidMet Tryz.prog [("math/bits.deBruijn32tab", Rows.laid_math_bits_deBruijn32tab), ("math/bits.deBruijn64tab", Rows.laid_math_bits_deBruijn64tab), ("internal/strconv.uint64pow10", Rows.laid_internal_strconv_uint64pow10), ("unicode/utf8.acceptRanges", Rows.laid_unicode_utf8_acceptRanges), ("strconv.ErrRange", Rows.laid_strconv_ErrRange), ("strconv.ErrSyntax", Rows.laid_strconv_ErrSyntax), ("tablefinder/fraction.one", Rows.laid_tablefinder_fraction_one), ("tablefinder/unit.units", Rows.laid_tablefinder_unit_units), ("tablefinder/unit.bases", Rows.laid_tablefinder_unit_bases), ("unicode/utf8.first", Rows.laid_unicode_utf8_first)] ((laidWorld_unitCounts os).forCall (fun _ _ => 0) ⟨#[], args, []⟩).memory :=
  laidMet_of_run' 8 (by kernel_rfl) (by kernel_rfl)
end Go.Proofs.YtkcghbpghjdgpaaGreatDoor

namespace Go.Proofs.YtkcghbpghjdgpaaGreatDoor
open Go Go.Proofs Go.Abs
variable {G : Globals}
/-! unit.Take, unit.Apply; cloned cells. -/
abbrev OU := List UInt8 × Int × Int
abbrev OUC (o : OU) : List D := [S o.1, .int .i64 o.2.1, .int .i64 o.2.2]
def ouC (l : List OU) : List D := l.flatMap OUC
def toU (l : List Opt) : List OU := l.map fun o => (o.txt, (o.fr : Int), (o.ag : Int))
def noOU : OU := ([], 0, 0)
theorem toU_len (l : List Opt) : (toU l).length = l.length := by simp [toU]
theorem ouC_to : ∀ l : List Opt, ouC (toU l) = optC l
  | [] => rfl
  | o :: l => by
    have ih := ouC_to l
    simp only [ouC, toU, List.map_cons, List.flatMap_cons, optC] at ih ⊢
    rw [ih]
theorem ouC_length : ∀ l : List OU, (ouC l).length = 3 * l.length
  | [] => rfl
  | o :: l => by
    have ih := ouC_length l
    simp only [ouC, List.flatMap_cons, List.length_append, List.length_cons, List.length_nil] at ih ⊢
    omega
theorem ouC_get : ∀ {l : List OU} {k : Nat}, k < l.length → ((ouC l).drop (k * 3)).take 3 = OUC (l.getD k noOU)
  | [], k, h => absurd h (Nat.not_lt_zero _)
  | o :: l, 0, _ => by simp [ouC]
  | o :: l, k + 1, h => by
    have ih := ouC_get (l := l) (k := k) (by simpa using h)
    have e2 : ouC (o :: l) = S o.1 :: .int .i64 o.2.1 :: .int .i64 o.2.2 :: ouC l := rfl
    rw [show (k + 1) * 3 = k * 3 + 3 by omega, e2]
    simpa using ih
theorem ouC_txt : ∀ {l : List OU} {k : Nat}, k < l.length → (ouC l).getD (k * 3) .nilp = S (l.getD k noOU).1
  | [], k, h => absurd h (Nat.not_lt_zero _)
  | o :: l, 0, _ => by simp [ouC]
  | o :: l, k + 1, h => by
    have ih := ouC_txt (l := l) (k := k) (by simpa using h)
    have e2 : ouC (o :: l) = S o.1 :: .int .i64 o.2.1 :: .int .i64 o.2.2 :: ouC l := rfl
    rw [show (k + 1) * 3 = k * 3 + 3 by omega, e2]
    simpa using ih
def goodU (o : OU) : Bool := decide (0 < o.2.1) && decide (o.2.2 = 0)
def takeU (l : List OU) : List UInt8 := match l.find? goodU with | some o => o.1 | none => []
theorem ixF_find {α : Type} {p : α → Bool} {d : α} : ∀ (l : List α) (k : Int), 0 ≤ k → (ixF p l k < 0 ∧ l.find? p = none) ∨ ∃ n, n < l.length ∧ ixF p l k = k + n ∧ l.find? p = some (l.getD n d)
  | [], k, h => .inl ⟨by rw [ixF]; omega, rfl⟩
  | x :: r, k, h => by
    rw [ixF, List.find?_cons]
    cases hx : p x
    · rcases ixF_find (d := d) r (k + 1) (by omega) with ⟨h1, h2⟩ | ⟨n, h1, h2, h3⟩
      · exact .inl ⟨by simpa using h1, h2⟩
      · exact .inr ⟨n + 1, by simp; omega, by simp; omega, by simpa using h3⟩
    · exact .inr ⟨0, by simp, by simp, by simp⟩
set_option maxRecDepth 100000 in
theorem take1_spec (o : OU) : Ctr Tryz.prog G 35 [.d (.agg (OUC o))] [] (.d (.bool (goodU o))) [] := by
  obtain ⟨t, a, b⟩ := o
  obtain ⟨r, hr⟩ : ∃ r, r = goodU (t, a, b) := ⟨_, rfl⟩
  rw [← hr]
  unfold goodU at hr
  simp only at hr
  refine Ctr.pure (M := M0) hmix Tryz.func35 rfl go35 ?_
  by_cases e1 : 0 < a
  · rw [decide_eq_true e1, Bool.true_and] at hr
    subst hr
    simp (config := { maxSteps := 1000000 }) (disch := ((try simp only [awL]); omega)) only [QR, QS, QT, QU, QV, QW, QX, QY, QZ, Q0, Q1, Q2, Tryz.f35, ↓awU, awV, awF, Qa, Qb, Qc, Qd, forall_const, ↓reduceIte, ↓reduceDIte, ↓Qe, Qf, Qg, Qh, Qi, Qj, Qk, Ql, Qm, Qn, Qo, Qp, Qq, Qr, Qs, implies_true, Qt, Qu, Qv, Qw, Qx, Qy, Qz, QA, QB, QC, QD, QE, QF, QG, QH, QI, QJ, QK, QL, QM, QN, QO, QP, QQ]
    first | done | rfl
  · rw [decide_eq_false e1, Bool.false_and] at hr
    subst hr
    simp (config := { maxSteps := 1000000 }) (disch := ((try simp only [awL]); omega)) only [QR, QS, QT, QU, QV, QW, QX, QY, QZ, Q0, Q1, Q2, Tryz.f35, ↓awU, awV, awF, Qa, Qb, Qc, Qd, forall_const, ↓reduceIte, ↓reduceDIte, ↓Qe, Qf, Qg, Qh, Qi, Qj, Qk, Ql, Qm, Qn, Qo, Qp, Qq, Qr, Qs, implies_true, Qt, Qu, Qv, Qw, Qx, Qy, Qz, QA, QB, QC, QD, QE, QF, QG, QH, QI, QJ, QK, QL, QM, QN, QO, QP, QQ]
    first | done | rfl
set_option maxHeartbeats 4000000 in
theorem ixU_spec (l : List OU) (full : Bool) (hl : l.length ≤ 1000000) :
    Ctr Tryz.prog G 34 [.d (.sl l.length full (ouC l)), .d (.fn (.func 35) [] [])] [] (.d (.int .i64 (ixF goodU l 0))) [] := by
  refine Ctr.pure (M := M0) hmix Tryz.func34 rfl go34 ?_
  have sl := @ouC_length l
  simp (config := { maxSteps := 1000000 }) (disch := ((try simp only [awL]); omega)) only [QR, QS, QT, QU, QV, QW, QX, QY, QZ, Q0, Q1, Q2, sl, Tryz.f34, ↓awU, awV, awF, Qa, Qb, Qc, Qd, forall_const, ↓reduceIte, ↓reduceDIte, ↓Qe, Qf, Qg, Qh, Qi, Qj, Qk, Ql, Qm, Qn, Qo, Qp, Qq, Qr, Qs, implies_true, Qt, Qu, Qv, Qw, Qx, Qy, Qz, QA, QB, QC, QD, QE, QF, QG, QH, QI, QJ, QK, QL, QM, QN, QO, QP, QQ]
  refine LoopC.fr 131 (α := Nat) (fun i => l.length - i) (fun i => [(8, .d (.int .i64 i))]) (fun _ => []) (fun i => i ≤ l.length ∧ ixF goodU l 0 = ixF goodU (l.drop i) i) 0 ⟨Nat.zero_le _, rfl⟩ ?_ ?_
  · exact ⟨[], rfl, by simp, by simp [setsA, keepA, SWeak, AWeak], by simp [HWeak, BWeak, SWeak, AWeak]⟩
  · rintro i ⟨h1, h2⟩
    simp only [awK, Nat.reduceMod, Nat.reduceDiv, reduceIte]
    rw [h2]
    rcases Nat.lt_or_ge i l.length with h | h
    · have g := ouC_get h
      rw [ixF_at (d := noOU) h]
      generalize l.getD i noOU = o at *
      simp (config := { maxSteps := 1000000 }) (disch := ((try simp only [awL]); omega)) only [QR, QS, QT, QU, QV, QW, QX, QY, QZ, Q0, Q1, Q2, sl, g, ↓awU, awV, awF, Qa, Qb, Qc, Qd, forall_const, ↓reduceIte, ↓reduceDIte, ↓Qe, Qf, Qg, Qh, Qi, Qj, Qk, Ql, Qm, Qn, Qo, Qp, Qq, Qr, Qs, implies_true, Qt, Qu, Qv, Qw, Qx, Qy, Qz, QA, QB, QC, QD, QE, QF, QG, QH, QI, QJ, QK, QL, QM, QN, QO, QP, QQ]
      refine CallC.of (take1_spec o) (by rfl) ?_
      cases hx : goodU o
      · simp (config := { maxSteps := 1000000 }) (disch := ((try simp only [awL]); omega)) only [QR, QS, QT, QU, QV, QW, QX, QY, QZ, Q0, Q1, Q2, ↓awU, awV, awF, Qa, Qb, Qc, Qd, forall_const, ↓reduceIte, ↓reduceDIte, ↓Qe, Qf, Qg, Qh, Qi, Qj, Qk, Ql, Qm, Qn, Qo, Qp, Qq, Qr, Qs, implies_true, Qt, Qu, Qv, Qw, Qx, Qy, Qz, QA, QB, QC, QD, QE, QF, QG, QH, QI, QJ, QK, QL, QM, QN, QO, QP, QQ]
        exact ⟨i + 1, ⟨h, rfl⟩, by simp only; omega, ⟨[], rfl, by simp, by simp [setsA, keepA, SWeak, AWeak], by simp [HWeak, BWeak, SWeak, AWeak]⟩⟩
      · simp (config := { maxSteps := 1000000 }) (disch := ((try simp only [awL]); omega)) only [QR, QS, QT, QU, QV, QW, QX, QY, QZ, Q0, Q1, Q2, ↓awU, awV, awF, Qa, Qb, Qc, Qd, forall_const, ↓reduceIte, ↓reduceDIte, ↓Qe, Qf, Qg, Qh, Qi, Qj, Qk, Ql, Qm, Qn, Qo, Qp, Qq, Qr, Qs, implies_true, Qt, Qu, Qv, Qw, Qx, Qy, Qz, QA, QB, QC, QD, QE, QF, QG, QH, QI, QJ, QK, QL, QM, QN, QO, QP, QQ]
    · rw [List.drop_eq_nil_of_le h]
      simp (config := { maxSteps := 1000000 }) (disch := ((try simp only [awL]); omega)) only [QR, QS, QT, QU, QV, QW, QX, QY, QZ, Q0, Q1, Q2, sl, ↓awU, awV, awF, Qa, Qb, Qc, Qd, forall_const, ↓reduceIte, ↓reduceDIte, ↓Qe, Qf, Qg, Qh, Qi, Qj, Qk, Ql, Qm, Qn, Qo, Qp, Qq, Qr, Qs, implies_true, Qt, Qu, Qv, Qw, Qx, Qy, Qz, QA, QB, QC, QD, QE, QF, QG, QH, QI, QJ, QK, QL, QM, QN, QO, QP, QQ]
      rfl
set_option maxHeartbeats 4000000 in
set_option maxRecDepth 100000 in
theorem utake_spec (l : List OU) (full : Bool) (hl : l.length ≤ 1000000) : Ctr Tryz.prog G 10 [.d (.sl l.length full (ouC l))] [] (.d (S (takeU l))) [] := by
  obtain ⟨r, hr⟩ : ∃ r, r = takeU l := ⟨_, rfl⟩
  rw [← hr]
  unfold takeU at hr
  have sl := @ouC_length l
  refine Ctr.pure (M := M0) hmix Tryz.func10 rfl go10 ?_
  simp (config := { maxSteps := 1000000 }) (disch := ((try simp only [awL]); omega)) only [QR, QS, QT, QU, QV, QW, QX, QY, QZ, Q0, Q1, Q2, Tryz.f10, ↓awU, awV, awF, Qa, Qb, Qc, Qd, forall_const, ↓reduceIte, ↓reduceDIte, ↓Qe, Qf, Qg, Qh, Qi, Qj, Qk, Ql, Qm, Qn, Qo, Qp, Qq, Qr, Qs, implies_true, Qt, Qu, Qv, Qw, Qx, Qy, Qz, QA, QB, QC, QD, QE, QF, QG, QH, QI, QJ, QK, QL, QM, QN, QO, QP, QQ]
  refine CallC.of (ixU_spec l false hl) (by rfl) ?_
  rcases ixF_find (p := goodU) (d := noOU) l 0 (Int.le_refl _) with ⟨h1, h2⟩ | ⟨n, h1, h2, h3⟩
  · rw [h2] at hr
    simp only at hr
    subst hr
    generalize ixF goodU l 0 = z at *
    simp (config := { maxSteps := 1000000 }) (disch := ((try simp only [awL]); omega)) only [QR, QS, QT, QU, QV, QW, QX, QY, QZ, Q0, Q1, Q2, ↓awU, awV, awF, Qa, Qb, Qc, Qd, forall_const, ↓reduceIte, ↓reduceDIte, ↓Qe, Qf, Qg, Qh, Qi, Qj, Qk, Ql, Qm, Qn, Qo, Qp, Qq, Qr, Qs, implies_true, Qt, Qu, Qv, Qw, Qx, Qy, Qz, QA, QB, QC, QD, QE, QF, QG, QH, QI, QJ, QK, QL, QM, QN, QO, QP, QQ]
    first | done | rfl
  · rw [h3] at hr
    simp only at hr
    rw [h2, Int.zero_add]
    have gt := ouC_txt h1
    rw [← hr] at gt
    simp (config := { maxSteps := 1000000 }) (disch := ((try simp only [awL]); omega)) only [QR, QS, QT, QU, QV, QW, QX, QY, QZ, Q0, Q1, Q2, sl, gt, ↓awU, awV, awF, Qa, Qb, Qc, Qd, forall_const, ↓reduceIte, ↓reduceDIte, ↓Qe, Qf, Qg, Qh, Qi, Qj, Qk, Ql, Qm, Qn, Qo, Qp, Qq, Qr, Qs, implies_true, Qt, Qu, Qv, Qw, Qx, Qy, Qz, QA, QB, QC, QD, QE, QF, QG, QH, QI, QJ, QK, QL, QM, QN, QO, QP, QQ]
    first | done | rfl
theorem celsD_unf {l : List Cel} : (celsD l).map unf0 = celsD l := by
  induction l with
  | nil => rfl
  | cons x l ih =>
    have e : celsD (x :: l) = .bool x.2 :: S x.1 :: celsD l := rfl
    rw [e, List.map_cons, List.map_cons, ih]; rfl
theorem cloneC_spec (l : List Cel) (full : Bool) (hl : l.length < 2 ^ 40) : Ctr Tryz.prog G 37 [.d (CelS l full)] [] (.d (CelS l false)) [] := by
  refine Ctr.of_body Tryz.func37 rfl go37 rfl ?_
  have sl := celsD_length l
  refine Tri.seq (Tri.of_awp (M := M0) hmix _ _ _ _ ?_)
  simp (config := { maxSteps := 1000000 }) (disch := ((try simp only [awL]); omega)) only [QR, QS, QT, QU, QV, QW, QX, QY, QZ, Q0, Q1, Q2, aseq_normal, Tryz.f37, ↓awU, awV, awF, Qa, Qb, Qc, Qd, forall_const, ↓reduceIte, ↓reduceDIte, ↓Qe, Qf, Qg, Qh, Qi, Qj, Qk, Ql, Qm, Qn, Qo, Qp, Qq, Qr, Qs, implies_true, Qt, Qu, Qv, Qw, Qx, Qy, Qz, QA, QB, QC, QD, QE, QF, QG, QH, QI, QJ, QK, QL, QM, QN, QO, QP, QQ]
  refine Tri.seq (Tri.seq (Tri.nilRegion (e := 38) (by kernel_rfl) rfl ?_ ?_))
  · simp
  intro b hb
  simp only [aseq_normal]
  refine Tri.of_awp (M := M0) hmix _ _ _ _ ?_
  cases b
  · simp (config := { maxSteps := 1000000 }) (disch := ((try simp only [awL]); omega)) only [QR, QS, QT, QU, QV, QW, QX, QY, QZ, Q0, Q1, Q2, aseq_normal, Tryz.f37, aseq_ret, ↓awU, awV, awF, Qa, Qb, Qc, Qd, forall_const, ↓reduceIte, ↓reduceDIte, ↓Qe, Qf, Qg, Qh, Qi, Qj, Qk, Ql, Qm, Qn, Qo, Qp, Qq, Qr, Qs, implies_true, Qt, Qu, Qv, Qw, Qx, Qy, Qz, QA, QB, QC, QD, QE, QF, QG, QH, QI, QJ, QK, QL, QM, QN, QO, QP, QQ]
    refine Tri.of_awp (M := M0) hmix _ _ _ _ ?_
    simp (config := { maxSteps := 1000000 }) (disch := ((try simp only [awL]); omega)) only [QR, QS, QT, QU, QV, QW, QX, QY, QZ, Q0, Q1, Q2, sl, aseq_normal, Tryz.f37, aseq_ret, ↓awU, awV, awF, Qa, Qb, Qc, Qd, forall_const, ↓reduceIte, ↓reduceDIte, ↓Qe, Qf, Qg, Qh, Qi, Qj, Qk, Ql, Qm, Qn, Qo, Qp, Qq, Qr, Qs, implies_true, Qt, Qu, Qv, Qw, Qx, Qy, Qz, QA, QB, QC, QD, QE, QF, QG, QH, QI, QJ, QK, QL, QM, QN, QO, QP, QQ]
    have cu : cut (celsD l) 0 (l.length * 2) = celsD l := by unfold cut; rw [List.drop_zero, List.take_of_length_le (by omega)]
    refine ⟨[], rfl, List.nodup_nil, trivial, .inr ⟨CelS l false, ?_, ?_, rfl⟩⟩
    · simp [sealA, cu]
    · simp only [unf_sl, celsD_unf]
  · simp (config := { maxSteps := 1000000 }) (disch := ((try simp only [awL]); omega)) only [QR, QS, QT, QU, QV, QW, QX, QY, QZ, Q0, Q1, Q2, aseq_normal, Tryz.f37, aseq_ret, ↓awU, awV, awF, Qa, Qb, Qc, Qd, forall_const, ↓reduceIte, ↓reduceDIte, ↓Qe, Qf, Qg, Qh, Qi, Qj, Qk, Ql, Qm, Qn, Qo, Qp, Qq, Qr, Qs, implies_true, Qt, Qu, Qv, Qw, Qx, Qy, Qz, QA, QB, QC, QD, QE, QF, QG, QH, QI, QJ, QK, QL, QM, QN, QO, QP, QQ]
    have h0 : l = [] := List.length_eq_zero_iff.1 (hb rfl)
    subst h0
    exact ⟨[], rfl, List.nodup_nil, trivial, .inr ⟨.sl 0 true [], rfl, rfl, rfl⟩⟩
theorem cloneR_spec (l : List Cel) (full : Bool) (hl : l.length < 2 ^ 40) (h0 : 0 < l.length) : Ctr Tryz.prog G 37 [.d (CelS l full)] [] (.lsl 0 2 0 l.length) [.row false (celsD l)] := by
  refine Ctr.of_body Tryz.func37 rfl go37 rfl ?_
  have sl := celsD_length l
  refine Tri.seq (Tri.of_awp (M := M0) hmix _ _ _ _ ?_)
  simp (config := { maxSteps := 1000000 }) (disch := ((try simp only [awL]); omega)) only [QR, QS, QT, QU, QV, QW, QX, QY, QZ, Q0, Q1, Q2, aseq_normal, Tryz.f37, ↓awU, awV, awF, Qa, Qb, Qc, Qd, forall_const, ↓reduceIte, ↓reduceDIte, ↓Qe, Qf, Qg, Qh, Qi, Qj, Qk, Ql, Qm, Qn, Qo, Qp, Qq, Qr, Qs, implies_true, Qt, Qu, Qv, Qw, Qx, Qy, Qz, QA, QB, QC, QD, QE, QF, QG, QH, QI, QJ, QK, QL, QM, QN, QO, QP, QQ]
  refine Tri.seq (Tri.seq (Tri.nilRegion (e := 38) (by kernel_rfl) rfl ?_ ?_))
  · simp
  intro b hb
  simp only [aseq_normal]
  refine Tri.of_awp (M := M0) hmix _ _ _ _ ?_
  cases b
  · simp (config := { maxSteps := 1000000 }) (disch := ((try simp only [awL]); omega)) only [QR, QS, QT, QU, QV, QW, QX, QY, QZ, Q0, Q1, Q2, aseq_normal, Tryz.f37, aseq_ret, ↓awU, awV, awF, Qa, Qb, Qc, Qd, forall_const, ↓reduceIte, ↓reduceDIte, ↓Qe, Qf, Qg, Qh, Qi, Qj, Qk, Ql, Qm, Qn, Qo, Qp, Qq, Qr, Qs, implies_true, Qt, Qu, Qv, Qw, Qx, Qy, Qz, QA, QB, QC, QD, QE, QF, QG, QH, QI, QJ, QK, QL, QM, QN, QO, QP, QQ]
    refine Tri.of_awp (M := M0) hmix _ _ _ _ ?_
    simp (config := { maxSteps := 1000000 }) (disch := ((try simp only [awL]); omega)) only [QR, QS, QT, QU, QV, QW, QX, QY, QZ, Q0, Q1, Q2, sl, aseq_normal, Tryz.f37, aseq_ret, ↓awU, awV, awF, Qa, Qb, Qc, Qd, forall_const, ↓reduceIte, ↓reduceDIte, ↓Qe, Qf, Qg, Qh, Qi, Qj, Qk, Ql, Qm, Qn, Qo, Qp, Qq, Qr, Qs, implies_true, Qt, Qu, Qv, Qw, Qx, Qy, Qz, QA, QB, QC, QD, QE, QF, QG, QH, QI, QJ, QK, QL, QM, QN, QO, QP, QQ]
    have cu : cut (celsD l) 0 (l.length * 2) = celsD l := by unfold cut; rw [List.drop_zero, List.take_of_length_le (by omega)]
    exact ⟨[some 1], rfl, by simp, by simp [HWeak, BWeak, SWeak, AWeak], .inl (by simp [AWeak, SWeak])⟩
  · exact absurd (hb rfl) (by omega)
end Go.Proofs.YtkcghbpghjdgpaaGreatDoor

namespace Go.Proofs.YtkcghbpghjdgpaaGreatDoor
open Go Go.Proofs Go.Abs
variable {G : Globals}
/-! unit.Apply. -/
def apU (b : List UInt8) (x : Cel) : Cel := if x.2 = true then x else ((basedU x.1 b).1, x.2)
def fitU (b : List UInt8) (x : Cel) : Bool := x.2 || (basedU x.1 b).2
def uapE (b : List UInt8) (l : List Cel) : Int := if b = [] then 0 else if b ∈ basesL then (if l.all (fitU b) = true then 0 else 4) else 5
def uapL (b : List UInt8) (l : List Cel) : List Cel := if b = [] then l else l.map (apU b)
def uapR (nm b : List UInt8) (l : List Cel) : D := .tup [if uapE b l = 0 then .agg [S nm, CelS (uapL b l) false] else .agg [S [], .sl 0 false []], .int .i64 (uapE b l)]
def mixU (b : List UInt8) (l : List Cel) (i : Nat) : List Cel := (l.take i).map (apU b) ++ l.drop i
theorem mixU_len (b : List UInt8) (l : List Cel) (i : Nat) : (mixU b l i).length = l.length := by
  unfold mixU; rw [List.length_append, List.length_map, List.length_take, List.length_drop]; omega
theorem mixU_get {b : List UInt8} {l : List Cel} {i : Nat} (h : i < l.length) : (mixU b l i).getD i noC = l.getD i noC := by
  unfold mixU
  rw [List.getD_eq_getElem?_getD, List.getElem?_append_right (by simp; omega), List.getElem?_drop, ← List.getD_eq_getElem?_getD]
  congr 1; simp; omega
theorem mixU_step {b : List UInt8} {l : List Cel} {i : Nat} (h : i < l.length) : mixU b l i = (l.take i).map (apU b) ++ l.getD i noC :: l.drop (i + 1) ∧ mixU b l (i + 1) = (l.take i).map (apU b) ++ apU b (l.getD i noC) :: l.drop (i + 1) := by
  unfold mixU
  constructor
  · rw [List.drop_eq_getElem_cons h, List.getD_eq_getElem?_getD, List.getElem?_eq_getElem h]; rfl
  · rw [List.take_add_one, getD_some (d := noC) h]; simp
theorem mixU_end {b : List UInt8} {l : List Cel} : mixU b l l.length = l.map (apU b) := by unfold mixU; simp
theorem celsD_txt {A Z : List Cel} {x : Cel} {i : Nat} (ha : A.length = i) (t : List UInt8) : (celsD (A ++ x :: Z)).set (i * 2 + 1) (.str (bs t)) = celsD (A ++ (t, x.2) :: Z) := by
  have hl := celsD_length A
  rw [celsD_app, celsD_app, List.set_append_right _ _ (by omega), show i * 2 + 1 - (celsD A).length = 1 by omega]
  rfl
theorem mixU_set {b : List UInt8} {l : List Cel} {i : Nat} (h : i < l.length) {t : List UInt8} (hx : l.getD i noC = (t, false)) : (celsD (mixU b l i)).set (i * 2 + 1) (.str (bs (basedU t b).1)) = celsD (mixU b l (i + 1)) := by
  obtain ⟨h1, h2⟩ := mixU_step (b := b) h
  rw [h1, h2, celsD_txt (by simp; omega), hx]
  rfl
theorem mixU_null {b : List UInt8} {l : List Cel} {i : Nat} (h : i < l.length) {t : List UInt8} (hx : l.getD i noC = (t, true)) : mixU b l (i + 1) = mixU b l i := by
  obtain ⟨h1, h2⟩ := mixU_step (b := b) h
  rw [h1, h2, hx]
  rfl
theorem all_takeU {l : List Cel} {p : Cel → Bool} {i : Nat} (h : i < l.length) (h1 : (l.take i).all p = true) (h2 : p (l.getD i noC) = true) : (l.take (i + 1)).all p = true := by
  rw [List.take_add_one, getD_some (d := noC) h, List.all_append, h1]
  simpa using h2
set_option maxHeartbeats 16000000 in
set_option maxRecDepth 100000 in
theorem uapply_spec (hG : Num.HG G) (hU : HU G) (hB : HB G) (nm : List UInt8) (l : List Cel) (full : Bool) (hl : okU l) (b : List UInt8) :
    Ctr Tryz.prog G 12 [.d (.agg [S nm, CelS l full]), .d (S b)] [] (.d (uapR nm b l)) [] := by
  obtain ⟨r, hr⟩ : ∃ r, r = uapR nm b l := ⟨_, rfl⟩
  rw [← hr]
  unfold uapR uapE uapL at hr
  have lc := celsD_length l
  have l1 := hl.1
  have hb0 : ByteArray.empty = bs [] := rfl
  refine Ctr.pure (M := M0) hmix Tryz.func12 rfl go12 ?_
  by_cases e0 : b = []
  · subst e0
    rw [if_pos rfl, if_pos rfl, if_pos rfl] at hr
    have e0' : (([] : List UInt8) = []) = True := eq_true rfl
    simp (config := { maxSteps := 1000000 }) (disch := ((try simp only [awL]); omega)) only [QR, QS, QT, QU, QV, QW, QX, QY, QZ, Q0, Q1, Q2, lc, Tryz.f12, ↓awU, awV, awF, Qa, Qb, Qc, Qd, forall_const, ↓reduceIte, ↓reduceDIte, ↓Qe, Qf, Qg, Qh, Qi, Qj, Qk, Ql, Qm, Qn, Qo, Qp, Qq, Qr, Qs, implies_true, Qt, Qu, Qv, Qw, Qx, Qy, Qz, QA, QB, QC, QD, QE, QF, QG, QH, QI, QJ, QK, QL, QM, QN, QO, QP, QQ]
    refine CallC.of (cloneC_spec l false (by omega)) (by rfl) ?_
    subst hr
    simp (config := { maxSteps := 1000000 }) (disch := ((try simp only [awL]); omega)) only [QR, QS, QT, QU, QV, QW, QX, QY, QZ, Q0, Q1, Q2, lc, ↓awU, awV, awF, Qa, Qb, Qc, Qd, forall_const, ↓reduceIte, ↓reduceDIte, ↓Qe, Qf, Qg, Qh, Qi, Qj, Qk, Ql, Qm, Qn, Qo, Qp, Qq, Qr, Qs, implies_true, Qt, Qu, Qv, Qw, Qx, Qy, Qz, QA, QB, QC, QD, QE, QF, QG, QH, QI, QJ, QK, QL, QM, QN, QO, QP, QQ]
    refine ⟨by rfl, ?_⟩
    refine LoopC.fr 201326674 (α := Nat) (fun i => l.length - i) (fun i => [(28, .d (.int .i64 (i : Nat)))])
      (fun _ => [.dead, .box [.d (.str ByteArray.empty), .d (.sl 0 true [])], .box [.d (S nm), .d (CelS l false)]]) (fun i => i ≤ l.length) 0 (Nat.zero_le _) ?_ ?_
    · exact ⟨[some 0, some 1, some 2], rfl, by simp, by simp [setsA, keepA, SWeak, AWeak], by simp [HWeak, BWeak, SWeak, AWeak]⟩
    · intro i hi
      simp only [awK, Nat.reduceMod, Nat.reduceDiv, reduceIte]
      rcases Nat.lt_or_ge i l.length with h | h
      · have gc := celsD_get h
        generalize l.getD i noC = x at *
        obtain ⟨t, nul⟩ := x
        have gc : ((celsD l).drop (i * 2)).take 2 = [.bool nul, S t] := gc
        simp (config := { maxSteps := 1000000 }) (disch := ((try simp only [awL]); omega)) only [QR, QS, QT, QU, QV, QW, QX, QY, QZ, Q0, Q1, Q2, lc, gc, ↓awU, awV, awF, Qa, Qb, Qc, Qd, forall_const, ↓reduceIte, ↓reduceDIte, ↓Qe, Qf, Qg, Qh, Qi, Qj, Qk, Ql, Qm, Qn, Qo, Qp, Qq, Qr, Qs, implies_true, Qt, Qu, Qv, Qw, Qx, Qy, Qz, QA, QB, QC, QD, QE, QF, QG, QH, QI, QJ, QK, QL, QM, QN, QO, QP, QQ]
        first
        | exact ⟨i + 1, h, by simp only; omega, ⟨[some 0, some 1, some 2], rfl, by simp, by simp [setsA, keepA, SWeak, AWeak], by simp [HWeak, BWeak, SWeak, AWeak]⟩⟩
        | exact ⟨by rfl, i + 1, h, by simp only; omega, ⟨[some 0, some 1, some 2], rfl, by simp, by simp [setsA, keepA, SWeak, AWeak], by simp [HWeak, BWeak, SWeak, AWeak]⟩⟩
      · simp (config := { maxSteps := 1000000 }) (disch := ((try simp only [awL]); omega)) only [QR, QS, QT, QU, QV, QW, QX, QY, QZ, Q0, Q1, Q2, lc, ↓awU, awV, awF, Qa, Qb, Qc, Qd, forall_const, ↓reduceIte, ↓reduceDIte, ↓Qe, Qf, Qg, Qh, Qi, Qj, Qk, Ql, Qm, Qn, Qo, Qp, Qq, Qr, Qs, implies_true, Qt, Qu, Qv, Qw, Qx, Qy, Qz, QA, QB, QC, QD, QE, QF, QG, QH, QI, QJ, QK, QL, QM, QN, QO, QP, QQ]
        first | done | rfl
  · rw [if_neg e0, if_neg e0] at hr
    have e0' : (b = []) = False := eq_false e0
    by_cases e1 : b ∈ basesL
    · rw [if_pos e1] at hr
      simp (config := { maxSteps := 1000000 }) (disch := ((try simp only [awL]); omega)) only [QR, QS, QT, QU, QV, QW, QX, QY, QZ, Q0, Q1, Q2, lc, e0', Tryz.f12, ↓awU, awV, awF, Qa, Qb, Qc, Qd, forall_const, ↓reduceIte, ↓reduceDIte, ↓Qe, Qf, Qg, Qh, Qi, Qj, Qk, Ql, Qm, Qn, Qo, Qp, Qq, Qr, Qs, implies_true, Qt, Qu, Qv, Qw, Qx, Qy, Qz, QA, QB, QC, QD, QE, QF, QG, QH, QI, QJ, QK, QL, QM, QN, QO, QP, QQ]
      refine CallC.of (known_spec hB b) (by rfl) ?_
      rw [decide_eq_true e1]
      rcases Nat.eq_zero_or_pos l.length with h0 | h0
      · have e2 := List.length_eq_zero_iff.1 h0
        subst e2
        rw [show List.all [] (fitU b) = true from rfl, if_pos rfl, if_pos rfl] at hr
        subst hr
        simp (config := { maxSteps := 1000000 }) (disch := ((try simp only [awL]); omega)) only [QR, QS, QT, QU, QV, QW, QX, QY, QZ, Q0, Q1, Q2, lc, ↓awU, awV, awF, Qa, Qb, Qc, Qd, forall_const, ↓reduceIte, ↓reduceDIte, ↓Qe, Qf, Qg, Qh, Qi, Qj, Qk, Ql, Qm, Qn, Qo, Qp, Qq, Qr, Qs, implies_true, Qt, Qu, Qv, Qw, Qx, Qy, Qz, QA, QB, QC, QD, QE, QF, QG, QH, QI, QJ, QK, QL, QM, QN, QO, QP, QQ]
        refine CallC.of (cloneC_spec [] false (by decide)) (by rfl) ?_
        simp (config := { maxSteps := 1000000 }) (disch := ((try simp only [awL]); omega)) only [QR, QS, QT, QU, QV, QW, QX, QY, QZ, Q0, Q1, Q2, lc, ↓awU, awV, awF, Qa, Qb, Qc, Qd, forall_const, ↓reduceIte, ↓reduceDIte, ↓Qe, Qf, Qg, Qh, Qi, Qj, Qk, Ql, Qm, Qn, Qo, Qp, Qq, Qr, Qs, implies_true, Qt, Qu, Qv, Qw, Qx, Qy, Qz, QA, QB, QC, QD, QE, QF, QG, QH, QI, QJ, QK, QL, QM, QN, QO, QP, QQ]
        refine ⟨by rfl, ?_⟩
        refine LoopC.fr 201326674 (α := Nat) (fun i => 0 - i) (fun i => [(28, .d (.int .i64 (i : Nat)))])
          (fun _ => [.dead, .box [.d (.str ByteArray.empty), .d (.sl 0 true [])], .box [.d (S nm), .d (CelS [] false)]]) (fun i => i ≤ 0) 0 (Nat.zero_le _) ?_ ?_
        · exact ⟨[some 0, some 1, some 2], rfl, by simp, by simp [setsA, keepA, SWeak, AWeak], by simp [HWeak, BWeak, SWeak, AWeak]⟩
        · intro i hi
          obtain rfl : i = 0 := by omega
          simp only [awK, Nat.reduceMod, Nat.reduceDiv, reduceIte]
          simp (config := { maxSteps := 1000000 }) (disch := ((try simp only [awL]); omega)) only [QR, QS, QT, QU, QV, QW, QX, QY, QZ, Q0, Q1, Q2, lc, List.length_nil, ↓awU, awV, awF, Qa, Qb, Qc, Qd, forall_const, ↓reduceIte, ↓reduceDIte, ↓Qe, Qf, Qg, Qh, Qi, Qj, Qk, Ql, Qm, Qn, Qo, Qp, Qq, Qr, Qs, implies_true, Qt, Qu, Qv, Qw, Qx, Qy, Qz, QA, QB, QC, QD, QE, QF, QG, QH, QI, QJ, QK, QL, QM, QN, QO, QP, QQ]
          first | done | rfl
      · simp (config := { maxSteps := 1000000 }) (disch := ((try simp only [awL]); omega)) only [QR, QS, QT, QU, QV, QW, QX, QY, QZ, Q0, Q1, Q2, lc, ↓awU, awV, awF, Qa, Qb, Qc, Qd, forall_const, ↓reduceIte, ↓reduceDIte, ↓Qe, Qf, Qg, Qh, Qi, Qj, Qk, Ql, Qm, Qn, Qo, Qp, Qq, Qr, Qs, implies_true, Qt, Qu, Qv, Qw, Qx, Qy, Qz, QA, QB, QC, QD, QE, QF, QG, QH, QI, QJ, QK, QL, QM, QN, QO, QP, QQ]
        refine CallC.by (cloneR_spec l false (by omega) h0) (by rfl) (by rfl) (Nat.zero_le _) ?_
        simp (config := { maxSteps := 1000000 }) (disch := ((try simp only [awL]); omega)) only [QR, QS, QT, QU, QV, QW, QX, QY, QZ, Q0, Q1, Q2, lc, ↓awU, awV, awF, Qa, Qb, Qc, Qd, forall_const, ↓reduceIte, ↓reduceDIte, ↓Qe, Qf, Qg, Qh, Qi, Qj, Qk, Ql, Qm, Qn, Qo, Qp, Qq, Qr, Qs, implies_true, Qt, Qu, Qv, Qw, Qx, Qy, Qz, QA, QB, QC, QD, QE, QF, QG, QH, QI, QJ, QK, QL, QM, QN, QO, QP, QQ]
        refine ⟨by rfl, ?_⟩
        refine LoopC.fr 201326674 (α := Nat) (fun i => l.length - i) (fun i => [(28, .d (.int .i64 (i : Nat)))])
          (fun i => [.dead, .box [.d (.str ByteArray.empty), .d (.sl 0 true [])], .row false (celsD (mixU b l i)), .box [.d (S nm), .lsl 2 2 0 l.length]]) (fun i => i ≤ l.length ∧ (l.take i).all (fitU b) = true) 0 ⟨Nat.zero_le _, rfl⟩ ?_ ?_
        · exact ⟨[some 0, some 1, some 2, some 3], rfl, by simp, by simp [setsA, keepA, SWeak, AWeak], by simp [HWeak, BWeak, SWeak, AWeak, mixU]⟩
        · rintro i ⟨hi, ha⟩
          have al := celsD_length (mixU b l i)
          have ml := mixU_len b l i
          rw [ml] at al
          simp only [awK, Nat.reduceMod, Nat.reduceDiv, reduceIte]
          rcases Nat.lt_or_ge i l.length with h | h
          · have gc := celsD_get (l := mixU b l i) (k := i) (by omega)
            rw [mixU_get h] at gc
            have gx := hl.at h
            have at1 := @all_takeU l (fitU b) i h ha
            rcases hx : l.getD i noC with ⟨t, nul⟩
            have ms := @mixU_set b l i h t
            have mn := @mixU_null b l i h t
            rw [hx] at gc gx at1 ms mn
            simp only at gx
            cases nul
            · have mf : fitU b (t, false) = (basedU t b).2 := rfl
              have ms := ms rfl
              rw [mf] at at1
              have gc : ((celsD (mixU b l i)).drop (i * 2)).take 2 = [.bool false, S t] := gc
              have nf : (basedU t b).2 = false → l.all (fitU b) = false := fun q => by
                cases q2 : l.all (fitU b)
                · rfl
                · have := List.all_eq_true.1 q2 _ (memD (d := noC) h)
                  rw [hx, mf, q] at this
                  cases this
              simp (config := { maxSteps := 1000000 }) (disch := ((try simp only [awL]); omega)) only [QR, QS, QT, QU, QV, QW, QX, QY, QZ, Q0, Q1, Q2, lc, al, gc, e0', ↓awU, awV, awF, Qa, Qb, Qc, Qd, forall_const, ↓reduceIte, ↓reduceDIte, ↓Qe, Qf, Qg, Qh, Qi, Qj, Qk, Ql, Qm, Qn, Qo, Qp, Qq, Qr, Qs, implies_true, Qt, Qu, Qv, Qw, Qx, Qy, Qz, QA, QB, QC, QD, QE, QF, QG, QH, QI, QJ, QK, QL, QM, QN, QO, QP, QQ]
              refine CallC.of (based_spec hG hU t b gx) (by rfl) ?_
              generalize basedU t b = y at *
              obtain ⟨y1, y2⟩ := y
              simp only at at1 ms nf
              cases y2
              · rw [nf rfl, if_neg Bool.false_ne_true, if_neg (by decide)] at hr
                subst hr
                simp (config := { maxSteps := 1000000 }) (disch := ((try simp only [awL]); omega)) only [QR, QS, QT, QU, QV, QW, QX, QY, QZ, Q0, Q1, Q2, lc, al, ↓awU, awV, awF, Qa, Qb, Qc, Qd, forall_const, ↓reduceIte, ↓reduceDIte, ↓Qe, Qf, Qg, Qh, Qi, Qj, Qk, Ql, Qm, Qn, Qo, Qp, Qq, Qr, Qs, implies_true, Qt, Qu, Qv, Qw, Qx, Qy, Qz, QA, QB, QC, QD, QE, QF, QG, QH, QI, QJ, QK, QL, QM, QN, QO, QP, QQ]
                first | done | rfl
              · simp (config := { maxSteps := 1000000 }) (disch := ((try simp only [awL]); omega)) only [QR, QS, QT, QU, QV, QW, QX, QY, QZ, Q0, Q1, Q2, lc, al, ↓awU, awV, awF, Qa, Qb, Qc, Qd, forall_const, ↓reduceIte, ↓reduceDIte, ↓Qe, Qf, Qg, Qh, Qi, Qj, Qk, Ql, Qm, Qn, Qo, Qp, Qq, Qr, Qs, implies_true, Qt, Qu, Qv, Qw, Qx, Qy, Qz, QA, QB, QC, QD, QE, QF, QG, QH, QI, QJ, QK, QL, QM, QN, QO, QP, QQ]
                first
                | exact ⟨i + 1, ⟨h, at1 rfl⟩, by simp only; omega, ⟨[some 0, some 1, some 2, some 3], rfl, by simp, by simp [setsA, keepA, SWeak, AWeak], by simp [HWeak, BWeak, SWeak, AWeak, ms]⟩⟩
                | exact ⟨by rfl, i + 1, ⟨h, at1 rfl⟩, by simp only; omega, ⟨[some 0, some 1, some 2, some 3], rfl, by simp, by simp [setsA, keepA, SWeak, AWeak], by simp [HWeak, BWeak, SWeak, AWeak, ms]⟩⟩
            · have gc : ((celsD (mixU b l i)).drop (i * 2)).take 2 = [.bool true, S t] := gc
              have mn := mn rfl
              simp (config := { maxSteps := 1000000 }) (disch := ((try simp only [awL]); omega)) only [QR, QS, QT, QU, QV, QW, QX, QY, QZ, Q0, Q1, Q2, lc, al, gc, e0', ↓awU, awV, awF, Qa, Qb, Qc, Qd, forall_const, ↓reduceIte, ↓reduceDIte, ↓Qe, Qf, Qg, Qh, Qi, Qj, Qk, Ql, Qm, Qn, Qo, Qp, Qq, Qr, Qs, implies_true, Qt, Qu, Qv, Qw, Qx, Qy, Qz, QA, QB, QC, QD, QE, QF, QG, QH, QI, QJ, QK, QL, QM, QN, QO, QP, QQ]
              first
              | exact ⟨i + 1, ⟨h, at1 rfl⟩, by simp only; omega, ⟨[some 0, some 1, some 2, some 3], rfl, by simp, by simp [setsA, keepA, SWeak, AWeak], by simp [HWeak, BWeak, SWeak, AWeak, mn]⟩⟩
              | exact ⟨by rfl, i + 1, ⟨h, at1 rfl⟩, by simp only; omega, ⟨[some 0, some 1, some 2, some 3], rfl, by simp, by simp [setsA, keepA, SWeak, AWeak], by simp [HWeak, BWeak, SWeak, AWeak, mn]⟩⟩
          · have e : i = l.length := by omega
            subst e
            rw [List.take_length] at ha
            rw [ha, if_pos rfl, if_pos rfl] at hr
            have me := @mixU_end b l
            have ll : (l.map (apU b)).length = l.length := by simp
            rw [me] at al ⊢
            have cu : cut (celsD (l.map (apU b))) 0 (l.length * 2) = celsD (l.map (apU b)) := by unfold cut; rw [List.drop_zero, List.take_of_length_le (by omega)]
            subst hr
            unfold CelS
            rw [ll]
            simp (config := { maxSteps := 1000000 }) (disch := ((try simp only [awL]); omega)) only [QR, QS, QT, QU, QV, QW, QX, QY, QZ, Q0, Q1, Q2, lc, al, cu, ↓awU, awV, awF, Qa, Qb, Qc, Qd, forall_const, ↓reduceIte, ↓reduceDIte, ↓Qe, Qf, Qg, Qh, Qi, Qj, Qk, Ql, Qm, Qn, Qo, Qp, Qq, Qr, Qs, implies_true, Qt, Qu, Qv, Qw, Qx, Qy, Qz, QA, QB, QC, QD, QE, QF, QG, QH, QI, QJ, QK, QL, QM, QN, QO, QP, QQ]
            first | done | rfl
    · rw [if_neg e1, if_neg (by decide)] at hr
      subst hr
      simp (config := { maxSteps := 1000000 }) (disch := ((try simp only [awL]); omega)) only [QR, QS, QT, QU, QV, QW, QX, QY, QZ, Q0, Q1, Q2, lc, e0', Tryz.f12, ↓awU, awV, awF, Qa, Qb, Qc, Qd, forall_const, ↓reduceIte, ↓reduceDIte, ↓Qe, Qf, Qg, Qh, Qi, Qj, Qk, Ql, Qm, Qn, Qo, Qp, Qq, Qr, Qs, implies_true, Qt, Qu, Qv, Qw, Qx, Qy, Qz, QA, QB, QC, QD, QE, QF, QG, QH, QI, QJ, QK, QL, QM, QN, QO, QP, QQ]
      refine CallC.of (known_spec hB b) (by rfl) ?_
      rw [decide_eq_false e1]
      simp (config := { maxSteps := 1000000 }) (disch := ((try simp only [awL]); omega)) only [QR, QS, QT, QU, QV, QW, QX, QY, QZ, Q0, Q1, Q2, lc, ↓awU, awV, awF, Qa, Qb, Qc, Qd, forall_const, ↓reduceIte, ↓reduceDIte, ↓Qe, Qf, Qg, Qh, Qi, Qj, Qk, Ql, Qm, Qn, Qo, Qp, Qq, Qr, Qs, implies_true, Qt, Qu, Qv, Qw, Qx, Qy, Qz, QA, QB, QC, QD, QE, QF, QG, QH, QI, QJ, QK, QL, QM, QN, QO, QP, QQ]
      first | done | rfl
end Go.Proofs.YtkcghbpghjdgpaaGreatDoor

namespace Go.Proofs.YtkcghbpghjdgpaaGreatDoor
open Go Go.Proofs Go.Abs
variable {G : Globals}
/-! The dice's columns of quantities. -/
def unitsR : List Row := [[[32, 107, 103], [103], [116]], [[107, 109], [32, 109], [99, 109], [32, 32, 109, 109]], [[32, 115], [109, 105, 110], [104], [109, 115]], [[37]], [[], [32, 107, 103], [109], [37]]]
def oddU (s : List UInt8) : Row := [[32] ++ s ++ [32], s ++ [120], [57, 57, 57, 57, 57, 57, 57, 57, 57, 57, 57, 57, 57, 57, 57, 32, 107, 109], [48, 46, 48, 48, 48, 48, 48, 48, 48, 48, 49, 109, 109], [75, 71]]
def txS (t : List Int) (row : Row) (k : Nat) : List UInt8 := numM t k ++ row.getD (pk t (numK t k) row.length).toNat []
def txM (t : List Int) (row : Row) (k : Nat) : List UInt8 := if pk t (numK t k + 1) 9 = 0 then (oddU (txS t row k)).getD (pk t (numK t k + 2) 5).toNat [] else txS t row k
def txK (t : List Int) (k : Nat) : Nat := if pk t (numK t k + 1) 9 = 0 then numK t k + 3 else numK t k + 2
def muCel (t : List Int) (row : Row) (k : Nat) : Cel := if pk t (txK t k) 9 = 0 then ([], true) else (txM t row k, false)
def muL (t : List Int) (row : Row) : Nat → Nat → List Cel × Nat
  | 0, k => ([], k)
  | n + 1, k => (muCel t row k :: (muL t row n (txK t k + 1)).1, (muL t row n (txK t k + 1)).2)
def unR (t : List Int) (k : Nat) : Row := unitsR.getD (pk t k 5).toNat []
def madeU (t : List Int) (k : Nat) : List Cel := (muL t (unR t k) (pk t (k + 1) 7).toNat (k + 2)).1
def madeUK (t : List Int) (k : Nat) : Nat := (muL t (unR t k) (pk t (k + 1) 7).toNat (k + 2)).2
theorem unR_ok (t : List Int) (k : Nat) : 1 ≤ (unR t k).length ∧ (unR t k).length ≤ 4 ∧ ∀ s ∈ unR t k, s.length ≤ 4 := by
  have h : ∀ r ∈ unitsR, 1 ≤ r.length ∧ r.length ≤ 4 ∧ ∀ s ∈ r, s.length ≤ 4 := by decide
  have h2 := @pk_range t k 5 (by decide)
  exact h _ (memD (d := []) (show (pk t k 5).toNat < unitsR.length from by rw [show unitsR.length = 5 from rfl]; omega))
theorem txS_len (t : List Int) {row : Row} (hr : ∀ s ∈ row, s.length ≤ 4) (k : Nat) : (txS t row k).length ≤ 24 := by
  have h1 := numM_len t k
  have h2 := get_len hr (pk t (numK t k) row.length).toNat
  unfold txS
  rw [List.length_append]; omega
theorem oddU_len {s : List UInt8} (h : s.length ≤ 24) : ∀ x ∈ oddU s, x.length ≤ 26 := by
  intro x hx
  unfold oddU at hx
  simp only [List.mem_cons, List.not_mem_nil, or_false] at hx
  rcases hx with e | e | e | e | e <;> subst e <;> simp <;> omega
theorem txM_len (t : List Int) {row : Row} (hr : ∀ s ∈ row, s.length ≤ 4) (k : Nat) : (txM t row k).length ≤ 26 := by
  have h1 := txS_len t hr k
  have h2 := get_len (oddU_len h1) (pk t (numK t k + 2) 5).toNat
  unfold txM
  split <;> omega
theorem muL_ok (t : List Int) {row : Row} (hr : ∀ s ∈ row, s.length ≤ 4) : ∀ n k, (muL t row n k).1.length = n ∧ ∀ x ∈ (muL t row n k).1, x.1.length ≤ 26
  | 0, k => ⟨rfl, fun x h => by cases h⟩
  | n + 1, k => by
    rw [muL]
    have ih := muL_ok t hr n (txK t k + 1)
    refine ⟨by rw [List.length_cons, ih.1], fun x hx => ?_⟩
    rcases List.mem_cons.1 hx with e | hx
    · rw [e]
      have := txM_len t hr k
      unfold muCel
      split
      · simp
      · exact this
    · exact ih.2 x hx
theorem madeU_ok (t : List Int) (k : Nat) : (madeU t k).length ≤ 6 ∧ ∀ x ∈ madeU t k, x.1.length ≤ 26 := by
  have h1 := muL_ok t (unR_ok t k).2.2 (pk t (k + 1) 7).toNat (k + 2)
  have h2 := @pk_range t (k + 1) 7 (by decide)
  unfold madeU
  exact ⟨by omega, h1.2⟩
theorem madeU_okU (t : List Int) (k : Nat) : okU (madeU t k) := ⟨by have := (madeU_ok t k).1; omega, fun x hx => by have := (madeU_ok t k).2 x hx; omega⟩
theorem row_unR : [D.sl 3 false (cut [D.str ⟨#[32, 107, 103]⟩, D.str ⟨#[103]⟩, D.str ⟨#[116]⟩] 0 3), D.sl 4 false (cut [D.str ⟨#[107, 109]⟩, D.str ⟨#[32, 109]⟩, D.str ⟨#[99, 109]⟩, D.str ⟨#[32, 32, 109, 109]⟩] 0 4), D.sl 4 false (cut [D.str ⟨#[32, 115]⟩, D.str ⟨#[109, 105, 110]⟩, D.str ⟨#[104]⟩, D.str ⟨#[109, 115]⟩] 0 4), D.sl 1 false [D.str ⟨#[37]⟩], D.sl 4 false (cut [D.str ⟨#[]⟩, D.str ⟨#[32, 107, 103]⟩, D.str ⟨#[109]⟩, D.str ⟨#[37]⟩] 0 4)] = rowsD unitsR := rfl
theorem row_oddU (s : List UInt8) : [D.str (bs (32 :: (s ++ [32]))), D.str (bs (s ++ [120])), D.str ⟨#[57, 57, 57, 57, 57, 57, 57, 57, 57, 57, 57, 57, 57, 57, 57, 32, 107, 109]⟩, D.str ⟨#[48, 46, 48, 48, 48, 48, 48, 48, 48, 48, 49, 109, 109]⟩, D.str ⟨#[75, 71]⟩] = strs (oddU s) := rfl
theorem celsD_setU {l : List Cel} {x y : Cel} : (celsD (l ++ [x])).take (l.length * 2) ++ CelC y ++ (celsD (l ++ [x])).drop (l.length * 2 + 2) = celsD (l ++ [y]) := by
  have e : celsD (l ++ [x]) = celsD l ++ CelC x := by simp [celsD]
  have e2 : celsD (l ++ [y]) = celsD l ++ CelC y := by simp [celsD]
  have ll := celsD_length l
  rw [e, e2, List.take_append_of_le_length (by omega), List.take_of_length_le (by omega), List.drop_append, List.drop_of_length_le (by omega), show l.length * 2 + 2 - (celsD l).length = 2 by omega]
  simp
theorem celsD_pushU (a : List Cel) (x : Cel) : celsD a ++ [.bool x.2, S x.1] = celsD (a ++ [x]) := by simp [celsD]
set_option maxHeartbeats 16000000 in
set_option maxRecDepth 100000 in
theorem umade_spec (t : List Int) (k : Nat) (ht : OkM t) :
    Ctr Tryz.prog G 9 [.ptr 0 0] [DiceM t k] (.d (.agg [S [99], CelS (madeU t k) false])) [DiceM t (madeUK t k)] := by
  obtain ⟨r, hr⟩ : ∃ r, r = madeU t k := ⟨_, rfl⟩
  obtain ⟨k2, hk⟩ : ∃ k2, k2 = madeUK t k := ⟨_, rfl⟩
  rw [← hr, ← hk]
  unfold madeU at hr
  unfold madeUK at hk
  have rok := unR_ok t k
  unfold unR at hr hk rok
  refine Ctr.body (M := M0) hmix Tryz.func9 rfl go9 ?_
  obtain ⟨ri, hc, hc2⟩ := pk_nat t k 5 (by decide)
  obtain ⟨m, hm, hm2⟩ := pk_nat t (k + 1) 7 (by decide)
  rw [hc, hm, Int.toNat_natCast, Int.toNat_natCast] at hr hk
  rw [hc, Int.toNat_natCast] at rok
  have gr := rowsD_getD (g := unitsR) (i := ri) (by rw [show unitsR.length = 5 from rfl]; omega)
  generalize unitsR.getD ri [] = row at *
  have rl := @strs_length row
  have ul : (rowsD unitsR).length = 5 := rfl
  have hb0 : ByteArray.empty = bs [] := rfl
  simp (config := { maxSteps := 1000000 }) (disch := ((try simp only [awL]); omega)) only [QR, QS, QT, QU, QV, QW, QX, QY, QZ, Q0, Q1, Q2, Tryz.f9, ↓awU, awV, awF, Qa, Qb, Qc, Qd, forall_const, ↓reduceIte, ↓reduceDIte, ↓Qe, Qf, Qg, Qh, Qi, Qj, Qk, Ql, Qm, Qn, Qo, Qp, Qq, Qr, Qs, implies_true, Qt, Qu, Qv, Qw, Qx, Qy, Qz, QA, QB, QC, QD, QE, QF, QG, QH, QI, QJ, QK, QL, QM, QN, QO, QP, QQ]
  rw [row_unR]
  refine CallC.by (pick_spec t k 5 ht (by decide) (by decide)) (by rfl) (by rfl) (Nat.le_refl _) ?_
  rw [hc]
  simp (config := { maxSteps := 1000000 }) (disch := ((try simp only [awL]); omega)) only [QR, QS, QT, QU, QV, QW, QX, QY, QZ, Q0, Q1, Q2, gr, ul, rl, rowsD_unf, ↓awU, awV, awF, Qa, Qb, Qc, Qd, forall_const, ↓reduceIte, ↓reduceDIte, ↓Qe, Qf, Qg, Qh, Qi, Qj, Qk, Ql, Qm, Qn, Qo, Qp, Qq, Qr, Qs, implies_true, Qt, Qu, Qv, Qw, Qx, Qy, Qz, QA, QB, QC, QD, QE, QF, QG, QH, QI, QJ, QK, QL, QM, QN, QO, QP, QQ]
  refine CallC.by (pick_spec t (k + 1) 7 ht (by decide) (by decide)) (by rfl) (by rfl) (Nat.le_refl _) ?_
  rw [hm]
  simp (config := { maxSteps := 1000000 }) (disch := ((try simp only [awL]); omega)) only [QR, QS, QT, QU, QV, QW, QX, QY, QZ, Q0, Q1, Q2, rl, ↓awU, awV, awF, Qa, Qb, Qc, Qd, forall_const, ↓reduceIte, ↓reduceDIte, ↓Qe, Qf, Qg, Qh, Qi, Qj, Qk, Ql, Qm, Qn, Qo, Qp, Qq, Qr, Qs, implies_true, Qt, Qu, Qv, Qw, Qx, Qy, Qz, QA, QB, QC, QD, QE, QF, QG, QH, QI, QJ, QK, QL, QM, QN, QO, QP, QQ]
  refine LoopC.fr 29 (α := List Cel × Nat × Nat) (fun x => x.2.1) (fun x => [(5, .d (.int .i64 (x.2.1 : Nat)))]) (fun x => [DiceM t x.2.2, .box [.d (.str ByteArray.empty), .d (.sl 0 true [])], .box [.d (S [99]), .lsl 3 2 0 x.1.length], .row false (celsD x.1)])
    (fun x => x.1.length + x.2.1 ≤ 6 ∧ r = x.1 ++ (muL t row x.2.1 x.2.2).1 ∧ k2 = (muL t row x.2.1 x.2.2).2) ([], m, k + 2) ⟨by simp only [List.length_nil]; omega, hr, hk⟩ ?_ ?_
  · exact ⟨[some 0, some 1, some 2, none], rfl, by simp, by simp [setsA, keepA, SWeak, AWeak], by simp [HWeak, BWeak, SWeak, AWeak, celsD]⟩
  · rintro ⟨acc, n, p⟩ ⟨h1, h2, h3⟩
    simp only at h1 h2 h3
    have al := celsD_length acc
    simp only [awK, Nat.reduceMod, Nat.reduceDiv, reduceIte]
    match n with
    | 0 =>
      simp only [muL, List.append_nil] at h2 h3
      subst h2 h3
      have cu : cut (celsD r) 0 (r.length * 2) = celsD r := by unfold cut; rw [List.drop_zero, List.take_of_length_le (by omega)]
      simp (config := { maxSteps := 1000000 }) (disch := ((try simp only [awL]); omega)) only [QR, QS, QT, QU, QV, QW, QX, QY, QZ, Q0, Q1, Q2, al, cu, ↓awU, awV, awF, Qa, Qb, Qc, Qd, forall_const, ↓reduceIte, ↓reduceDIte, ↓Qe, Qf, Qg, Qh, Qi, Qj, Qk, Ql, Qm, Qn, Qo, Qp, Qq, Qr, Qs, implies_true, Qt, Qu, Qv, Qw, Qx, Qy, Qz, QA, QB, QC, QD, QE, QF, QG, QH, QI, QJ, QK, QL, QM, QN, QO, QP, QQ]
      refine ⟨[some 0], rfl, by simp, by simp [HWeak, BWeak, SWeak, AWeak], .inr ⟨_, rfl, ?_, rfl⟩⟩
      simp (config := { maxSteps := 1000000 }) (disch := ((try simp only [awL]); omega)) only [QR, QS, QT, QU, QV, QW, QX, QY, QZ, Q0, Q1, Q2, cu, ↓awU, awV, awF, Qa, Qb, Qc, Qd, forall_const, ↓reduceIte, ↓reduceDIte, ↓Qe, Qf, Qg, Qh, Qi, Qj, Qk, Ql, Qm, Qn, Qo, Qp, Qq, Qr, Qs, implies_true, Qt, Qu, Qv, Qw, Qx, Qy, Qz, QA, QB, QC, QD, QE, QF, QG, QH, QI, QJ, QK, QL, QM, QN, QO, QP, QQ]
      try rfl
    | n + 1 =>
      simp only [muL] at h2 h3
      unfold muCel txM txS txK at h2
      unfold txK at h3
      simp (config := { maxSteps := 1000000 }) (disch := ((try simp only [awL]); omega)) only [QR, QS, QT, QU, QV, QW, QX, QY, QZ, Q0, Q1, Q2, rl, ↓awU, awV, awF, Qa, Qb, Qc, Qd, forall_const, ↓reduceIte, ↓reduceDIte, ↓Qe, Qf, Qg, Qh, Qi, Qj, Qk, Ql, Qm, Qn, Qo, Qp, Qq, Qr, Qs, implies_true, Qt, Qu, Qv, Qw, Qx, Qy, Qz, QA, QB, QC, QD, QE, QF, QG, QH, QI, QJ, QK, QL, QM, QN, QO, QP, QQ]
      refine CallC.by (number_spec t p ht) (by rfl) (by rfl) (Nat.le_refl _) ?_
      have nl := (numM_len t p).2
      generalize numM t p = nn at *
      generalize numK t p = p1 at *
      simp (config := { maxSteps := 1000000 }) (disch := ((try simp only [awL]); omega)) only [QR, QS, QT, QU, QV, QW, QX, QY, QZ, Q0, Q1, Q2, rl, ↓awU, awV, awF, Qa, Qb, Qc, Qd, forall_const, ↓reduceIte, ↓reduceDIte, ↓Qe, Qf, Qg, Qh, Qi, Qj, Qk, Ql, Qm, Qn, Qo, Qp, Qq, Qr, Qs, implies_true, Qt, Qu, Qv, Qw, Qx, Qy, Qz, QA, QB, QC, QD, QE, QF, QG, QH, QI, QJ, QK, QL, QM, QN, QO, QP, QQ]
      refine CallC.by (pick_spec t p1 row.length ht (by omega) (by omega)) (by rfl) (by rfl) (Nat.le_refl _) ?_
      obtain ⟨ui, hu, hu2⟩ := pk_nat t p1 row.length (by omega)
      rw [hu] at h2 ⊢
      rw [Int.toNat_natCast] at h2
      have gu := strs_getD (l := row) (i := ui) (by omega)
      have ull := get_len rok.2.2 ui
      generalize row.getD ui [] = uu at *
      simp (config := { maxSteps := 1000000 }) (disch := ((try simp only [awL]); omega)) only [QR, QS, QT, QU, QV, QW, QX, QY, QZ, Q0, Q1, Q2, rl, gu, ↓awU, awV, awF, Qa, Qb, Qc, Qd, forall_const, ↓reduceIte, ↓reduceDIte, ↓Qe, Qf, Qg, Qh, Qi, Qj, Qk, Ql, Qm, Qn, Qo, Qp, Qq, Qr, Qs, implies_true, Qt, Qu, Qv, Qw, Qx, Qy, Qz, QA, QB, QC, QD, QE, QF, QG, QH, QI, QJ, QK, QL, QM, QN, QO, QP, QQ]
      generalize hs : nn ++ uu = s at *
      have sl : s.length ≤ 24 := by rw [← hs, List.length_append]; omega
      refine CallC.by (pick_spec t (p1 + 1) 9 ht (by decide) (by decide)) (by rfl) (by rfl) (Nat.le_refl _) ?_
      by_cases e9 : pk t (p1 + 1) 9 = 0
      · simp only [if_pos e9] at h2 h3
        rw [e9]
        obtain ⟨oi, ho, ho2⟩ := pk_nat t (p1 + 2) 5 (by decide)
        rw [ho, Int.toNat_natCast] at h2
        have go := strs_getD (l := oddU s) (i := oi) (by rw [show (oddU s).length = 5 from rfl]; omega)
        have ol := @strs_length (oddU s)
        have ol5 : (oddU s).length = 5 := rfl
        have ogl := get_len (oddU_len sl) oi
        generalize (oddU s).getD oi [] = x at *
        simp (config := { maxSteps := 1000000 }) (disch := ((try simp only [awL]); omega)) only [QR, QS, QT, QU, QV, QW, QX, QY, QZ, Q0, Q1, Q2, ↓awU, awV, awF, Qa, Qb, Qc, Qd, forall_const, ↓reduceIte, ↓reduceDIte, ↓Qe, Qf, Qg, Qh, Qi, Qj, Qk, Ql, Qm, Qn, Qo, Qp, Qq, Qr, Qs, implies_true, Qt, Qu, Qv, Qw, Qx, Qy, Qz, QA, QB, QC, QD, QE, QF, QG, QH, QI, QJ, QK, QL, QM, QN, QO, QP, QQ]
        rw [row_oddU s]
        refine CallC.by (pick_spec t (p1 + 1 + 1) 5 ht (by decide) (by decide)) (by rfl) (by rfl) (Nat.le_refl _) ?_
        rw [show p1 + 1 + 1 = p1 + 2 from rfl, ho]
        simp (config := { maxSteps := 1000000 }) (disch := ((try simp only [awL]); omega)) only [QR, QS, QT, QU, QV, QW, QX, QY, QZ, Q0, Q1, Q2, ol, ol5, go, ↓awU, awV, awF, Qa, Qb, Qc, Qd, forall_const, ↓reduceIte, ↓reduceDIte, ↓Qe, Qf, Qg, Qh, Qi, Qj, Qk, Ql, Qm, Qn, Qo, Qp, Qq, Qr, Qs, implies_true, Qt, Qu, Qv, Qw, Qx, Qy, Qz, QA, QB, QC, QD, QE, QF, QG, QH, QI, QJ, QK, QL, QM, QN, QO, QP, QQ]
        have sp := celsD_pushU acc (x, false)
        have tl : (acc ++ [(x, false)]).length = acc.length + 1 := by simp
        have st := @celsD_setU acc (x, false) ([], true)
        simp only at sp
        have cu2 : cut [D.bool false, D.str (bs x)] 0 2 = [D.bool false, D.str (bs x)] := rfl
        simp (config := { maxSteps := 1000000 }) (disch := ((try simp only [awL]); omega)) only [QR, QS, QT, QU, QV, QW, QX, QY, QZ, Q0, Q1, Q2, al, cu2, sp, List.length_cons, List.length_nil, ↓awU, awV, awF, Qa, Qb, Qc, Qd, forall_const, ↓reduceIte, ↓reduceDIte, ↓Qe, Qf, Qg, Qh, Qi, Qj, Qk, Ql, Qm, Qn, Qo, Qp, Qq, Qr, Qs, implies_true, Qt, Qu, Qv, Qw, Qx, Qy, Qz, QA, QB, QC, QD, QE, QF, QG, QH, QI, QJ, QK, QL, QM, QN, QO, QP, QQ]
        try refine ⟨by rfl, ?_⟩
        refine CallC.by (pick_spec t (p1 + 3) 9 ht (by decide) (by decide)) (by rfl) (by rfl) (Nat.le_refl _) ?_
        by_cases q : pk t (p1 + 3) 9 = 0
        · rw [if_pos q] at h2
          rw [q]
          have h4 : r = (acc ++ [([], true)]) ++ (muL t row n ((p1 + 3) + 1)).1 := by rw [h2]; simp
          have tl2 : (acc ++ [(([], true) : Cel)]).length = acc.length + 1 := by simp
          generalize acc ++ [(x, false)] = acc1 at *
          generalize acc ++ [(([], true) : Cel)] = acc2 at *
          simp (config := { maxSteps := 1000000 }) (disch := ((try simp only [awL]); omega)) only [QR, QS, QT, QU, QV, QW, QX, QY, QZ, Q0, Q1, Q2, al, tl, ↓awU, awV, awF, Qa, Qb, Qc, Qd, forall_const, ↓reduceIte, ↓reduceDIte, ↓Qe, Qf, Qg, Qh, Qi, Qj, Qk, Ql, Qm, Qn, Qo, Qp, Qq, Qr, Qs, implies_true, Qt, Qu, Qv, Qw, Qx, Qy, Qz, QA, QB, QC, QD, QE, QF, QG, QH, QI, QJ, QK, QL, QM, QN, QO, QP, QQ]
          have st2 : List.take (acc.length * 2) (celsD acc1) ++ [D.bool true, D.str ByteArray.empty] ++ List.drop (acc.length * 2 + 2) (celsD acc1) = celsD acc2 := st
          rw [st2]
          exact ⟨by rw [celsD_length]; omega, (acc2, n, (p1 + 3) + 1), ⟨by simp only; omega, h4, h3⟩, by simp only; omega, ⟨[some 0, some 1, some 2, some 6], rfl, by simp, by simp [setsA, keepA, SWeak, AWeak], by simp [HWeak, BWeak, SWeak, AWeak, tl2]⟩⟩
        · rw [if_neg q] at h2
          have q0 : (pk t (p1 + 3) 9 = 0) = False := eq_false q
          have h4 : r = (acc ++ [(x, false)]) ++ (muL t row n ((p1 + 3) + 1)).1 := by rw [h2]; simp
          generalize acc ++ [(x, false)] = acc2 at *
          simp (config := { maxSteps := 1000000 }) (disch := ((try simp only [awL]); omega)) only [QR, QS, QT, QU, QV, QW, QX, QY, QZ, Q0, Q1, Q2, al, q0, ↓awU, awV, awF, Qa, Qb, Qc, Qd, forall_const, ↓reduceIte, ↓reduceDIte, ↓Qe, Qf, Qg, Qh, Qi, Qj, Qk, Ql, Qm, Qn, Qo, Qp, Qq, Qr, Qs, implies_true, Qt, Qu, Qv, Qw, Qx, Qy, Qz, QA, QB, QC, QD, QE, QF, QG, QH, QI, QJ, QK, QL, QM, QN, QO, QP, QQ]
          first
          | exact ⟨(acc2, n, (p1 + 3) + 1), ⟨by simp only; omega, h4, h3⟩, by simp only; omega, ⟨[some 0, some 1, some 2, some 6], rfl, by simp, by simp [setsA, keepA, SWeak, AWeak], by simp [HWeak, BWeak, SWeak, AWeak, tl]⟩⟩
      · have e90 : (pk t (p1 + 1) 9 = 0) = False := eq_false e9
        simp only [if_neg e9] at h2 h3
        simp (config := { maxSteps := 1000000 }) (disch := ((try simp only [awL]); omega)) only [QR, QS, QT, QU, QV, QW, QX, QY, QZ, Q0, Q1, Q2, e90, ↓awU, awV, awF, Qa, Qb, Qc, Qd, forall_const, ↓reduceIte, ↓reduceDIte, ↓Qe, Qf, Qg, Qh, Qi, Qj, Qk, Ql, Qm, Qn, Qo, Qp, Qq, Qr, Qs, implies_true, Qt, Qu, Qv, Qw, Qx, Qy, Qz, QA, QB, QC, QD, QE, QF, QG, QH, QI, QJ, QK, QL, QM, QN, QO, QP, QQ]
        have sp := celsD_pushU acc (s, false)
        have tl : (acc ++ [(s, false)]).length = acc.length + 1 := by simp
        have st := @celsD_setU acc (s, false) ([], true)
        simp only at sp
        have cu2 : cut [D.bool false, D.str (bs s)] 0 2 = [D.bool false, D.str (bs s)] := rfl
        simp (config := { maxSteps := 1000000 }) (disch := ((try simp only [awL]); omega)) only [QR, QS, QT, QU, QV, QW, QX, QY, QZ, Q0, Q1, Q2, al, cu2, sp, List.length_cons, List.length_nil, ↓awU, awV, awF, Qa, Qb, Qc, Qd, forall_const, ↓reduceIte, ↓reduceDIte, ↓Qe, Qf, Qg, Qh, Qi, Qj, Qk, Ql, Qm, Qn, Qo, Qp, Qq, Qr, Qs, implies_true, Qt, Qu, Qv, Qw, Qx, Qy, Qz, QA, QB, QC, QD, QE, QF, QG, QH, QI, QJ, QK, QL, QM, QN, QO, QP, QQ]
        try refine ⟨by rfl, ?_⟩
        refine CallC.by (pick_spec t (p1 + 2) 9 ht (by decide) (by decide)) (by rfl) (by rfl) (Nat.le_refl _) ?_
        by_cases q : pk t (p1 + 2) 9 = 0
        · rw [if_pos q] at h2
          rw [q]
          have h4 : r = (acc ++ [([], true)]) ++ (muL t row n ((p1 + 2) + 1)).1 := by rw [h2]; simp
          have tl2 : (acc ++ [(([], true) : Cel)]).length = acc.length + 1 := by simp
          generalize acc ++ [(s, false)] = acc1 at *
          generalize acc ++ [(([], true) : Cel)] = acc2 at *
          simp (config := { maxSteps := 1000000 }) (disch := ((try simp only [awL]); omega)) only [QR, QS, QT, QU, QV, QW, QX, QY, QZ, Q0, Q1, Q2, al, tl, ↓awU, awV, awF, Qa, Qb, Qc, Qd, forall_const, ↓reduceIte, ↓reduceDIte, ↓Qe, Qf, Qg, Qh, Qi, Qj, Qk, Ql, Qm, Qn, Qo, Qp, Qq, Qr, Qs, implies_true, Qt, Qu, Qv, Qw, Qx, Qy, Qz, QA, QB, QC, QD, QE, QF, QG, QH, QI, QJ, QK, QL, QM, QN, QO, QP, QQ]
          have st2 : List.take (acc.length * 2) (celsD acc1) ++ [D.bool true, D.str ByteArray.empty] ++ List.drop (acc.length * 2 + 2) (celsD acc1) = celsD acc2 := st
          rw [st2]
          exact ⟨by rw [celsD_length]; omega, (acc2, n, (p1 + 2) + 1), ⟨by simp only; omega, h4, h3⟩, by simp only; omega, ⟨[some 0, some 1, some 2, some 5], rfl, by simp, by simp [setsA, keepA, SWeak, AWeak], by simp [HWeak, BWeak, SWeak, AWeak, tl2]⟩⟩
        · rw [if_neg q] at h2
          have q0 : (pk t (p1 + 2) 9 = 0) = False := eq_false q
          have h4 : r = (acc ++ [(s, false)]) ++ (muL t row n ((p1 + 2) + 1)).1 := by rw [h2]; simp
          generalize acc ++ [(s, false)] = acc2 at *
          simp (config := { maxSteps := 1000000 }) (disch := ((try simp only [awL]); omega)) only [QR, QS, QT, QU, QV, QW, QX, QY, QZ, Q0, Q1, Q2, al, q0, ↓awU, awV, awF, Qa, Qb, Qc, Qd, forall_const, ↓reduceIte, ↓reduceDIte, ↓Qe, Qf, Qg, Qh, Qi, Qj, Qk, Ql, Qm, Qn, Qo, Qp, Qq, Qr, Qs, implies_true, Qt, Qu, Qv, Qw, Qx, Qy, Qz, QA, QB, QC, QD, QE, QF, QG, QH, QI, QJ, QK, QL, QM, QN, QO, QP, QQ]
          first
          | exact ⟨(acc2, n, (p1 + 2) + 1), ⟨by simp only; omega, h4, h3⟩, by simp only; omega, ⟨[some 0, some 1, some 2, some 5], rfl, by simp, by simp [setsA, keepA, SWeak, AWeak], by simp [HWeak, BWeak, SWeak, AWeak, tl]⟩⟩
end Go.Proofs.YtkcghbpghjdgpaaGreatDoor

namespace Go.Proofs.YtkcghbpghjdgpaaGreatDoor
open Go Go.Proofs Go.Abs
variable {G : Globals}
/-! The base that a column takes, plain; the example of the chapter. -/
def baseU (l : List Cel) : List UInt8 := takeU (toU (optsU l))
theorem utakeO_spec (l : List Cel) : Ctr Tryz.prog G 10 [.d (.sl 4 false (optC (optsU l)))] [] (.d (S (baseU l))) [] := by
  have h := utake_spec (G := G) (toU (optsU l)) false (by rw [toU_len]; show 4 ≤ 1000000; decide)
  rw [ouC_to, toU_len] at h
  exact h
def goodO (o : Opt) : Bool := decide (0 < o.fr) && decide (o.ag = 0)
theorem good_toU (o : Opt) : goodU (o.txt, (o.fr : Int), (o.ag : Int)) = goodO o := by
  unfold goodU goodO
  congr 1
  · exact decide_eq_decide.2 (by show 0 < (o.fr : Int) ↔ _; omega)
  · exact decide_eq_decide.2 (by show (o.ag : Int) = 0 ↔ _; omega)
/-- All cells that are not null fit a base, and one does. -/
def okB (l : List Cel) (b : List UInt8) : Bool := goodO (optU l b)
theorem baseU_eq (l : List Cel) : baseU l = (basesL.find? (okB l)).getD [] := by
  unfold baseU takeU toU optsU okB
  rw [List.map_map, List.find?_map]
  have : (goodU ∘ (fun o : Opt => (o.txt, (o.fr : Int), (o.ag : Int))) ∘ optU l) = fun b => goodO (optU l b) := by
    funext b; exact good_toU _
  rw [this]
  cases basesL.find? (fun b => goodO (optU l b)) <;> rfl
theorem based_unit {s b : List UInt8} (h : (basedU s b).2 = true) : ∃ u, splU s = some u ∧ u.2.1 = b := by
  unfold basedU at h
  cases e : splU s with
  | none => rw [e] at h; cases h
  | some u =>
    rw [e] at h
    simp only at h
    by_cases q : u.2.1 = b
    · exact ⟨u, rfl, q⟩
    · rw [if_neg q] at h; cases h
theorem based_one {s b c : List UInt8} (h : (basedU s b).2 = true) (h2 : (basedU s c).2 = true) : b = c := by
  obtain ⟨u, e1, e2⟩ := based_unit h
  obtain ⟨v, e3, e4⟩ := based_unit h2
  rw [e1] at e3
  injection e3 with e3
  rw [← e2, ← e4, e3]
theorem okB_one {l : List Cel} {b c : List UInt8} (h : 0 < l.countP (isU b)) (h2 : okB l c = true) : b = c := by
  obtain ⟨x, hx, hb⟩ := List.countP_pos_iff.1 h
  unfold okB goodO at h2
  simp only [Bool.and_eq_true, decide_eq_true_eq] at h2
  have h3 : l.countP (noU c) = 0 := h2.2
  unfold isU at hb
  simp only [Bool.and_eq_true, Bool.not_eq_true'] at hb
  refine based_one hb.2 ?_
  cases q : (basedU x.1 c).2
  · have := List.countP_eq_zero.1 h3 x hx
    unfold noU at this
    rw [hb.1, q] at this
    exact absurd rfl this
  · rfl
theorem okB_pos {l : List Cel} {b : List UInt8} (h : okB l b = true) : 0 < l.countP (isU b) := by
  unfold okB goodO at h
  simp only [Bool.and_eq_true, decide_eq_true_eq] at h
  exact h.1
def nonN (x : Cel) : Bool := !x.2
theorem fr_ag (l : List Cel) (b : List UInt8) : l.countP (isU b) + l.countP (noU b) = l.countP nonN := by
  induction l with
  | nil => rfl
  | cons x l ih =>
    rw [List.countP_cons, List.countP_cons, List.countP_cons]
    unfold isU noU nonN at ih ⊢
    rcases x with ⟨t, _ | _⟩ <;> cases (basedU t b).2 <;> simp <;> omega
/-- How many bases fit. -/
def allU (l : List Cel) (i : Nat) : Nat := (basesL.take i).countP (okB l)
theorem bases_nodup : basesL.Nodup := by decide
theorem count_le {l : List Cel} : ∀ (bs : Row), bs.Nodup → bs.countP (okB l) ≤ 1
  | [], _ => by simp
  | b :: bs, h => by
    rw [List.countP_cons]
    obtain ⟨h1, h2⟩ := List.nodup_cons.1 h
    by_cases q : okB l b = true
    · have z : bs.countP (okB l) = 0 := by
        rw [List.countP_eq_zero]
        intro c hc q2
        exact h1 (okB_one (okB_pos q) q2 ▸ hc)
      rw [if_pos q]; omega
    · rw [if_neg q]
      exact count_le bs h2
theorem allU_le (l : List Cel) (i : Nat) : allU l i ≤ 1 := count_le _ (bases_nodup.sublist (List.take_sublist _ _))
theorem allU_step (l : List Cel) {i : Nat} (h : i < 4) : allU l (i + 1) = allU l i + (if okB l (basesL.getD i []) = true then 1 else 0) := by
  unfold allU
  rw [List.take_add_one, getD_some (d := []) (show i < basesL.length from h), List.countP_append]
  simp only [Option.toList_some, List.countP_cons, List.countP_nil, Nat.zero_add]
theorem base_mem {l : List Cel} (h : baseU l ≠ []) : baseU l ∈ basesL ∧ okB l (baseU l) = true := by
  rw [baseU_eq] at h ⊢
  cases e : basesL.find? (okB l) with
  | none => rw [e] at h; exact absurd rfl h
  | some b => exact ⟨List.mem_of_find?_eq_some e, List.find?_some e⟩
theorem base_all (l : List Cel) : (baseU l = [] ∧ allU l 4 = 0) ∨ (baseU l ≠ [] ∧ allU l 4 = 1) := by
  have hle := allU_le l 4
  by_cases h : baseU l = []
  · refine .inl ⟨h, ?_⟩
    rw [baseU_eq] at h
    cases e : basesL.find? (okB l) with
    | none =>
      have := List.find?_eq_none.1 e
      exact List.countP_eq_zero.2 this
    | some b =>
      rw [e] at h
      have hm := List.mem_of_find?_eq_some e
      rw [Option.getD_some] at h
      rw [h] at hm
      exact absurd hm (by decide)
  · refine .inr ⟨h, ?_⟩
    obtain ⟨h1, h2⟩ := base_mem h
    have : 0 < allU l 4 := List.countP_pos_iff.2 ⟨_, h1, h2⟩
    omega
/-- A cell more, of another base. -/
def otherU (b : List UInt8) : List UInt8 := if b = [107, 103] then [49, 32, 109] else [49, 32, 107, 103]
theorem base_other {l : List Cel} (h : baseU l ≠ []) : baseU (l ++ [(otherU (baseU l), false)]) = [] := by
  obtain ⟨h1, h2⟩ := base_mem h
  have hp := okB_pos h2
  generalize baseU l = b at *
  rcases Decidable.em (baseU (l ++ [(otherU b, false)]) = []) with q | q
  · exact q
  · obtain ⟨q1, q2⟩ := base_mem q
    generalize baseU (l ++ [(otherU b, false)]) = c at *
    have hp2 : 0 < (l ++ [(otherU b, false)]).countP (isU b) := by rw [List.countP_append]; omega
    have e := okB_one hp2 q2
    subst e
    unfold okB goodO at q2
    simp only [Bool.and_eq_true, decide_eq_true_eq] at q2
    have z : (l ++ [(otherU b, false)]).countP (noU b) = 0 := q2.2
    have := List.countP_eq_zero.1 z (otherU b, false) (by simp)
    have e2 : (basedU (otherU b) b).2 = true := by
      cases e : (basedU (otherU b) b).2
      · unfold noU at this; simp only at this; rw [e] at this; exact absurd rfl this
      · rfl
    obtain ⟨u, e3, e4⟩ := based_unit e2
    unfold otherU at e3
    by_cases k : b = [107, 103]
    · rw [if_pos k] at e3
      have e5 : (splU [49, 32, 109]).map (·.2.1) = some [109] := by decide +kernel
      rw [e3] at e5
      injection e5 with e5
      have e5 : u.2.1 = _ := e5
      rw [e4, k] at e5
      exact absurd e5 (by decide)
    · rw [if_neg k] at e3
      have e5 : (splU [49, 32, 107, 103]).map (·.2.1) = some [107, 103] := by decide +kernel
      rw [e3] at e5
      injection e5 with e5
      have e5 : u.2.1 = _ := e5
      rw [e4] at e5
      exact absurd e5 k
/-! The example. -/
def exU : List Cel := [([50, 46, 53, 32, 107, 109], false), ([51, 48, 48, 32, 109], false), ([52, 99, 109], false)]
theorem exU_ok : okU exU := ⟨by decide, by decide⟩
theorem exU_base : baseU exU = [109] := by decide +kernel
theorem exU_e : uapE [109] exU = 0 := by decide +kernel
theorem exU_l : uapL [109] exU = [([50, 53, 48, 48], false), ([51, 48, 48], false), ([48, 46, 48, 52], false)] := by decide +kernel
set_option maxHeartbeats 16000000 in
set_option maxRecDepth 100000 in
theorem usane_spec (hG : Num.HG G) (hU : HU G) (hB : HB G) : Ctr Tryz.prog G 7 [] [] (.d (.bool true)) [] := by
  refine Ctr.pure (M := M0) hmix Tryz.func7 rfl go7 ?_
  have o1 := uoptions_spec hG hU hB [] exU false exU_ok
  have t1 := utakeO_spec (G := G) exU
  rw [exU_base] at t1
  have a1 := uapply_spec hG hU hB [] exU false exU_ok [109]
  unfold uapR at a1
  rw [exU_e, exU_l, if_pos rfl] at a1
  have a1 : Ctr Tryz.prog G 12 [.d (.agg [S [], CelS exU false]), .d (S [109])] [] (.d (.tup [.agg [S [], .sl 3 false [.bool false, S [50, 53, 48, 48], .bool false, S [51, 48, 48], .bool false, S [48, 46, 48, 52]]], .int .i64 0])) [] := a1
  have k1 := known_spec hB [107, 103]
  have k2 := known_spec hB [103]
  rw [show decide (([107, 103] : List UInt8) ∈ basesL) = true from rfl] at k1
  rw [show decide (([103] : List UInt8) ∈ basesL) = false from rfl] at k2
  simp (config := { maxSteps := 1000000 }) (disch := ((try simp only [awL]); omega)) only [QR, QS, QT, QU, QV, QW, QX, QY, QZ, Q0, Q1, Q2, Tryz.f7, ↓awU, awV, awF, Qa, Qb, Qc, Qd, forall_const, ↓reduceIte, ↓reduceDIte, ↓Qe, Qf, Qg, Qh, Qi, Qj, Qk, Ql, Qm, Qn, Qo, Qp, Qq, Qr, Qs, implies_true, Qt, Qu, Qv, Qw, Qx, Qy, Qz, QA, QB, QC, QD, QE, QF, QG, QH, QI, QJ, QK, QL, QM, QN, QO, QP, QQ]
  refine CallC.frozenE o1 (by rfl) ?_
  generalize hO : optC (optsU exU) = O at *
  simp (config := { maxSteps := 1000000 }) (disch := ((try simp only [awL]); omega)) only [QR, QS, QT, QU, QV, QW, QX, QY, QZ, Q0, Q1, Q2, ↓awU, awV, awF, Qa, Qb, Qc, Qd, forall_const, ↓reduceIte, ↓reduceDIte, ↓Qe, Qf, Qg, Qh, Qi, Qj, Qk, Ql, Qm, Qn, Qo, Qp, Qq, Qr, Qs, implies_true, Qt, Qu, Qv, Qw, Qx, Qy, Qz, QA, QB, QC, QD, QE, QF, QG, QH, QI, QJ, QK, QL, QM, QN, QO, QP, QQ]
  refine CallC.of t1 (by rfl) ?_
  simp (config := { maxSteps := 1000000 }) (disch := ((try simp only [awL]); omega)) only [QR, QS, QT, QU, QV, QW, QX, QY, QZ, Q0, Q1, Q2, ↓awU, awV, awF, Qa, Qb, Qc, Qd, forall_const, ↓reduceIte, ↓reduceDIte, ↓Qe, Qf, Qg, Qh, Qi, Qj, Qk, Ql, Qm, Qn, Qo, Qp, Qq, Qr, Qs, implies_true, Qt, Qu, Qv, Qw, Qx, Qy, Qz, QA, QB, QC, QD, QE, QF, QG, QH, QI, QJ, QK, QL, QM, QN, QO, QP, QQ]
  refine CallC.frozenE a1 (by rfl) ?_
  simp (config := { maxSteps := 1000000 }) (disch := ((try simp only [awL]); omega)) only [QR, QS, QT, QU, QV, QW, QX, QY, QZ, Q0, Q1, Q2, ↓awU, awV, awF, Qa, Qb, Qc, Qd, forall_const, ↓reduceIte, ↓reduceDIte, ↓Qe, Qf, Qg, Qh, Qi, Qj, Qk, Ql, Qm, Qn, Qo, Qp, Qq, Qr, Qs, implies_true, Qt, Qu, Qv, Qw, Qx, Qy, Qz, QA, QB, QC, QD, QE, QF, QG, QH, QI, QJ, QK, QL, QM, QN, QO, QP, QQ]
  refine ⟨by rfl, ?_⟩
  refine CallC.of k1 (by rfl) ?_
  simp (config := { maxSteps := 1000000 }) (disch := ((try simp only [awL]); omega)) only [QR, QS, QT, QU, QV, QW, QX, QY, QZ, Q0, Q1, Q2, ↓awU, awV, awF, Qa, Qb, Qc, Qd, forall_const, ↓reduceIte, ↓reduceDIte, ↓Qe, Qf, Qg, Qh, Qi, Qj, Qk, Ql, Qm, Qn, Qo, Qp, Qq, Qr, Qs, implies_true, Qt, Qu, Qv, Qw, Qx, Qy, Qz, QA, QB, QC, QD, QE, QF, QG, QH, QI, QJ, QK, QL, QM, QN, QO, QP, QQ]
  refine CallC.of k2 (by rfl) ?_
  simp (config := { maxSteps := 1000000 }) (disch := ((try simp only [awL]); omega)) only [QR, QS, QT, QU, QV, QW, QX, QY, QZ, Q0, Q1, Q2, ↓awU, awV, awF, Qa, Qb, Qc, Qd, forall_const, ↓reduceIte, ↓reduceDIte, ↓Qe, Qf, Qg, Qh, Qi, Qj, Qk, Ql, Qm, Qn, Qo, Qp, Qq, Qr, Qs, implies_true, Qt, Qu, Qv, Qw, Qx, Qy, Qz, QA, QB, QC, QD, QE, QF, QG, QH, QI, QJ, QK, QL, QM, QN, QO, QP, QQ]
  first | done | rfl | decide
end Go.Proofs.YtkcghbpghjdgpaaGreatDoor

namespace Go.Proofs.YtkcghbpghjdgpaaGreatDoor
open Go Go.Proofs Go.Abs
variable {G : Globals}
/-! The law UnitCounts. -/
theorem cutA (L : List D) (n : Nat) (h : L.length ≤ n) : cut L 0 n = L := by unfold cut; rw [List.drop_zero, List.take_of_length_le h]
theorem optsU_get (l : List Cel) {i : Nat} (h : i < 4) : ((optC (optsU l)).drop (i * 3)).take 3 = (optU l (basesL.getD i [])).cells := by
  have h1 := optC_get (l := optsU l) (k := i) h
  rw [h1]
  congr 1
  unfold optsU
  rw [List.getD_eq_getElem?_getD, List.getElem?_map, List.getD_eq_getElem?_getD, List.getElem?_eq_getElem (show i < basesL.length from h)]
  rfl
theorem optsU_len (l : List Cel) : (optC (optsU l)).length = 12 := by rw [optC_length]; rfl
set_option maxHeartbeats 16000000 in
set_option maxRecDepth 100000 in
theorem ucounts_law (hG : Num.HG G) (hU : HU G) (hB : HB G) (t : List Int) (ht : OkS t) (hl : t.length ≤ 9223372036854775807) :
    Ctr Tryz.prog G 4 [.d (.sl t.length false (ints .u8 t))] [] (.d (.bool true)) [] := by
  refine Ctr.pure (M := M0) hmix Tryz.func4 rfl go4 ?_
  have hmm := ht.take
  simp (config := { maxSteps := 1000000 }) (disch := ((try simp only [awL]); omega)) only [QR, QS, QT, QU, QV, QW, QX, QY, QZ, Q0, Q1, Q2, Tryz.f4, ↓awU, awV, awF, Qa, Qb, Qc, Qd, forall_const, ↓reduceIte, ↓reduceDIte, ↓Qe, Qf, Qg, Qh, Qi, Qj, Qk, Ql, Qm, Qn, Qo, Qp, Qq, Qr, Qs, implies_true, Qt, Qu, Qv, Qw, Qx, Qy, Qz, QA, QB, QC, QD, QE, QF, QG, QH, QI, QJ, QK, QL, QM, QN, QO, QP, QQ]
  refine CallC.pure (usane_spec hG hU hB) ?_
  simp (config := { maxSteps := 1000000 }) (disch := ((try simp only [awL]); omega)) only [QR, QS, QT, QU, QV, QW, QX, QY, QZ, Q0, Q1, Q2, ↓awU, awV, awF, Qa, Qb, Qc, Qd, forall_const, ↓reduceIte, ↓reduceDIte, ↓Qe, Qf, Qg, Qh, Qi, Qj, Qk, Ql, Qm, Qn, Qo, Qp, Qq, Qr, Qs, implies_true, Qt, Qu, Qv, Qw, Qx, Qy, Qz, QA, QB, QC, QD, QE, QF, QG, QH, QI, QJ, QK, QL, QM, QN, QO, QP, QQ]
  refine CallC.by (new_spec t hl) (by rfl) (by rfl) (Nat.zero_le _) ?_
  generalize t.take 300 = t0 at *
  simp (config := { maxSteps := 1000000 }) (disch := ((try simp only [awL]); omega)) only [QR, QS, QT, QU, QV, QW, QX, QY, QZ, Q0, Q1, Q2, ↓awU, awV, awF, Qa, Qb, Qc, Qd, forall_const, ↓reduceIte, ↓reduceDIte, ↓Qe, Qf, Qg, Qh, Qi, Qj, Qk, Ql, Qm, Qn, Qo, Qp, Qq, Qr, Qs, implies_true, Qt, Qu, Qv, Qw, Qx, Qy, Qz, QA, QB, QC, QD, QE, QF, QG, QH, QI, QJ, QK, QL, QM, QN, QO, QP, QQ]
  refine CallC.by (umade_spec t0 0 hmm) (by rfl) (by rfl) (Nat.le_refl _) ?_
  have ok := madeU_okU t0 0
  have l6 := (madeU_ok t0 0).1
  have x26 := (madeU_ok t0 0).2
  generalize madeUK t0 0 = k2 at *
  generalize madeU t0 0 = l at *
  have lc := celsD_length l
  simp (config := { maxSteps := 1000000 }) (disch := ((try simp only [awL]); omega)) only [QR, QS, QT, QU, QV, QW, QX, QY, QZ, Q0, Q1, Q2, ↓awU, awV, awF, Qa, Qb, Qc, Qd, forall_const, ↓reduceIte, ↓reduceDIte, ↓Qe, Qf, Qg, Qh, Qi, Qj, Qk, Ql, Qm, Qn, Qo, Qp, Qq, Qr, Qs, implies_true, Qt, Qu, Qv, Qw, Qx, Qy, Qz, QA, QB, QC, QD, QE, QF, QG, QH, QI, QJ, QK, QL, QM, QN, QO, QP, QQ]
  refine LoopC.fx 6291536 (α := Nat) (β := Unit) (fun x => l.length - x) (fun x => [(5, .d (.int .i64 ((l.take x).countP nonN : Nat))), (23, .d (.int .i64 (x : Nat)))])
    (fun _ => [.dead, .box [.d (S [99]), .d (CelS l false)]]) (fun x => x ≤ l.length)
    80 (fun _ => [(5, .d (.int .i64 (l.countP nonN : Nat)))]) (fun _ => [.dead, .box [.d (S [99]), .d (CelS l false)]]) (fun _ => True) 0 (Nat.zero_le _) ?_ ?_ ?_
  · exact ⟨[some 0, some 1], rfl, by simp, by simp [setsA, keepA, SWeak, AWeak], by simp [HWeak, BWeak, SWeak, AWeak]⟩
  · intro i h1
    have ct := countP_le_n9 nonN (m := 6) l6 i
    simp only [awK, Nat.reduceMod, Nat.reduceDiv, reduceIte]
    rcases Nat.lt_or_ge i l.length with h | h
    · have gc := celsD_get h
      have co := countP_step9 nonN h
      generalize l.getD i noC = x at *
      obtain ⟨tx, nul⟩ := x
      have gc : ((celsD l).drop (i * 2)).take 2 = [.bool nul, S tx] := gc
      cases nul
      · rw [show nonN (tx, false) = true from rfl, if_pos rfl] at co
        simp (config := { maxSteps := 1000000 }) (disch := ((try simp only [awL]); omega)) only [QR, QS, QT, QU, QV, QW, QX, QY, QZ, Q0, Q1, Q2, lc, gc, ↓awU, awV, awF, Qa, Qb, Qc, Qd, forall_const, ↓reduceIte, ↓reduceDIte, ↓Qe, Qf, Qg, Qh, Qi, Qj, Qk, Ql, Qm, Qn, Qo, Qp, Qq, Qr, Qs, implies_true, Qt, Qu, Qv, Qw, Qx, Qy, Qz, QA, QB, QC, QD, QE, QF, QG, QH, QI, QJ, QK, QL, QM, QN, QO, QP, QQ]
        first
        | exact ⟨i + 1, h, by simp only; omega, ⟨[some 0, some 1], rfl, by simp, by simp [setsA, keepA, SWeak, AWeak, co], by simp [HWeak, BWeak, SWeak, AWeak]⟩⟩
        | exact ⟨by rfl, i + 1, h, by simp only; omega, ⟨[some 0, some 1], rfl, by simp, by simp [setsA, keepA, SWeak, AWeak, co], by simp [HWeak, BWeak, SWeak, AWeak]⟩⟩
      · rw [show nonN (tx, true) = false from rfl, if_neg Bool.false_ne_true, Nat.add_zero] at co
        simp (config := { maxSteps := 1000000 }) (disch := ((try simp only [awL]); omega)) only [QR, QS, QT, QU, QV, QW, QX, QY, QZ, Q0, Q1, Q2, lc, gc, ↓awU, awV, awF, Qa, Qb, Qc, Qd, forall_const, ↓reduceIte, ↓reduceDIte, ↓Qe, Qf, Qg, Qh, Qi, Qj, Qk, Ql, Qm, Qn, Qo, Qp, Qq, Qr, Qs, implies_true, Qt, Qu, Qv, Qw, Qx, Qy, Qz, QA, QB, QC, QD, QE, QF, QG, QH, QI, QJ, QK, QL, QM, QN, QO, QP, QQ]
        first
        | exact ⟨i + 1, h, by simp only; omega, ⟨[some 0, some 1], rfl, by simp, by simp [setsA, keepA, SWeak, AWeak, co], by simp [HWeak, BWeak, SWeak, AWeak]⟩⟩
        | exact ⟨by rfl, i + 1, h, by simp only; omega, ⟨[some 0, some 1], rfl, by simp, by simp [setsA, keepA, SWeak, AWeak, co], by simp [HWeak, BWeak, SWeak, AWeak]⟩⟩
    · have e : i = l.length := by omega
      subst e
      rw [List.take_length] at ct
      simp (config := { maxSteps := 1000000 }) (disch := ((try simp only [awL]); omega)) only [QR, QS, QT, QU, QV, QW, QX, QY, QZ, Q0, Q1, Q2, lc, List.take_length, ↓awU, awV, awF, Qa, Qb, Qc, Qd, forall_const, ↓reduceIte, ↓reduceDIte, ↓Qe, Qf, Qg, Qh, Qi, Qj, Qk, Ql, Qm, Qn, Qo, Qp, Qq, Qr, Qs, implies_true, Qt, Qu, Qv, Qw, Qx, Qy, Qz, QA, QB, QC, QD, QE, QF, QG, QH, QI, QJ, QK, QL, QM, QN, QO, QP, QQ]
      exact ⟨(), trivial, ⟨[some 0, some 1], rfl, by simp, by simp [setsA, keepA, SWeak, AWeak], by simp [HWeak, BWeak, SWeak, AWeak]⟩⟩
  · rintro ⟨⟩ -
    simp only [awK, Nat.reduceMod, Nat.reduceDiv, reduceIte]
    have ct : l.countP nonN ≤ 6 := Nat.le_trans List.countP_le_length l6
    have fa := fr_ag l
    simp (config := { maxSteps := 1000000 }) (disch := ((try simp only [awL]); omega)) only [QR, QS, QT, QU, QV, QW, QX, QY, QZ, Q0, Q1, Q2, lc, ↓awU, awV, awF, Qa, Qb, Qc, Qd, forall_const, ↓reduceIte, ↓reduceDIte, ↓Qe, Qf, Qg, Qh, Qi, Qj, Qk, Ql, Qm, Qn, Qo, Qp, Qq, Qr, Qs, implies_true, Qt, Qu, Qv, Qw, Qx, Qy, Qz, QA, QB, QC, QD, QE, QF, QG, QH, QI, QJ, QK, QL, QM, QN, QO, QP, QQ]
    refine CallC.of (uoptions_spec hG hU hB [99] l false ok) (by rfl) ?_
    have ol := optsU_len l
    simp (config := { maxSteps := 1000000 }) (disch := ((try simp only [awL]); omega)) only [QR, QS, QT, QU, QV, QW, QX, QY, QZ, Q0, Q1, Q2, lc, ol, ↓awU, awV, awF, Qa, Qb, Qc, Qd, forall_const, ↓reduceIte, ↓reduceDIte, ↓Qe, Qf, Qg, Qh, Qi, Qj, Qk, Ql, Qm, Qn, Qo, Qp, Qq, Qr, Qs, implies_true, Qt, Qu, Qv, Qw, Qx, Qy, Qz, QA, QB, QC, QD, QE, QF, QG, QH, QI, QJ, QK, QL, QM, QN, QO, QP, QQ]
    refine LoopC.fx 51539607600 (α := Nat) (β := Unit) (fun i => 4 - i) (fun i => [(6, .d (.int .i64 (allU l i : Nat))), (36, .d (.int .i64 (i : Nat)))])
      (fun _ => [.dead, .box [.d (S [99]), .d (CelS l false)]]) (fun i => i ≤ 4)
      16 (fun _ => [(6, .d (.int .i64 (allU l 4 : Nat)))]) (fun _ => [.dead, .box [.d (S [99]), .d (CelS l false)]]) (fun _ => True) 0 (Nat.zero_le _) ?_ ?_ ?_
    · exact ⟨[some 0, some 1], rfl, by simp, by simp [setsA, keepA, SWeak, AWeak, allU], by simp [HWeak, BWeak, SWeak, AWeak]⟩
    · intro i h1
      have a1 := allU_le l i
      simp only [awK, Nat.reduceMod, Nat.reduceDiv, reduceIte]
      rcases Nat.lt_or_ge i 4 with h | h
      · have go := optsU_get l h
        have st := allU_step l h
        have fb := fa (basesL.getD i [])
        generalize basesL.getD i [] = b at *
        have gd : okB l b = (decide (0 < l.countP (isU b)) && decide (l.countP (noU b) = 0)) := rfl
        have go : ((optC (optsU l)).drop (i * 3)).take 3 = [S b, .int .i64 (l.countP (isU b) : Nat), .int .i64 (l.countP (noU b) : Nat)] := go
        rw [gd] at st
        generalize l.countP (isU b) = f at *
        generalize l.countP (noU b) = g at *
        have fb2 : (f : Int) + g = ((l.countP nonN : Nat) : Int) := by omega
        by_cases e1 : 0 < f
        · by_cases e2 : g = 0
          · rw [decide_eq_true e1, decide_eq_true e2, if_pos (by rfl)] at st
            simp (config := { maxSteps := 1000000 }) (disch := ((try simp only [awL]); omega)) only [QR, QS, QT, QU, QV, QW, QX, QY, QZ, Q0, Q1, Q2, ol, go, ↓awU, awV, awF, Qa, Qb, Qc, Qd, forall_const, ↓reduceIte, ↓reduceDIte, ↓Qe, Qf, Qg, Qh, Qi, Qj, Qk, Ql, Qm, Qn, Qo, Qp, Qq, Qr, Qs, implies_true, Qt, Qu, Qv, Qw, Qx, Qy, Qz, QA, QB, QC, QD, QE, QF, QG, QH, QI, QJ, QK, QL, QM, QN, QO, QP, QQ]
            exact ⟨i + 1, h, by simp only; omega, ⟨[some 0, some 1], rfl, by simp, by simp [setsA, keepA, SWeak, AWeak, st], by simp [HWeak, BWeak, SWeak, AWeak]⟩⟩
          · rw [decide_eq_false e2, Bool.and_false, if_neg Bool.false_ne_true, Nat.add_zero] at st
            simp (config := { maxSteps := 1000000 }) (disch := ((try simp only [awL]); omega)) only [QR, QS, QT, QU, QV, QW, QX, QY, QZ, Q0, Q1, Q2, ol, go, ↓awU, awV, awF, Qa, Qb, Qc, Qd, forall_const, ↓reduceIte, ↓reduceDIte, ↓Qe, Qf, Qg, Qh, Qi, Qj, Qk, Ql, Qm, Qn, Qo, Qp, Qq, Qr, Qs, implies_true, Qt, Qu, Qv, Qw, Qx, Qy, Qz, QA, QB, QC, QD, QE, QF, QG, QH, QI, QJ, QK, QL, QM, QN, QO, QP, QQ]
            exact ⟨i + 1, h, by simp only; omega, ⟨[some 0, some 1], rfl, by simp, by simp [setsA, keepA, SWeak, AWeak, st], by simp [HWeak, BWeak, SWeak, AWeak]⟩⟩
        · rw [decide_eq_false e1, Bool.false_and, if_neg Bool.false_ne_true, Nat.add_zero] at st
          simp (config := { maxSteps := 1000000 }) (disch := ((try simp only [awL]); omega)) only [QR, QS, QT, QU, QV, QW, QX, QY, QZ, Q0, Q1, Q2, ol, go, ↓awU, awV, awF, Qa, Qb, Qc, Qd, forall_const, ↓reduceIte, ↓reduceDIte, ↓Qe, Qf, Qg, Qh, Qi, Qj, Qk, Ql, Qm, Qn, Qo, Qp, Qq, Qr, Qs, implies_true, Qt, Qu, Qv, Qw, Qx, Qy, Qz, QA, QB, QC, QD, QE, QF, QG, QH, QI, QJ, QK, QL, QM, QN, QO, QP, QQ]
          exact ⟨i + 1, h, by simp only; omega, ⟨[some 0, some 1], rfl, by simp, by simp [setsA, keepA, SWeak, AWeak, st], by simp [HWeak, BWeak, SWeak, AWeak]⟩⟩
      · have e : i = 4 := by omega
        subst e
        simp (config := { maxSteps := 1000000 }) (disch := ((try simp only [awL]); omega)) only [QR, QS, QT, QU, QV, QW, QX, QY, QZ, Q0, Q1, Q2, ol, ↓awU, awV, awF, Qa, Qb, Qc, Qd, forall_const, ↓reduceIte, ↓reduceDIte, ↓Qe, Qf, Qg, Qh, Qi, Qj, Qk, Ql, Qm, Qn, Qo, Qp, Qq, Qr, Qs, implies_true, Qt, Qu, Qv, Qw, Qx, Qy, Qz, QA, QB, QC, QD, QE, QF, QG, QH, QI, QJ, QK, QL, QM, QN, QO, QP, QQ]
        exact ⟨(), trivial, ⟨[some 0, some 1], rfl, by simp, by simp [setsA, keepA, SWeak, AWeak], by simp [HWeak, BWeak, SWeak, AWeak]⟩⟩
    · rintro ⟨⟩ -
      simp only [awK, Nat.reduceMod, Nat.reduceDiv, reduceIte]
      simp (config := { maxSteps := 1000000 }) (disch := ((try simp only [awL]); omega)) only [QR, QS, QT, QU, QV, QW, QX, QY, QZ, Q0, Q1, Q2, lc, ↓awU, awV, awF, Qa, Qb, Qc, Qd, forall_const, ↓reduceIte, ↓reduceDIte, ↓Qe, Qf, Qg, Qh, Qi, Qj, Qk, Ql, Qm, Qn, Qo, Qp, Qq, Qr, Qs, implies_true, Qt, Qu, Qv, Qw, Qx, Qy, Qz, QA, QB, QC, QD, QE, QF, QG, QH, QI, QJ, QK, QL, QM, QN, QO, QP, QQ]
      refine CallC.of (uoptions_spec hG hU hB [99] l false ok) (by rfl) ?_
      generalize hO : optC (optsU l) = O at *
      simp (config := { maxSteps := 1000000 }) (disch := ((try simp only [awL]); omega)) only [QR, QS, QT, QU, QV, QW, QX, QY, QZ, Q0, Q1, Q2, lc, ol, ↓awU, awV, awF, Qa, Qb, Qc, Qd, forall_const, ↓reduceIte, ↓reduceDIte, ↓Qe, Qf, Qg, Qh, Qi, Qj, Qk, Ql, Qm, Qn, Qo, Qp, Qq, Qr, Qs, implies_true, Qt, Qu, Qv, Qw, Qx, Qy, Qz, QA, QB, QC, QD, QE, QF, QG, QH, QI, QJ, QK, QL, QM, QN, QO, QP, QQ]
      have ts := utakeO_spec (G := G) l
      rw [hO] at ts
      refine CallC.of ts (by rfl) ?_
      have other := @base_other l
      rcases base_all l with ⟨b1, b2⟩ | ⟨b1, b2⟩
      · rw [b1, b2]
        have nk : (([] : List UInt8) = [107, 103]) = False := eq_false (by decide)
        simp (config := { maxSteps := 1000000 }) (disch := ((try simp only [awL]); omega)) only [QR, QS, QT, QU, QV, QW, QX, QY, QZ, Q0, Q1, Q2, lc, nk, ↓awU, awV, awF, Qa, Qb, Qc, Qd, forall_const, ↓reduceIte, ↓reduceDIte, ↓Qe, Qf, Qg, Qh, Qi, Qj, Qk, Ql, Qm, Qn, Qo, Qp, Qq, Qr, Qs, implies_true, Qt, Qu, Qv, Qw, Qx, Qy, Qz, QA, QB, QC, QD, QE, QF, QG, QH, QI, QJ, QK, QL, QM, QN, QO, QP, QQ]
        first | done | rfl | exact ⟨by rfl, by rfl⟩
      · rw [b2]
        have other := other b1
        generalize baseU l = b at *
        have e0 : (b = []) = False := eq_false b1
        have ok2 : okU (l ++ [(otherU b, false)]) := by
          refine ⟨by simp; omega, fun x hx => ?_⟩
          rcases List.mem_append.1 hx with hx | hx
          · have := x26 x hx; omega
          · obtain rfl := List.mem_singleton.1 hx
            unfold otherU
            simp only
            split <;> simp
        have lo2 : (l ++ [(otherU b, false)]).length = l.length + 1 := by simp
        have o2 := uoptions_spec hG hU hB [] (l ++ [(otherU b, false)]) false ok2
        have t2 := utakeO_spec (G := G) (l ++ [(otherU b, false)])
        rw [other] at t2
        unfold CelS at o2
        rw [lo2, celsD_app] at o2
        generalize optC (optsU (l ++ [(otherU b, false)])) = O2 at *
        unfold otherU at o2
        by_cases k : b = [107, 103]
        · have k0 : (b = [107, 103]) = True := eq_true k
          rw [if_pos k] at o2
          simp (config := { maxSteps := 1000000 }) (disch := ((try simp only [awL]); omega)) only [QR, QS, QT, QU, QV, QW, QX, QY, QZ, Q0, Q1, Q2, lc, e0, k0, ↓awU, awV, awF, Qa, Qb, Qc, Qd, forall_const, ↓reduceIte, ↓reduceDIte, ↓Qe, Qf, Qg, Qh, Qi, Qj, Qk, Ql, Qm, Qn, Qo, Qp, Qq, Qr, Qs, implies_true, Qt, Qu, Qv, Qw, Qx, Qy, Qz, QA, QB, QC, QD, QE, QF, QG, QH, QI, QJ, QK, QL, QM, QN, QO, QP, QQ]
          have cu : cut (celsD l ++ cut [D.bool false, D.str ⟨#[49, 32, 109]⟩] 0 2) 0 ((l.length + 1) * 2) = celsD l ++ celsD [([49, 32, 109], false)] := cutA (celsD l ++ celsD [([49, 32, 109], false)]) _ (by rw [List.length_append, celsD_length, celsD_length]; simp only [List.length_cons, List.length_nil]; omega)
          refine ⟨by rfl, ?_⟩
          refine CallC.frozenE o2 (by rw [cu]; rfl) ?_
          simp (config := { maxSteps := 1000000 }) (disch := ((try simp only [awL]); omega)) only [QR, QS, QT, QU, QV, QW, QX, QY, QZ, Q0, Q1, Q2, ↓awU, awV, awF, Qa, Qb, Qc, Qd, forall_const, ↓reduceIte, ↓reduceDIte, ↓Qe, Qf, Qg, Qh, Qi, Qj, Qk, Ql, Qm, Qn, Qo, Qp, Qq, Qr, Qs, implies_true, Qt, Qu, Qv, Qw, Qx, Qy, Qz, QA, QB, QC, QD, QE, QF, QG, QH, QI, QJ, QK, QL, QM, QN, QO, QP, QQ]
          refine CallC.of t2 (by rfl) ?_
          simp (config := { maxSteps := 1000000 }) (disch := ((try simp only [awL]); omega)) only [QR, QS, QT, QU, QV, QW, QX, QY, QZ, Q0, Q1, Q2, ↓awU, awV, awF, Qa, Qb, Qc, Qd, forall_const, ↓reduceIte, ↓reduceDIte, ↓Qe, Qf, Qg, Qh, Qi, Qj, Qk, Ql, Qm, Qn, Qo, Qp, Qq, Qr, Qs, implies_true, Qt, Qu, Qv, Qw, Qx, Qy, Qz, QA, QB, QC, QD, QE, QF, QG, QH, QI, QJ, QK, QL, QM, QN, QO, QP, QQ]
          first | done | rfl | exact ⟨by rfl, by rfl⟩
        · have k0 : (b = [107, 103]) = False := eq_false k
          rw [if_neg k] at o2
          simp (config := { maxSteps := 1000000 }) (disch := ((try simp only [awL]); omega)) only [QR, QS, QT, QU, QV, QW, QX, QY, QZ, Q0, Q1, Q2, lc, e0, k0, ↓awU, awV, awF, Qa, Qb, Qc, Qd, forall_const, ↓reduceIte, ↓reduceDIte, ↓Qe, Qf, Qg, Qh, Qi, Qj, Qk, Ql, Qm, Qn, Qo, Qp, Qq, Qr, Qs, implies_true, Qt, Qu, Qv, Qw, Qx, Qy, Qz, QA, QB, QC, QD, QE, QF, QG, QH, QI, QJ, QK, QL, QM, QN, QO, QP, QQ]
          have cu : cut (celsD l ++ cut [D.bool false, D.str ⟨#[49, 32, 107, 103]⟩] 0 2) 0 ((l.length + 1) * 2) = celsD l ++ celsD [([49, 32, 107, 103], false)] := cutA (celsD l ++ celsD [([49, 32, 107, 103], false)]) _ (by rw [List.length_append, celsD_length, celsD_length]; simp only [List.length_cons, List.length_nil]; omega)
          refine ⟨by rfl, ?_⟩
          refine CallC.frozenE o2 (by rw [cu]; rfl) ?_
          simp (config := { maxSteps := 1000000 }) (disch := ((try simp only [awL]); omega)) only [QR, QS, QT, QU, QV, QW, QX, QY, QZ, Q0, Q1, Q2, ↓awU, awV, awF, Qa, Qb, Qc, Qd, forall_const, ↓reduceIte, ↓reduceDIte, ↓Qe, Qf, Qg, Qh, Qi, Qj, Qk, Ql, Qm, Qn, Qo, Qp, Qq, Qr, Qs, implies_true, Qt, Qu, Qv, Qw, Qx, Qy, Qz, QA, QB, QC, QD, QE, QF, QG, QH, QI, QJ, QK, QL, QM, QN, QO, QP, QQ]
          refine CallC.of t2 (by rfl) ?_
          simp (config := { maxSteps := 1000000 }) (disch := ((try simp only [awL]); omega)) only [QR, QS, QT, QU, QV, QW, QX, QY, QZ, Q0, Q1, Q2, ↓awU, awV, awF, Qa, Qb, Qc, Qd, forall_const, ↓reduceIte, ↓reduceDIte, ↓Qe, Qf, Qg, Qh, Qi, Qj, Qk, Ql, Qm, Qn, Qo, Qp, Qq, Qr, Qs, implies_true, Qt, Qu, Qv, Qw, Qx, Qy, Qz, QA, QB, QC, QD, QE, QF, QG, QH, QI, QJ, QK, QL, QM, QN, QO, QP, QQ]
          first | done | rfl | exact ⟨by rfl, by rfl⟩
end Go.Proofs.YtkcghbpghjdgpaaGreatDoor
