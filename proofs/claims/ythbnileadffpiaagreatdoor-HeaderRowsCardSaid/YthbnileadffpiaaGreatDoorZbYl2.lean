/-
  Contracts of the functions, one after another.
-/
import Derived.Test.YthbnileadffpiaaGreatDoorZbYl1
set_option linter.all false
open Go.Abs renaming ofVal → Qa, ofVal0 → Qb, isShift → Qc, aggK → Qd, purePost → Qe, combine → Qf, idsA → Qg, cellsA → Qh, numsOf → Qi, srcA → Qj, calleeA → Qk, refsA → Ql, isScalar → Qm, scalarD → Qn, scalar0 → Qo, putL → Qr, unfA → Qs, sidsB → QJ, keyKD → QL, isIntK → QM, aggD → QN, aggL → QO, eqKs → QP, boxRow → QQ, nextC_more → QT, nextC_over → QU, bs_size → QV, bs_extract → QW, bs_toList → QX, bs_append → QY, byteAt_bs → QZ, bs_cells → Q0, nums_length → Q1, nums_getD → Q2
open Go.Abs.AV renaming one → Qp
open Go.Abs.D renaming one → Qq
open Go.IntKind renaming signed → Qt
open Nat renaming reduceAdd → Qu, reduceSub → Qv, reduceMul → Qw, reducePow → Qx, reduceDiv → Qy, reduceMod → Qz, reduceEqDiff → QI, reduceBEq → QK
open Int renaming reduceAdd → QA, reduceSub → QB, reduceMul → QC, reducePow → QD, reduceNeg → QE, reduceToNat → QF, reduceLT → QG, reduceLE → QH
open Option renaming toList_some → QR, toList_none → QS
namespace Go.Proofs.YthbnileadffpiaaGreatDoor
open Go Go.Proofs Go.Abs
variable {G : Globals}
/-! Tables: cells, columns; which texts and cells may stand there. -/
abbrev Cel := List UInt8 × Bool
abbrev CelC (c : Cel) : List D := [.bool c.2, S c.1]
def celsD (l : List Cel) : List D := l.flatMap CelC
abbrev CelS (l : List Cel) (full : Bool) : D := .sl l.length full (celsD l)
structure Col where
  name : List UInt8
  cells : List Cel
abbrev ColC (c : Col) : List D := [S c.name, CelS c.cells false]
def colsD (l : List Col) : List D := l.flatMap ColC
abbrev ColS (l : List Col) (full : Bool) : D := .sl l.length full (colsD l)
structure Tab where
  id : Int
  name : List UInt8
  cols : List Col
abbrev TabD (t : Tab) (full : Bool) : D := .agg [.int .i64 t.id, S t.name, ColS t.cols full]
def noC : Cel := ([], false)
def noCol : Col := ⟨[], []⟩
theorem celsD_length : ∀ l : List Cel, (celsD l).length = 2 * l.length
  | [] => rfl
  | o :: l => by
    have ih := celsD_length l
    simp only [celsD, List.flatMap_cons, List.length_append, List.length_cons, List.length_nil] at ih ⊢
    omega
theorem colsD_length : ∀ l : List Col, (colsD l).length = 2 * l.length
  | [] => rfl
  | o :: l => by
    have ih := colsD_length l
    simp only [colsD, List.flatMap_cons, List.length_append, List.length_cons, List.length_nil] at ih ⊢
    omega
theorem celsD_get : ∀ {l : List Cel} {k : Nat}, k < l.length → ((celsD l).drop (k * 2)).take 2 = CelC (l.getD k noC)
  | [], k, h => absurd h (Nat.not_lt_zero _)
  | o :: l, 0, _ => by simp [celsD]
  | o :: l, k + 1, h => by
    have ih := celsD_get (l := l) (k := k) (by simpa using h)
    have e2 : celsD (o :: l) = .bool o.2 :: S o.1 :: celsD l := rfl
    rw [show (k + 1) * 2 = k * 2 + 2 by omega, e2]
    simpa using ih
theorem colsD_get : ∀ {l : List Col} {k : Nat}, k < l.length → ((colsD l).drop (k * 2)).take 2 = ColC (l.getD k noCol)
  | [], k, h => absurd h (Nat.not_lt_zero _)
  | o :: l, 0, _ => by simp [colsD]
  | o :: l, k + 1, h => by
    have ih := colsD_get (l := l) (k := k) (by simpa using h)
    have e2 : colsD (o :: l) = S o.name :: CelS o.cells false :: colsD l := rfl
    rw [show (k + 1) * 2 = k * 2 + 2 by omega, e2]
    simpa using ih
theorem celsD_app (a b : List Cel) : celsD (a ++ b) = celsD a ++ celsD b := by simp [celsD]
theorem colsD_app (a b : List Col) : colsD (a ++ b) = colsD a ++ colsD b := by simp [colsD]
def fineB (s : List UInt8) : Bool := decide (s.length ≤ 1024) && Lib.validD s
def okCel (c : Cel) : Bool := fineB c.1 && !(c.2 && !decide (c.1 = []))
set_option maxHeartbeats 1000000 in
theorem fine_spec (hT : HT G) (s : List UInt8) (hs : s.length ≤ 1000000000) : Ctr Tryz.prog G 63 [.d (S s)] [] (.d (.bool (fineB s))) [] := by
  refine Ctr.pure (M := M0) hmix Tryz.func63 rfl go63 ?_
  unfold fineB
  by_cases h : s.length ≤ 1024
  · rw [decide_eq_true h, Bool.true_and]
    simp (config := { maxSteps := 1000000 }) (disch := ((try simp only [awL]); omega)) only [QR, QS, QT, QU, QV, QW, QX, QY, QZ, Q0, Q1, Q2, Tryz.f63, ↓awU, awV, awF, Qa, Qb, Qc, Qd, forall_const, ↓reduceIte, ↓reduceDIte, ↓Qe, Qf, Qg, Qh, Qi, Qj, Qk, Ql, Qm, Qn, Qo, Qp, Qq, Qr, Qs, implies_true, Qt, Qu, Qv, Qw, Qx, Qy, Qz, QA, QB, QC, QD, QE, QF, QG, QH, QI, QJ, QK, QL, QM, QN, QO, QP, QQ]
    refine CallC.pure (tvalid_spec hT s (by omega)) ?_
    simp (config := { maxSteps := 1000000 }) (disch := ((try simp only [awL]); omega)) only [QR, QS, QT, QU, QV, QW, QX, QY, QZ, Q0, Q1, Q2, ↓awU, awV, awF, Qa, Qb, Qc, Qd, forall_const, ↓reduceIte, ↓reduceDIte, ↓Qe, Qf, Qg, Qh, Qi, Qj, Qk, Ql, Qm, Qn, Qo, Qp, Qq, Qr, Qs, implies_true, Qt, Qu, Qv, Qw, Qx, Qy, Qz, QA, QB, QC, QD, QE, QF, QG, QH, QI, QJ, QK, QL, QM, QN, QO, QP, QQ]
    first | done | rfl
  · rw [decide_eq_false h, Bool.false_and]
    simp (config := { maxSteps := 1000000 }) (disch := ((try simp only [awL]); omega)) only [QR, QS, QT, QU, QV, QW, QX, QY, QZ, Q0, Q1, Q2, Tryz.f63, ↓awU, awV, awF, Qa, Qb, Qc, Qd, forall_const, ↓reduceIte, ↓reduceDIte, ↓Qe, Qf, Qg, Qh, Qi, Qj, Qk, Ql, Qm, Qn, Qo, Qp, Qq, Qr, Qs, implies_true, Qt, Qu, Qv, Qw, Qx, Qy, Qz, QA, QB, QC, QD, QE, QF, QG, QH, QI, QJ, QK, QL, QM, QN, QO, QP, QQ]
    first | done | rfl
set_option maxHeartbeats 1000000 in
theorem validCell_spec (hT : HT G) (c : Cel) (hs : c.1.length ≤ 1000000000) : Ctr Tryz.prog G 68 [.d (.agg (CelC c))] [] (.d (.bool (okCel c))) [] := by
  obtain ⟨s, b⟩ := c
  refine Ctr.pure (M := M0) hmix Tryz.func68 rfl go68 ?_
  unfold okCel
  simp only at hs ⊢
  simp (config := { maxSteps := 1000000 }) (disch := ((try simp only [awL]); omega)) only [QR, QS, QT, QU, QV, QW, QX, QY, QZ, Q0, Q1, Q2, Tryz.f68, ↓awU, awV, awF, Qa, Qb, Qc, Qd, forall_const, ↓reduceIte, ↓reduceDIte, ↓Qe, Qf, Qg, Qh, Qi, Qj, Qk, Ql, Qm, Qn, Qo, Qp, Qq, Qr, Qs, implies_true, Qt, Qu, Qv, Qw, Qx, Qy, Qz, QA, QB, QC, QD, QE, QF, QG, QH, QI, QJ, QK, QL, QM, QN, QO, QP, QQ]
  refine CallC.pure (fine_spec hT s hs) ?_
  cases hv : fineB s
  · rw [Bool.false_and]
    simp (config := { maxSteps := 1000000 }) (disch := ((try simp only [awL]); omega)) only [QR, QS, QT, QU, QV, QW, QX, QY, QZ, Q0, Q1, Q2, ↓awU, awV, awF, Qa, Qb, Qc, Qd, forall_const, ↓reduceIte, ↓reduceDIte, ↓Qe, Qf, Qg, Qh, Qi, Qj, Qk, Ql, Qm, Qn, Qo, Qp, Qq, Qr, Qs, implies_true, Qt, Qu, Qv, Qw, Qx, Qy, Qz, QA, QB, QC, QD, QE, QF, QG, QH, QI, QJ, QK, QL, QM, QN, QO, QP, QQ]
    first | done | rfl | exact ⟨by rfl, by rfl⟩
  · rw [Bool.true_and]
    cases b
    · rw [Bool.false_and, Bool.not_false]
      simp (config := { maxSteps := 1000000 }) (disch := ((try simp only [awL]); omega)) only [QR, QS, QT, QU, QV, QW, QX, QY, QZ, Q0, Q1, Q2, ↓awU, awV, awF, Qa, Qb, Qc, Qd, forall_const, ↓reduceIte, ↓reduceDIte, ↓Qe, Qf, Qg, Qh, Qi, Qj, Qk, Ql, Qm, Qn, Qo, Qp, Qq, Qr, Qs, implies_true, Qt, Qu, Qv, Qw, Qx, Qy, Qz, QA, QB, QC, QD, QE, QF, QG, QH, QI, QJ, QK, QL, QM, QN, QO, QP, QQ]
      first | done | rfl | exact ⟨by rfl, by rfl⟩
    · rw [Bool.true_and]
      by_cases h : s = []
      · subst h
        simp (config := { maxSteps := 1000000 }) (disch := ((try simp only [awL]); omega)) only [QR, QS, QT, QU, QV, QW, QX, QY, QZ, Q0, Q1, Q2, ↓awU, awV, awF, Qa, Qb, Qc, Qd, forall_const, ↓reduceIte, ↓reduceDIte, ↓Qe, Qf, Qg, Qh, Qi, Qj, Qk, Ql, Qm, Qn, Qo, Qp, Qq, Qr, Qs, implies_true, Qt, Qu, Qv, Qw, Qx, Qy, Qz, QA, QB, QC, QD, QE, QF, QG, QH, QI, QJ, QK, QL, QM, QN, QO, QP, QQ]
        first | done | rfl | exact ⟨by rfl, by rfl⟩
      · simp (config := { maxSteps := 1000000 }) (disch := ((try simp only [awL]); omega)) only [QR, QS, QT, QU, QV, QW, QX, QY, QZ, Q0, Q1, Q2, h, ↓awU, awV, awF, Qa, Qb, Qc, Qd, forall_const, ↓reduceIte, ↓reduceDIte, ↓Qe, Qf, Qg, Qh, Qi, Qj, Qk, Ql, Qm, Qn, Qo, Qp, Qq, Qr, Qs, implies_true, Qt, Qu, Qv, Qw, Qx, Qy, Qz, QA, QB, QC, QD, QE, QF, QG, QH, QI, QJ, QK, QL, QM, QN, QO, QP, QQ]
        first | done | rfl | simp [h] | exact ⟨by rfl, by simp [h]⟩
/-- A text that may not be in a table. -/
def badB (s : List UInt8) : Bool := !fineB s
set_option maxHeartbeats 1000000 in
theorem bad_spec9 (hT : HT G) (s : List UInt8) (hs : s.length ≤ 1000000000) : Ctr Tryz.prog G 47 [.d (S s)] [] (.d (.bool (badB s))) [] := by
  refine Ctr.pure (M := M0) hmix Tryz.func47 rfl go47 ?_
  simp (config := { maxSteps := 1000000 }) (disch := ((try simp only [awL]); omega)) only [QR, QS, QT, QU, QV, QW, QX, QY, QZ, Q0, Q1, Q2, Tryz.f47, ↓awU, awV, awF, Qa, Qb, Qc, Qd, forall_const, ↓reduceIte, ↓reduceDIte, ↓Qe, Qf, Qg, Qh, Qi, Qj, Qk, Ql, Qm, Qn, Qo, Qp, Qq, Qr, Qs, implies_true, Qt, Qu, Qv, Qw, Qx, Qy, Qz, QA, QB, QC, QD, QE, QF, QG, QH, QI, QJ, QK, QL, QM, QN, QO, QP, QQ]
  refine CallC.of (validCell_spec hT (s, false) hs) (by rfl) ?_
  rw [show badB s = !okCel (s, false) by unfold badB okCel; simp]
  generalize okCel (s, false) = b
  simp (config := { maxSteps := 1000000 }) (disch := ((try simp only [awL]); omega)) only [QR, QS, QT, QU, QV, QW, QX, QY, QZ, Q0, Q1, Q2, ↓awU, awV, awF, Qa, Qb, Qc, Qd, forall_const, ↓reduceIte, ↓reduceDIte, ↓Qe, Qf, Qg, Qh, Qi, Qj, Qk, Ql, Qm, Qn, Qo, Qp, Qq, Qr, Qs, implies_true, Qt, Qu, Qv, Qw, Qx, Qy, Qz, QA, QB, QC, QD, QE, QF, QG, QH, QI, QJ, QK, QL, QM, QN, QO, QP, QQ]
  first | done | rfl
set_option maxHeartbeats 1000000 in
theorem badRow_spec (hT : HT G) (r : Row) (hr : r.length ≤ 1000000000 ∧ ∀ s ∈ r, s.length ≤ 1000000000) : Ctr Tryz.prog G 49 [.d (Ss r false)] [] (.d (.bool (r.any badB))) [] := by
  refine Ctr.pure (M := M0) hmix Tryz.func49 rfl go49 ?_
  simp (config := { maxSteps := 1000000 }) (disch := ((try simp only [awL]); omega)) only [QR, QS, QT, QU, QV, QW, QX, QY, QZ, Q0, Q1, Q2, Tryz.f49, ↓awU, awV, awF, Qa, Qb, Qc, Qd, forall_const, ↓reduceIte, ↓reduceDIte, ↓Qe, Qf, Qg, Qh, Qi, Qj, Qk, Ql, Qm, Qn, Qo, Qp, Qq, Qr, Qs, implies_true, Qt, Qu, Qv, Qw, Qx, Qy, Qz, QA, QB, QC, QD, QE, QF, QG, QH, QI, QJ, QK, QL, QM, QN, QO, QP, QQ]
  refine CallC.of (containsFunc_spec 47 badB r false hr.1 fun s hm => bad_spec9 hT s (hr.2 s hm)) (by rfl) ?_
  simp (config := { maxSteps := 1000000 }) (disch := ((try simp only [awL]); omega)) only [QR, QS, QT, QU, QV, QW, QX, QY, QZ, Q0, Q1, Q2, ↓awU, awV, awF, Qa, Qb, Qc, Qd, forall_const, ↓reduceIte, ↓reduceDIte, ↓Qe, Qf, Qg, Qh, Qi, Qj, Qk, Ql, Qm, Qn, Qo, Qp, Qq, Qr, Qs, implies_true, Qt, Qu, Qv, Qw, Qx, Qy, Qz, QA, QB, QC, QD, QE, QF, QG, QH, QI, QJ, QK, QL, QM, QN, QO, QP, QQ]
  first | done | rfl
def rowsT (t : Tab) : Nat := match t.cols with | [] => 0 | c :: _ => c.cells.length
set_option maxHeartbeats 1000000 in
theorem rows_spec (t : Tab) (full : Bool) (hc : t.cols.length ≤ 1000000000) (h2 : ∀ c ∈ t.cols, c.cells.length ≤ 1000000000) : Ctr Tryz.prog G 64 [.d (TabD t full)] [] (.d (.int .i64 (rowsT t))) [] := by
  obtain ⟨id, name, cols⟩ := t
  simp only at hc h2
  refine Ctr.pure (M := M0) hmix Tryz.func64 rfl go64 ?_
  rcases cols with _ | ⟨c, r⟩
  · simp (config := { maxSteps := 1000000 }) (disch := ((try simp only [awL]); omega)) only [QR, QS, QT, QU, QV, QW, QX, QY, QZ, Q0, Q1, Q2, Tryz.f64, List.length_nil, ↓awU, awV, awF, Qa, Qb, Qc, Qd, forall_const, ↓reduceIte, ↓reduceDIte, ↓Qe, Qf, Qg, Qh, Qi, Qj, Qk, Ql, Qm, Qn, Qo, Qp, Qq, Qr, Qs, implies_true, Qt, Qu, Qv, Qw, Qx, Qy, Qz, QA, QB, QC, QD, QE, QF, QG, QH, QI, QJ, QK, QL, QM, QN, QO, QP, QQ]
    first | done | rfl | exact ⟨by rfl, by rfl⟩
  · have cl := colsD_length (c :: r)
    have e1 : (colsD (c :: r)).getD 1 .nilp = CelS c.cells false := rfl
    have hcl := celsD_length c.cells
    have h3 := h2 c (by simp)
    have ll : (c :: r).length = r.length + 1 := rfl
    simp (config := { maxSteps := 1000000 }) (disch := ((try simp only [awL]); omega)) only [QR, QS, QT, QU, QV, QW, QX, QY, QZ, Q0, Q1, Q2, Tryz.f64, e1, cl, ll, ↓awU, awV, awF, Qa, Qb, Qc, Qd, forall_const, ↓reduceIte, ↓reduceDIte, ↓Qe, Qf, Qg, Qh, Qi, Qj, Qk, Ql, Qm, Qn, Qo, Qp, Qq, Qr, Qs, implies_true, Qt, Qu, Qv, Qw, Qx, Qy, Qz, QA, QB, QC, QD, QE, QF, QG, QH, QI, QJ, QK, QL, QM, QN, QO, QP, QQ]
    first | done | rfl | exact ⟨by rfl, by rfl⟩
set_option maxHeartbeats 1000000 in
theorem ixNone_spec (f : Bool) (fv : AV) (a b c : D) (hf : fv = .fn (.func 66) [] [.ptr 0 0]) : Ctr Tryz.prog G 101 [.d (.sl 0 f []), fv] [.box [.d a, .d b, .d c]] (.d (.int .i64 (-1))) [.box [.d a, .d b, .d c]] := by
  subst hf
  refine Ctr.body (M := M0) hmix Tryz.func101 rfl go101 ?_
  simp (config := { maxSteps := 1000000 }) (disch := ((try simp only [awL]); omega)) only [QR, QS, QT, QU, QV, QW, QX, QY, QZ, Q0, Q1, Q2, Tryz.f101, ↓awU, awV, awF, Qa, Qb, Qc, Qd, forall_const, ↓reduceIte, ↓reduceDIte, ↓Qe, Qf, Qg, Qh, Qi, Qj, Qk, Ql, Qm, Qn, Qo, Qp, Qq, Qr, Qs, implies_true, Qt, Qu, Qv, Qw, Qx, Qy, Qz, QA, QB, QC, QD, QE, QF, QG, QH, QI, QJ, QK, QL, QM, QN, QO, QP, QQ]
  refine LoopC.fr 131 (α := Unit) (fun _ => 0) (fun _ => [(8, .d (.int .i64 0))]) (fun _ => [.box [.d a, .d b, .d c]]) (fun _ => True) () trivial ?_ ?_
  · exact ⟨[some 0], rfl, by simp, by simp [setsA, keepA, SWeak, AWeak], by simp [HWeak, BWeak, SWeak, AWeak]⟩
  · rintro ⟨⟩ -
    simp only [awK, Nat.reduceMod, Nat.reduceDiv, reduceIte]
    simp (config := { maxSteps := 1000000 }) (disch := ((try simp only [awL]); omega)) only [QR, QS, QT, QU, QV, QW, QX, QY, QZ, Q0, Q1, Q2, ↓awU, awV, awF, Qa, Qb, Qc, Qd, forall_const, ↓reduceIte, ↓reduceDIte, ↓Qe, Qf, Qg, Qh, Qi, Qj, Qk, Ql, Qm, Qn, Qo, Qp, Qq, Qr, Qs, implies_true, Qt, Qu, Qv, Qw, Qx, Qy, Qz, QA, QB, QC, QD, QE, QF, QG, QH, QI, QJ, QK, QL, QM, QN, QO, QP, QQ]
    exact ⟨[some 0], rfl, by simp, by simp [HWeak, BWeak, SWeak, AWeak], .inl (by simp [AWeak, SWeak])⟩
set_option maxHeartbeats 1000000 in
theorem cfNone_spec (f : Bool) (a b c : D) : Ctr Tryz.prog G 65 [.d (.sl 0 f []), .fn (.func 66) [] [.ptr 0 0]] [.box [.d a, .d b, .d c]] (.d (.bool false)) [.box [.d a, .d b, .d c]] := by
  refine Ctr.body (M := M0) hmix Tryz.func65 rfl go65 ?_
  simp (config := { maxSteps := 1000000 }) (disch := ((try simp only [awL]); omega)) only [QR, QS, QT, QU, QV, QW, QX, QY, QZ, Q0, Q1, Q2, Tryz.f65, ↓awU, awV, awF, Qa, Qb, Qc, Qd, forall_const, ↓reduceIte, ↓reduceDIte, ↓Qe, Qf, Qg, Qh, Qi, Qj, Qk, Ql, Qm, Qn, Qo, Qp, Qq, Qr, Qs, implies_true, Qt, Qu, Qv, Qw, Qx, Qy, Qz, QA, QB, QC, QD, QE, QF, QG, QH, QI, QJ, QK, QL, QM, QN, QO, QP, QQ]
  refine CallC.by (ixNone_spec false _ a b c rfl) (by rfl) (by rfl) (by simp) ?_
  simp (config := { maxSteps := 1000000 }) (disch := ((try simp only [awL]); omega)) only [QR, QS, QT, QU, QV, QW, QX, QY, QZ, Q0, Q1, Q2, ↓awU, awV, awF, Qa, Qb, Qc, Qd, forall_const, ↓reduceIte, ↓reduceDIte, ↓Qe, Qf, Qg, Qh, Qi, Qj, Qk, Ql, Qm, Qn, Qo, Qp, Qq, Qr, Qs, implies_true, Qt, Qu, Qv, Qw, Qx, Qy, Qz, QA, QB, QC, QD, QE, QF, QG, QH, QI, QJ, QK, QL, QM, QN, QO, QP, QQ]
  exact ⟨[some 0], rfl, by simp, by simp [HWeak, BWeak, SWeak, AWeak], .inl (by simp [AWeak, SWeak])⟩
/-- Which identifiers and names a table may have. -/
def okId (id : Int) (name : List UInt8) : Bool := decide (0 ≤ id ∧ id ≤ 1073741824) && fineB name
set_option maxHeartbeats 4000000 in
set_option maxRecDepth 100000 in
theorem validNone_spec (hT : HT G) (id : Int) (name : List UInt8) (hs : name.length ≤ 1000000000) (f : Bool) (i1 : -9223372036854775808 ≤ id) (i2 : id ≤ 9223372036854775807) :
    Ctr Tryz.prog G 45 [.d (.agg [.int .i64 id, S name, .sl 0 f []])] [] (.d (.bool (okId id name))) [] := by
  obtain ⟨r, hr⟩ : ∃ r, r = okId id name := ⟨_, rfl⟩
  rw [← hr]
  unfold okId at hr
  refine Ctr.pure (M := M0) hmix Tryz.func45 rfl go45 ?_
  rcases (by omega : id < 0 ∨ 1073741824 < id ∨ (0 ≤ id ∧ id ≤ 1073741824)) with h | h | h
  · rw [decide_eq_false (by omega), Bool.false_and] at hr
    subst hr
    simp (config := { maxSteps := 1000000 }) (disch := ((try simp only [awL]); omega)) only [QR, QS, QT, QU, QV, QW, QX, QY, QZ, Q0, Q1, Q2, Tryz.f45, ↓awU, awV, awF, Qa, Qb, Qc, Qd, forall_const, ↓reduceIte, ↓reduceDIte, ↓Qe, Qf, Qg, Qh, Qi, Qj, Qk, Ql, Qm, Qn, Qo, Qp, Qq, Qr, Qs, implies_true, Qt, Qu, Qv, Qw, Qx, Qy, Qz, QA, QB, QC, QD, QE, QF, QG, QH, QI, QJ, QK, QL, QM, QN, QO, QP, QQ]
    first | done | rfl | exact ⟨by rfl, by rfl⟩
  · rw [decide_eq_false (by omega), Bool.false_and] at hr
    subst hr
    simp (config := { maxSteps := 1000000 }) (disch := ((try simp only [awL]); omega)) only [QR, QS, QT, QU, QV, QW, QX, QY, QZ, Q0, Q1, Q2, Tryz.f45, ↓awU, awV, awF, Qa, Qb, Qc, Qd, forall_const, ↓reduceIte, ↓reduceDIte, ↓Qe, Qf, Qg, Qh, Qi, Qj, Qk, Ql, Qm, Qn, Qo, Qp, Qq, Qr, Qs, implies_true, Qt, Qu, Qv, Qw, Qx, Qy, Qz, QA, QB, QC, QD, QE, QF, QG, QH, QI, QJ, QK, QL, QM, QN, QO, QP, QQ]
    first | done | rfl | exact ⟨by rfl, by rfl⟩
  · rw [decide_eq_true h, Bool.true_and] at hr
    simp (config := { maxSteps := 1000000 }) (disch := ((try simp only [awL]); omega)) only [QR, QS, QT, QU, QV, QW, QX, QY, QZ, Q0, Q1, Q2, Tryz.f45, ↓awU, awV, awF, Qa, Qb, Qc, Qd, forall_const, ↓reduceIte, ↓reduceDIte, ↓Qe, Qf, Qg, Qh, Qi, Qj, Qk, Ql, Qm, Qn, Qo, Qp, Qq, Qr, Qs, implies_true, Qt, Qu, Qv, Qw, Qx, Qy, Qz, QA, QB, QC, QD, QE, QF, QG, QH, QI, QJ, QK, QL, QM, QN, QO, QP, QQ]
    refine CallC.pure (fine_spec hT name hs) ?_
    rw [← hr]
    cases r
    · simp (config := { maxSteps := 1000000 }) (disch := ((try simp only [awL]); omega)) only [QR, QS, QT, QU, QV, QW, QX, QY, QZ, Q0, Q1, Q2, ↓awU, awV, awF, Qa, Qb, Qc, Qd, forall_const, ↓reduceIte, ↓reduceDIte, ↓Qe, Qf, Qg, Qh, Qi, Qj, Qk, Ql, Qm, Qn, Qo, Qp, Qq, Qr, Qs, implies_true, Qt, Qu, Qv, Qw, Qx, Qy, Qz, QA, QB, QC, QD, QE, QF, QG, QH, QI, QJ, QK, QL, QM, QN, QO, QP, QQ]
      first | done | rfl | exact ⟨by rfl, by rfl⟩
    · simp (config := { maxSteps := 1000000 }) (disch := ((try simp only [awL]); omega)) only [QR, QS, QT, QU, QV, QW, QX, QY, QZ, Q0, Q1, Q2, ↓awU, awV, awF, Qa, Qb, Qc, Qd, forall_const, ↓reduceIte, ↓reduceDIte, ↓Qe, Qf, Qg, Qh, Qi, Qj, Qk, Ql, Qm, Qn, Qo, Qp, Qq, Qr, Qs, implies_true, Qt, Qu, Qv, Qw, Qx, Qy, Qz, QA, QB, QC, QD, QE, QF, QG, QH, QI, QJ, QK, QL, QM, QN, QO, QP, QQ]
      refine CallC.of (rows_spec ⟨id, name, []⟩ false (Nat.zero_le _) (fun c hc => by cases hc)) (by rfl) ?_
      rw [show rowsT ⟨id, name, []⟩ = 0 from rfl]
      simp (config := { maxSteps := 1000000 }) (disch := ((try simp only [awL]); omega)) only [QR, QS, QT, QU, QV, QW, QX, QY, QZ, Q0, Q1, Q2, ↓awU, awV, awF, Qa, Qb, Qc, Qd, forall_const, ↓reduceIte, ↓reduceDIte, ↓Qe, Qf, Qg, Qh, Qi, Qj, Qk, Ql, Qm, Qn, Qo, Qp, Qq, Qr, Qs, implies_true, Qt, Qu, Qv, Qw, Qx, Qy, Qz, QA, QB, QC, QD, QE, QF, QG, QH, QI, QJ, QK, QL, QM, QN, QO, QP, QQ]
      refine CallC.by (cfNone_spec false _ _ _) (by rfl) (by rfl) (by simp) ?_
      simp (config := { maxSteps := 1000000 }) (disch := ((try simp only [awL]); omega)) only [QR, QS, QT, QU, QV, QW, QX, QY, QZ, Q0, Q1, Q2, ↓awU, awV, awF, Qa, Qb, Qc, Qd, forall_const, ↓reduceIte, ↓reduceDIte, ↓Qe, Qf, Qg, Qh, Qi, Qj, Qk, Ql, Qm, Qn, Qo, Qp, Qq, Qr, Qs, implies_true, Qt, Qu, Qv, Qw, Qx, Qy, Qz, QA, QB, QC, QD, QE, QF, QG, QH, QI, QJ, QK, QL, QM, QN, QO, QP, QQ]
      first | done | rfl | exact ⟨by rfl, by rfl⟩
end Go.Proofs.YthbnileadffpiaaGreatDoor

namespace Go.Proofs.YthbnileadffpiaaGreatDoor
open Go Go.Proofs Go.Abs
variable {G : Globals}
/-! header.Apply. -/
def badG (id : Int) (name : List UInt8) (g : List Row) (m : Nat) : Bool := !okId id name || (namesG g m (widG g)).any badB || (g.drop m).any fun r => r.any badB
def colG (g : List Row) (m k n : Nat) : List Cel := (List.range n).map fun i => (atG g ((m + i : Nat) : Int) k, false)
def colsG (g : List Row) (m k : Nat) : List Col := (List.range k).map fun (j : Nat) => ⟨(namesG g m (widG g)).getD j [], colG g m j (g.length - m)⟩
def tabG (id : Int) (name : List UInt8) (g : List Row) (m : Nat) : Tab := ⟨id, name, colsG g m (widG g)⟩
def zeroT : Tab := ⟨0, [], []⟩
def applyT (id : Int) (name : List UInt8) (g : List Row) (n : Int) : Tab × Int :=
  if n < 0 ∨ 3 < n ∨ (g.length : Int) < n then (zeroT, 2) else if badG id name g n.toNat = true then (zeroT, 1)
  else if 4096 < g.length - n.toNat ∨ 64 < widG g then (zeroT, 3) else (tabG id name g n.toNat, 0)
theorem colG_len (g : List Row) (m k n : Nat) : (colG g m k n).length = n := by simp [colG]
theorem colsG_len (g : List Row) (m k : Nat) : (colsG g m k).length = k := by simp [colsG]
theorem colG_succ (g : List Row) (m k n : Nat) : colG g m k (n + 1) = colG g m k n ++ [(atG g ((m + n : Nat) : Int) k, false)] := by
  unfold colG; rw [List.range_succ, List.map_append]; rfl
theorem colsG_succ (g : List Row) (m k : Nat) : colsG g m (k + 1) = colsG g m k ++ [⟨(namesG g m (widG g)).getD k [], colG g m k (g.length - m)⟩] := by
  unfold colsG; rw [List.range_succ, List.map_append]; rfl
theorem namesG_le {g : List Row} (h : okH g) {m : Nat} (hm : m ≤ 100) : ∀ k, k ≤ 1000 → ∀ s ∈ namesG g m k, s.length ≤ 1000000000
  | 0, _, s, hs => by cases hs
  | k + 1, hk, s, hs => by
    rw [namesG] at hs
    rcases List.mem_append.1 hs with hs | hs
    · exact namesG_le h hm k (by omega) s hs
    · rw [List.mem_singleton.1 hs]
      have bl := baseG_len h (k := k) (m := m) (by omega) hm
      have nl := namesG_len g m k
      obtain ⟨h1, h2⟩ := nameN_free (out := namesG g m k) (b := baseG g k m) (by omega)
      rcases h2 with h2 | ⟨h2, n, h3, h4, h5⟩
      · rw [h2]; omega
      · rw [h4]
        have : n ≤ 1001 := by
          rcases Nat.lt_or_ge n 100000 with q | q
          · have := takenTo_le h2 h5 q; omega
          · have := takenTo_le (n := 99999) h2 (fun j j1 j2 => h5 j j1 (by omega)) (by omega); omega
        have := cand_len (b := baseG g k m) (n := n) (by omega)
        omega
theorem drop_okG {g : List Row} (h : okGrid g) (m : Nat) : ∀ r ∈ g.drop m, r.length ≤ 1000000000 ∧ ∀ s ∈ r, s.length ≤ 1000000000 := fun r hr => h.2 r (List.mem_of_mem_drop hr)
theorem rowsD_drop (g : List Row) (m : Nat) : cut (rowsD g) m (g.length - m) = rowsD (g.drop m) := by
  unfold cut rowsD
  rw [← List.map_drop, List.take_of_length_le (by simp)]
def B6 (g : List Row) (full : Bool) (id : Int) (name : List UInt8) (m k : Nat) (nm : List UInt8) (j : Nat) : List ABlk :=
  [.box [.d (Gr g full)], .box [.d (.int .i64 0), .d (.str ByteArray.empty), .d (.sl 0 true [])], .box [.d (.int .i64 id), .d (S name), .lsl 3 2 0 k], .row false (colsD (colsG g m k)), .box [.d (S nm), .lsl 5 2 0 j], .row false (celsD (colG g m k j))]
set_option maxHeartbeats 16000000 in
set_option maxRecDepth 100000 in
theorem apply_spec (hT : HT G) (hI : HI G) (g : List Row) (full : Bool) (hg : okH g) (id : Int) (name : List UInt8) (hs : name.length ≤ 1000000000) (n : Int)
    (i1 : -9223372036854775808 ≤ id) (i2 : id ≤ 9223372036854775807) (n1 : -9223372036854775808 ≤ n) (n2 : n ≤ 9223372036854775807) :
    Ctr Tryz.prog G 19 [.d (.int .i64 id), .d (S name), .d (.agg [Gr g full]), .d (.int .i64 n)] [] (.d (.tup [TabD (applyT id name g n).1 false, .int .i64 (applyT id name g n).2])) [] := by
  obtain ⟨r, hr⟩ : ∃ r, r = applyT id name g n := ⟨_, rfl⟩
  rw [← hr]
  unfold applyT at hr
  refine Ctr.pure (M := M0) hmix Tryz.func19 rfl go19 ?_
  have gl := @rowsD_length g
  have hgl := hg.1
  have hw := hg.wid
  rcases (by omega : n < 0 ∨ 3 < n ∨ (0 ≤ n ∧ n ≤ 3 ∧ (g.length : Int) < n) ∨ (0 ≤ n ∧ n ≤ 3 ∧ n ≤ g.length)) with h | h | h | h
  · rw [if_pos (by omega)] at hr
    subst hr
    simp (config := { maxSteps := 1000000 }) (disch := ((try simp only [awL]); omega)) only [QR, QS, QT, QU, QV, QW, QX, QY, QZ, Q0, Q1, Q2, gl, Tryz.f19, ↓awU, awV, awF, Qa, Qb, Qc, Qd, forall_const, ↓reduceIte, ↓reduceDIte, ↓Qe, Qf, Qg, Qh, Qi, Qj, Qk, Ql, Qm, Qn, Qo, Qp, Qq, Qr, Qs, implies_true, Qt, Qu, Qv, Qw, Qx, Qy, Qz, QA, QB, QC, QD, QE, QF, QG, QH, QI, QJ, QK, QL, QM, QN, QO, QP, QQ]
    first | done | rfl
  · rw [if_pos (by omega)] at hr
    subst hr
    simp (config := { maxSteps := 1000000 }) (disch := ((try simp only [awL]); omega)) only [QR, QS, QT, QU, QV, QW, QX, QY, QZ, Q0, Q1, Q2, gl, Tryz.f19, ↓awU, awV, awF, Qa, Qb, Qc, Qd, forall_const, ↓reduceIte, ↓reduceDIte, ↓Qe, Qf, Qg, Qh, Qi, Qj, Qk, Ql, Qm, Qn, Qo, Qp, Qq, Qr, Qs, implies_true, Qt, Qu, Qv, Qw, Qx, Qy, Qz, QA, QB, QC, QD, QE, QF, QG, QH, QI, QJ, QK, QL, QM, QN, QO, QP, QQ]
    first | done | rfl
  · rw [if_pos (by omega)] at hr
    subst hr
    simp (config := { maxSteps := 1000000 }) (disch := ((try simp only [awL]); omega)) only [QR, QS, QT, QU, QV, QW, QX, QY, QZ, Q0, Q1, Q2, gl, Tryz.f19, ↓awU, awV, awF, Qa, Qb, Qc, Qd, forall_const, ↓reduceIte, ↓reduceDIte, ↓Qe, Qf, Qg, Qh, Qi, Qj, Qk, Ql, Qm, Qn, Qo, Qp, Qq, Qr, Qs, implies_true, Qt, Qu, Qv, Qw, Qx, Qy, Qz, QA, QB, QC, QD, QE, QF, QG, QH, QI, QJ, QK, QL, QM, QN, QO, QP, QQ]
    first | done | rfl
  · obtain ⟨m, rfl⟩ : ∃ m : Nat, n = m := ⟨n.toNat, by omega⟩
    rw [if_neg (by omega), Int.toNat_natCast] at hr
    simp (config := { maxSteps := 1000000 }) (disch := ((try simp only [awL]); omega)) only [QR, QS, QT, QU, QV, QW, QX, QY, QZ, Q0, Q1, Q2, gl, Tryz.f19, ↓awU, awV, awF, Qa, Qb, Qc, Qd, forall_const, ↓reduceIte, ↓reduceDIte, ↓Qe, Qf, Qg, Qh, Qi, Qj, Qk, Ql, Qm, Qn, Qo, Qp, Qq, Qr, Qs, implies_true, Qt, Qu, Qv, Qw, Qx, Qy, Qz, QA, QB, QC, QD, QE, QF, QG, QH, QI, QJ, QK, QL, QM, QN, QO, QP, QQ]
    refine CallC.pure (names_spec hI g false hg m (by omega) (by omega)) ?_
    rw [show mRows g m = m by unfold mRows; omega]
    have nl := namesG_len g m (widG g)
    have nle := namesG_le hg (m := m) (by omega) (widG g) hw
    have sl := @strs_length (namesG g m (widG g))
    unfold badG at hr
    simp (config := { maxSteps := 1000000 }) (disch := ((try simp only [awL]); omega)) only [QR, QS, QT, QU, QV, QW, QX, QY, QZ, Q0, Q1, Q2, gl, ↓awU, awV, awF, Qa, Qb, Qc, Qd, forall_const, ↓reduceIte, ↓reduceDIte, ↓Qe, Qf, Qg, Qh, Qi, Qj, Qk, Ql, Qm, Qn, Qo, Qp, Qq, Qr, Qs, implies_true, Qt, Qu, Qv, Qw, Qx, Qy, Qz, QA, QB, QC, QD, QE, QF, QG, QH, QI, QJ, QK, QL, QM, QN, QO, QP, QQ]
    refine CallC.of (validNone_spec hT id name hs false i1 i2) (by rfl) ?_
    cases b1 : okId id name
    · rw [b1, Bool.not_false, Bool.true_or, Bool.true_or, if_pos rfl] at hr
      subst hr
      simp (config := { maxSteps := 1000000 }) (disch := ((try simp only [awL]); omega)) only [QR, QS, QT, QU, QV, QW, QX, QY, QZ, Q0, Q1, Q2, gl, ↓awU, awV, awF, Qa, Qb, Qc, Qd, forall_const, ↓reduceIte, ↓reduceDIte, ↓Qe, Qf, Qg, Qh, Qi, Qj, Qk, Ql, Qm, Qn, Qo, Qp, Qq, Qr, Qs, implies_true, Qt, Qu, Qv, Qw, Qx, Qy, Qz, QA, QB, QC, QD, QE, QF, QG, QH, QI, QJ, QK, QL, QM, QN, QO, QP, QQ]
      first | done | rfl
    · rw [b1, Bool.not_true, Bool.false_or] at hr
      simp (config := { maxSteps := 1000000 }) (disch := ((try simp only [awL]); omega)) only [QR, QS, QT, QU, QV, QW, QX, QY, QZ, Q0, Q1, Q2, gl, ↓awU, awV, awF, Qa, Qb, Qc, Qd, forall_const, ↓reduceIte, ↓reduceDIte, ↓Qe, Qf, Qg, Qh, Qi, Qj, Qk, Ql, Qm, Qn, Qo, Qp, Qq, Qr, Qs, implies_true, Qt, Qu, Qv, Qw, Qx, Qy, Qz, QA, QB, QC, QD, QE, QF, QG, QH, QI, QJ, QK, QL, QM, QN, QO, QP, QQ]
      refine CallC.of (containsFunc_spec 47 badB (namesG g m (widG g)) false (by omega) fun s hm => bad_spec9 hT s (nle s hm)) (by rfl) ?_
      cases b2 : (namesG g m (widG g)).any badB
      · rw [b2, Bool.false_or] at hr
        simp (config := { maxSteps := 1000000 }) (disch := ((try simp only [awL]); omega)) only [QR, QS, QT, QU, QV, QW, QX, QY, QZ, Q0, Q1, Q2, gl, ↓awU, awV, awF, Qa, Qb, Qc, Qd, forall_const, ↓reduceIte, ↓reduceDIte, ↓Qe, Qf, Qg, Qh, Qi, Qj, Qk, Ql, Qm, Qn, Qo, Qp, Qq, Qr, Qs, implies_true, Qt, Qu, Qv, Qw, Qx, Qy, Qz, QA, QB, QC, QD, QE, QF, QG, QH, QI, QJ, QK, QL, QM, QN, QO, QP, QQ]
        have rl := @rowsD_length (g.drop m)
        refine CallC.of (containsFuncG_spec 49 (fun r => r.any badB) (g.drop m) false (by simp; omega) fun r hm => badRow_spec hT r (drop_okG hg.ok m r hm)) (by rw [rowsD_drop]; unfold Gr; rw [List.length_drop]; rfl) ?_
        cases b3 : (g.drop m).any fun r => r.any badB
        · rw [b3, if_neg (by decide)] at hr
          rcases (by omega : 4096 < g.length - m ∨ (g.length - m ≤ 4096 ∧ 64 < widG g) ∨ (g.length - m ≤ 4096 ∧ widG g ≤ 64)) with l1 | l1 | l1
          · exfalso; omega
          · rw [if_pos (.inr l1.2)] at hr
            subst hr
            simp (config := { maxSteps := 1000000 }) (disch := ((try simp only [awL]); omega)) only [QR, QS, QT, QU, QV, QW, QX, QY, QZ, Q0, Q1, Q2, gl, nl, ↓awU, awV, awF, Qa, Qb, Qc, Qd, forall_const, ↓reduceIte, ↓reduceDIte, ↓Qe, Qf, Qg, Qh, Qi, Qj, Qk, Ql, Qm, Qn, Qo, Qp, Qq, Qr, Qs, implies_true, Qt, Qu, Qv, Qw, Qx, Qy, Qz, QA, QB, QC, QD, QE, QF, QG, QH, QI, QJ, QK, QL, QM, QN, QO, QP, QQ]
            first | done | rfl
          · rw [if_neg (by omega)] at hr
            simp (config := { maxSteps := 1000000 }) (disch := ((try simp only [awL]); omega)) only [QR, QS, QT, QU, QV, QW, QX, QY, QZ, Q0, Q1, Q2, gl, nl, ↓awU, awV, awF, Qa, Qb, Qc, Qd, forall_const, ↓reduceIte, ↓reduceDIte, ↓Qe, Qf, Qg, Qh, Qi, Qj, Qk, Ql, Qm, Qn, Qo, Qp, Qq, Qr, Qs, implies_true, Qt, Qu, Qv, Qw, Qx, Qy, Qz, QA, QB, QC, QD, QE, QF, QG, QH, QI, QJ, QK, QL, QM, QN, QO, QP, QQ]
            refine LoopC.fx 110680464442257312072 (α := Nat) (β := Unit) (fun k => widG g - k) (fun k => [(67, .d (.int .i64 (k : Nat)))])
              (fun k => [.box [.d (Gr g full)], .box [.d (.int .i64 0), .d (.str ByteArray.empty), .d (.sl 0 true [])], .box [.d (.int .i64 id), .d (S name), .lsl 3 2 0 k], .row false (colsD (colsG g m k))])
              (fun k => k ≤ widG g) 2304 (fun _ => [])
              (fun _ => [.box [.d (Gr g full)], .box [.d (.int .i64 0), .d (.str ByteArray.empty), .d (.sl 0 true [])], .box [.d (.int .i64 id), .d (S name), .lsl 3 2 0 (widG g)], .row false (colsD (colsG g m (widG g)))])
              (fun _ => True) 0 (Nat.zero_le _) ?_ ?_ ?_
            · exact ⟨[some 0, some 1, some 2, none], rfl, by simp, by simp [setsA, keepA, SWeak, AWeak], by simp [HWeak, BWeak, SWeak, AWeak, colsG, colsD]⟩
            · intro k hk
              have cl := colsD_length (colsG g m k)
              rw [colsG_len] at cl
              simp only [awK, Nat.reduceMod, Nat.reduceDiv, reduceIte]
              rcases Nat.lt_or_ge k (widG g) with h3 | h3
              · have cs := colsG_succ g m k
                have gk := strs_getD (l := namesG g m (widG g)) (i := k) (by omega)
                generalize (namesG g m (widG g)).getD k [] = nm at *
                simp (config := { maxSteps := 1000000 }) (disch := ((try simp only [awL]); omega)) only [QR, QS, QT, QU, QV, QW, QX, QY, QZ, Q0, Q1, Q2, gl, nl, sl, gk, ↓awU, awV, awF, Qa, Qb, Qc, Qd, forall_const, ↓reduceIte, ↓reduceDIte, ↓Qe, Qf, Qg, Qh, Qi, Qj, Qk, Ql, Qm, Qn, Qo, Qp, Qq, Qr, Qs, implies_true, Qt, Qu, Qv, Qw, Qx, Qy, Qz, QA, QB, QC, QD, QE, QF, QG, QH, QI, QJ, QK, QL, QM, QN, QO, QP, QQ]
                have b5 : ∀ j : Nat, [.box [.d (Gr g full)], .box [.d (.int .i64 0), .d (.str ByteArray.empty), .d (.sl 0 true [])], .box [.d (.int .i64 id), .d (S name), .lsl 3 2 0 k], .row false (colsD (colsG g m k)), .box [.d (S nm), .lsl 5 2 0 j], .row false (celsD (colG g m k j))] = B6 g full id name m k nm j := fun _ => rfl
                refine LoopC.fx 258254417031933745480 (α := Nat) (β := Unit) (fun j => g.length - m - j) (fun j => [(15, .d (.int .i64 (m + j : Nat)))]) (fun j => B6 g full id name m k nm j) (fun j => m + j ≤ g.length)
                  258254417031933741384 (fun _ => []) (fun _ => B6 g full id name m k nm (g.length - m)) (fun _ => True) 0 (by omega) ?_ ?_ ?_
                · exact ⟨[some 0, some 1, some 2, some 3, some 4, none], rfl, by simp [B6], by simp [setsA, keepA, SWeak, AWeak], by simp [B6, HWeak, BWeak, SWeak, AWeak, colG, celsD]⟩
                · intro j hj
                  have ce := celsD_length (colG g m k j)
                  rw [colG_len] at ce
                  unfold B6
                  simp only [awK, Nat.reduceMod, Nat.reduceDiv, reduceIte]
                  rcases Nat.lt_or_ge (m + j) g.length with h4 | h4
                  · have cg := colG_succ g m k j
                    simp (config := { maxSteps := 1000000 }) (disch := ((try simp only [awL]); omega)) only [QR, QS, QT, QU, QV, QW, QX, QY, QZ, Q0, Q1, Q2, gl, nl, sl, ce, ↓awU, awV, awF, Qa, Qb, Qc, Qd, forall_const, ↓reduceIte, ↓reduceDIte, ↓Qe, Qf, Qg, Qh, Qi, Qj, Qk, Ql, Qm, Qn, Qo, Qp, Qq, Qr, Qs, implies_true, Qt, Qu, Qv, Qw, Qx, Qy, Qz, QA, QB, QC, QD, QE, QF, QG, QH, QI, QJ, QK, QL, QM, QN, QO, QP, QQ]
                    refine CallC.pure (gat_spec g false hg.ok.w ((m + j : Nat) : Int) k (by omega) (by omega) (by omega) (by omega)) ?_
                    generalize atG g ((m + j : Nat) : Int) k = s at *
                    simp (config := { maxSteps := 1000000 }) (disch := ((try simp only [awL]); omega)) only [QR, QS, QT, QU, QV, QW, QX, QY, QZ, Q0, Q1, Q2, gl, nl, sl, ce, ↓awU, awV, awF, Qa, Qb, Qc, Qd, forall_const, ↓reduceIte, ↓reduceDIte, ↓Qe, Qf, Qg, Qh, Qi, Qj, Qk, Ql, Qm, Qn, Qo, Qp, Qq, Qr, Qs, implies_true, Qt, Qu, Qv, Qw, Qx, Qy, Qz, QA, QB, QC, QD, QE, QF, QG, QH, QI, QJ, QK, QL, QM, QN, QO, QP, QQ]
                    have cge : celsD (colG g m k (j + 1)) = celsD (colG g m k j) ++ [.bool false, .str (bs s)] := by rw [cg, celsD_app]; rfl
                    refine ⟨by rfl, by rfl, j + 1, by omega, by simp only; omega, ⟨[some 0, some 1, some 2, some 3, some 4, some 7], rfl, by simp, by simp [setsA, keepA, SWeak, AWeak, Nat.add_assoc], ?_⟩⟩
                    simp [B6, HWeak, BWeak, SWeak, AWeak, cut, cge]
                  · have e : j = g.length - m := by omega
                    subst e
                    simp (config := { maxSteps := 1000000 }) (disch := ((try simp only [awL]); omega)) only [QR, QS, QT, QU, QV, QW, QX, QY, QZ, Q0, Q1, Q2, gl, nl, ↓awU, awV, awF, Qa, Qb, Qc, Qd, forall_const, ↓reduceIte, ↓reduceDIte, ↓Qe, Qf, Qg, Qh, Qi, Qj, Qk, Ql, Qm, Qn, Qo, Qp, Qq, Qr, Qs, implies_true, Qt, Qu, Qv, Qw, Qx, Qy, Qz, QA, QB, QC, QD, QE, QF, QG, QH, QI, QJ, QK, QL, QM, QN, QO, QP, QQ]
                    exact ⟨(), trivial, ⟨[some 0, some 1, some 2, some 3, some 4, some 5], rfl, by simp, by simp [setsA, keepA, SWeak, AWeak], by simp [HWeak, BWeak, SWeak, AWeak]⟩⟩
                · rintro ⟨⟩ -
                  have ce := celsD_length (colG g m k (g.length - m))
                  rw [colG_len] at ce
                  unfold B6
                  simp only [awK, Nat.reduceMod, Nat.reduceDiv, reduceIte]
                  simp (config := { maxSteps := 1000000 }) (disch := ((try simp only [awL]); omega)) only [QR, QS, QT, QU, QV, QW, QX, QY, QZ, Q0, Q1, Q2, gl, nl, sl, ce, cl, ↓awU, awV, awF, Qa, Qb, Qc, Qd, forall_const, ↓reduceIte, ↓reduceDIte, ↓Qe, Qf, Qg, Qh, Qi, Qj, Qk, Ql, Qm, Qn, Qo, Qp, Qq, Qr, Qs, implies_true, Qt, Qu, Qv, Qw, Qx, Qy, Qz, QA, QB, QC, QD, QE, QF, QG, QH, QI, QJ, QK, QL, QM, QN, QO, QP, QQ]
                  have cce : colsD (colsG g m (k + 1)) = colsD (colsG g m k) ++ [.str (bs nm), CelS (colG g m k (g.length - m)) false] := by rw [cs, colsD_app]; rfl
                  have ccs : D.sl (g.length - m) false (cut (celsD (colG g m k (g.length - m))) 0 ((g.length - m) * 2)) = CelS (colG g m k (g.length - m)) false := by
                    rw [cut_all (by rw [ce]; omega)]; unfold CelS; rw [colG_len]
                  rw [ccs]
                  refine ⟨by rfl, k + 1, h3, by simp only; omega, ⟨[some 0, some 1, some 2, some 7], rfl, by simp, by simp [setsA, keepA, SWeak, AWeak], ?_⟩⟩
                  simp [HWeak, BWeak, SWeak, AWeak, cut, cce]
              · have e : k = widG g := by omega
                subst e
                simp (config := { maxSteps := 1000000 }) (disch := ((try simp only [awL]); omega)) only [QR, QS, QT, QU, QV, QW, QX, QY, QZ, Q0, Q1, Q2, gl, nl, ↓awU, awV, awF, Qa, Qb, Qc, Qd, forall_const, ↓reduceIte, ↓reduceDIte, ↓Qe, Qf, Qg, Qh, Qi, Qj, Qk, Ql, Qm, Qn, Qo, Qp, Qq, Qr, Qs, implies_true, Qt, Qu, Qv, Qw, Qx, Qy, Qz, QA, QB, QC, QD, QE, QF, QG, QH, QI, QJ, QK, QL, QM, QN, QO, QP, QQ]
                exact ⟨(), trivial, ⟨[some 0, some 1, some 2, some 3], rfl, by simp, by simp [setsA, keepA, SWeak, AWeak], by simp [HWeak, BWeak, SWeak, AWeak]⟩⟩
            · rintro ⟨⟩ -
              simp only [awK, Nat.reduceMod, Nat.reduceDiv, reduceIte]
              have cl := colsD_length (colsG g m (widG g))
              rw [colsG_len] at cl
              subst hr
              simp (config := { maxSteps := 1000000 }) (disch := ((try simp only [awL]); omega)) only [QR, QS, QT, QU, QV, QW, QX, QY, QZ, Q0, Q1, Q2, gl, cl, ↓awU, awV, awF, Qa, Qb, Qc, Qd, forall_const, ↓reduceIte, ↓reduceDIte, ↓Qe, Qf, Qg, Qh, Qi, Qj, Qk, Ql, Qm, Qn, Qo, Qp, Qq, Qr, Qs, implies_true, Qt, Qu, Qv, Qw, Qx, Qy, Qz, QA, QB, QC, QD, QE, QF, QG, QH, QI, QJ, QK, QL, QM, QN, QO, QP, QQ]
              rw [cut_all (by rw [cl]; omega)]
              unfold tabG TabD ColS
              rw [colsG_len]
        · rw [b3, if_pos rfl] at hr
          subst hr
          simp (config := { maxSteps := 1000000 }) (disch := ((try simp only [awL]); omega)) only [QR, QS, QT, QU, QV, QW, QX, QY, QZ, Q0, Q1, Q2, gl, ↓awU, awV, awF, Qa, Qb, Qc, Qd, forall_const, ↓reduceIte, ↓reduceDIte, ↓Qe, Qf, Qg, Qh, Qi, Qj, Qk, Ql, Qm, Qn, Qo, Qp, Qq, Qr, Qs, implies_true, Qt, Qu, Qv, Qw, Qx, Qy, Qz, QA, QB, QC, QD, QE, QF, QG, QH, QI, QJ, QK, QL, QM, QN, QO, QP, QQ]
          first | done | rfl
      · rw [b2, Bool.true_or, if_pos rfl] at hr
        subst hr
        simp (config := { maxSteps := 1000000 }) (disch := ((try simp only [awL]); omega)) only [QR, QS, QT, QU, QV, QW, QX, QY, QZ, Q0, Q1, Q2, gl, ↓awU, awV, awF, Qa, Qb, Qc, Qd, forall_const, ↓reduceIte, ↓reduceDIte, ↓Qe, Qf, Qg, Qh, Qi, Qj, Qk, Ql, Qm, Qn, Qo, Qp, Qq, Qr, Qs, implies_true, Qt, Qu, Qv, Qw, Qx, Qy, Qz, QA, QB, QC, QD, QE, QF, QG, QH, QI, QJ, QK, QL, QM, QN, QO, QP, QQ]
        first | done | rfl
end Go.Proofs.YthbnileadffpiaaGreatDoor

namespace Go.Proofs.YthbnileadffpiaaGreatDoor
open Go Go.Proofs Go.Abs
variable {G : Globals}
/-! Which tables are valid, by the reference. -/
end Go.Proofs.YthbnileadffpiaaGreatDoor

namespace Go.Proofs.YthbnileadffpiaaGreatDoor
open Go Go.Proofs Go.Abs
variable {G : Globals}
/-! Equal tables are the same. -/
set_option maxHeartbeats 8000000 in
set_option maxRecDepth 100000 in
theorem sameCells_spec (c : Col) (fa fb : Bool) (hc : c.cells.length ≤ 1000000) : Ctr Tryz.prog G 31 [.d (.agg [S c.name, CelS c.cells fa]), .d (.agg [S c.name, CelS c.cells fb])] [] (.d (.bool true)) [] := by
  refine Ctr.pure (M := M0) hmix Tryz.func31 rfl go31 ?_
  have lc := celsD_length c.cells
  simp (config := { maxSteps := 1000000 }) (disch := ((try simp only [awL]); omega)) only [QR, QS, QT, QU, QV, QW, QX, QY, QZ, Q0, Q1, Q2, lc, Tryz.f31, ↓awU, awV, awF, Qa, Qb, Qc, Qd, forall_const, ↓reduceIte, ↓reduceDIte, ↓Qe, Qf, Qg, Qh, Qi, Qj, Qk, Ql, Qm, Qn, Qo, Qp, Qq, Qr, Qs, implies_true, Qt, Qu, Qv, Qw, Qx, Qy, Qz, QA, QB, QC, QD, QE, QF, QG, QH, QI, QJ, QK, QL, QM, QN, QO, QP, QQ]
  refine LoopC.fr 4194316 (α := Nat) (fun i => c.cells.length - i) (fun i => [(23, .d (.int .i64 (i : Nat)))]) (fun _ => [.box [.d (S c.name), .d (CelS c.cells fa)], .box [.d (S c.name), .d (CelS c.cells fb)]]) (fun i => i ≤ c.cells.length) 0 (Nat.zero_le _) ?_ ?_
  · exact ⟨[some 0, some 1], rfl, by simp, by simp [setsA, keepA, SWeak, AWeak], by simp [HWeak, BWeak, SWeak, AWeak]⟩
  · intro i hi
    simp only [awK, Nat.reduceMod, Nat.reduceDiv, reduceIte]
    rcases Nat.lt_or_ge i c.cells.length with h6 | h6
    · have gc := celsD_get h6
      generalize c.cells.getD i noC = x at *
      simp (config := { maxSteps := 1000000 }) (disch := ((try simp only [awL]); omega)) only [QR, QS, QT, QU, QV, QW, QX, QY, QZ, Q0, Q1, Q2, lc, gc, beq_self_eq_true, ↓awU, awV, awF, Qa, Qb, Qc, Qd, forall_const, ↓reduceIte, ↓reduceDIte, ↓Qe, Qf, Qg, Qh, Qi, Qj, Qk, Ql, Qm, Qn, Qo, Qp, Qq, Qr, Qs, implies_true, Qt, Qu, Qv, Qw, Qx, Qy, Qz, QA, QB, QC, QD, QE, QF, QG, QH, QI, QJ, QK, QL, QM, QN, QO, QP, QQ]
      exact ⟨by rfl, i + 1, h6, by simp only; omega, ⟨[some 0, some 1], rfl, by simp, by simp [setsA, keepA, SWeak, AWeak], by simp [HWeak, BWeak, SWeak, AWeak]⟩⟩
    · simp (config := { maxSteps := 1000000 }) (disch := ((try simp only [awL]); omega)) only [QR, QS, QT, QU, QV, QW, QX, QY, QZ, Q0, Q1, Q2, lc, ↓awU, awV, awF, Qa, Qb, Qc, Qd, forall_const, ↓reduceIte, ↓reduceDIte, ↓Qe, Qf, Qg, Qh, Qi, Qj, Qk, Ql, Qm, Qn, Qo, Qp, Qq, Qr, Qs, implies_true, Qt, Qu, Qv, Qw, Qx, Qy, Qz, QA, QB, QC, QD, QE, QF, QG, QH, QI, QJ, QK, QL, QM, QN, QO, QP, QQ]
      first | done | rfl | exact ⟨by rfl, by rfl⟩
end Go.Proofs.YthbnileadffpiaaGreatDoor

namespace Go.Proofs.YthbnileadffpiaaGreatDoor
open Go Go.Proofs Go.Abs
variable {G : Globals}
/-! The reference's Apply. -/
end Go.Proofs.YthbnileadffpiaaGreatDoor

namespace Go.Proofs.YthbnileadffpiaaGreatDoor
open Go Go.Proofs Go.Abs
variable {G : Globals}
/-! The reference's Apply: its walk. -/
end Go.Proofs.YthbnileadffpiaaGreatDoor

namespace Go.Proofs.YthbnileadffpiaaGreatDoor
open Go Go.Proofs Go.Abs
variable {G : Globals}
/-! Header: the sanity check. -/
def saneH : List Row := [[[99, 105, 116, 121], [115, 105, 122, 101]], [[66, 101, 114, 110], [53]], [[85, 108, 109], [55]]]
theorem saneH_ok : okH saneH := by
  refine ⟨by decide, fun r hr => ?_⟩
  simp only [saneH, List.mem_cons, List.not_mem_nil, or_false] at hr
  rcases hr with rfl | rfl | rfl <;> exact ⟨by decide, fun s hs => by simp only [List.mem_cons, List.not_mem_nil, or_false] at hs; rcases hs with rfl | rfl <;> simp⟩
set_option maxRecDepth 100000 in
theorem sane_e1 : (evN saneH 1).fr = 1 ∧ (evN saneH 1).ag = 0 := by decide +kernel
set_option maxRecDepth 100000 in
theorem sane_e0 : (evN saneH 0).fr = 0 ∧ (evN saneH 0).ag = 1 := by decide +kernel
set_option maxRecDepth 100000 in
theorem sane_e2 : (evN saneH 2).fr = 0 ∧ (evN saneH 2).ag = 1 := by decide +kernel
set_option maxRecDepth 100000 in
theorem sane_e3 : (evN saneH 3).fr = 0 ∧ (evN saneH 3).ag = 1 := by decide +kernel
theorem sane_opts : optsH saneH = [evN saneH 1, evN saneH 0, evN saneH 2, evN saneH 3] := by
  have p : preH saneH 4 = [evN saneH 1, evN saneH 0, evN saneH 2, evN saneH 3] := rfl
  have s1 : scO (evN saneH 1) = 1 := by unfold scO; rw [sane_e1.1, sane_e1.2]; rfl
  have s0 : scO (evN saneH 0) = -1 := by unfold scO; rw [sane_e0.1, sane_e0.2]; rfl
  have s2 : scO (evN saneH 2) = -1 := by unfold scO; rw [sane_e2.1, sane_e2.2]; rfl
  have s3 : scO (evN saneH 3) = -1 := by unfold scO; rw [sane_e3.1, sane_e3.2]; rfl
  rw [optsH, p]
  simp [sortB, insB, posB, befH, s1, s0, s2, s3]
set_option maxRecDepth 100000 in
theorem sane_names : namesG saneH 1 2 = [[99, 105, 116, 121], [115, 105, 122, 101]] := by decide +kernel
theorem sane_w : widG saneH = 2 := rfl
set_option maxRecDepth 100000 in
theorem sane_bad : badG 1 [120] saneH 1 = false := by
  unfold badG
  rw [sane_w, sane_names]
  decide +kernel
def saneC : List Col := [⟨[99, 105, 116, 121], [([66, 101, 114, 110], false), ([85, 108, 109], false)]⟩, ⟨[115, 105, 122, 101], [([53], false), ([55], false)]⟩]
theorem sane_apply : applyT 1 [120] saneH 1 = (⟨1, [120], saneC⟩, 0) := by
  unfold applyT
  rw [if_neg (by decide), show (1 : Int).toNat = 1 from rfl, sane_bad, if_neg (by decide), if_neg (by decide)]
  unfold tabG colsG
  rw [sane_w, sane_names]
  rfl
set_option maxRecDepth 100000 in
theorem sane_num : numB [49, 50, 58, 51, 48] = true := by decide +kernel
set_option maxHeartbeats 4000000 in
set_option maxRecDepth 100000 in
theorem hsane_spec (hG : Num.HG G) (hT : HT G) (hI : HI G) : Ctr Tryz.prog G 7 [] [] (.d (.bool true)) [] := by
  refine Ctr.pure (M := M0) hmix Tryz.func7 rfl go7 ?_
  have v1 := evidence_spec hG hI saneH false saneH_ok.ok 1 (by decide) (by decide)
  have v0 := evidence_spec hG hI saneH false saneH_ok.ok 0 (by decide) (by decide)
  have vo := hoptions_spec hG hI saneH false saneH_ok.ok
  have va := apply_spec hT hI saneH false saneH_ok 1 [120] (by decide) 1 (by decide) (by decide) (by decide) (by decide)
  have vn := number_spec9 hG [49, 50, 58, 51, 48] (by decide)
  rw [show evG saneH 1 = evN saneH 1 from rfl] at v1
  rw [show evG saneH 0 = evN saneH 0 from rfl] at v0
  rw [sane_apply] at va
  rw [sane_num] at vn
  have c1 : (evN saneH 1).cells = [S (Lib.decDigits 1), .int .i64 1, .int .i64 0] := by unfold Opt.cells; rw [sane_e1.1, sane_e1.2]; rfl
  have c0 : (evN saneH 0).cells = [S (Lib.decDigits 0), .int .i64 0, .int .i64 1] := by unfold Opt.cells; rw [sane_e0.1, sane_e0.2]; rfl
  rw [c1] at v1
  rw [c0] at v0
  have d1 : Lib.decDigits 1 = [49] := Lib.decDigits_one (by decide)
  have ol : (optsH saneH).length = 4 := by rw [sane_opts]; rfl
  have o0 : (optC (optsH saneH)).getD 0 .nilp = S [49] := by
    rw [sane_opts]
    show S (Lib.decDigits 1) = _
    rw [d1]
  have oc := optC_length (optsH saneH)
  rw [ol] at oc vo
  simp (config := { maxSteps := 1000000 }) (disch := ((try simp only [awL]); omega)) only [QR, QS, QT, QU, QV, QW, QX, QY, QZ, Q0, Q1, Q2, Tryz.f7, ↓awU, awV, awF, Qa, Qb, Qc, Qd, forall_const, ↓reduceIte, ↓reduceDIte, ↓Qe, Qf, Qg, Qh, Qi, Qj, Qk, Ql, Qm, Qn, Qo, Qp, Qq, Qr, Qs, implies_true, Qt, Qu, Qv, Qw, Qx, Qy, Qz, QA, QB, QC, QD, QE, QF, QG, QH, QI, QJ, QK, QL, QM, QN, QO, QP, QQ]
  refine CallC.frozenE v1 (by rfl) ?_
  simp (config := { maxSteps := 1000000 }) (disch := ((try simp only [awL]); omega)) only [QR, QS, QT, QU, QV, QW, QX, QY, QZ, Q0, Q1, Q2, ↓awU, awV, awF, Qa, Qb, Qc, Qd, forall_const, ↓reduceIte, ↓reduceDIte, ↓Qe, Qf, Qg, Qh, Qi, Qj, Qk, Ql, Qm, Qn, Qo, Qp, Qq, Qr, Qs, implies_true, Qt, Qu, Qv, Qw, Qx, Qy, Qz, QA, QB, QC, QD, QE, QF, QG, QH, QI, QJ, QK, QL, QM, QN, QO, QP, QQ]
  refine CallC.frozenE v0 (by rfl) ?_
  simp (config := { maxSteps := 1000000 }) (disch := ((try simp only [awL]); omega)) only [QR, QS, QT, QU, QV, QW, QX, QY, QZ, Q0, Q1, Q2, ↓awU, awV, awF, Qa, Qb, Qc, Qd, forall_const, ↓reduceIte, ↓reduceDIte, ↓Qe, Qf, Qg, Qh, Qi, Qj, Qk, Ql, Qm, Qn, Qo, Qp, Qq, Qr, Qs, implies_true, Qt, Qu, Qv, Qw, Qx, Qy, Qz, QA, QB, QC, QD, QE, QF, QG, QH, QI, QJ, QK, QL, QM, QN, QO, QP, QQ]
  refine CallC.frozenE va (by rfl) ?_
  have cc1 : (colsD saneC).getD 2 .nilp = S [115, 105, 122, 101] := rfl
  have cc0 : (colsD saneC).getD 1 .nilp = CelS [([66, 101, 114, 110], false), ([85, 108, 109], false)] false := rfl
  have cl : (colsD saneC).length = 4 := rfl
  have c2 : saneC.length = 2 := rfl
  simp (config := { maxSteps := 1000000 }) (disch := ((try simp only [awL]); omega)) only [QR, QS, QT, QU, QV, QW, QX, QY, QZ, Q0, Q1, Q2, cl, c2, ↓awU, awV, awF, Qa, Qb, Qc, Qd, forall_const, ↓reduceIte, ↓reduceDIte, ↓Qe, Qf, Qg, Qh, Qi, Qj, Qk, Ql, Qm, Qn, Qo, Qp, Qq, Qr, Qs, implies_true, Qt, Qu, Qv, Qw, Qx, Qy, Qz, QA, QB, QC, QD, QE, QF, QG, QH, QI, QJ, QK, QL, QM, QN, QO, QP, QQ]
  refine CallC.frozenE vo (by rfl) ?_
  generalize optC (optsH saneH) = od at *
  simp (config := { maxSteps := 1000000 }) (disch := ((try simp only [awL]); omega)) only [QR, QS, QT, QU, QV, QW, QX, QY, QZ, Q0, Q1, Q2, oc, o0, cl, c2, cc1, cc0, beq_self_eq_true, ↓awU, awV, awF, Qa, Qb, Qc, Qd, forall_const, ↓reduceIte, ↓reduceDIte, ↓Qe, Qf, Qg, Qh, Qi, Qj, Qk, Ql, Qm, Qn, Qo, Qp, Qq, Qr, Qs, implies_true, Qt, Qu, Qv, Qw, Qx, Qy, Qz, QA, QB, QC, QD, QE, QF, QG, QH, QI, QJ, QK, QL, QM, QN, QO, QP, QQ]
  refine CallC.of vn (by rfl) ?_
  simp (config := { maxSteps := 1000000 }) (disch := ((try simp only [awL]); omega)) only [QR, QS, QT, QU, QV, QW, QX, QY, QZ, Q0, Q1, Q2, ↓awU, awV, awF, Qa, Qb, Qc, Qd, forall_const, ↓reduceIte, ↓reduceDIte, ↓Qe, Qf, Qg, Qh, Qi, Qj, Qk, Ql, Qm, Qn, Qo, Qp, Qq, Qr, Qs, implies_true, Qt, Qu, Qv, Qw, Qx, Qy, Qz, QA, QB, QC, QD, QE, QF, QG, QH, QI, QJ, QK, QL, QM, QN, QO, QP, QQ]
  first | done | rfl | exact ⟨by rfl, by rfl⟩
end Go.Proofs.YthbnileadffpiaaGreatDoor

namespace Go.Proofs.YthbnileadffpiaaGreatDoor
open Go Go.Proofs Go.Abs
variable {G : Globals}
/-! Header: what the tables of the dice's grids are (plain). -/
theorem OddG.okH {g : List Row} {m n : Nat} (h : OddG g m n) (hm : m ≤ 100) (hn : n ≤ 64) : okH g :=
  ⟨by have := h.len; omega, fun r hr => ⟨by have := (h.row r hr).2; omega, fun s hs => by have := (h.txt r hr s hs).2; omega⟩⟩
theorem OddG.at {g : List Row} {m n : Nat} (h : OddG g m n) (i k : Int) : okT (atG g i k) := by
  unfold atG
  split
  · exact okT_nil
  · rcases Nat.lt_or_ge i.toNat g.length with h1 | h1
    · have m1 := h.txt _ (memD (d := []) h1)
      generalize g.getD i.toNat [] = r at *
      rcases Nat.lt_or_ge k.toNat r.length with h2 | h2
      · exact m1 _ (memD (d := []) h2)
      · rw [List.getD_eq_getElem?_getD, List.getElem?_eq_none h2]; exact okT_nil
    · have e : g.getD i.toNat [] = [] := by rw [List.getD_eq_getElem?_getD, List.getElem?_eq_none h1]; rfl
      rw [e]; exact okT_nil
theorem fine_of {s : List UInt8} (h : okT s) : fineB s = true := by
  unfold fineB; rw [h.1, decide_eq_true (by have := h.2; omega)]; rfl
theorem valid_dec (n : Nat) : Lib.validD (Lib.decDigits n) = true := valid_ascii _ fun c hc => by have := (dec_bytes n c hc).2; omega
theorem valid_jt : ∀ l : Row, (∀ s ∈ l, Lib.validD s = true) → Lib.validD (Lib.joinTail [32] l) = true
  | [], _ => rfl
  | x :: l, h => by
    have e : Lib.joinTail [32] (x :: l) = [32] ++ (x ++ Lib.joinTail [32] l) := by simp [Lib.joinTail]
    rw [e]
    exact valid_app (by decide) (valid_app (h x (by simp)) (valid_jt l fun s hs => h s (List.mem_cons_of_mem _ hs)))
theorem valid_join {l : Row} (h : ∀ s ∈ l, Lib.validD s = true) : Lib.validD (Lib.join l [32]) = true := by
  rcases l with _ | ⟨x, l⟩
  · rfl
  · rw [Lib.join_cons]
    exact valid_app (h x (by simp)) (valid_jt l fun s hs => h s (List.mem_cons_of_mem _ hs))
theorem OddG.base {g : List Row} {m n : Nat} (h : OddG g m n) {k p : Nat} (hp : p ≤ 3) (hk : k < 1000) : Lib.validD (baseG g k p) = true ∧ (baseG g k p).length ≤ 200 := by
  have mem : ∀ s ∈ partsG g k p, okT s := fun s hs => by
    obtain ⟨i, _, rfl⟩ := List.mem_map.1 (List.mem_filter.1 hs).1
    have a := h.at i k
    exact ⟨valid_trim a.1, Nat.le_trans (trimB_len _) a.2⟩
  have mb : ∀ s ∈ baseP g k p, Lib.validD s = true ∧ s.length ≤ 30 := fun s hs => by
    unfold baseP at hs
    split at hs
    · rcases List.mem_cons.1 hs with rfl | hs
      · exact ⟨by decide, by decide⟩
      · rw [List.mem_singleton.1 hs]
        exact ⟨valid_dec _, by have := dec_len (n := k + 1) (by omega); omega⟩
    · exact mem s hs
  have l : (baseP g k p).length ≤ 3 := by
    unfold baseP
    split
    · simp
    · have := partsG_len g k p; omega
  refine ⟨valid_join fun s hs => (mb s hs).1, ?_⟩
  have j := join_len [32] 30 (Nat.le_refl _) (baseP g k p) fun s hs => (mb s hs).2
  have : (baseP g k p).length * (30 + 1) ≤ 3 * (30 + 1) := Nat.mul_le_mul_right _ l
  unfold baseG; omega
theorem OddG.names {g : List Row} {m n : Nat} (h : OddG g m n) {p : Nat} (hp : p ≤ 3) : ∀ k, k ≤ 1000 → ∀ s ∈ namesG g p k, fineB s = true
  | 0, _, s, hs => by cases hs
  | k + 1, hk, s, hs => by
    rw [namesG] at hs
    rcases List.mem_append.1 hs with hs | hs
    · exact h.names hp k (by omega) s hs
    · rw [List.mem_singleton.1 hs]
      obtain ⟨b1, b2⟩ := h.base (k := k) hp (by omega)
      have nl := namesG_len g p k
      obtain ⟨h1, h2⟩ := nameN_free (out := namesG g p k) (b := baseG g k p) (by omega)
      unfold fineB
      rcases h2 with h2 | ⟨h2, q, h3, h4, h5⟩
      · rw [h2, b1, decide_eq_true (by omega)]; rfl
      · rw [h4]
        have : q ≤ 1001 := by
          rcases Nat.lt_or_ge q 100000 with z | z
          · have := takenTo_le h2 h5 z; omega
          · have := takenTo_le (n := 99999) h2 (fun j j1 j2 => h5 j j1 (by omega)) (by omega); omega
        have cl := cand_len (b := baseG g k p) (n := q) (by omega)
        rw [decide_eq_true (by omega), cand, valid_app (valid_app b1 (by decide)) (valid_dec q)]; rfl
theorem OddG.wid {g : List Row} {m n : Nat} (h : OddG g m n) : widG g ≤ n := widG_le fun r hr => (h.row r hr).2
theorem OddG.badG {g : List Row} {m n : Nat} (h : OddG g m n) (hn : n ≤ 64) {p : Nat} (hp : p ≤ 3) {id : Int} {name : List UInt8} (hi : okId id name = true) : badG id name g p = false := by
  unfold Proofs.YthbnileadffpiaaGreatDoor.badG
  rw [hi]
  have a : (namesG g p (widG g)).any badB = false := List.any_eq_false.2 fun s hs => by
    have := h.names hp (widG g) (by have := h.wid; omega) s hs
    simp [badB, this]
  have b : (g.drop p).any (fun r => r.any badB) = false := List.any_eq_false.2 fun r hr => by
    have : r.any badB = false := List.any_eq_false.2 fun s hs => by
      have := fine_of (h.txt r (List.mem_of_mem_drop hr) s hs)
      simp [badB, this]
    rw [this]; decide
  rw [a, b]; rfl
theorem OddG.apply {g : List Row} {m n : Nat} (h : OddG g m n) (hm : m ≤ 100) (hn : n ≤ 64) {p : Nat} (hp : p ≤ 3) (hpl : p ≤ g.length) {id : Int} {name : List UInt8} (hi : okId id name = true) : applyT id name g p = (tabG id name g p, 0) := by
  unfold applyT
  have := h.wid
  have := h.len
  rw [if_neg (by omega), Int.toNat_natCast, h.badG hn hp hi, if_neg (by decide), if_neg (by omega)]
end Go.Proofs.YthbnileadffpiaaGreatDoor

namespace Go.Proofs.YthbnileadffpiaaGreatDoor
open Go Go.Proofs Go.Abs
variable {G : Globals}
/-! The law HeaderNames. -/
theorem colsG_get {g : List Row} {p w k : Nat} (h : k < w) : (colsG g p w).getD k noCol = ⟨(namesG g p (widG g)).getD k [], colG g p k (g.length - p)⟩ := by
  unfold colsG
  rw [List.getD_eq_getElem?_getD, List.getElem?_map, List.getElem?_range h]; rfl
end Go.Proofs.YthbnileadffpiaaGreatDoor

namespace Go.Proofs.YthbnileadffpiaaGreatDoor
open Go Go.Proofs Go.Abs
variable {G : Globals}
/-! The law HeaderRows. -/
theorem colG_tail {g : List Row} {p k : Nat} (h : p + 1 ≤ g.length) : (colG g p k (g.length - p)).drop 1 = colG g (p + 1) k (g.length - (p + 1)) := by
  unfold colG
  obtain ⟨q, hq⟩ : ∃ q, g.length - p = q + 1 := ⟨g.length - p - 1, by omega⟩
  rw [hq, show g.length - (p + 1) = q by omega, List.range_succ_eq_map, List.map_cons, List.drop_one, List.tail_cons, List.map_map]
  refine List.map_congr_left fun i _ => ?_
  simp only [Function.comp]
  rw [show p + Nat.succ i = p + 1 + i by omega]
theorem celsD_drop (l : List Cel) : (celsD l).drop 2 = celsD (l.drop 1) := by
  rcases l with _ | ⟨c, l⟩
  · rfl
  · rfl
theorem colsD_get1 : ∀ {l : List Col} {k : Nat}, k < l.length → (colsD l).getD (k * 2 + 1) .nilp = CelS (l.getD k noCol).cells false
  | [], k, h => absurd h (Nat.not_lt_zero _)
  | o :: l, 0, _ => by simp [colsD, ColC]
  | o :: l, k + 1, h => by
    have ih := colsD_get1 (l := l) (k := k) (by simpa using h)
    have e : colsD (o :: l) = ColC o ++ colsD l := by simp [colsD]
    rw [e, show (k + 1) * 2 + 1 = k * 2 + 1 + 2 by omega, List.getD_cons_succ, ← ih]
    rfl
def lastB (g : List Row) : Nat → ABlk
  | 0 => .box [.d (.int .i64 0), .d (.str ByteArray.empty), .d (.sl 0 true [])]
  | q + 1 => .box [.d (.int .i64 1), .d (S [120]), .d (.sl (widG g) false (colsD (colsG g q (widG g))))]
set_option maxHeartbeats 32000000 in
set_option maxRecDepth 100000 in
theorem hrows_law (hG : Num.HG G) (hT : HT G) (hI : HI G) (t : List Int) (ht : OkS t) (hl : t.length ≤ 9223372036854775807) :
    Ctr Tryz.prog G 6 [.d (.sl t.length false (ints .u8 t))] [] (.d (.bool true)) [] := by
  refine Ctr.pure (M := M0) hmix Tryz.func6 rfl go6 ?_
  have hmm := ht.take
  simp (config := { maxSteps := 1000000 }) (disch := ((try simp only [awL]); omega)) only [QR, QS, QT, QU, QV, QW, QX, QY, QZ, Q0, Q1, Q2, Tryz.f6, ↓awU, awV, awF, Qa, Qb, Qc, Qd, forall_const, ↓reduceIte, ↓reduceDIte, ↓Qe, Qf, Qg, Qh, Qi, Qj, Qk, Ql, Qm, Qn, Qo, Qp, Qq, Qr, Qs, implies_true, Qt, Qu, Qv, Qw, Qx, Qy, Qz, QA, QB, QC, QD, QE, QF, QG, QH, QI, QJ, QK, QL, QM, QN, QO, QP, QQ]
  refine CallC.pure (hsane_spec hG hT hI) ?_
  simp (config := { maxSteps := 1000000 }) (disch := ((try simp only [awL]); omega)) only [QR, QS, QT, QU, QV, QW, QX, QY, QZ, Q0, Q1, Q2, ↓awU, awV, awF, Qa, Qb, Qc, Qd, forall_const, ↓reduceIte, ↓reduceDIte, ↓Qe, Qf, Qg, Qh, Qi, Qj, Qk, Ql, Qm, Qn, Qo, Qp, Qq, Qr, Qs, implies_true, Qt, Qu, Qv, Qw, Qx, Qy, Qz, QA, QB, QC, QD, QE, QF, QG, QH, QI, QJ, QK, QL, QM, QN, QO, QP, QQ]
  refine CallC.by (new_spec t hl) (by rfl) (by rfl) (Nat.zero_le _) ?_
  generalize t.take 300 = s at *
  simp (config := { maxSteps := 1000000 }) (disch := ((try simp only [awL]); omega)) only [QR, QS, QT, QU, QV, QW, QX, QY, QZ, Q0, Q1, Q2, ↓awU, awV, awF, Qa, Qb, Qc, Qd, forall_const, ↓reduceIte, ↓reduceDIte, ↓Qe, Qf, Qg, Qh, Qi, Qj, Qk, Ql, Qm, Qn, Qo, Qp, Qq, Qr, Qs, implies_true, Qt, Qu, Qv, Qw, Qx, Qy, Qz, QA, QB, QC, QD, QE, QF, QG, QH, QI, QJ, QK, QL, QM, QN, QO, QP, QQ]
  refine CallC.by (odd_spec s 0 7 5 hmm (by omega) (by omega) (by omega)) (by rfl) (by rfl) (Nat.le_refl _) ?_
  have og := oddG_ok s 0 7 5 (by omega)
  generalize oddG s 0 7 5 = g at *
  generalize oddK s 0 7 5 = k0 at *
  have gl := @rowsD_length g
  have gle := og.len
  have gw := og.wid
  have hok := og.okH (by omega) (by omega)
  simp (config := { maxSteps := 1000000 }) (disch := ((try simp only [awL]); omega)) only [QR, QS, QT, QU, QV, QW, QX, QY, QZ, Q0, Q1, Q2, gl, ↓awU, awV, awF, Qa, Qb, Qc, Qd, forall_const, ↓reduceIte, ↓reduceDIte, ↓Qe, Qf, Qg, Qh, Qi, Qj, Qk, Ql, Qm, Qn, Qo, Qp, Qq, Qr, Qs, implies_true, Qt, Qu, Qv, Qw, Qx, Qy, Qz, QA, QB, QC, QD, QE, QF, QG, QH, QI, QJ, QK, QL, QM, QN, QO, QP, QQ]
  refine LoopC.fr 48 (α := Nat) (fun n => 5 - n) (fun n => [(6, .d (.int .i64 (n : Nat)))]) (fun n => [DiceM s k0, .box [.d (Gr g false)], lastB g n]) (fun n => n ≤ 4 ∧ n ≤ g.length + 1) 0 ⟨by omega, by omega⟩ ?_ ?_
  · exact ⟨[some 0, some 1, some 2], rfl, by simp, by simp [setsA, keepA, SWeak, AWeak], by simp [HWeak, BWeak, SWeak, AWeak, lastB]⟩
  · rintro n ⟨n4, nl⟩
    simp only [awK, Nat.reduceMod, Nat.reduceDiv, reduceIte]
    rcases (by omega : (n ≤ 3 ∧ n ≤ g.length) ∨ n = 4 ∨ (n ≤ 3 ∧ n = g.length + 1)) with h | h | h
    · have cl := colsD_length (colsG g n (widG g))
      have cn := colsG_len g n (widG g)
      rw [cn] at cl
      have le1 := cntB_le (proB g n) (widG g)
      have le2 := cntB_le (conB g n) (widG g)
      have va := apply_spec hT hI g false hok 1 [120] (by decide) n (by omega) (by omega) (by omega) (by omega)
      rw [og.apply (by omega) (by omega) h.1 h.2 (by decide)] at va
      unfold TabD at va
      rw [show (tabG 1 [120] g n).id = 1 from rfl, show (tabG 1 [120] g n).name = [120] from rfl, show (tabG 1 [120] g n).cols = colsG g n (widG g) from rfl] at va
      unfold ColS at va
      rw [cn] at va
      have ve := evidence_spec hG hI g false hok.ok n (by omega) (by omega)
      rw [evG_nat h.1 h.2] at ve
      have ec : (evN g n).cells = [S (Lib.decDigits n), .int .i64 (cntB (proB g n) (widG g) : Nat), .int .i64 (cntB (conB g n) (widG g) : Nat)] := rfl
      rw [ec] at ve
      generalize cntB (proB g n) (widG g) = x1 at *
      generalize cntB (conB g n) (widG g) = x2 at *
      have hlB : lastB g n = lastB g n := rfl
      rcases n with _ | q
      · unfold lastB
        simp (config := { maxSteps := 1000000 }) (disch := ((try simp only [awL]); omega)) only [QR, QS, QT, QU, QV, QW, QX, QY, QZ, Q0, Q1, Q2, gl, ↓awU, awV, awF, Qa, Qb, Qc, Qd, forall_const, ↓reduceIte, ↓reduceDIte, ↓Qe, Qf, Qg, Qh, Qi, Qj, Qk, Ql, Qm, Qn, Qo, Qp, Qq, Qr, Qs, implies_true, Qt, Qu, Qv, Qw, Qx, Qy, Qz, QA, QB, QC, QD, QE, QF, QG, QH, QI, QJ, QK, QL, QM, QN, QO, QP, QQ]
        refine CallC.of va (by rfl) ?_
        simp (config := { maxSteps := 1000000 }) (disch := ((try simp only [awL]); omega)) only [QR, QS, QT, QU, QV, QW, QX, QY, QZ, Q0, Q1, Q2, gl, ↓awU, awV, awF, Qa, Qb, Qc, Qd, forall_const, ↓reduceIte, ↓reduceDIte, ↓Qe, Qf, Qg, Qh, Qi, Qj, Qk, Ql, Qm, Qn, Qo, Qp, Qq, Qr, Qs, implies_true, Qt, Qu, Qv, Qw, Qx, Qy, Qz, QA, QB, QC, QD, QE, QF, QG, QH, QI, QJ, QK, QL, QM, QN, QO, QP, QQ]
        refine CallC.of ve (by rfl) ?_
        simp (config := { maxSteps := 1000000 }) (disch := ((try simp only [awL]); omega)) only [QR, QS, QT, QU, QV, QW, QX, QY, QZ, Q0, Q1, Q2, gl, cl, cn, ↓awU, awV, awF, Qa, Qb, Qc, Qd, forall_const, ↓reduceIte, ↓reduceDIte, ↓Qe, Qf, Qg, Qh, Qi, Qj, Qk, Ql, Qm, Qn, Qo, Qp, Qq, Qr, Qs, implies_true, Qt, Qu, Qv, Qw, Qx, Qy, Qz, QA, QB, QC, QD, QE, QF, QG, QH, QI, QJ, QK, QL, QM, QN, QO, QP, QQ]
        refine CallC.pure (rwidth_spec g false hok.ok.w) ?_
        simp (config := { maxSteps := 1000000 }) (disch := ((try simp only [awL]); omega)) only [QR, QS, QT, QU, QV, QW, QX, QY, QZ, Q0, Q1, Q2, gl, cl, cn, ↓awU, awV, awF, Qa, Qb, Qc, Qd, forall_const, ↓reduceIte, ↓reduceDIte, ↓Qe, Qf, Qg, Qh, Qi, Qj, Qk, Ql, Qm, Qn, Qo, Qp, Qq, Qr, Qs, implies_true, Qt, Qu, Qv, Qw, Qx, Qy, Qz, QA, QB, QC, QD, QE, QF, QG, QH, QI, QJ, QK, QL, QM, QN, QO, QP, QQ]
        refine ⟨by rfl, ?_⟩
        refine LoopC.fr 226673591177742970257648 (α := Nat) (fun k => widG g - k) (fun k => [(78, .d (.int .i64 (k : Nat)))]) (fun _ => [DiceM s k0, .box [.d (Gr g false)], .box [.d (.int .i64 0), .d (.str ByteArray.empty), .d (.sl 0 true [])], .box [.d (.int .i64 1), .d (S [120]), .d (.sl (widG g) false (colsD (colsG g 0 (widG g))))]]) (fun k => k ≤ widG g) 0 (Nat.zero_le _) ?_ ?_
        · exact ⟨[some 0, some 1, some 2, some 3], rfl, by simp, by simp [setsA, keepA, SWeak, AWeak], by simp [HWeak, BWeak, SWeak, AWeak]⟩
        · intro k hk
          simp only [awK, Nat.reduceMod, Nat.reduceDiv, reduceIte]
          rcases Nat.lt_or_ge k (widG g) with h3 | h3
          · have gk := colsD_get (l := colsG g 0 (widG g)) (k := k) (by omega)
            rw [colsG_get h3] at gk
            simp (config := { maxSteps := 1000000 }) (disch := ((try simp only [awL]); omega)) only [QR, QS, QT, QU, QV, QW, QX, QY, QZ, Q0, Q1, Q2, cl, cn, gk, ↓awU, awV, awF, Qa, Qb, Qc, Qd, forall_const, ↓reduceIte, ↓reduceDIte, ↓Qe, Qf, Qg, Qh, Qi, Qj, Qk, Ql, Qm, Qn, Qo, Qp, Qq, Qr, Qs, implies_true, Qt, Qu, Qv, Qw, Qx, Qy, Qz, QA, QB, QC, QD, QE, QF, QG, QH, QI, QJ, QK, QL, QM, QN, QO, QP, QQ]
            exact ⟨by rfl, k + 1, h3, by simp only; omega, ⟨[some 0, some 1, some 2, some 3], rfl, by simp, by simp [setsA, keepA, SWeak, AWeak], by simp [HWeak, BWeak, SWeak, AWeak]⟩⟩
          · have e : k = widG g := by omega
            subst e
            simp (config := { maxSteps := 1000000 }) (disch := ((try simp only [awL]); omega)) only [QR, QS, QT, QU, QV, QW, QX, QY, QZ, Q0, Q1, Q2, cl, cn, ↓awU, awV, awF, Qa, Qb, Qc, Qd, forall_const, ↓reduceIte, ↓reduceDIte, ↓Qe, Qf, Qg, Qh, Qi, Qj, Qk, Ql, Qm, Qn, Qo, Qp, Qq, Qr, Qs, implies_true, Qt, Qu, Qv, Qw, Qx, Qy, Qz, QA, QB, QC, QD, QE, QF, QG, QH, QI, QJ, QK, QL, QM, QN, QO, QP, QQ]
            exact ⟨1, ⟨by omega, by omega⟩, by simp only; omega, ⟨[some 0, some 1, some 2], rfl, by simp, by simp [setsA, keepA, SWeak, AWeak], by simp [HWeak, BWeak, SWeak, AWeak, lastB]⟩⟩
      · unfold lastB
        simp (config := { maxSteps := 1000000 }) (disch := ((try simp only [awL]); omega)) only [QR, QS, QT, QU, QV, QW, QX, QY, QZ, Q0, Q1, Q2, gl, ↓awU, awV, awF, Qa, Qb, Qc, Qd, forall_const, ↓reduceIte, ↓reduceDIte, ↓Qe, Qf, Qg, Qh, Qi, Qj, Qk, Ql, Qm, Qn, Qo, Qp, Qq, Qr, Qs, implies_true, Qt, Qu, Qv, Qw, Qx, Qy, Qz, QA, QB, QC, QD, QE, QF, QG, QH, QI, QJ, QK, QL, QM, QN, QO, QP, QQ]
        refine CallC.of va (by rfl) ?_
        simp (config := { maxSteps := 1000000 }) (disch := ((try simp only [awL]); omega)) only [QR, QS, QT, QU, QV, QW, QX, QY, QZ, Q0, Q1, Q2, gl, ↓awU, awV, awF, Qa, Qb, Qc, Qd, forall_const, ↓reduceIte, ↓reduceDIte, ↓Qe, Qf, Qg, Qh, Qi, Qj, Qk, Ql, Qm, Qn, Qo, Qp, Qq, Qr, Qs, implies_true, Qt, Qu, Qv, Qw, Qx, Qy, Qz, QA, QB, QC, QD, QE, QF, QG, QH, QI, QJ, QK, QL, QM, QN, QO, QP, QQ]
        refine CallC.of ve (by rfl) ?_
        simp (config := { maxSteps := 1000000 }) (disch := ((try simp only [awL]); omega)) only [QR, QS, QT, QU, QV, QW, QX, QY, QZ, Q0, Q1, Q2, gl, cl, cn, ↓awU, awV, awF, Qa, Qb, Qc, Qd, forall_const, ↓reduceIte, ↓reduceDIte, ↓Qe, Qf, Qg, Qh, Qi, Qj, Qk, Ql, Qm, Qn, Qo, Qp, Qq, Qr, Qs, implies_true, Qt, Qu, Qv, Qw, Qx, Qy, Qz, QA, QB, QC, QD, QE, QF, QG, QH, QI, QJ, QK, QL, QM, QN, QO, QP, QQ]
        refine CallC.pure (rwidth_spec g false hok.ok.w) ?_
        simp (config := { maxSteps := 1000000 }) (disch := ((try simp only [awL]); omega)) only [QR, QS, QT, QU, QV, QW, QX, QY, QZ, Q0, Q1, Q2, gl, cl, cn, ↓awU, awV, awF, Qa, Qb, Qc, Qd, forall_const, ↓reduceIte, ↓reduceDIte, ↓Qe, Qf, Qg, Qh, Qi, Qj, Qk, Ql, Qm, Qn, Qo, Qp, Qq, Qr, Qs, implies_true, Qt, Qu, Qv, Qw, Qx, Qy, Qz, QA, QB, QC, QD, QE, QF, QG, QH, QI, QJ, QK, QL, QM, QN, QO, QP, QQ]
        refine ⟨by rfl, ?_⟩
        refine LoopC.fr 226673591177742970257648 (α := Nat) (fun k => widG g - k) (fun k => [(78, .d (.int .i64 (k : Nat)))]) (fun _ => [DiceM s k0, .box [.d (Gr g false)], .box [.d (.int .i64 1), .d (S [120]), .d (.sl (widG g) false (colsD (colsG g q (widG g))))], .box [.d (.int .i64 1), .d (S [120]), .d (.sl (widG g) false (colsD (colsG g (q + 1) (widG g))))]]) (fun k => k ≤ widG g) 0 (Nat.zero_le _) ?_ ?_
        · exact ⟨[some 0, some 1, some 2, some 3], rfl, by simp, by simp [setsA, keepA, SWeak, AWeak], by simp [HWeak, BWeak, SWeak, AWeak]⟩
        · intro k hk
          simp only [awK, Nat.reduceMod, Nat.reduceDiv, reduceIte]
          rcases Nat.lt_or_ge k (widG g) with h3 | h3
          · have gk := colsD_get (l := colsG g (q + 1) (widG g)) (k := k) (by omega)
            rw [colsG_get h3] at gk
            have g1 := colsD_get1 (l := colsG g q (widG g)) (k := k) (by rw [colsG_len]; exact h3)
            rw [colsG_get h3] at g1
            have cl2 := colsD_length (colsG g q (widG g))
            rw [colsG_len] at cl2
            obtain ⟨d, hd⟩ : ∃ d, g.length - (q + 1) = d := ⟨_, rfl⟩
            have hd2 : g.length - q = d + 1 := by omega
            have ct := colG_tail (g := g) (p := q) (k := k) (by omega)
            rw [hd2] at g1 ct
            rw [hd] at gk ct
            have ln1 := colG_len g (q + 1) k d
            have ln2 := colG_len g q k (d + 1)
            have lc2 := celsD_length (colG g q k (d + 1))
            rw [ln2] at lc2
            have lc1 := celsD_length (colG g (q + 1) k d)
            rw [ln1] at lc1
            have hcut : cut (celsD (colG g q k (d + 1))) 2 (d * 2) = celsD (colG g (q + 1) k d) := by
              unfold cut
              rw [celsD_drop, ct, List.take_of_length_le (by omega)]
            have sc := sameCells_spec (G := G) ⟨[], colG g (q + 1) k d⟩ false false (by show (colG g (q + 1) k d).length ≤ _; rw [ln1]; omega)
            have e1 : ((d : Nat) : Int) + 1 = ((d + 1 : Nat) : Int) := by omega
            unfold CelS at sc g1
            have gk' : List.take 2 (List.drop (k * 2) (colsD (colsG g (q + 1) (widG g)))) = [S ((namesG g (q + 1) (widG g)).getD k []), .sl (colG g (q + 1) k d).length false (celsD (colG g (q + 1) k d))] := gk
            replace gk := gk'
            simp only [ln1, ln2] at sc g1 gk
            generalize colG g (q + 1) k d = ca at *
            generalize colG g q k (d + 1) = cb at *
            generalize colsD (colsG g q (widG g)) = la at *
            generalize colsD (colsG g (q + 1) (widG g)) = lb at *
            simp (config := { maxSteps := 1000000 }) (disch := ((try simp only [awL]); omega)) only [QR, QS, QT, QU, QV, QW, QX, QY, QZ, Q0, Q1, Q2, cl, cn, gk, g1, cl2, ln1, ln2, lc1, lc2, hcut, e1, ↓awU, awV, awF, Qa, Qb, Qc, Qd, forall_const, ↓reduceIte, ↓reduceDIte, ↓Qe, Qf, Qg, Qh, Qi, Qj, Qk, Ql, Qm, Qn, Qo, Qp, Qq, Qr, Qs, implies_true, Qt, Qu, Qv, Qw, Qx, Qy, Qz, QA, QB, QC, QD, QE, QF, QG, QH, QI, QJ, QK, QL, QM, QN, QO, QP, QQ]
            refine CallC.of sc (by rw [Nat.add_sub_cancel, hcut]; rfl) ?_
            simp (config := { maxSteps := 1000000 }) (disch := ((try simp only [awL]); omega)) only [QR, QS, QT, QU, QV, QW, QX, QY, QZ, Q0, Q1, Q2, ↓awU, awV, awF, Qa, Qb, Qc, Qd, forall_const, ↓reduceIte, ↓reduceDIte, ↓Qe, Qf, Qg, Qh, Qi, Qj, Qk, Ql, Qm, Qn, Qo, Qp, Qq, Qr, Qs, implies_true, Qt, Qu, Qv, Qw, Qx, Qy, Qz, QA, QB, QC, QD, QE, QF, QG, QH, QI, QJ, QK, QL, QM, QN, QO, QP, QQ]
            first
            | exact ⟨by rfl, k + 1, h3, by simp only; omega, ⟨[some 0, some 1, some 2, some 3], rfl, by simp, by simp [setsA, keepA, SWeak, AWeak], by simp [HWeak, BWeak, SWeak, AWeak]⟩⟩
          · have e : k = widG g := by omega
            subst e
            simp (config := { maxSteps := 1000000 }) (disch := ((try simp only [awL]); omega)) only [QR, QS, QT, QU, QV, QW, QX, QY, QZ, Q0, Q1, Q2, cl, cn, ↓awU, awV, awF, Qa, Qb, Qc, Qd, forall_const, ↓reduceIte, ↓reduceDIte, ↓Qe, Qf, Qg, Qh, Qi, Qj, Qk, Ql, Qm, Qn, Qo, Qp, Qq, Qr, Qs, implies_true, Qt, Qu, Qv, Qw, Qx, Qy, Qz, QA, QB, QC, QD, QE, QF, QG, QH, QI, QJ, QK, QL, QM, QN, QO, QP, QQ]
            exact ⟨q + 2, ⟨by omega, by omega⟩, by simp only; omega, ⟨[some 0, some 1, some 2], rfl, by simp, by (try simp [setsA, keepA, SWeak, AWeak]); try omega, by simp [HWeak, BWeak, SWeak, AWeak, lastB]⟩⟩
    · subst h
      unfold lastB
      simp (config := { maxSteps := 1000000 }) (disch := ((try simp only [awL]); omega)) only [QR, QS, QT, QU, QV, QW, QX, QY, QZ, Q0, Q1, Q2, gl, ↓awU, awV, awF, Qa, Qb, Qc, Qd, forall_const, ↓reduceIte, ↓reduceDIte, ↓Qe, Qf, Qg, Qh, Qi, Qj, Qk, Ql, Qm, Qn, Qo, Qp, Qq, Qr, Qs, implies_true, Qt, Qu, Qv, Qw, Qx, Qy, Qz, QA, QB, QC, QD, QE, QF, QG, QH, QI, QJ, QK, QL, QM, QN, QO, QP, QQ]
      first | done | rfl
    · obtain ⟨h1, rfl⟩ := h
      unfold lastB
      simp (config := { maxSteps := 1000000 }) (disch := ((try simp only [awL]); omega)) only [QR, QS, QT, QU, QV, QW, QX, QY, QZ, Q0, Q1, Q2, gl, ↓awU, awV, awF, Qa, Qb, Qc, Qd, forall_const, ↓reduceIte, ↓reduceDIte, ↓Qe, Qf, Qg, Qh, Qi, Qj, Qk, Ql, Qm, Qn, Qo, Qp, Qq, Qr, Qs, implies_true, Qt, Qu, Qv, Qw, Qx, Qy, Qz, QA, QB, QC, QD, QE, QF, QG, QH, QI, QJ, QK, QL, QM, QN, QO, QP, QQ]
      first | done | rfl
end Go.Proofs.YthbnileadffpiaaGreatDoor
