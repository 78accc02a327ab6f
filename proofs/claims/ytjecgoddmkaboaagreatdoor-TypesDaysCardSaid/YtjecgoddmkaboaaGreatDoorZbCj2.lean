/-
  Contracts of the functions, one after another.
-/
import Derived.Test.YtjecgoddmkaboaaGreatDoorZbCj1
set_option linter.all false
open Go.Abs renaming ofVal → Qa, ofVal0 → Qb, isShift → Qc, aggK → Qd, purePost → Qe, combine → Qf, idsA → Qg, cellsA → Qh, numsOf → Qi, srcA → Qj, calleeA → Qk, refsA → Ql, isScalar → Qm, scalarD → Qn, scalar0 → Qo, putL → Qr, unfA → Qs, sidsB → QJ, keyKD → QL, isIntK → QM, aggD → QN, aggL → QO, eqKs → QP, boxRow → QQ, nextC_more → QT, nextC_over → QU, bs_size → QV, bs_extract → QW, bs_toList → QX, bs_append → QY, byteAt_bs → QZ, bs_cells → Q0, nums_length → Q1, nums_getD → Q2
open Go.Abs.AV renaming one → Qp
open Go.Abs.D renaming one → Qq
open Go.IntKind renaming signed → Qt
open Nat renaming reduceAdd → Qu, reduceSub → Qv, reduceMul → Qw, reducePow → Qx, reduceDiv → Qy, reduceMod → Qz, reduceEqDiff → QI, reduceBEq → QK
open Int renaming reduceAdd → QA, reduceSub → QB, reduceMul → QC, reducePow → QD, reduceNeg → QE, reduceToNat → QF, reduceLT → QG, reduceLE → QH
open Option renaming toList_some → QR, toList_none → QS
namespace Go.Proofs.YtjecgoddmkaboaaGreatDoor
open Go Go.Proofs Go.Abs
variable {G : Globals}
/-! The law TypesDays. -/
set_option maxRecDepth 100000 in
theorem ex_dec : Num.decOk (Lib.trimB [43, 48, 48, 55, 46, 53, 48] 32) = true ∧ canD (Lib.trimB [43, 48, 48, 55, 46, 53, 48] 32) = [55, 46, 53] ∧ Num.decOk (Lib.trimB [45, 48, 46, 48] 32) = true ∧ canD (Lib.trimB [45, 48, 46, 48] 32) = [48] := by decide +kernel
theorem ex_day : okDt 1969 12 31 = true ∧ dayV 1969 12 31 = -1 := by decide +kernel
theorem ex_date : IsDt (0 + 719162) 1970 0 0 := by unfold IsDt; decide +kernel
set_option maxHeartbeats 4000000 in
set_option maxRecDepth 100000 in
theorem tsane_spec (hG : Num.HG G) : Ctr Tryz.prog G 4 [] [] (.d (.bool true)) [] := by
  refine Ctr.pure (M := M0) hmix Tryz.func4 rfl go4 ?_
  obtain ⟨a1, a2, a3, a4⟩ := ex_dec
  have s1 := canon4_spec hG [43, 48, 48, 55, 46, 53, 48] (by decide)
  have s2 := canon4_spec hG [45, 48, 46, 48] (by decide)
  rw [a1, if_pos rfl, a2] at s1
  rw [a3, if_pos rfl, a4] at s2
  have s3 := day_spec (G := G) 1969 12 31 (by decide) (by decide) (by decide) (by decide) (by decide) (by decide)
  rw [ex_day.1, ex_day.2] at s3
  have s4 := tdate_spec (G := G) 0 ex_date
  simp (config := { maxSteps := 1000000 }) (disch := ((try simp only [awL]); omega)) only [QR, QS, QT, QU, QV, QW, QX, QY, QZ, Q0, Q1, Q2, Tryz.f4, ↓awU, awV, awF, Qa, Qb, Qc, Qd, forall_const, ↓reduceIte, ↓reduceDIte, ↓Qe, Qf, Qg, Qh, Qi, Qj, Qk, Ql, Qm, Qn, Qo, Qp, Qq, Qr, Qs, implies_true, Qt, Qu, Qv, Qw, Qx, Qy, Qz, QA, QB, QC, QD, QE, QF, QG, QH, QI, QJ, QK, QL, QM, QN, QO, QP, QQ]
  refine CallC.of s1 (by rfl) ?_
  simp (config := { maxSteps := 1000000 }) (disch := ((try simp only [awL]); omega)) only [QR, QS, QT, QU, QV, QW, QX, QY, QZ, Q0, Q1, Q2, ↓awU, awV, awF, Qa, Qb, Qc, Qd, forall_const, ↓reduceIte, ↓reduceDIte, ↓Qe, Qf, Qg, Qh, Qi, Qj, Qk, Ql, Qm, Qn, Qo, Qp, Qq, Qr, Qs, implies_true, Qt, Qu, Qv, Qw, Qx, Qy, Qz, QA, QB, QC, QD, QE, QF, QG, QH, QI, QJ, QK, QL, QM, QN, QO, QP, QQ]
  refine CallC.of s2 (by rfl) ?_
  simp (config := { maxSteps := 1000000 }) (disch := ((try simp only [awL]); omega)) only [QR, QS, QT, QU, QV, QW, QX, QY, QZ, Q0, Q1, Q2, ↓awU, awV, awF, Qa, Qb, Qc, Qd, forall_const, ↓reduceIte, ↓reduceDIte, ↓Qe, Qf, Qg, Qh, Qi, Qj, Qk, Ql, Qm, Qn, Qo, Qp, Qq, Qr, Qs, implies_true, Qt, Qu, Qv, Qw, Qx, Qy, Qz, QA, QB, QC, QD, QE, QF, QG, QH, QI, QJ, QK, QL, QM, QN, QO, QP, QQ]
  refine CallC.of s3 (by rfl) ?_
  simp (config := { maxSteps := 1000000 }) (disch := ((try simp only [awL]); omega)) only [QR, QS, QT, QU, QV, QW, QX, QY, QZ, Q0, Q1, Q2, ↓awU, awV, awF, Qa, Qb, Qc, Qd, forall_const, ↓reduceIte, ↓reduceDIte, ↓Qe, Qf, Qg, Qh, Qi, Qj, Qk, Ql, Qm, Qn, Qo, Qp, Qq, Qr, Qs, implies_true, Qt, Qu, Qv, Qw, Qx, Qy, Qz, QA, QB, QC, QD, QE, QF, QG, QH, QI, QJ, QK, QL, QM, QN, QO, QP, QQ]
  refine CallC.of s4 (by rfl) ?_
  simp (config := { maxSteps := 1000000 }) (disch := ((try simp only [awL]); omega)) only [QR, QS, QT, QU, QV, QW, QX, QY, QZ, Q0, Q1, Q2, ↓awU, awV, awF, Qa, Qb, Qc, Qd, forall_const, ↓reduceIte, ↓reduceDIte, ↓Qe, Qf, Qg, Qh, Qi, Qj, Qk, Ql, Qm, Qn, Qo, Qp, Qq, Qr, Qs, implies_true, Qt, Qu, Qv, Qw, Qx, Qy, Qz, QA, QB, QC, QD, QE, QF, QG, QH, QI, QJ, QK, QL, QM, QN, QO, QP, QQ]
  first | done | rfl | decide
theorem okDt_range {y m d : Int} (h : okDt y m d = true) : -719162 ≤ dayN y m d ∧ dayN y m d ≤ 2932896 := by
  have := (okDt_is h).range
  omega
set_option maxHeartbeats 16000000 in
set_option maxRecDepth 100000 in
theorem days_law (hG : Num.HG G) (y : Int) (y1 : -9223372036854775808 ≤ y) (y2 : y ≤ 9223372036854775807) (m : Int) (m1 : -9223372036854775808 ≤ m) (m2 : m ≤ 9223372036854775807)
    (d : Int) (d1 : -9223372036854775808 ≤ d) (d2 : d ≤ 9223372036854775807) (n : Int) (n1 : -9223372036854775808 ≤ n) (n2 : n ≤ 9223372036854775807) :
    Ctr Tryz.prog G 3 [.d (.int .i64 y), .d (.int .i64 m), .d (.int .i64 d), .d (.int .i64 n)] [] (.d (.bool true)) [] := by
  refine Ctr.pure (M := M0) hmix Tryz.func3 rfl go3 ?_
  have ya := Int.emod_nonneg y (show (10002 : Int) ≠ 0 by decide)
  have yb := Int.emod_lt_of_pos y (show (0 : Int) < 10002 by decide)
  have ma := Int.emod_nonneg m (show (14 : Int) ≠ 0 by decide)
  have mb := Int.emod_lt_of_pos m (show (0 : Int) < 14 by decide)
  have da := Int.emod_nonneg d (show (33 : Int) ≠ 0 by decide)
  have db := Int.emod_lt_of_pos d (show (0 : Int) < 33 by decide)
  have yc := Int.emod_nonneg y (show (2500 : Int) ≠ 0 by decide)
  have yd := Int.emod_lt_of_pos y (show (0 : Int) < 2500 by decide)
  have ye := Int.emod_nonneg y (show (100 : Int) ≠ 0 by decide)
  have yf := Int.emod_lt_of_pos y (show (0 : Int) < 100 by decide)
  have dc := Int.emod_nonneg d (show (2 : Int) ≠ 0 by decide)
  have dd := Int.emod_lt_of_pos d (show (0 : Int) < 2 by decide)
  have na := Int.emod_nonneg n (show (4000000 : Int) ≠ 0 by decide)
  have nb := Int.emod_lt_of_pos n (show (0 : Int) < 4000000 by decide)
  have mo := fun (a b : Int) (a1 : -9223372036854775808 ≤ a) (a2 : a ≤ 9223372036854775807) (b0 : 0 < b) (b1 : b < 4611686018427387904) => Dst.mmod_spec (G := G) a b a1 a2 b0 b1
  simp (config := { maxSteps := 1000000 }) (disch := ((try simp only [awL]); omega)) only [QR, QS, QT, QU, QV, QW, QX, QY, QZ, Q0, Q1, Q2, Tryz.f3, ↓awU, awV, awF, Qa, Qb, Qc, Qd, forall_const, ↓reduceIte, ↓reduceDIte, ↓Qe, Qf, Qg, Qh, Qi, Qj, Qk, Ql, Qm, Qn, Qo, Qp, Qq, Qr, Qs, implies_true, Qt, Qu, Qv, Qw, Qx, Qy, Qz, QA, QB, QC, QD, QE, QF, QG, QH, QI, QJ, QK, QL, QM, QN, QO, QP, QQ]
  refine CallC.pure (tsane_spec hG) ?_
  simp (config := { maxSteps := 1000000 }) (disch := ((try simp only [awL]); omega)) only [QR, QS, QT, QU, QV, QW, QX, QY, QZ, Q0, Q1, Q2, ↓awU, awV, awF, Qa, Qb, Qc, Qd, forall_const, ↓reduceIte, ↓reduceDIte, ↓Qe, Qf, Qg, Qh, Qi, Qj, Qk, Ql, Qm, Qn, Qo, Qp, Qq, Qr, Qs, implies_true, Qt, Qu, Qv, Qw, Qx, Qy, Qz, QA, QB, QC, QD, QE, QF, QG, QH, QI, QJ, QK, QL, QM, QN, QO, QP, QQ]
  refine CallC.of (mo y 10002 y1 y2 (by decide) (by decide)) (by rfl) ?_
  simp (config := { maxSteps := 1000000 }) (disch := ((try simp only [awL]); omega)) only [QR, QS, QT, QU, QV, QW, QX, QY, QZ, Q0, Q1, Q2, ↓awU, awV, awF, Qa, Qb, Qc, Qd, forall_const, ↓reduceIte, ↓reduceDIte, ↓Qe, Qf, Qg, Qh, Qi, Qj, Qk, Ql, Qm, Qn, Qo, Qp, Qq, Qr, Qs, implies_true, Qt, Qu, Qv, Qw, Qx, Qy, Qz, QA, QB, QC, QD, QE, QF, QG, QH, QI, QJ, QK, QL, QM, QN, QO, QP, QQ]
  refine CallC.of (mo m 14 m1 m2 (by decide) (by decide)) (by rfl) ?_
  simp (config := { maxSteps := 1000000 }) (disch := ((try simp only [awL]); omega)) only [QR, QS, QT, QU, QV, QW, QX, QY, QZ, Q0, Q1, Q2, ↓awU, awV, awF, Qa, Qb, Qc, Qd, forall_const, ↓reduceIte, ↓reduceDIte, ↓Qe, Qf, Qg, Qh, Qi, Qj, Qk, Ql, Qm, Qn, Qo, Qp, Qq, Qr, Qs, implies_true, Qt, Qu, Qv, Qw, Qx, Qy, Qz, QA, QB, QC, QD, QE, QF, QG, QH, QI, QJ, QK, QL, QM, QN, QO, QP, QQ]
  refine CallC.of (mo d 33 d1 d2 (by decide) (by decide)) (by rfl) ?_
  simp (config := { maxSteps := 1000000 }) (disch := ((try simp only [awL]); omega)) only [QR, QS, QT, QU, QV, QW, QX, QY, QZ, Q0, Q1, Q2, ↓awU, awV, awF, Qa, Qb, Qc, Qd, forall_const, ↓reduceIte, ↓reduceDIte, ↓Qe, Qf, Qg, Qh, Qi, Qj, Qk, Ql, Qm, Qn, Qo, Qp, Qq, Qr, Qs, implies_true, Qt, Qu, Qv, Qw, Qx, Qy, Qz, QA, QB, QC, QD, QE, QF, QG, QH, QI, QJ, QK, QL, QM, QN, QO, QP, QQ]
  refine CallC.of (mo y 2500 y1 y2 (by decide) (by decide)) (by rfl) ?_
  simp (config := { maxSteps := 1000000 }) (disch := ((try simp only [awL]); omega)) only [QR, QS, QT, QU, QV, QW, QX, QY, QZ, Q0, Q1, Q2, ↓awU, awV, awF, Qa, Qb, Qc, Qd, forall_const, ↓reduceIte, ↓reduceDIte, ↓Qe, Qf, Qg, Qh, Qi, Qj, Qk, Ql, Qm, Qn, Qo, Qp, Qq, Qr, Qs, implies_true, Qt, Qu, Qv, Qw, Qx, Qy, Qz, QA, QB, QC, QD, QE, QF, QG, QH, QI, QJ, QK, QL, QM, QN, QO, QP, QQ]
  refine CallC.of (mo y 100 y1 y2 (by decide) (by decide)) (by rfl) ?_
  simp (config := { maxSteps := 1000000 }) (disch := ((try simp only [awL]); omega)) only [QR, QS, QT, QU, QV, QW, QX, QY, QZ, Q0, Q1, Q2, ↓awU, awV, awF, Qa, Qb, Qc, Qd, forall_const, ↓reduceIte, ↓reduceDIte, ↓Qe, Qf, Qg, Qh, Qi, Qj, Qk, Ql, Qm, Qn, Qo, Qp, Qq, Qr, Qs, implies_true, Qt, Qu, Qv, Qw, Qx, Qy, Qz, QA, QB, QC, QD, QE, QF, QG, QH, QI, QJ, QK, QL, QM, QN, QO, QP, QQ]
  refine CallC.of (mo d 2 d1 d2 (by decide) (by decide)) (by rfl) ?_
  simp (config := { maxSteps := 1000000 }) (disch := ((try simp only [awL]); omega)) only [QR, QS, QT, QU, QV, QW, QX, QY, QZ, Q0, Q1, Q2, ↓awU, awV, awF, Qa, Qb, Qc, Qd, forall_const, ↓reduceIte, ↓reduceDIte, ↓Qe, Qf, Qg, Qh, Qi, Qj, Qk, Ql, Qm, Qn, Qo, Qp, Qq, Qr, Qs, implies_true, Qt, Qu, Qv, Qw, Qx, Qy, Qz, QA, QB, QC, QD, QE, QF, QG, QH, QI, QJ, QK, QL, QM, QN, QO, QP, QQ]
  have hLx : ∀ i, i < 4 → ∃ a b c : Int, ([D.int .i64 y, D.int .i64 m, D.int .i64 d, D.int .i64 (y % 10002), D.int .i64 (m % 14), D.int .i64 (d % 33), D.int .i64 (4 * (y % 2500)), D.int .i64 2, D.int .i64 29, D.int .i64 (100 * (y % 100)), D.int .i64 2, D.int .i64 (28 + d % 2)].drop (i * 3)).take 3 = [.int .i64 a, .int .i64 b, .int .i64 c] ∧
      (-9223372036854775808 ≤ a ∧ a ≤ 9223372036854775807) ∧ (-9223372036854775808 ≤ b ∧ b ≤ 9223372036854775807) ∧ (-9223372036854775808 ≤ c ∧ c ≤ 9223372036854775807) := by
    intro i hi
    rcases (by omega : i = 0 ∨ i = 1 ∨ i = 2 ∨ i = 3) with rfl | rfl | rfl | rfl
    · exact ⟨y, m, d, rfl, ⟨y1, y2⟩, ⟨m1, m2⟩, ⟨d1, d2⟩⟩
    · exact ⟨_, _, _, rfl, ⟨by omega, by omega⟩, ⟨by omega, by omega⟩, ⟨by omega, by omega⟩⟩
    · exact ⟨_, _, _, rfl, ⟨by omega, by omega⟩, ⟨by omega, by omega⟩, ⟨by omega, by omega⟩⟩
    · exact ⟨_, _, _, rfl, ⟨by omega, by omega⟩, ⟨by omega, by omega⟩, ⟨by omega, by omega⟩⟩
  generalize hL : [D.int .i64 y, D.int .i64 m, D.int .i64 d, D.int .i64 (y % 10002), D.int .i64 (m % 14), D.int .i64 (d % 33), D.int .i64 (4 * (y % 2500)), D.int .i64 2, D.int .i64 29, D.int .i64 (100 * (y % 100)), D.int .i64 2, D.int .i64 (28 + d % 2)] = L at *
  have hLl : L.length = 12 := by rw [← hL]; rfl
  clear hL
  refine LoopC.fr 1729382256910270472 (α := Nat) (fun i => 4 - i) (fun i => [(61, .d (.int .i64 (i : Nat)))]) (fun _ => [.row false L]) (fun i => i ≤ 4) 0 (Nat.zero_le _) ?_ ?_
  · exact ⟨[some 0], rfl, by simp, by simp [setsA, keepA, SWeak, AWeak], by simp [HWeak, BWeak, SWeak, AWeak]⟩
  · intro i hi
    simp only [awK, Nat.reduceMod, Nat.reduceDiv, reduceIte]
    rcases Nat.lt_or_ge i 4 with h | h
    · obtain ⟨a, b, c, gl, ⟨ga1, ga2⟩, ⟨gb1, gb2⟩, ⟨gc1, gc2⟩⟩ := hLx i h
      have sp := day_spec (G := G) a b c ga1 ga2 gb1 gb2 gc1 gc2
      have rp := rday_spec (G := G) a b c ga1 ga2 gb1 gb2 gc1 gc2
      simp (config := { maxSteps := 1000000 }) (disch := ((try simp only [awL]); omega)) only [QR, QS, QT, QU, QV, QW, QX, QY, QZ, Q0, Q1, Q2, hLl, gl, ↓awU, awV, awF, Qa, Qb, Qc, Qd, forall_const, ↓reduceIte, ↓reduceDIte, ↓Qe, Qf, Qg, Qh, Qi, Qj, Qk, Ql, Qm, Qn, Qo, Qp, Qq, Qr, Qs, implies_true, Qt, Qu, Qv, Qw, Qx, Qy, Qz, QA, QB, QC, QD, QE, QF, QG, QH, QI, QJ, QK, QL, QM, QN, QO, QP, QQ]
      refine CallC.of sp (by rfl) ?_
      simp (config := { maxSteps := 1000000 }) (disch := ((try simp only [awL]); omega)) only [QR, QS, QT, QU, QV, QW, QX, QY, QZ, Q0, Q1, Q2, ↓awU, awV, awF, Qa, Qb, Qc, Qd, forall_const, ↓reduceIte, ↓reduceDIte, ↓Qe, Qf, Qg, Qh, Qi, Qj, Qk, Ql, Qm, Qn, Qo, Qp, Qq, Qr, Qs, implies_true, Qt, Qu, Qv, Qw, Qx, Qy, Qz, QA, QB, QC, QD, QE, QF, QG, QH, QI, QJ, QK, QL, QM, QN, QO, QP, QQ]
      refine CallC.of rp (by rfl) ?_
      cases ok : okDt a b c
      · have dv : dayV a b c = 0 := by unfold dayV; rw [ok]; rfl
        rw [dv]
        simp (config := { maxSteps := 1000000 }) (disch := ((try simp only [awL]); omega)) only [QR, QS, QT, QU, QV, QW, QX, QY, QZ, Q0, Q1, Q2, ↓awU, awV, awF, Qa, Qb, Qc, Qd, forall_const, ↓reduceIte, ↓reduceDIte, ↓Qe, Qf, Qg, Qh, Qi, Qj, Qk, Ql, Qm, Qn, Qo, Qp, Qq, Qr, Qs, implies_true, Qt, Qu, Qv, Qw, Qx, Qy, Qz, QA, QB, QC, QD, QE, QF, QG, QH, QI, QJ, QK, QL, QM, QN, QO, QP, QQ]
        first
        | exact ⟨i + 1, h, by simp only; omega, ⟨[some 0], rfl, by simp, by simp [setsA, keepA, SWeak, AWeak], by simp [HWeak, BWeak, SWeak, AWeak]⟩⟩
      · have dv : dayV a b c = dayN a b c := by unfold dayV; rw [if_pos ok]
        have isd := okDt_is ok
        have bb := of_decide_eq_true ok
        have dp := tdate_spec (G := G) (dayN a b c) isd
        rw [show (((b - 1).toNat + 1 : Nat) : Int) = b by omega, show c - 1 + 1 = c by omega] at dp
        rw [dv]
        have rg := okDt_range ok
        generalize dayN a b c = q at *
        simp (config := { maxSteps := 1000000 }) (disch := ((try simp only [awL]); omega)) only [QR, QS, QT, QU, QV, QW, QX, QY, QZ, Q0, Q1, Q2, ↓awU, awV, awF, Qa, Qb, Qc, Qd, forall_const, ↓reduceIte, ↓reduceDIte, ↓Qe, Qf, Qg, Qh, Qi, Qj, Qk, Ql, Qm, Qn, Qo, Qp, Qq, Qr, Qs, implies_true, Qt, Qu, Qv, Qw, Qx, Qy, Qz, QA, QB, QC, QD, QE, QF, QG, QH, QI, QJ, QK, QL, QM, QN, QO, QP, QQ]
        refine CallC.of dp (by rfl) ?_
        simp (config := { maxSteps := 1000000 }) (disch := ((try simp only [awL]); omega)) only [QR, QS, QT, QU, QV, QW, QX, QY, QZ, Q0, Q1, Q2, ↓awU, awV, awF, Qa, Qb, Qc, Qd, forall_const, ↓reduceIte, ↓reduceDIte, ↓Qe, Qf, Qg, Qh, Qi, Qj, Qk, Ql, Qm, Qn, Qo, Qp, Qq, Qr, Qs, implies_true, Qt, Qu, Qv, Qw, Qx, Qy, Qz, QA, QB, QC, QD, QE, QF, QG, QH, QI, QJ, QK, QL, QM, QN, QO, QP, QQ]
        first
        | exact ⟨i + 1, h, by simp only; omega, ⟨[some 0], rfl, by simp, by simp [setsA, keepA, SWeak, AWeak], by simp [HWeak, BWeak, SWeak, AWeak]⟩⟩
    · have e : i = 4 := by omega
      subst e
      simp (config := { maxSteps := 1000000 }) (disch := ((try simp only [awL]); omega)) only [QR, QS, QT, QU, QV, QW, QX, QY, QZ, Q0, Q1, Q2, hLl, ↓awU, awV, awF, Qa, Qb, Qc, Qd, forall_const, ↓reduceIte, ↓reduceDIte, ↓Qe, Qf, Qg, Qh, Qi, Qj, Qk, Ql, Qm, Qn, Qo, Qp, Qq, Qr, Qs, implies_true, Qt, Qu, Qv, Qw, Qx, Qy, Qz, QA, QB, QC, QD, QE, QF, QG, QH, QI, QJ, QK, QL, QM, QN, QO, QP, QQ]
      refine CallC.of (mo n 4000000 n1 n2 (by decide) (by decide)) (by rfl) ?_
      simp (config := { maxSteps := 1000000 }) (disch := ((try simp only [awL]); omega)) only [QR, QS, QT, QU, QV, QW, QX, QY, QZ, Q0, Q1, Q2, ↓awU, awV, awF, Qa, Qb, Qc, Qd, forall_const, ↓reduceIte, ↓reduceDIte, ↓Qe, Qf, Qg, Qh, Qi, Qj, Qk, Ql, Qm, Qn, Qo, Qp, Qq, Qr, Qs, implies_true, Qt, Qu, Qv, Qw, Qx, Qy, Qz, QA, QB, QC, QD, QE, QF, QG, QH, QI, QJ, QK, QL, QM, QN, QO, QP, QQ]
      have hNx : ∀ j, j < 6 → ∃ k : Int, ([D.int .i64 n, D.int .i64 (n % 4000000 - 800000), D.int .i64 (-719162), D.int .i64 (-719163), D.int .i64 2932896, D.int .i64 2932897].getD j .nilp) = .int .i64 k ∧ -9223372036854775808 ≤ k ∧ k ≤ 9223372036854775807 := by
        intro j hj
        rcases (by omega : j = 0 ∨ j = 1 ∨ j = 2 ∨ j = 3 ∨ j = 4 ∨ j = 5) with rfl | rfl | rfl | rfl | rfl | rfl
        · exact ⟨n, rfl, n1, n2⟩
        · exact ⟨_, rfl, by omega, by omega⟩
        · exact ⟨_, rfl, by decide, by decide⟩
        · exact ⟨_, rfl, by decide, by decide⟩
        · exact ⟨_, rfl, by decide, by decide⟩
        · exact ⟨_, rfl, by decide, by decide⟩
      generalize hN : [D.int .i64 n, D.int .i64 (n % 4000000 - 800000), D.int .i64 (-719162), D.int .i64 (-719163), D.int .i64 2932896, D.int .i64 2932897] = N at *
      have hNl : N.length = 6 := by rw [← hN]; rfl
      clear hN
      refine LoopC.fr 255211775190703847597530955573826158592 (α := Nat) (fun j => 6 - j) (fun j => [(128, .d (.int .i64 (j : Nat)))]) (fun _ => [.dead, .row false N]) (fun j => j ≤ 6) 0 (Nat.zero_le _) ?_ ?_
      · exact ⟨[some 0, some 1], rfl, by simp, by simp [setsA, keepA, SWeak, AWeak], by simp [HWeak, BWeak, SWeak, AWeak]⟩
      · intro j hj
        simp only [awK, Nat.reduceMod, Nat.reduceDiv, reduceIte]
        rcases Nat.lt_or_ge j 6 with hj6 | hj6
        · obtain ⟨k, gk, k1, k2⟩ := hNx j hj6
          by_cases inr : -719162 ≤ k ∧ k ≤ 2932896
          · obtain ⟨u, v, w, hd⟩ := ex_dt (N := k + 719162) (by omega) (by omega)
            have sp := tdate_spec (G := G) k hd
            have rp := rdate_spec (G := G) k hd
            have hdr := hd.1
            have hdr2 := hd.2.1
            have hdr3 := hd.2.2.1
            have hdr5 := hd.2.2.2.2.1
            have hdr6 := hd.2.2.2.2.2
            have hl31 := lenM_pos u ((v + 1 : Nat) : Int)
            simp (config := { maxSteps := 1000000 }) (disch := ((try simp only [awL]); omega)) only [QR, QS, QT, QU, QV, QW, QX, QY, QZ, Q0, Q1, Q2, hNl, gk, ↓awU, awV, awF, Qa, Qb, Qc, Qd, forall_const, ↓reduceIte, ↓reduceDIte, ↓Qe, Qf, Qg, Qh, Qi, Qj, Qk, Ql, Qm, Qn, Qo, Qp, Qq, Qr, Qs, implies_true, Qt, Qu, Qv, Qw, Qx, Qy, Qz, QA, QB, QC, QD, QE, QF, QG, QH, QI, QJ, QK, QL, QM, QN, QO, QP, QQ]
            refine CallC.of sp (by rfl) ?_
            simp (config := { maxSteps := 1000000 }) (disch := ((try simp only [awL]); omega)) only [QR, QS, QT, QU, QV, QW, QX, QY, QZ, Q0, Q1, Q2, ↓awU, awV, awF, Qa, Qb, Qc, Qd, forall_const, ↓reduceIte, ↓reduceDIte, ↓Qe, Qf, Qg, Qh, Qi, Qj, Qk, Ql, Qm, Qn, Qo, Qp, Qq, Qr, Qs, implies_true, Qt, Qu, Qv, Qw, Qx, Qy, Qz, QA, QB, QC, QD, QE, QF, QG, QH, QI, QJ, QK, QL, QM, QN, QO, QP, QQ]
            refine CallC.of rp (by rfl) ?_
            clear sp rp
            simp (config := { maxSteps := 1000000 }) (disch := ((try simp only [awL]); omega)) only [QR, QS, QT, QU, QV, QW, QX, QY, QZ, Q0, Q1, Q2, beq_self_eq_true, ↓awU, awV, awF, Qa, Qb, Qc, Qd, forall_const, ↓reduceIte, ↓reduceDIte, ↓Qe, Qf, Qg, Qh, Qi, Qj, Qk, Ql, Qm, Qn, Qo, Qp, Qq, Qr, Qs, implies_true, Qt, Qu, Qv, Qw, Qx, Qy, Qz, QA, QB, QC, QD, QE, QF, QG, QH, QI, QJ, QK, QL, QM, QN, QO, QP, QQ]
            by_cases nxt : k + 1 ≤ 2932896
            · obtain ⟨u2, v2, w2, hd2⟩ := ex_dt (N := k + 1 + 719162) (by omega) (by omega)
              have sp2 := tdate_spec (G := G) (k + 1) hd2
              obtain ⟨ok2, dn2⟩ := is_okDt hd2
              have dv : dayV u2 ((v2 + 1 : Nat) : Int) (w2 + 1) = k + 1 := by unfold dayV; rw [if_pos ok2, dn2]; omega
              have b1 := hd2.1
              have b2 := hd2.2.1
              have b3 := hd2.2.2.1
              have b5 := hd2.2.2.2.2.1
              have b6 := hd2.2.2.2.2.2
              have bl := lenM_pos u2 ((v2 + 1 : Nat) : Int)
              have dy := day_spec (G := G) u2 ((v2 + 1 : Nat) : Int) (w2 + 1) (by omega) (by omega) (by omega) (by omega) (by omega) (by omega)
              rw [ok2, dv] at dy
              first
              | refine CallC.of sp2 (by rfl) ?_
              | (refine ⟨by rfl, ?_⟩; refine CallC.of sp2 (by rfl) ?_)
              simp (config := { maxSteps := 1000000 }) (disch := ((try simp only [awL]); omega)) only [QR, QS, QT, QU, QV, QW, QX, QY, QZ, Q0, Q1, Q2, ↓awU, awV, awF, Qa, Qb, Qc, Qd, forall_const, ↓reduceIte, ↓reduceDIte, ↓Qe, Qf, Qg, Qh, Qi, Qj, Qk, Ql, Qm, Qn, Qo, Qp, Qq, Qr, Qs, implies_true, Qt, Qu, Qv, Qw, Qx, Qy, Qz, QA, QB, QC, QD, QE, QF, QG, QH, QI, QJ, QK, QL, QM, QN, QO, QP, QQ]
              refine CallC.of dy (by rfl) ?_
              simp (config := { maxSteps := 1000000 }) (disch := ((try simp only [awL]); omega)) only [QR, QS, QT, QU, QV, QW, QX, QY, QZ, Q0, Q1, Q2, ↓awU, awV, awF, Qa, Qb, Qc, Qd, forall_const, ↓reduceIte, ↓reduceDIte, ↓Qe, Qf, Qg, Qh, Qi, Qj, Qk, Ql, Qm, Qn, Qo, Qp, Qq, Qr, Qs, implies_true, Qt, Qu, Qv, Qw, Qx, Qy, Qz, QA, QB, QC, QD, QE, QF, QG, QH, QI, QJ, QK, QL, QM, QN, QO, QP, QQ]
              first
              | exact ⟨j + 1, hj6, by simp only; omega, ⟨[some 0, some 1], rfl, by simp, by simp [setsA, keepA, SWeak, AWeak], by simp [HWeak, BWeak, SWeak, AWeak]⟩⟩
              | exact ⟨by rfl, j + 1, hj6, by simp only; omega, ⟨[some 0, some 1], rfl, by simp, by simp [setsA, keepA, SWeak, AWeak], by simp [HWeak, BWeak, SWeak, AWeak]⟩⟩
            · have sp2 := tdate_none (G := G) (k + 1) (by omega) (by omega) (.inr (by omega))
              first
              | refine CallC.of sp2 (by rfl) ?_
              | (refine ⟨by rfl, ?_⟩; refine CallC.of sp2 (by rfl) ?_)
              simp (config := { maxSteps := 1000000 }) (disch := ((try simp only [awL]); omega)) only [QR, QS, QT, QU, QV, QW, QX, QY, QZ, Q0, Q1, Q2, ↓awU, awV, awF, Qa, Qb, Qc, Qd, forall_const, ↓reduceIte, ↓reduceDIte, ↓Qe, Qf, Qg, Qh, Qi, Qj, Qk, Ql, Qm, Qn, Qo, Qp, Qq, Qr, Qs, implies_true, Qt, Qu, Qv, Qw, Qx, Qy, Qz, QA, QB, QC, QD, QE, QF, QG, QH, QI, QJ, QK, QL, QM, QN, QO, QP, QQ]
              first
              | exact ⟨j + 1, hj6, by simp only; omega, ⟨[some 0, some 1], rfl, by simp, by simp [setsA, keepA, SWeak, AWeak], by simp [HWeak, BWeak, SWeak, AWeak]⟩⟩
              | exact ⟨by rfl, j + 1, hj6, by simp only; omega, ⟨[some 0, some 1], rfl, by simp, by simp [setsA, keepA, SWeak, AWeak], by simp [HWeak, BWeak, SWeak, AWeak]⟩⟩
          · have sp := tdate_none (G := G) k k1 k2 (by omega)
            have rp := rdate_none (G := G) k k1 k2 (by omega)
            simp (config := { maxSteps := 1000000 }) (disch := ((try simp only [awL]); omega)) only [QR, QS, QT, QU, QV, QW, QX, QY, QZ, Q0, Q1, Q2, hNl, gk, ↓awU, awV, awF, Qa, Qb, Qc, Qd, forall_const, ↓reduceIte, ↓reduceDIte, ↓Qe, Qf, Qg, Qh, Qi, Qj, Qk, Ql, Qm, Qn, Qo, Qp, Qq, Qr, Qs, implies_true, Qt, Qu, Qv, Qw, Qx, Qy, Qz, QA, QB, QC, QD, QE, QF, QG, QH, QI, QJ, QK, QL, QM, QN, QO, QP, QQ]
            refine CallC.of sp (by rfl) ?_
            simp (config := { maxSteps := 1000000 }) (disch := ((try simp only [awL]); omega)) only [QR, QS, QT, QU, QV, QW, QX, QY, QZ, Q0, Q1, Q2, ↓awU, awV, awF, Qa, Qb, Qc, Qd, forall_const, ↓reduceIte, ↓reduceDIte, ↓Qe, Qf, Qg, Qh, Qi, Qj, Qk, Ql, Qm, Qn, Qo, Qp, Qq, Qr, Qs, implies_true, Qt, Qu, Qv, Qw, Qx, Qy, Qz, QA, QB, QC, QD, QE, QF, QG, QH, QI, QJ, QK, QL, QM, QN, QO, QP, QQ]
            refine CallC.of rp (by rfl) ?_
            clear sp rp
            by_cases mx : k = 9223372036854775807
            · have wk : IntKind.i64.wrap (9223372036854775807 + 1) = -9223372036854775808 := by decide
              have wk2 : IntKind.i64.wrap 9223372036854775808 = -9223372036854775808 := by decide
              subst mx
              simp (config := { maxSteps := 1000000 }) (disch := ((try simp only [awL]); omega)) only [QR, QS, QT, QU, QV, QW, QX, QY, QZ, Q0, Q1, Q2, wk, wk2, beq_self_eq_true, ↓awU, awV, awF, Qa, Qb, Qc, Qd, forall_const, ↓reduceIte, ↓reduceDIte, ↓Qe, Qf, Qg, Qh, Qi, Qj, Qk, Ql, Qm, Qn, Qo, Qp, Qq, Qr, Qs, implies_true, Qt, Qu, Qv, Qw, Qx, Qy, Qz, QA, QB, QC, QD, QE, QF, QG, QH, QI, QJ, QK, QL, QM, QN, QO, QP, QQ]
              have sp2 := tdate_none (G := G) (-9223372036854775808) (by decide) (by decide) (.inl (by decide))
              first
              | refine CallC.of sp2 (by rfl) ?_
              | (refine ⟨by rfl, ?_⟩; refine CallC.of sp2 (by rfl) ?_)
              simp (config := { maxSteps := 1000000 }) (disch := ((try simp only [awL]); omega)) only [QR, QS, QT, QU, QV, QW, QX, QY, QZ, Q0, Q1, Q2, ↓awU, awV, awF, Qa, Qb, Qc, Qd, forall_const, ↓reduceIte, ↓reduceDIte, ↓Qe, Qf, Qg, Qh, Qi, Qj, Qk, Ql, Qm, Qn, Qo, Qp, Qq, Qr, Qs, implies_true, Qt, Qu, Qv, Qw, Qx, Qy, Qz, QA, QB, QC, QD, QE, QF, QG, QH, QI, QJ, QK, QL, QM, QN, QO, QP, QQ]
              first
              | exact ⟨j + 1, hj6, by simp only; omega, ⟨[some 0, some 1], rfl, by simp, by simp [setsA, keepA, SWeak, AWeak], by simp [HWeak, BWeak, SWeak, AWeak]⟩⟩
              | exact ⟨by rfl, j + 1, hj6, by simp only; omega, ⟨[some 0, some 1], rfl, by simp, by simp [setsA, keepA, SWeak, AWeak], by simp [HWeak, BWeak, SWeak, AWeak]⟩⟩
            · simp (config := { maxSteps := 1000000 }) (disch := ((try simp only [awL]); omega)) only [QR, QS, QT, QU, QV, QW, QX, QY, QZ, Q0, Q1, Q2, beq_self_eq_true, ↓awU, awV, awF, Qa, Qb, Qc, Qd, forall_const, ↓reduceIte, ↓reduceDIte, ↓Qe, Qf, Qg, Qh, Qi, Qj, Qk, Ql, Qm, Qn, Qo, Qp, Qq, Qr, Qs, implies_true, Qt, Qu, Qv, Qw, Qx, Qy, Qz, QA, QB, QC, QD, QE, QF, QG, QH, QI, QJ, QK, QL, QM, QN, QO, QP, QQ]
              by_cases in2 : -719162 ≤ k + 1 ∧ k + 1 ≤ 2932896
              · obtain ⟨u2, v2, w2, hd2⟩ := ex_dt (N := k + 1 + 719162) (by omega) (by omega)
                have sp2 := tdate_spec (G := G) (k + 1) hd2
                first
                | refine CallC.of sp2 (by rfl) ?_
                | (refine ⟨by rfl, ?_⟩; refine CallC.of sp2 (by rfl) ?_)
                simp (config := { maxSteps := 1000000 }) (disch := ((try simp only [awL]); omega)) only [QR, QS, QT, QU, QV, QW, QX, QY, QZ, Q0, Q1, Q2, ↓awU, awV, awF, Qa, Qb, Qc, Qd, forall_const, ↓reduceIte, ↓reduceDIte, ↓Qe, Qf, Qg, Qh, Qi, Qj, Qk, Ql, Qm, Qn, Qo, Qp, Qq, Qr, Qs, implies_true, Qt, Qu, Qv, Qw, Qx, Qy, Qz, QA, QB, QC, QD, QE, QF, QG, QH, QI, QJ, QK, QL, QM, QN, QO, QP, QQ]
                first
                | exact ⟨j + 1, hj6, by simp only; omega, ⟨[some 0, some 1], rfl, by simp, by simp [setsA, keepA, SWeak, AWeak], by simp [HWeak, BWeak, SWeak, AWeak]⟩⟩
                | exact ⟨by rfl, j + 1, hj6, by simp only; omega, ⟨[some 0, some 1], rfl, by simp, by simp [setsA, keepA, SWeak, AWeak], by simp [HWeak, BWeak, SWeak, AWeak]⟩⟩
              · have sp2 := tdate_none (G := G) (k + 1) (by omega) (by omega) (by omega)
                first
                | refine CallC.of sp2 (by rfl) ?_
                | (refine ⟨by rfl, ?_⟩; refine CallC.of sp2 (by rfl) ?_)
                simp (config := { maxSteps := 1000000 }) (disch := ((try simp only [awL]); omega)) only [QR, QS, QT, QU, QV, QW, QX, QY, QZ, Q0, Q1, Q2, ↓awU, awV, awF, Qa, Qb, Qc, Qd, forall_const, ↓reduceIte, ↓reduceDIte, ↓Qe, Qf, Qg, Qh, Qi, Qj, Qk, Ql, Qm, Qn, Qo, Qp, Qq, Qr, Qs, implies_true, Qt, Qu, Qv, Qw, Qx, Qy, Qz, QA, QB, QC, QD, QE, QF, QG, QH, QI, QJ, QK, QL, QM, QN, QO, QP, QQ]
                first
                | exact ⟨j + 1, hj6, by simp only; omega, ⟨[some 0, some 1], rfl, by simp, by simp [setsA, keepA, SWeak, AWeak], by simp [HWeak, BWeak, SWeak, AWeak]⟩⟩
                | exact ⟨by rfl, j + 1, hj6, by simp only; omega, ⟨[some 0, some 1], rfl, by simp, by simp [setsA, keepA, SWeak, AWeak], by simp [HWeak, BWeak, SWeak, AWeak]⟩⟩
        · have e : j = 6 := by omega
          subst e
          simp (config := { maxSteps := 1000000 }) (disch := ((try simp only [awL]); omega)) only [QR, QS, QT, QU, QV, QW, QX, QY, QZ, Q0, Q1, Q2, hNl, ↓awU, awV, awF, Qa, Qb, Qc, Qd, forall_const, ↓reduceIte, ↓reduceDIte, ↓Qe, Qf, Qg, Qh, Qi, Qj, Qk, Ql, Qm, Qn, Qo, Qp, Qq, Qr, Qs, implies_true, Qt, Qu, Qv, Qw, Qx, Qy, Qz, QA, QB, QC, QD, QE, QF, QG, QH, QI, QJ, QK, QL, QM, QN, QO, QP, QQ]
          first | done | rfl
end Go.Proofs.YtjecgoddmkaboaaGreatDoor
