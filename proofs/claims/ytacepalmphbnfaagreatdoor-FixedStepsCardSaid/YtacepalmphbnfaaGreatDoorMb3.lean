/-
  Contracts of the functions, one after another.
-/
import Derived.Test.YtacepalmphbnfaaGreatDoorMb2
import Derived.Lib.ItoaNum
import Derived.Shelf.Strconv.Itoa0
import Derived.Test.YtacepalmphbnfaaGreatDoorCards
import Derived.Test.YtacepalmphbnfaaGreatDoorTie
import Derived.Lib.LaidU8T
import Derived.Lib.LaidTab
import Derived.LaidLaws
import Derived.Shelf.Vars
import Derived.Lib.SmallJoins
set_option linter.all false
open Go.Abs renaming ofVal → Qa, ofVal0 → Qb, isShift → Qc, aggK → Qd, purePost → Qe, combine → Qf, idsA → Qg, cellsA → Qh, numsOf → Qi, srcA → Qj, calleeA → Qk, refsA → Ql, isScalar → Qm, scalarD → Qn, scalar0 → Qo, putL → Qr, unfA → Qs, sidsB → QJ, keyKD → QL, isIntK → QM, aggD → QN, aggL → QO, eqKs → QP, boxRow → QQ, nextC_more → QT, nextC_over → QU, bs_size → QV, bs_extract → QW, bs_toList → QX, bs_append → QY, byteAt_bs → QZ, bs_cells → Q0, nums_length → Q1, nums_getD → Q2
open Go.Abs.AV renaming one → Qp
open Go.Abs.D renaming one → Qq
open Go.IntKind renaming signed → Qt
open Nat renaming reduceAdd → Qu, reduceSub → Qv, reduceMul → Qw, reducePow → Qx, reduceDiv → Qy, reduceMod → Qz, reduceEqDiff → QI, reduceBEq → QK
open Int renaming reduceAdd → QA, reduceSub → QB, reduceMul → QC, reducePow → QD, reduceNeg → QE, reduceToNat → QF, reduceLT → QG, reduceLE → QH
open Option renaming toList_some → QR, toList_none → QS
namespace Go.Proofs.YtacepalmphbnfaaGreatDoor
open Go Go.Proofs Go.Abs
variable {G : Globals}
/-! The reference's odd. -/
def oddS (s : List UInt8) (w : Int) : Bool := !(Lib.trimB s 32 == s) || decide (0 ≤ w ∧ w < (rcL s : Int)) || hasNl s
theorem nl_yes {s : List UInt8} {i : Nat} (h : i < s.length) : (s.getD i 0).toNat = 10 ∨ (s.getD i 0).toNat = 13 → hasNl s = true := by
  intro hc
  have hm := memD (d := (0 : UInt8)) h
  unfold hasNl
  rcases hc with e | e
  · have : s.getD i 0 = 10 := UInt8.toNat_inj.1 e
    rw [this] at hm
    exact decide_eq_true (.inl hm)
  · have : s.getD i 0 = 13 := UInt8.toNat_inj.1 e
    rw [this] at hm
    exact decide_eq_true (.inr hm)
theorem nl_no {s : List UInt8} (h : ∀ j, j < s.length → (s.getD j 0).toNat ≠ 10 ∧ (s.getD j 0).toNat ≠ 13) : hasNl s = false := by
  unfold hasNl
  refine decide_eq_false ?_
  rintro (e | e)
  · obtain ⟨j, hj, e⟩ := List.getElem_of_mem e
    refine (h j hj).1 ?_
    rw [List.getD_eq_getElem?_getD, List.getElem?_eq_getElem hj, Option.getD_some, e]; rfl
  · obtain ⟨j, hj, e⟩ := List.getElem_of_mem e
    refine (h j hj).2 ?_
    rw [List.getD_eq_getElem?_getD, List.getElem?_eq_getElem hj, Option.getD_some, e]; rfl
set_option maxHeartbeats 4000000 in
set_option maxRecDepth 100000 in
theorem oddS_spec (s : List UInt8) (w : Int) (hs : s.length ≤ 1000000000) : Ctr Tryz.prog G 53 [.d (S s), .d (.int .i64 w)] [] (.d (.bool (oddS s w))) [] := by
  obtain ⟨r, hr⟩ : ∃ r, r = oddS s w := ⟨_, rfl⟩
  rw [← hr]
  refine Ctr.pure (M := M0) hmix Tryz.func53 rfl go53 ?_
  unfold oddS at hr
  have rd := runesD_bs s
  have rs := runesS_bs s
  have nl := @nats_length .i32 (rnF s 0)
  have rc := rcL_eq s
  have rl := rcL_le s
  rw [rc] at rl
  simp (config := { maxSteps := 1000000 }) (disch := ((try simp only [awL]); omega)) only [QR, QS, QT, QU, QV, QW, QX, QY, QZ, Q0, Q1, Q2, Tryz.f53, ↓awU, awV, awF, Qa, Qb, Qc, Qd, forall_const, ↓reduceIte, ↓reduceDIte, ↓Qe, Qf, Qg, Qh, Qi, Qj, Qk, Ql, Qm, Qn, Qo, Qp, Qq, Qr, Qs, implies_true, Qt, Qu, Qv, Qw, Qx, Qy, Qz, QA, QB, QC, QD, QE, QF, QG, QH, QI, QJ, QK, QL, QM, QN, QO, QP, QQ]
  refine CallC.pure (rtrim_spec s (by omega)) ?_
  by_cases he : Lib.trimB s 32 = s
  · rw [he]
    rw [show (!(Lib.trimB s 32 == s)) = false by simp [he], Bool.false_or] at hr
    by_cases hw : 0 ≤ w
    · by_cases hw2 : w < (rcL s : Int)
      · rw [decide_eq_true ⟨hw, hw2⟩, Bool.true_or] at hr
        rw [rc] at hw2
        simp (config := { maxSteps := 1000000 }) (disch := ((try simp only [awL]); omega)) only [QR, QS, QT, QU, QV, QW, QX, QY, QZ, Q0, Q1, Q2, rd, rs, nl, ↓awU, awV, awF, Qa, Qb, Qc, Qd, forall_const, ↓reduceIte, ↓reduceDIte, ↓Qe, Qf, Qg, Qh, Qi, Qj, Qk, Ql, Qm, Qn, Qo, Qp, Qq, Qr, Qs, implies_true, Qt, Qu, Qv, Qw, Qx, Qy, Qz, QA, QB, QC, QD, QE, QF, QG, QH, QI, QJ, QK, QL, QM, QN, QO, QP, QQ]
        all_goals rw [hr]
      · rw [decide_eq_false (fun x => hw2 x.2), Bool.false_or] at hr
        rw [rc] at hw2
        simp (config := { maxSteps := 1000000 }) (disch := ((try simp only [awL]); omega)) only [QR, QS, QT, QU, QV, QW, QX, QY, QZ, Q0, Q1, Q2, rd, rs, nl, ↓awU, awV, awF, Qa, Qb, Qc, Qd, forall_const, ↓reduceIte, ↓reduceDIte, ↓Qe, Qf, Qg, Qh, Qi, Qj, Qk, Ql, Qm, Qn, Qo, Qp, Qq, Qr, Qs, implies_true, Qt, Qu, Qv, Qw, Qx, Qy, Qz, QA, QB, QC, QD, QE, QF, QG, QH, QI, QJ, QK, QL, QM, QN, QO, QP, QQ]
        refine LoopC.fr 1 (α := Nat) (fun i => s.length - i) (fun i => [(5, .d (.int .i64 i))]) (fun _ => []) (fun i => i ≤ s.length ∧ ∀ j, j < i → (s.getD j 0).toNat ≠ 10 ∧ (s.getD j 0).toNat ≠ 13) 0 ⟨Nat.zero_le _, fun j hj => absurd hj (Nat.not_lt_zero _)⟩ ?_ ?_
        · exact ⟨[], rfl, by simp, by simp [setsA, keepA, SWeak, AWeak], by simp [HWeak, BWeak, SWeak, AWeak]⟩
        · rintro i ⟨k1, k2⟩
          simp only [awK, Nat.reduceMod, Nat.reduceDiv, reduceIte]
          rcases Nat.lt_or_ge i s.length with h | h
          · obtain ⟨c, gc⟩ : ∃ c, (s.getD i 0).toNat = c := ⟨_, rfl⟩
            have yes := nl_yes h
            rw [gc] at yes
            rcases (by omega : c = 10 ∨ c = 13 ∨ (c ≠ 10 ∧ c ≠ 13)) with q | q | ⟨q1, q2⟩
            · rw [yes (.inl q)] at hr
              simp (config := { maxSteps := 1000000 }) (disch := ((try simp only [awL]); omega)) only [QR, QS, QT, QU, QV, QW, QX, QY, QZ, Q0, Q1, Q2, gc, ↓awU, awV, awF, Qa, Qb, Qc, Qd, forall_const, ↓reduceIte, ↓reduceDIte, ↓Qe, Qf, Qg, Qh, Qi, Qj, Qk, Ql, Qm, Qn, Qo, Qp, Qq, Qr, Qs, implies_true, Qt, Qu, Qv, Qw, Qx, Qy, Qz, QA, QB, QC, QD, QE, QF, QG, QH, QI, QJ, QK, QL, QM, QN, QO, QP, QQ]
              all_goals rw [hr]
            · rw [yes (.inr q)] at hr
              simp (config := { maxSteps := 1000000 }) (disch := ((try simp only [awL]); omega)) only [QR, QS, QT, QU, QV, QW, QX, QY, QZ, Q0, Q1, Q2, gc, ↓awU, awV, awF, Qa, Qb, Qc, Qd, forall_const, ↓reduceIte, ↓reduceDIte, ↓Qe, Qf, Qg, Qh, Qi, Qj, Qk, Ql, Qm, Qn, Qo, Qp, Qq, Qr, Qs, implies_true, Qt, Qu, Qv, Qw, Qx, Qy, Qz, QA, QB, QC, QD, QE, QF, QG, QH, QI, QJ, QK, QL, QM, QN, QO, QP, QQ]
              all_goals rw [hr]
            · simp (config := { maxSteps := 1000000 }) (disch := ((try simp only [awL]); omega)) only [QR, QS, QT, QU, QV, QW, QX, QY, QZ, Q0, Q1, Q2, gc, ↓awU, awV, awF, Qa, Qb, Qc, Qd, forall_const, ↓reduceIte, ↓reduceDIte, ↓Qe, Qf, Qg, Qh, Qi, Qj, Qk, Ql, Qm, Qn, Qo, Qp, Qq, Qr, Qs, implies_true, Qt, Qu, Qv, Qw, Qx, Qy, Qz, QA, QB, QC, QD, QE, QF, QG, QH, QI, QJ, QK, QL, QM, QN, QO, QP, QQ]
              exact ⟨i + 1, ⟨h, fun j hj => by
                rcases Nat.lt_or_ge j i with x | x
                · exact k2 j x
                · obtain rfl : j = i := by omega
                  rw [gc]; exact ⟨q1, q2⟩⟩, by simp only; omega, ⟨[], rfl, by simp, by simp [setsA, keepA, SWeak, AWeak], by simp [HWeak, BWeak, SWeak, AWeak]⟩⟩
          · rw [nl_no (fun j hj => k2 j (by omega))] at hr
            simp (config := { maxSteps := 1000000 }) (disch := ((try simp only [awL]); omega)) only [QR, QS, QT, QU, QV, QW, QX, QY, QZ, Q0, Q1, Q2, ↓awU, awV, awF, Qa, Qb, Qc, Qd, forall_const, ↓reduceIte, ↓reduceDIte, ↓Qe, Qf, Qg, Qh, Qi, Qj, Qk, Ql, Qm, Qn, Qo, Qp, Qq, Qr, Qs, implies_true, Qt, Qu, Qv, Qw, Qx, Qy, Qz, QA, QB, QC, QD, QE, QF, QG, QH, QI, QJ, QK, QL, QM, QN, QO, QP, QQ]
            all_goals rw [hr]
    · rw [decide_eq_false (fun x => hw x.1), Bool.false_or] at hr
      simp (config := { maxSteps := 1000000 }) (disch := ((try simp only [awL]); omega)) only [QR, QS, QT, QU, QV, QW, QX, QY, QZ, Q0, Q1, Q2, rd, rs, nl, ↓awU, awV, awF, Qa, Qb, Qc, Qd, forall_const, ↓reduceIte, ↓reduceDIte, ↓Qe, Qf, Qg, Qh, Qi, Qj, Qk, Ql, Qm, Qn, Qo, Qp, Qq, Qr, Qs, implies_true, Qt, Qu, Qv, Qw, Qx, Qy, Qz, QA, QB, QC, QD, QE, QF, QG, QH, QI, QJ, QK, QL, QM, QN, QO, QP, QQ]
      refine LoopC.fr 1 (α := Nat) (fun i => s.length - i) (fun i => [(5, .d (.int .i64 i))]) (fun _ => []) (fun i => i ≤ s.length ∧ ∀ j, j < i → (s.getD j 0).toNat ≠ 10 ∧ (s.getD j 0).toNat ≠ 13) 0 ⟨Nat.zero_le _, fun j hj => absurd hj (Nat.not_lt_zero _)⟩ ?_ ?_
      · exact ⟨[], rfl, by simp, by simp [setsA, keepA, SWeak, AWeak], by simp [HWeak, BWeak, SWeak, AWeak]⟩
      · rintro i ⟨k1, k2⟩
        simp only [awK, Nat.reduceMod, Nat.reduceDiv, reduceIte]
        rcases Nat.lt_or_ge i s.length with h | h
        · obtain ⟨c, gc⟩ : ∃ c, (s.getD i 0).toNat = c := ⟨_, rfl⟩
          have yes := nl_yes h
          rw [gc] at yes
          rcases (by omega : c = 10 ∨ c = 13 ∨ (c ≠ 10 ∧ c ≠ 13)) with q | q | ⟨q1, q2⟩
          · rw [yes (.inl q)] at hr
            simp (config := { maxSteps := 1000000 }) (disch := ((try simp only [awL]); omega)) only [QR, QS, QT, QU, QV, QW, QX, QY, QZ, Q0, Q1, Q2, gc, ↓awU, awV, awF, Qa, Qb, Qc, Qd, forall_const, ↓reduceIte, ↓reduceDIte, ↓Qe, Qf, Qg, Qh, Qi, Qj, Qk, Ql, Qm, Qn, Qo, Qp, Qq, Qr, Qs, implies_true, Qt, Qu, Qv, Qw, Qx, Qy, Qz, QA, QB, QC, QD, QE, QF, QG, QH, QI, QJ, QK, QL, QM, QN, QO, QP, QQ]
            all_goals rw [hr]
          · rw [yes (.inr q)] at hr
            simp (config := { maxSteps := 1000000 }) (disch := ((try simp only [awL]); omega)) only [QR, QS, QT, QU, QV, QW, QX, QY, QZ, Q0, Q1, Q2, gc, ↓awU, awV, awF, Qa, Qb, Qc, Qd, forall_const, ↓reduceIte, ↓reduceDIte, ↓Qe, Qf, Qg, Qh, Qi, Qj, Qk, Ql, Qm, Qn, Qo, Qp, Qq, Qr, Qs, implies_true, Qt, Qu, Qv, Qw, Qx, Qy, Qz, QA, QB, QC, QD, QE, QF, QG, QH, QI, QJ, QK, QL, QM, QN, QO, QP, QQ]
            all_goals rw [hr]
          · simp (config := { maxSteps := 1000000 }) (disch := ((try simp only [awL]); omega)) only [QR, QS, QT, QU, QV, QW, QX, QY, QZ, Q0, Q1, Q2, gc, ↓awU, awV, awF, Qa, Qb, Qc, Qd, forall_const, ↓reduceIte, ↓reduceDIte, ↓Qe, Qf, Qg, Qh, Qi, Qj, Qk, Ql, Qm, Qn, Qo, Qp, Qq, Qr, Qs, implies_true, Qt, Qu, Qv, Qw, Qx, Qy, Qz, QA, QB, QC, QD, QE, QF, QG, QH, QI, QJ, QK, QL, QM, QN, QO, QP, QQ]
            exact ⟨i + 1, ⟨h, fun j hj => by
              rcases Nat.lt_or_ge j i with x | x
              · exact k2 j x
              · obtain rfl : j = i := by omega
                rw [gc]; exact ⟨q1, q2⟩⟩, by simp only; omega, ⟨[], rfl, by simp, by simp [setsA, keepA, SWeak, AWeak], by simp [HWeak, BWeak, SWeak, AWeak]⟩⟩
        · rw [nl_no (fun j hj => k2 j (by omega))] at hr
          simp (config := { maxSteps := 1000000 }) (disch := ((try simp only [awL]); omega)) only [QR, QS, QT, QU, QV, QW, QX, QY, QZ, Q0, Q1, Q2, ↓awU, awV, awF, Qa, Qb, Qc, Qd, forall_const, ↓reduceIte, ↓reduceDIte, ↓Qe, Qf, Qg, Qh, Qi, Qj, Qk, Ql, Qm, Qn, Qo, Qp, Qq, Qr, Qs, implies_true, Qt, Qu, Qv, Qw, Qx, Qy, Qz, QA, QB, QC, QD, QE, QF, QG, QH, QI, QJ, QK, QL, QM, QN, QO, QP, QQ]
          all_goals rw [hr]
  · rw [show (!(Lib.trimB s 32 == s)) = true by simp [he], Bool.true_or, Bool.true_or] at hr
    have he2 : (Lib.trimB s 32 == s) = false := by simpa using he
    simp (config := { maxSteps := 1000000 }) (disch := ((try simp only [awL]); omega)) only [QR, QS, QT, QU, QV, QW, QX, QY, QZ, Q0, Q1, Q2, he2, ↓awU, awV, awF, Qa, Qb, Qc, Qd, forall_const, ↓reduceIte, ↓reduceDIte, ↓Qe, Qf, Qg, Qh, Qi, Qj, Qk, Ql, Qm, Qn, Qo, Qp, Qq, Qr, Qs, implies_true, Qt, Qu, Qv, Qw, Qx, Qy, Qz, QA, QB, QC, QD, QE, QF, QG, QH, QI, QJ, QK, QL, QM, QN, QO, QP, QQ]
    all_goals rw [hr]
end Go.Proofs.YtacepalmphbnfaaGreatDoor

namespace Go.Proofs.YtacepalmphbnfaaGreatDoor
open Go Go.Proofs Go.Abs
variable {G : Globals}
/-! strconv.Itoa of the numbers below 10^7. -/
def prD (k : Nat) : List UInt8 := [UInt8.ofNat (48 + k / 10), UInt8.ofNat (48 + k % 10)]
theorem dd2 {n : Nat} (h : 100 ≤ n) : Lib.decDigits n = Lib.decDigits (n / 100) ++ prD (n % 100) := by
  rw [Lib.decDigits, dif_neg (by omega), Lib.decDigits, dif_neg (by omega), Nat.div_div_eq_div_mul, List.append_assoc, prD]
  rw [show n / 10 % 10 = n % 100 / 10 by omega, show n % 100 % 10 = n % 10 by omega]; rfl
theorem dd_one {n : Nat} (h : n < 10) : Lib.decDigits n = [UInt8.ofNat (48 + n)] := Lib.decDigits_one h
theorem dd_two {n : Nat} (h1 : 10 ≤ n) (h : n < 100) : Lib.decDigits n = prD n := Lib.decDigits_two (by omega) h
theorem dd3 {n : Nat} (h1 : 100 ≤ n) (h : n < 1000) : Lib.decDigits n = [UInt8.ofNat (48 + n / 100)] ++ prD (n % 100) := by rw [dd2 h1, dd_one (by omega)]
theorem dd4 {n : Nat} (h1 : 1000 ≤ n) (h : n < 10000) : Lib.decDigits n = prD (n / 100) ++ prD (n % 100) := by rw [dd2 (by omega), dd_two (by omega) (by omega)]
theorem dd5 {n : Nat} (h1 : 10000 ≤ n) (h : n < 100000) : Lib.decDigits n = [UInt8.ofNat (48 + n / 10000)] ++ prD (n % 10000 / 100) ++ prD (n % 10000 % 100) := by
  rw [dd2 (by omega), dd3 (by omega) (by omega), Nat.div_div_eq_div_mul, show n / 100 % 100 = n % 10000 / 100 by omega, show n % 10000 % 100 = n % 100 by omega]
theorem dd6 {n : Nat} (h1 : 100000 ≤ n) (h : n < 1000000) : Lib.decDigits n = prD (n / 10000) ++ prD (n % 10000 / 100) ++ prD (n % 10000 % 100) := by
  rw [dd2 (by omega), dd4 (by omega) (by omega), Nat.div_div_eq_div_mul, show n / 100 % 100 = n % 10000 / 100 by omega, show n % 10000 % 100 = n % 100 by omega]
theorem dd7 {n : Nat} (h1 : 1000000 ≤ n) (h : n < 10000000) : Lib.decDigits n = [UInt8.ofNat (48 + n / 10000 / 100)] ++ prD (n / 10000 % 100) ++ prD (n % 10000 / 100) ++ prD (n % 10000 % 100) := by
  rw [dd2 (by omega), dd5 (by omega) (by omega), show n % 10000 % 100 = n % 100 by omega, show n / 100 / 10000 = n / 10000 / 100 by omega, show n / 100 % 10000 / 100 = n / 10000 % 100 by omega, show n / 100 % 10000 % 100 = n % 10000 / 100 by omega]
theorem sm_at {k : Nat} (h : k < 100) : (smallsL.getD (k * 2) 0).toNat = 48 + k / 10 ∧ (smallsL.getD (k * 2 + 1) 0).toNat = 48 + k % 10 := by
  have : ∀ k : Fin 100, (smallsL.getD (k.val * 2) 0).toNat = 48 + k.val / 10 ∧ (smallsL.getD (k.val * 2 + 1) 0).toNat = 48 + k.val % 10 := by decide +kernel
  exact this ⟨k, h⟩
theorem td100 (a : Nat) : (a : Int).tdiv 100 = ((a / 100 : Nat) : Int) := (Int.ofNat_tdiv a 100).symm
theorem tm100 (a : Nat) : (a : Int).tmod 100 = ((a % 100 : Nat) : Int) := (Int.ofNat_tmod a 100).symm
theorem td10000 (a : Nat) : (a : Int).tdiv 10000 = ((a / 10000 : Nat) : Int) := (Int.ofNat_tdiv a 10000).symm
theorem tm10000 (a : Nat) : (a : Int).tmod 10000 = ((a % 10000 : Nat) : Int) := (Int.ofNat_tmod a 10000).symm
theorem tn2 (k : Nat) : ((k : Int) * 2).toNat = k * 2 := by omega
theorem tn3 (k : Nat) : ((k : Int) * 2 + 1).toNat = k * 2 + 1 := by omega
theorem smA {k : Nat} (h : k < 100) : (smallsL.getD (k * 2) 0).toNat = 48 + k / 10 := (sm_at h).1
theorem smB {k : Nat} (h : k < 100) : (smallsL.getD (k * 2 + 1) 0).toNat = 48 + k % 10 := (sm_at h).2
set_option maxHeartbeats 4000000 in
set_option maxRecDepth 100000 in
theorem fb3_spec (n : Nat) (h1 : 100 ≤ n) (h : n < 1000) : Ctr Tryz.prog G 185 [.lsl 0 1 1 3, .d (.int .u64 n)] [.row false (ints .u8 (List.replicate 24 0))] .undef
    [.row false (ints .u8 ([0, ((48 + n / 100 : Nat) : Int), ((48 + n % 100 / 10 : Nat) : Int), ((48 + n % 100 % 10 : Nat) : Int)] ++ List.replicate 20 0))] := by
  refine Ctr.body (M := M0) hmix Tryz.func185 rfl go185 ?_
  simp (config := { maxSteps := 1000000 }) (disch := ((try simp only [awL]); omega)) only [QR, QS, QT, QU, QV, QW, QX, QY, QZ, Q0, Q1, Q2, Tryz.f185, ↓awU, awV, awF, Qa, Qb, Qc, Qd, forall_const, ↓reduceIte, ↓reduceDIte, ↓Qe, Qf, Qg, Qh, Qi, Qj, Qk, Ql, Qm, Qn, Qo, Qp, Qq, Qr, Qs, implies_true, Qt, Qu, Qv, Qw, Qx, Qy, Qz, QA, QB, QC, QD, QE, QF, QG, QH, QI, QJ, QK, QL, QM, QN, QO, QP, QQ]
  refine LoopC.fx 1 (α := Unit) (β := Unit) (fun _ => 0) (fun _ => [(1, .d (.int .u64 n)), (4, .d (.int .i64 3))]) (fun _ => [.row false (ints .u8 (List.replicate 24 0))]) (fun _ => True) 1 (fun _ => [(1, .d (.int .u64 n)), (4, .d (.int .i64 3))]) (fun _ => [.row false (ints .u8 (List.replicate 24 0))]) (fun _ => True) () trivial ?_ ?_ ?_
  · exact ⟨[some 0], rfl, by simp, by simp [setsA, keepA, SWeak, AWeak], by simp [HWeak, BWeak, SWeak, AWeak]⟩
  · rintro ⟨⟩ -
    simp only [awK, Nat.reduceMod, Nat.reduceDiv, reduceIte]
    simp (config := { maxSteps := 1000000 }) (disch := ((try simp only [awL]); omega)) only [QR, QS, QT, QU, QV, QW, QX, QY, QZ, Q0, Q1, Q2, ↓awU, awV, awF, Qa, Qb, Qc, Qd, forall_const, ↓reduceIte, ↓reduceDIte, ↓Qe, Qf, Qg, Qh, Qi, Qj, Qk, Ql, Qm, Qn, Qo, Qp, Qq, Qr, Qs, implies_true, Qt, Qu, Qv, Qw, Qx, Qy, Qz, QA, QB, QC, QD, QE, QF, QG, QH, QI, QJ, QK, QL, QM, QN, QO, QP, QQ]
    exact ⟨(), trivial, ⟨[some 0], rfl, by simp, by simp [setsA, keepA, SWeak, AWeak], by simp [HWeak, BWeak, SWeak, AWeak]⟩⟩
  · rintro ⟨⟩ -
    simp only [awK, Nat.reduceMod, Nat.reduceDiv, reduceIte]
    simp (config := { maxSteps := 1000000 }) (disch := ((try simp only [awL]); omega)) only [QR, QS, QT, QU, QV, QW, QX, QY, QZ, Q0, Q1, Q2, smalls_eq, smallsL_len, td100, tm100, td10000, tm10000, tn2, tn3, smA, smB, ↓awU, awV, awF, Qa, Qb, Qc, Qd, forall_const, ↓reduceIte, ↓reduceDIte, ↓Qe, Qf, Qg, Qh, Qi, Qj, Qk, Ql, Qm, Qn, Qo, Qp, Qq, Qr, Qs, implies_true, Qt, Qu, Qv, Qw, Qx, Qy, Qz, QA, QB, QC, QD, QE, QF, QG, QH, QI, QJ, QK, QL, QM, QN, QO, QP, QQ]
    first | (exact ⟨[some 0], rfl, by simp, by simp [HWeak, BWeak, SWeak, AWeak], .inl (by simp [AWeak, SWeak])⟩) | (refine ⟨by rfl, ?_⟩; exact ⟨[some 0], rfl, by simp, by simp [HWeak, BWeak, SWeak, AWeak], .inl (by simp [AWeak, SWeak])⟩) | (refine ⟨by rfl, by rfl, ?_⟩; exact ⟨[some 0], rfl, by simp, by simp [HWeak, BWeak, SWeak, AWeak], .inl (by simp [AWeak, SWeak])⟩) | (refine ⟨by rfl, by rfl, by rfl, ?_⟩; exact ⟨[some 0], rfl, by simp, by simp [HWeak, BWeak, SWeak, AWeak], .inl (by simp [AWeak, SWeak])⟩)
set_option maxHeartbeats 4000000 in
set_option maxRecDepth 100000 in
theorem fb4_spec (n : Nat) (h1 : 1000 ≤ n) (h : n < 10000) : Ctr Tryz.prog G 185 [.lsl 0 1 1 4, .d (.int .u64 n)] [.row false (ints .u8 (List.replicate 24 0))] .undef
    [.row false (ints .u8 ([0, ((48 + n % 10000 / 100 / 10 : Nat) : Int), ((48 + n % 10000 / 100 % 10 : Nat) : Int), ((48 + n % 10000 % 100 / 10 : Nat) : Int), ((48 + n % 10000 % 100 % 10 : Nat) : Int)] ++ List.replicate 19 0))] := by
  refine Ctr.body (M := M0) hmix Tryz.func185 rfl go185 ?_
  simp (config := { maxSteps := 1000000 }) (disch := ((try simp only [awL]); omega)) only [QR, QS, QT, QU, QV, QW, QX, QY, QZ, Q0, Q1, Q2, Tryz.f185, ↓awU, awV, awF, Qa, Qb, Qc, Qd, forall_const, ↓reduceIte, ↓reduceDIte, ↓Qe, Qf, Qg, Qh, Qi, Qj, Qk, Ql, Qm, Qn, Qo, Qp, Qq, Qr, Qs, implies_true, Qt, Qu, Qv, Qw, Qx, Qy, Qz, QA, QB, QC, QD, QE, QF, QG, QH, QI, QJ, QK, QL, QM, QN, QO, QP, QQ]
  refine LoopC.fx 1 (α := Unit) (β := Unit) (fun _ => 0) (fun _ => [(1, .d (.int .u64 n)), (4, .d (.int .i64 4))]) (fun _ => [.row false (ints .u8 (List.replicate 24 0))]) (fun _ => True) 1 (fun _ => [(1, .d (.int .u64 n)), (4, .d (.int .i64 4))]) (fun _ => [.row false (ints .u8 (List.replicate 24 0))]) (fun _ => True) () trivial ?_ ?_ ?_
  · exact ⟨[some 0], rfl, by simp, by simp [setsA, keepA, SWeak, AWeak], by simp [HWeak, BWeak, SWeak, AWeak]⟩
  · rintro ⟨⟩ -
    simp only [awK, Nat.reduceMod, Nat.reduceDiv, reduceIte]
    simp (config := { maxSteps := 1000000 }) (disch := ((try simp only [awL]); omega)) only [QR, QS, QT, QU, QV, QW, QX, QY, QZ, Q0, Q1, Q2, ↓awU, awV, awF, Qa, Qb, Qc, Qd, forall_const, ↓reduceIte, ↓reduceDIte, ↓Qe, Qf, Qg, Qh, Qi, Qj, Qk, Ql, Qm, Qn, Qo, Qp, Qq, Qr, Qs, implies_true, Qt, Qu, Qv, Qw, Qx, Qy, Qz, QA, QB, QC, QD, QE, QF, QG, QH, QI, QJ, QK, QL, QM, QN, QO, QP, QQ]
    exact ⟨(), trivial, ⟨[some 0], rfl, by simp, by simp [setsA, keepA, SWeak, AWeak], by simp [HWeak, BWeak, SWeak, AWeak]⟩⟩
  · rintro ⟨⟩ -
    simp only [awK, Nat.reduceMod, Nat.reduceDiv, reduceIte]
    simp (config := { maxSteps := 1000000 }) (disch := ((try simp only [awL]); omega)) only [QR, QS, QT, QU, QV, QW, QX, QY, QZ, Q0, Q1, Q2, smalls_eq, smallsL_len, td100, tm100, td10000, tm10000, tn2, tn3, smA, smB, ↓awU, awV, awF, Qa, Qb, Qc, Qd, forall_const, ↓reduceIte, ↓reduceDIte, ↓Qe, Qf, Qg, Qh, Qi, Qj, Qk, Ql, Qm, Qn, Qo, Qp, Qq, Qr, Qs, implies_true, Qt, Qu, Qv, Qw, Qx, Qy, Qz, QA, QB, QC, QD, QE, QF, QG, QH, QI, QJ, QK, QL, QM, QN, QO, QP, QQ]
    first | (exact ⟨[some 0], rfl, by simp, by simp [HWeak, BWeak, SWeak, AWeak], .inl (by simp [AWeak, SWeak])⟩) | (refine ⟨by rfl, ?_⟩; exact ⟨[some 0], rfl, by simp, by simp [HWeak, BWeak, SWeak, AWeak], .inl (by simp [AWeak, SWeak])⟩) | (refine ⟨by rfl, by rfl, ?_⟩; exact ⟨[some 0], rfl, by simp, by simp [HWeak, BWeak, SWeak, AWeak], .inl (by simp [AWeak, SWeak])⟩) | (refine ⟨by rfl, by rfl, by rfl, ?_⟩; exact ⟨[some 0], rfl, by simp, by simp [HWeak, BWeak, SWeak, AWeak], .inl (by simp [AWeak, SWeak])⟩)
set_option maxHeartbeats 4000000 in
set_option maxRecDepth 100000 in
theorem fb5_spec (n : Nat) (h1 : 10000 ≤ n) (h : n < 100000) : Ctr Tryz.prog G 185 [.lsl 0 1 1 5, .d (.int .u64 n)] [.row false (ints .u8 (List.replicate 24 0))] .undef
    [.row false (ints .u8 ([0, ((48 + n / 10000 : Nat) : Int), ((48 + n % 10000 / 100 / 10 : Nat) : Int), ((48 + n % 10000 / 100 % 10 : Nat) : Int), ((48 + n % 10000 % 100 / 10 : Nat) : Int), ((48 + n % 10000 % 100 % 10 : Nat) : Int)] ++ List.replicate 18 0))] := by
  refine Ctr.body (M := M0) hmix Tryz.func185 rfl go185 ?_
  simp (config := { maxSteps := 1000000 }) (disch := ((try simp only [awL]); omega)) only [QR, QS, QT, QU, QV, QW, QX, QY, QZ, Q0, Q1, Q2, Tryz.f185, ↓awU, awV, awF, Qa, Qb, Qc, Qd, forall_const, ↓reduceIte, ↓reduceDIte, ↓Qe, Qf, Qg, Qh, Qi, Qj, Qk, Ql, Qm, Qn, Qo, Qp, Qq, Qr, Qs, implies_true, Qt, Qu, Qv, Qw, Qx, Qy, Qz, QA, QB, QC, QD, QE, QF, QG, QH, QI, QJ, QK, QL, QM, QN, QO, QP, QQ]
  refine LoopC.fx 1 (α := Unit) (β := Unit) (fun _ => 0) (fun _ => [(1, .d (.int .u64 n)), (4, .d (.int .i64 5))]) (fun _ => [.row false (ints .u8 (List.replicate 24 0))]) (fun _ => True) 1 (fun _ => [(1, .d (.int .u64 n)), (4, .d (.int .i64 5))]) (fun _ => [.row false (ints .u8 (List.replicate 24 0))]) (fun _ => True) () trivial ?_ ?_ ?_
  · exact ⟨[some 0], rfl, by simp, by simp [setsA, keepA, SWeak, AWeak], by simp [HWeak, BWeak, SWeak, AWeak]⟩
  · rintro ⟨⟩ -
    simp only [awK, Nat.reduceMod, Nat.reduceDiv, reduceIte]
    simp (config := { maxSteps := 1000000 }) (disch := ((try simp only [awL]); omega)) only [QR, QS, QT, QU, QV, QW, QX, QY, QZ, Q0, Q1, Q2, ↓awU, awV, awF, Qa, Qb, Qc, Qd, forall_const, ↓reduceIte, ↓reduceDIte, ↓Qe, Qf, Qg, Qh, Qi, Qj, Qk, Ql, Qm, Qn, Qo, Qp, Qq, Qr, Qs, implies_true, Qt, Qu, Qv, Qw, Qx, Qy, Qz, QA, QB, QC, QD, QE, QF, QG, QH, QI, QJ, QK, QL, QM, QN, QO, QP, QQ]
    exact ⟨(), trivial, ⟨[some 0], rfl, by simp, by simp [setsA, keepA, SWeak, AWeak], by simp [HWeak, BWeak, SWeak, AWeak]⟩⟩
  · rintro ⟨⟩ -
    simp only [awK, Nat.reduceMod, Nat.reduceDiv, reduceIte]
    simp (config := { maxSteps := 1000000 }) (disch := ((try simp only [awL]); omega)) only [QR, QS, QT, QU, QV, QW, QX, QY, QZ, Q0, Q1, Q2, smalls_eq, smallsL_len, td100, tm100, td10000, tm10000, tn2, tn3, smA, smB, ↓awU, awV, awF, Qa, Qb, Qc, Qd, forall_const, ↓reduceIte, ↓reduceDIte, ↓Qe, Qf, Qg, Qh, Qi, Qj, Qk, Ql, Qm, Qn, Qo, Qp, Qq, Qr, Qs, implies_true, Qt, Qu, Qv, Qw, Qx, Qy, Qz, QA, QB, QC, QD, QE, QF, QG, QH, QI, QJ, QK, QL, QM, QN, QO, QP, QQ]
    first | (exact ⟨[some 0], rfl, by simp, by simp [HWeak, BWeak, SWeak, AWeak], .inl (by simp [AWeak, SWeak])⟩) | (refine ⟨by rfl, ?_⟩; exact ⟨[some 0], rfl, by simp, by simp [HWeak, BWeak, SWeak, AWeak], .inl (by simp [AWeak, SWeak])⟩) | (refine ⟨by rfl, by rfl, ?_⟩; exact ⟨[some 0], rfl, by simp, by simp [HWeak, BWeak, SWeak, AWeak], .inl (by simp [AWeak, SWeak])⟩) | (refine ⟨by rfl, by rfl, by rfl, ?_⟩; exact ⟨[some 0], rfl, by simp, by simp [HWeak, BWeak, SWeak, AWeak], .inl (by simp [AWeak, SWeak])⟩)
set_option maxHeartbeats 4000000 in
set_option maxRecDepth 100000 in
theorem fb6_spec (n : Nat) (h1 : 100000 ≤ n) (h : n < 1000000) : Ctr Tryz.prog G 185 [.lsl 0 1 1 6, .d (.int .u64 n)] [.row false (ints .u8 (List.replicate 24 0))] .undef
    [.row false (ints .u8 ([0, ((48 + n / 10000 % 100 / 10 : Nat) : Int), ((48 + n / 10000 % 100 % 10 : Nat) : Int), ((48 + n % 10000 / 100 / 10 : Nat) : Int), ((48 + n % 10000 / 100 % 10 : Nat) : Int), ((48 + n % 10000 % 100 / 10 : Nat) : Int), ((48 + n % 10000 % 100 % 10 : Nat) : Int)] ++ List.replicate 17 0))] := by
  refine Ctr.body (M := M0) hmix Tryz.func185 rfl go185 ?_
  simp (config := { maxSteps := 1000000 }) (disch := ((try simp only [awL]); omega)) only [QR, QS, QT, QU, QV, QW, QX, QY, QZ, Q0, Q1, Q2, Tryz.f185, ↓awU, awV, awF, Qa, Qb, Qc, Qd, forall_const, ↓reduceIte, ↓reduceDIte, ↓Qe, Qf, Qg, Qh, Qi, Qj, Qk, Ql, Qm, Qn, Qo, Qp, Qq, Qr, Qs, implies_true, Qt, Qu, Qv, Qw, Qx, Qy, Qz, QA, QB, QC, QD, QE, QF, QG, QH, QI, QJ, QK, QL, QM, QN, QO, QP, QQ]
  refine LoopC.fx 1 (α := Unit) (β := Unit) (fun _ => 0) (fun _ => [(1, .d (.int .u64 n)), (4, .d (.int .i64 6))]) (fun _ => [.row false (ints .u8 (List.replicate 24 0))]) (fun _ => True) 1 (fun _ => [(1, .d (.int .u64 n)), (4, .d (.int .i64 6))]) (fun _ => [.row false (ints .u8 (List.replicate 24 0))]) (fun _ => True) () trivial ?_ ?_ ?_
  · exact ⟨[some 0], rfl, by simp, by simp [setsA, keepA, SWeak, AWeak], by simp [HWeak, BWeak, SWeak, AWeak]⟩
  · rintro ⟨⟩ -
    simp only [awK, Nat.reduceMod, Nat.reduceDiv, reduceIte]
    simp (config := { maxSteps := 1000000 }) (disch := ((try simp only [awL]); omega)) only [QR, QS, QT, QU, QV, QW, QX, QY, QZ, Q0, Q1, Q2, ↓awU, awV, awF, Qa, Qb, Qc, Qd, forall_const, ↓reduceIte, ↓reduceDIte, ↓Qe, Qf, Qg, Qh, Qi, Qj, Qk, Ql, Qm, Qn, Qo, Qp, Qq, Qr, Qs, implies_true, Qt, Qu, Qv, Qw, Qx, Qy, Qz, QA, QB, QC, QD, QE, QF, QG, QH, QI, QJ, QK, QL, QM, QN, QO, QP, QQ]
    exact ⟨(), trivial, ⟨[some 0], rfl, by simp, by simp [setsA, keepA, SWeak, AWeak], by simp [HWeak, BWeak, SWeak, AWeak]⟩⟩
  · rintro ⟨⟩ -
    simp only [awK, Nat.reduceMod, Nat.reduceDiv, reduceIte]
    simp (config := { maxSteps := 1000000 }) (disch := ((try simp only [awL]); omega)) only [QR, QS, QT, QU, QV, QW, QX, QY, QZ, Q0, Q1, Q2, smalls_eq, smallsL_len, td100, tm100, td10000, tm10000, tn2, tn3, smA, smB, ↓awU, awV, awF, Qa, Qb, Qc, Qd, forall_const, ↓reduceIte, ↓reduceDIte, ↓Qe, Qf, Qg, Qh, Qi, Qj, Qk, Ql, Qm, Qn, Qo, Qp, Qq, Qr, Qs, implies_true, Qt, Qu, Qv, Qw, Qx, Qy, Qz, QA, QB, QC, QD, QE, QF, QG, QH, QI, QJ, QK, QL, QM, QN, QO, QP, QQ]
    first | (exact ⟨[some 0], rfl, by simp, by simp [HWeak, BWeak, SWeak, AWeak], .inl (by simp [AWeak, SWeak])⟩) | (refine ⟨by rfl, ?_⟩; exact ⟨[some 0], rfl, by simp, by simp [HWeak, BWeak, SWeak, AWeak], .inl (by simp [AWeak, SWeak])⟩) | (refine ⟨by rfl, by rfl, ?_⟩; exact ⟨[some 0], rfl, by simp, by simp [HWeak, BWeak, SWeak, AWeak], .inl (by simp [AWeak, SWeak])⟩) | (refine ⟨by rfl, by rfl, by rfl, ?_⟩; exact ⟨[some 0], rfl, by simp, by simp [HWeak, BWeak, SWeak, AWeak], .inl (by simp [AWeak, SWeak])⟩)
set_option maxHeartbeats 4000000 in
set_option maxRecDepth 100000 in
theorem fb7_spec (n : Nat) (h1 : 1000000 ≤ n) (h : n < 10000000) : Ctr Tryz.prog G 185 [.lsl 0 1 1 7, .d (.int .u64 n)] [.row false (ints .u8 (List.replicate 24 0))] .undef
    [.row false (ints .u8 ([0, ((48 + n / 10000 / 100 : Nat) : Int), ((48 + n / 10000 % 100 / 10 : Nat) : Int), ((48 + n / 10000 % 100 % 10 : Nat) : Int), ((48 + n % 10000 / 100 / 10 : Nat) : Int), ((48 + n % 10000 / 100 % 10 : Nat) : Int), ((48 + n % 10000 % 100 / 10 : Nat) : Int), ((48 + n % 10000 % 100 % 10 : Nat) : Int)] ++ List.replicate 16 0))] := by
  refine Ctr.body (M := M0) hmix Tryz.func185 rfl go185 ?_
  simp (config := { maxSteps := 1000000 }) (disch := ((try simp only [awL]); omega)) only [QR, QS, QT, QU, QV, QW, QX, QY, QZ, Q0, Q1, Q2, Tryz.f185, ↓awU, awV, awF, Qa, Qb, Qc, Qd, forall_const, ↓reduceIte, ↓reduceDIte, ↓Qe, Qf, Qg, Qh, Qi, Qj, Qk, Ql, Qm, Qn, Qo, Qp, Qq, Qr, Qs, implies_true, Qt, Qu, Qv, Qw, Qx, Qy, Qz, QA, QB, QC, QD, QE, QF, QG, QH, QI, QJ, QK, QL, QM, QN, QO, QP, QQ]
  refine LoopC.fx 1 (α := Unit) (β := Unit) (fun _ => 0) (fun _ => [(1, .d (.int .u64 n)), (4, .d (.int .i64 7))]) (fun _ => [.row false (ints .u8 (List.replicate 24 0))]) (fun _ => True) 1 (fun _ => [(1, .d (.int .u64 n)), (4, .d (.int .i64 7))]) (fun _ => [.row false (ints .u8 (List.replicate 24 0))]) (fun _ => True) () trivial ?_ ?_ ?_
  · exact ⟨[some 0], rfl, by simp, by simp [setsA, keepA, SWeak, AWeak], by simp [HWeak, BWeak, SWeak, AWeak]⟩
  · rintro ⟨⟩ -
    simp only [awK, Nat.reduceMod, Nat.reduceDiv, reduceIte]
    simp (config := { maxSteps := 1000000 }) (disch := ((try simp only [awL]); omega)) only [QR, QS, QT, QU, QV, QW, QX, QY, QZ, Q0, Q1, Q2, ↓awU, awV, awF, Qa, Qb, Qc, Qd, forall_const, ↓reduceIte, ↓reduceDIte, ↓Qe, Qf, Qg, Qh, Qi, Qj, Qk, Ql, Qm, Qn, Qo, Qp, Qq, Qr, Qs, implies_true, Qt, Qu, Qv, Qw, Qx, Qy, Qz, QA, QB, QC, QD, QE, QF, QG, QH, QI, QJ, QK, QL, QM, QN, QO, QP, QQ]
    exact ⟨(), trivial, ⟨[some 0], rfl, by simp, by simp [setsA, keepA, SWeak, AWeak], by simp [HWeak, BWeak, SWeak, AWeak]⟩⟩
  · rintro ⟨⟩ -
    simp only [awK, Nat.reduceMod, Nat.reduceDiv, reduceIte]
    simp (config := { maxSteps := 1000000 }) (disch := ((try simp only [awL]); omega)) only [QR, QS, QT, QU, QV, QW, QX, QY, QZ, Q0, Q1, Q2, smalls_eq, smallsL_len, td100, tm100, td10000, tm10000, tn2, tn3, smA, smB, ↓awU, awV, awF, Qa, Qb, Qc, Qd, forall_const, ↓reduceIte, ↓reduceDIte, ↓Qe, Qf, Qg, Qh, Qi, Qj, Qk, Ql, Qm, Qn, Qo, Qp, Qq, Qr, Qs, implies_true, Qt, Qu, Qv, Qw, Qx, Qy, Qz, QA, QB, QC, QD, QE, QF, QG, QH, QI, QJ, QK, QL, QM, QN, QO, QP, QQ]
    first | (exact ⟨[some 0], rfl, by simp, by simp [HWeak, BWeak, SWeak, AWeak], .inl (by simp [AWeak, SWeak])⟩) | (refine ⟨by rfl, ?_⟩; exact ⟨[some 0], rfl, by simp, by simp [HWeak, BWeak, SWeak, AWeak], .inl (by simp [AWeak, SWeak])⟩) | (refine ⟨by rfl, by rfl, ?_⟩; exact ⟨[some 0], rfl, by simp, by simp [HWeak, BWeak, SWeak, AWeak], .inl (by simp [AWeak, SWeak])⟩) | (refine ⟨by rfl, by rfl, by rfl, ?_⟩; exact ⟨[some 0], rfl, by simp, by simp [HWeak, BWeak, SWeak, AWeak], .inl (by simp [AWeak, SWeak])⟩)
/-- The table of powers of ten. -/
def HP (G : Globals) : Prop := G 5 = some (ints .u64 Lib.pow10Tab)
def Tryz.laysLen64_ren : Go.Shelf.Ren := ⟨fun | 129 => 141 | n => n, fun | 53 => 165 | 3 => 3 | 4 => 4 | 46 => 129 | 5 => 5 | 9 => 9 | n => n, fun | n => n⟩
theorem Tryz.laysLen64 : Go.Proofs.Lays.n129 Tryz.prog Tryz.laysLen64_ren where
  mixed := by kernel_rfl
  f129 := Tryz.func141.trans (congrArg some (by kernel_rfl))
  t3 := Tryz.underlying3
  a3 := Tryz.isAgg3
  z3 := Tryz.sizeOf3
  v3 := Tryz.zeroValue3
  t4 := Tryz.underlying4
  a4 := Tryz.isAgg4
  z4 := Tryz.sizeOf4
  v4 := Tryz.zeroValue4
  t5 := Tryz.underlying5
  a5 := Tryz.isAgg5
  z5 := Tryz.sizeOf5
  v5 := Tryz.zeroValue5
  t9 := Tryz.underlying9
  a9 := Tryz.isAgg9
  z9 := Tryz.sizeOf9
  v9 := Tryz.zeroValue9
  t46 := Tryz.underlying129
  a46 := Tryz.isAgg129
  z46 := Tryz.sizeOf129
  v46 := Tryz.zeroValue129
  t53 := Tryz.underlying165
  a53 := Tryz.isAgg165
  z53 := Tryz.sizeOf165
  v53 := Tryz.zeroValue165

theorem len64_spec (n : Nat) (h : n < 18446744073709551616) : Ctr Tryz.prog G 141 [.d (.int .u64 n)] [] (.d (.int .i64 (Lib.bitLen n))) [] := by
  refine Ctr.of_calls go141 fun h ρ w vs q r => ?_
  obtain ⟨v, rfl, hv⟩ := r.inv1
  rw [hv.int_inv]
  refine (Any.bits_Len64 Tryz.laysLen64 n w (by omega) (by omega)).mono ?_
  rintro e w' ⟨rfl, rfl⟩
  exact ⟨_, rfl, .int _ _, .refl _ _⟩
theorem log10_spec (x : Nat) (h : x ≤ 64) : Ctr Tryz.prog G 202 [.d (.int .i64 x)] [] (.d (.int .i64 (Lib.l10 x))) [] := by
  refine Ctr.pure (M := M0) hmix Tryz.func202 rfl go202 ?_
  simp (config := { maxSteps := 1000000 }) (disch := ((try simp only [awL]); omega)) only [QR, QS, QT, QU, QV, QW, QX, QY, QZ, Q0, Q1, Q2, Tryz.f202, ↓awU, awV, awF, Qa, Qb, Qc, Qd, forall_const, ↓reduceIte, ↓reduceDIte, ↓Qe, Qf, Qg, Qh, Qi, Qj, Qk, Ql, Qm, Qn, Qo, Qp, Qq, Qr, Qs, implies_true, Qt, Qu, Qv, Qw, Qx, Qy, Qz, QA, QB, QC, QD, QE, QF, QG, QH, QI, QJ, QK, QL, QM, QN, QO, QP, QQ]
  unfold Lib.l10; omega
theorem bool2_spec (b : Bool) : Ctr Tryz.prog G 203 [.d (.bool b)] [] (.d (.int .i64 (if b = true then 1 else 0))) [] := by
  refine Ctr.pure (M := M0) hmix Tryz.func203 rfl go203 ?_
  cases b
  · simp (config := { maxSteps := 1000000 }) (disch := ((try simp only [awL]); omega)) only [QR, QS, QT, QU, QV, QW, QX, QY, QZ, Q0, Q1, Q2, Tryz.f203, ↓awU, awV, awF, Qa, Qb, Qc, Qd, forall_const, ↓reduceIte, ↓reduceDIte, ↓Qe, Qf, Qg, Qh, Qi, Qj, Qk, Ql, Qm, Qn, Qo, Qp, Qq, Qr, Qs, implies_true, Qt, Qu, Qv, Qw, Qx, Qy, Qz, QA, QB, QC, QD, QE, QF, QG, QH, QI, QJ, QK, QL, QM, QN, QO, QP, QQ]
    try rfl
  · simp (config := { maxSteps := 1000000 }) (disch := ((try simp only [awL]); omega)) only [QR, QS, QT, QU, QV, QW, QX, QY, QZ, Q0, Q1, Q2, Tryz.f203, ↓awU, awV, awF, Qa, Qb, Qc, Qd, forall_const, ↓reduceIte, ↓reduceDIte, ↓Qe, Qf, Qg, Qh, Qi, Qj, Qk, Ql, Qm, Qn, Qo, Qp, Qq, Qr, Qs, implies_true, Qt, Qu, Qv, Qw, Qx, Qy, Qz, QA, QB, QC, QD, QE, QF, QG, QH, QI, QJ, QK, QL, QM, QN, QO, QP, QQ]
    try rfl
theorem bitLen_10 {n : Nat} (h2 : n < 10000000) : Lib.bitLen n ≤ 24 := Lib.bitLen_le n 24 (by decide) (by omega)
set_option maxHeartbeats 4000000 in
set_option maxRecDepth 100000 in
theorem numDigits_spec (hP : HP G) (n : Nat) (h1 : 1 ≤ n) (h2 : n < 10000000) : Ctr Tryz.prog G 184 [.d (.int .u64 n)] [] (.d (.int .i64 (Lib.nDigits n))) [] := by
  refine Ctr.pure (M := M0) hmix Tryz.func184 rfl go184 ?_
  have hP' : G 5 = some (ints .u64 Lib.pow10Tab) := hP
  obtain ⟨e1, e2⟩ := Lib.numDigits_eq n h1 (by omega)
  have hb := bitLen_10 h2
  have g0 := ints_getD (k := .u64) (d := .nilp) (l := Lib.pow10Tab) (i := Lib.l10 (Lib.bitLen n)) (by rw [Lib.pow10Tab_length]; omega)
  rw [Lib.pow10Tab_at _ (by omega)] at g0
  have pl := @ints_length .u64 Lib.pow10Tab
  rw [Lib.pow10Tab_length] at pl
  simp (config := { maxSteps := 1000000 }) (disch := ((try simp only [awL]); omega)) only [QR, QS, QT, QU, QV, QW, QX, QY, QZ, Q0, Q1, Q2, Tryz.f184, ↓awU, awV, awF, Qa, Qb, Qc, Qd, forall_const, ↓reduceIte, ↓reduceDIte, ↓Qe, Qf, Qg, Qh, Qi, Qj, Qk, Ql, Qm, Qn, Qo, Qp, Qq, Qr, Qs, implies_true, Qt, Qu, Qv, Qw, Qx, Qy, Qz, QA, QB, QC, QD, QE, QF, QG, QH, QI, QJ, QK, QL, QM, QN, QO, QP, QQ]
  refine CallC.pure (len64_spec n (by omega)) ?_
  simp (config := { maxSteps := 1000000 }) (disch := ((try simp only [awL]); omega)) only [QR, QS, QT, QU, QV, QW, QX, QY, QZ, Q0, Q1, Q2, ↓awU, awV, awF, Qa, Qb, Qc, Qd, forall_const, ↓reduceIte, ↓reduceDIte, ↓Qe, Qf, Qg, Qh, Qi, Qj, Qk, Ql, Qm, Qn, Qo, Qp, Qq, Qr, Qs, implies_true, Qt, Qu, Qv, Qw, Qx, Qy, Qz, QA, QB, QC, QD, QE, QF, QG, QH, QI, QJ, QK, QL, QM, QN, QO, QP, QQ]
  refine CallC.pure (log10_spec (Lib.bitLen n) (by omega)) ?_
  generalize Lib.l10 (Lib.bitLen n) = q at *
  generalize (10 : Nat) ^ q = t at *
  simp (config := { maxSteps := 1000000 }) (disch := ((try simp only [awL]); omega)) only [QR, QS, QT, QU, QV, QW, QX, QY, QZ, Q0, Q1, Q2, hP', pl, g0, ↓awU, awV, awF, Qa, Qb, Qc, Qd, forall_const, ↓reduceIte, ↓reduceDIte, ↓Qe, Qf, Qg, Qh, Qi, Qj, Qk, Ql, Qm, Qn, Qo, Qp, Qq, Qr, Qs, implies_true, Qt, Qu, Qv, Qw, Qx, Qy, Qz, QA, QB, QC, QD, QE, QF, QG, QH, QI, QJ, QK, QL, QM, QN, QO, QP, QQ]
  refine CallC.pure (bool2_spec _) ?_
  rw [← e1]
  by_cases ht : t ≤ n
  · rw [show decide ((t : Int) ≤ (n : Int)) = true from decide_eq_true (by omega), if_pos rfl, if_pos ht]
    simp (config := { maxSteps := 1000000 }) (disch := ((try simp only [awL]); omega)) only [QR, QS, QT, QU, QV, QW, QX, QY, QZ, Q0, Q1, Q2, ↓awU, awV, awF, Qa, Qb, Qc, Qd, forall_const, ↓reduceIte, ↓reduceDIte, ↓Qe, Qf, Qg, Qh, Qi, Qj, Qk, Ql, Qm, Qn, Qo, Qp, Qq, Qr, Qs, implies_true, Qt, Qu, Qv, Qw, Qx, Qy, Qz, QA, QB, QC, QD, QE, QF, QG, QH, QI, QJ, QK, QL, QM, QN, QO, QP, QQ]
    try rfl
  · rw [show decide ((t : Int) ≤ (n : Int)) = false from decide_eq_false (by omega), if_neg ht, if_neg (show ¬ (false = true) by decide)]
    simp (config := { maxSteps := 1000000 }) (disch := ((try simp only [awL]); omega)) only [QR, QS, QT, QU, QV, QW, QX, QY, QZ, Q0, Q1, Q2, ↓awU, awV, awF, Qa, Qb, Qc, Qd, forall_const, ↓reduceIte, ↓reduceDIte, ↓Qe, Qf, Qg, Qh, Qi, Qj, Qk, Ql, Qm, Qn, Qo, Qp, Qq, Qr, Qs, implies_true, Qt, Qu, Qv, Qw, Qx, Qy, Qz, QA, QB, QC, QD, QE, QF, QG, QH, QI, QJ, QK, QL, QM, QN, QO, QP, QQ]
    try rfl
def MI : Muts := fun k => k == 185
theorem MI_t : MI 185 = true := rfl
theorem MI_n {k : Nat} (h : k ≠ 185) : MI k = false := by simpa only [MI, beq_eq_false_iff_ne] using h
theorem nd_of {n k m : Nat} (h1 : 10 ^ k ≤ n) (h2 : n < 10 ^ (k + 1)) (e : m = k + 1) : ((Lib.nDigits n : Nat) : Int) = m := by rw [Lib.nDigits_unique k n h1 h2, e]
theorem num8 {k : Nat} (h : k < 10) : ((UInt8.ofNat (48 + k)).toNat : Int) = ((48 + k : Nat) : Int) := by simp; omega
theorem cut_row (l z : List UInt8) : cut (ints .u8 ([0] ++ (nums l ++ nums z))) 1 l.length = ints .u8 (nums l) := by
  simp only [cut, ints, nums, List.map_append, List.map_cons, List.map_nil, List.map_map, List.singleton_append, List.drop_succ_cons, List.drop_zero]
  rw [List.take_append_of_le_length (by simp), List.take_of_length_le (by simp)]
theorem row3 {n : Nat} (h1 : 100 ≤ n) (h : n < 1000) : ints .u8 ([0, ((48 + n / 100 : Nat) : Int), ((48 + n % 100 / 10 : Nat) : Int), ((48 + n % 100 % 10 : Nat) : Int)] ++ List.replicate 20 0) = ints .u8 ([0] ++ (nums (Lib.decDigits n) ++ nums (List.replicate 20 0))) := by
  rw [dd3 h1 h, prD]; simp only [nums, List.map_append, List.map_cons, List.map_nil]; rw [num8 (by omega), num8 (by omega), num8 (by omega)]; rfl
theorem row4 {n : Nat} (h1 : 1000 ≤ n) (h : n < 10000) : ints .u8 ([0, ((48 + n % 10000 / 100 / 10 : Nat) : Int), ((48 + n % 10000 / 100 % 10 : Nat) : Int), ((48 + n % 10000 % 100 / 10 : Nat) : Int), ((48 + n % 10000 % 100 % 10 : Nat) : Int)] ++ List.replicate 19 0) = ints .u8 ([0] ++ (nums (Lib.decDigits n) ++ nums (List.replicate 19 0))) := by
  rw [dd4 h1 h, Nat.mod_eq_of_lt h, prD, prD]; simp only [nums, List.map_append, List.map_cons, List.map_nil]; rw [num8 (by omega), num8 (by omega), num8 (by omega), num8 (by omega)]; rfl
theorem row5 {n : Nat} (h1 : 10000 ≤ n) (h : n < 100000) : ints .u8 ([0, ((48 + n / 10000 : Nat) : Int), ((48 + n % 10000 / 100 / 10 : Nat) : Int), ((48 + n % 10000 / 100 % 10 : Nat) : Int), ((48 + n % 10000 % 100 / 10 : Nat) : Int), ((48 + n % 10000 % 100 % 10 : Nat) : Int)] ++ List.replicate 18 0) = ints .u8 ([0] ++ (nums (Lib.decDigits n) ++ nums (List.replicate 18 0))) := by
  rw [dd5 h1 h, prD, prD]; simp only [nums, List.map_append, List.map_cons, List.map_nil]; rw [num8 (by omega), num8 (by omega), num8 (by omega), num8 (by omega), num8 (by omega)]; rfl
theorem row6 {n : Nat} (h1 : 100000 ≤ n) (h : n < 1000000) : ints .u8 ([0, ((48 + n / 10000 % 100 / 10 : Nat) : Int), ((48 + n / 10000 % 100 % 10 : Nat) : Int), ((48 + n % 10000 / 100 / 10 : Nat) : Int), ((48 + n % 10000 / 100 % 10 : Nat) : Int), ((48 + n % 10000 % 100 / 10 : Nat) : Int), ((48 + n % 10000 % 100 % 10 : Nat) : Int)] ++ List.replicate 17 0) = ints .u8 ([0] ++ (nums (Lib.decDigits n) ++ nums (List.replicate 17 0))) := by
  rw [dd6 h1 h, Nat.mod_eq_of_lt (show n / 10000 < 100 by omega), prD, prD, prD]; simp only [nums, List.map_append, List.map_cons, List.map_nil]; rw [num8 (by omega), num8 (by omega), num8 (by omega), num8 (by omega), num8 (by omega), num8 (by omega)]; rfl
theorem row7 {n : Nat} (h1 : 1000000 ≤ n) (h : n < 10000000) : ints .u8 ([0, ((48 + n / 10000 / 100 : Nat) : Int), ((48 + n / 10000 % 100 / 10 : Nat) : Int), ((48 + n / 10000 % 100 % 10 : Nat) : Int), ((48 + n % 10000 / 100 / 10 : Nat) : Int), ((48 + n % 10000 / 100 % 10 : Nat) : Int), ((48 + n % 10000 % 100 / 10 : Nat) : Int), ((48 + n % 10000 % 100 % 10 : Nat) : Int)] ++ List.replicate 16 0) = ints .u8 ([0] ++ (nums (Lib.decDigits n) ++ nums (List.replicate 16 0))) := by
  rw [dd7 h1 h, prD, prD, prD]; simp only [nums, List.map_append, List.map_cons, List.map_nil]; rw [num8 (by omega), num8 (by omega), num8 (by omega), num8 (by omega), num8 (by omega), num8 (by omega), num8 (by omega)]; rfl
set_option maxHeartbeats 4000000 in
set_option maxRecDepth 100000 in
theorem formatIntN_spec (hP : HP G) (n : Nat) (h1 : 100 ≤ n) (h2 : n < 10000000) : Ctr Tryz.prog G 148 [.d (.int .i64 n), .d (.int .i64 10)] [] (.d (S (Lib.decDigits n))) [] := by
  refine Ctr.pure (M := MI) hmix Tryz.func148 rfl go148 ?_
  simp (config := { maxSteps := 1000000 }) (disch := ((try simp only [awL]); omega)) only [QR, QS, QT, QU, QV, QW, QX, QY, QZ, Q0, Q1, Q2, MI_t, MI_n, Tryz.f148, ↓awU, awV, awF, Qa, Qb, Qc, Qd, forall_const, ↓reduceIte, ↓reduceDIte, ↓Qe, Qf, Qg, Qh, Qi, Qj, Qk, Ql, Qm, Qn, Qo, Qp, Qq, Qr, Qs, implies_true, Qt, Qu, Qv, Qw, Qx, Qy, Qz, QA, QB, QC, QD, QE, QF, QG, QH, QI, QJ, QK, QL, QM, QN, QO, QP, QQ]
  refine CallC.pure (numDigits_spec hP n (by omega) h2) ?_
  have dl := Lib.decDigits_length n
  rcases (by omega : n < 1000 ∨ (1000 ≤ n ∧ n < 10000) ∨ (10000 ≤ n ∧ n < 100000) ∨ (100000 ≤ n ∧ n < 1000000) ∨ 1000000 ≤ n) with h | ⟨h3, h4⟩ | ⟨h3, h4⟩ | ⟨h3, h4⟩ | h
  · have en : ((Lib.nDigits n : Nat) : Int) = 3 := nd_of (k := 2) (by omega) (by omega) rfl
    have dl2 : (Lib.decDigits n).length = 3 := by omega
    have sp := fb3_spec (G := G) n h1 h
    rw [row3 h1 h] at sp
    rw [en]
    simp (config := { maxSteps := 1000000 }) (disch := ((try simp only [awL]); omega)) only [QR, QS, QT, QU, QV, QW, QX, QY, QZ, Q0, Q1, Q2, MI_t, MI_n, ↓awU, awV, awF, Qa, Qb, Qc, Qd, forall_const, ↓reduceIte, ↓reduceDIte, ↓Qe, Qf, Qg, Qh, Qi, Qj, Qk, Ql, Qm, Qn, Qo, Qp, Qq, Qr, Qs, implies_true, Qt, Qu, Qv, Qw, Qx, Qy, Qz, QA, QB, QC, QD, QE, QF, QG, QH, QI, QJ, QK, QL, QM, QN, QO, QP, QQ]
    generalize Lib.decDigits n = dg at *
    refine CallC.by sp (by rfl) (by rfl) (by simp) ?_
    have cr := cut_row dg (List.replicate 20 0)
    rw [dl2] at cr
    have rl : (ints .u8 ([0] ++ (nums dg ++ nums (List.replicate 20 0)))).length = 24 := by rw [ints_length]; simp only [List.length_append, nums_length, List.length_replicate, dl2, List.length_cons, List.length_nil]
    generalize ints .u8 ([0] ++ (nums dg ++ nums (List.replicate 20 0))) = rw at *
    simp (config := { maxSteps := 1000000 }) (disch := ((try simp only [awL]); omega)) only [QR, QS, QT, QU, QV, QW, QX, QY, QZ, Q0, Q1, Q2, MI_t, MI_n, rl, cr, numsOf_ints, strOfNums_nums, ↓awU, awV, awF, Qa, Qb, Qc, Qd, forall_const, ↓reduceIte, ↓reduceDIte, ↓Qe, Qf, Qg, Qh, Qi, Qj, Qk, Ql, Qm, Qn, Qo, Qp, Qq, Qr, Qs, implies_true, Qt, Qu, Qv, Qw, Qx, Qy, Qz, QA, QB, QC, QD, QE, QF, QG, QH, QI, QJ, QK, QL, QM, QN, QO, QP, QQ]
    try rfl
  · have en : ((Lib.nDigits n : Nat) : Int) = 4 := nd_of (k := 3) (by omega) (by omega) rfl
    have dl2 : (Lib.decDigits n).length = 4 := by omega
    have sp := fb4_spec (G := G) n h3 h4
    rw [row4 h3 h4] at sp
    rw [en]
    simp (config := { maxSteps := 1000000 }) (disch := ((try simp only [awL]); omega)) only [QR, QS, QT, QU, QV, QW, QX, QY, QZ, Q0, Q1, Q2, MI_t, MI_n, ↓awU, awV, awF, Qa, Qb, Qc, Qd, forall_const, ↓reduceIte, ↓reduceDIte, ↓Qe, Qf, Qg, Qh, Qi, Qj, Qk, Ql, Qm, Qn, Qo, Qp, Qq, Qr, Qs, implies_true, Qt, Qu, Qv, Qw, Qx, Qy, Qz, QA, QB, QC, QD, QE, QF, QG, QH, QI, QJ, QK, QL, QM, QN, QO, QP, QQ]
    generalize Lib.decDigits n = dg at *
    refine CallC.by sp (by rfl) (by rfl) (by simp) ?_
    have cr := cut_row dg (List.replicate 19 0)
    rw [dl2] at cr
    have rl : (ints .u8 ([0] ++ (nums dg ++ nums (List.replicate 19 0)))).length = 24 := by rw [ints_length]; simp only [List.length_append, nums_length, List.length_replicate, dl2, List.length_cons, List.length_nil]
    generalize ints .u8 ([0] ++ (nums dg ++ nums (List.replicate 19 0))) = rw at *
    simp (config := { maxSteps := 1000000 }) (disch := ((try simp only [awL]); omega)) only [QR, QS, QT, QU, QV, QW, QX, QY, QZ, Q0, Q1, Q2, MI_t, MI_n, rl, cr, numsOf_ints, strOfNums_nums, ↓awU, awV, awF, Qa, Qb, Qc, Qd, forall_const, ↓reduceIte, ↓reduceDIte, ↓Qe, Qf, Qg, Qh, Qi, Qj, Qk, Ql, Qm, Qn, Qo, Qp, Qq, Qr, Qs, implies_true, Qt, Qu, Qv, Qw, Qx, Qy, Qz, QA, QB, QC, QD, QE, QF, QG, QH, QI, QJ, QK, QL, QM, QN, QO, QP, QQ]
    try rfl
  · have en : ((Lib.nDigits n : Nat) : Int) = 5 := nd_of (k := 4) (by omega) (by omega) rfl
    have dl2 : (Lib.decDigits n).length = 5 := by omega
    have sp := fb5_spec (G := G) n h3 h4
    rw [row5 h3 h4] at sp
    rw [en]
    simp (config := { maxSteps := 1000000 }) (disch := ((try simp only [awL]); omega)) only [QR, QS, QT, QU, QV, QW, QX, QY, QZ, Q0, Q1, Q2, MI_t, MI_n, ↓awU, awV, awF, Qa, Qb, Qc, Qd, forall_const, ↓reduceIte, ↓reduceDIte, ↓Qe, Qf, Qg, Qh, Qi, Qj, Qk, Ql, Qm, Qn, Qo, Qp, Qq, Qr, Qs, implies_true, Qt, Qu, Qv, Qw, Qx, Qy, Qz, QA, QB, QC, QD, QE, QF, QG, QH, QI, QJ, QK, QL, QM, QN, QO, QP, QQ]
    generalize Lib.decDigits n = dg at *
    refine CallC.by sp (by rfl) (by rfl) (by simp) ?_
    have cr := cut_row dg (List.replicate 18 0)
    rw [dl2] at cr
    have rl : (ints .u8 ([0] ++ (nums dg ++ nums (List.replicate 18 0)))).length = 24 := by rw [ints_length]; simp only [List.length_append, nums_length, List.length_replicate, dl2, List.length_cons, List.length_nil]
    generalize ints .u8 ([0] ++ (nums dg ++ nums (List.replicate 18 0))) = rw at *
    simp (config := { maxSteps := 1000000 }) (disch := ((try simp only [awL]); omega)) only [QR, QS, QT, QU, QV, QW, QX, QY, QZ, Q0, Q1, Q2, MI_t, MI_n, rl, cr, numsOf_ints, strOfNums_nums, ↓awU, awV, awF, Qa, Qb, Qc, Qd, forall_const, ↓reduceIte, ↓reduceDIte, ↓Qe, Qf, Qg, Qh, Qi, Qj, Qk, Ql, Qm, Qn, Qo, Qp, Qq, Qr, Qs, implies_true, Qt, Qu, Qv, Qw, Qx, Qy, Qz, QA, QB, QC, QD, QE, QF, QG, QH, QI, QJ, QK, QL, QM, QN, QO, QP, QQ]
    try rfl
  · have en : ((Lib.nDigits n : Nat) : Int) = 6 := nd_of (k := 5) (by omega) (by omega) rfl
    have dl2 : (Lib.decDigits n).length = 6 := by omega
    have sp := fb6_spec (G := G) n h3 h4
    rw [row6 h3 h4] at sp
    rw [en]
    simp (config := { maxSteps := 1000000 }) (disch := ((try simp only [awL]); omega)) only [QR, QS, QT, QU, QV, QW, QX, QY, QZ, Q0, Q1, Q2, MI_t, MI_n, ↓awU, awV, awF, Qa, Qb, Qc, Qd, forall_const, ↓reduceIte, ↓reduceDIte, ↓Qe, Qf, Qg, Qh, Qi, Qj, Qk, Ql, Qm, Qn, Qo, Qp, Qq, Qr, Qs, implies_true, Qt, Qu, Qv, Qw, Qx, Qy, Qz, QA, QB, QC, QD, QE, QF, QG, QH, QI, QJ, QK, QL, QM, QN, QO, QP, QQ]
    generalize Lib.decDigits n = dg at *
    refine CallC.by sp (by rfl) (by rfl) (by simp) ?_
    have cr := cut_row dg (List.replicate 17 0)
    rw [dl2] at cr
    have rl : (ints .u8 ([0] ++ (nums dg ++ nums (List.replicate 17 0)))).length = 24 := by rw [ints_length]; simp only [List.length_append, nums_length, List.length_replicate, dl2, List.length_cons, List.length_nil]
    generalize ints .u8 ([0] ++ (nums dg ++ nums (List.replicate 17 0))) = rw at *
    simp (config := { maxSteps := 1000000 }) (disch := ((try simp only [awL]); omega)) only [QR, QS, QT, QU, QV, QW, QX, QY, QZ, Q0, Q1, Q2, MI_t, MI_n, rl, cr, numsOf_ints, strOfNums_nums, ↓awU, awV, awF, Qa, Qb, Qc, Qd, forall_const, ↓reduceIte, ↓reduceDIte, ↓Qe, Qf, Qg, Qh, Qi, Qj, Qk, Ql, Qm, Qn, Qo, Qp, Qq, Qr, Qs, implies_true, Qt, Qu, Qv, Qw, Qx, Qy, Qz, QA, QB, QC, QD, QE, QF, QG, QH, QI, QJ, QK, QL, QM, QN, QO, QP, QQ]
    try rfl
  · have en : ((Lib.nDigits n : Nat) : Int) = 7 := nd_of (k := 6) (by omega) (by omega) rfl
    have dl2 : (Lib.decDigits n).length = 7 := by omega
    have sp := fb7_spec (G := G) n h h2
    rw [row7 h h2] at sp
    rw [en]
    simp (config := { maxSteps := 1000000 }) (disch := ((try simp only [awL]); omega)) only [QR, QS, QT, QU, QV, QW, QX, QY, QZ, Q0, Q1, Q2, MI_t, MI_n, ↓awU, awV, awF, Qa, Qb, Qc, Qd, forall_const, ↓reduceIte, ↓reduceDIte, ↓Qe, Qf, Qg, Qh, Qi, Qj, Qk, Ql, Qm, Qn, Qo, Qp, Qq, Qr, Qs, implies_true, Qt, Qu, Qv, Qw, Qx, Qy, Qz, QA, QB, QC, QD, QE, QF, QG, QH, QI, QJ, QK, QL, QM, QN, QO, QP, QQ]
    generalize Lib.decDigits n = dg at *
    refine CallC.by sp (by rfl) (by rfl) (by simp) ?_
    have cr := cut_row dg (List.replicate 16 0)
    rw [dl2] at cr
    have rl : (ints .u8 ([0] ++ (nums dg ++ nums (List.replicate 16 0)))).length = 24 := by rw [ints_length]; simp only [List.length_append, nums_length, List.length_replicate, dl2, List.length_cons, List.length_nil]
    generalize ints .u8 ([0] ++ (nums dg ++ nums (List.replicate 16 0))) = rw at *
    simp (config := { maxSteps := 1000000 }) (disch := ((try simp only [awL]); omega)) only [QR, QS, QT, QU, QV, QW, QX, QY, QZ, Q0, Q1, Q2, MI_t, MI_n, rl, cr, numsOf_ints, strOfNums_nums, ↓awU, awV, awF, Qa, Qb, Qc, Qd, forall_const, ↓reduceIte, ↓reduceDIte, ↓Qe, Qf, Qg, Qh, Qi, Qj, Qk, Ql, Qm, Qn, Qo, Qp, Qq, Qr, Qs, implies_true, Qt, Qu, Qv, Qw, Qx, Qy, Qz, QA, QB, QC, QD, QE, QF, QG, QH, QI, QJ, QK, QL, QM, QN, QO, QP, QQ]
    try rfl
theorem itoaL_dec {n : Nat} (h : n < 100) : itoaL n = Lib.decDigits n := by
  unfold itoaL
  split
  · rw [dd_one (by omega)]
  · rw [dd_two (by omega) h]; rfl
theorem formatIntA_spec (hP : HP G) (n : Nat) (h2 : n < 10000000) : Ctr Tryz.prog G 148 [.d (.int .i64 n), .d (.int .i64 10)] [] (.d (S (Lib.decDigits n))) [] := by
  rcases Nat.lt_or_ge n 100 with h | h
  · rw [← itoaL_dec h]; exact formatInt_spec n h
  · exact formatIntN_spec hP n h h2
theorem itoaIA_spec (hP : HP G) (n : Nat) (h : n < 10000000) : Ctr Tryz.prog G 115 [.d (.int .i64 n)] [] (.d (S (Lib.decDigits n))) [] := by
  refine Ctr.pure (M := M0) hmix Tryz.func115 rfl go115 ?_
  simp (config := { maxSteps := 1000000 }) (disch := ((try simp only [awL]); omega)) only [QR, QS, QT, QU, QV, QW, QX, QY, QZ, Q0, Q1, Q2, Tryz.f115, ↓awU, awV, awF, Qa, Qb, Qc, Qd, forall_const, ↓reduceIte, ↓reduceDIte, ↓Qe, Qf, Qg, Qh, Qi, Qj, Qk, Ql, Qm, Qn, Qo, Qp, Qq, Qr, Qs, implies_true, Qt, Qu, Qv, Qw, Qx, Qy, Qz, QA, QB, QC, QD, QE, QF, QG, QH, QI, QJ, QK, QL, QM, QN, QO, QP, QQ]
  refine CallC.pure (formatIntA_spec hP n h) ?_
  simp (config := { maxSteps := 1000000 }) (disch := ((try simp only [awL]); omega)) only [QR, QS, QT, QU, QV, QW, QX, QY, QZ, Q0, Q1, Q2, ↓awU, awV, awF, Qa, Qb, Qc, Qd, forall_const, ↓reduceIte, ↓reduceDIte, ↓Qe, Qf, Qg, Qh, Qi, Qj, Qk, Ql, Qm, Qn, Qo, Qp, Qq, Qr, Qs, implies_true, Qt, Qu, Qv, Qw, Qx, Qy, Qz, QA, QB, QC, QD, QE, QF, QG, QH, QI, QJ, QK, QL, QM, QN, QO, QP, QQ]
  first | done | rfl
theorem itoaA_spec (hP : HP G) (n : Nat) (h : n < 10000000) : Ctr Tryz.prog G 79 [.d (.int .i64 n)] [] (.d (S (Lib.decDigits n))) [] := by
  refine Ctr.pure (M := M0) hmix Tryz.func79 rfl go79 ?_
  simp (config := { maxSteps := 1000000 }) (disch := ((try simp only [awL]); omega)) only [QR, QS, QT, QU, QV, QW, QX, QY, QZ, Q0, Q1, Q2, Tryz.f79, ↓awU, awV, awF, Qa, Qb, Qc, Qd, forall_const, ↓reduceIte, ↓reduceDIte, ↓Qe, Qf, Qg, Qh, Qi, Qj, Qk, Ql, Qm, Qn, Qo, Qp, Qq, Qr, Qs, implies_true, Qt, Qu, Qv, Qw, Qx, Qy, Qz, QA, QB, QC, QD, QE, QF, QG, QH, QI, QJ, QK, QL, QM, QN, QO, QP, QQ]
  refine CallC.pure (itoaIA_spec hP n h) ?_
  simp (config := { maxSteps := 1000000 }) (disch := ((try simp only [awL]); omega)) only [QR, QS, QT, QU, QV, QW, QX, QY, QZ, Q0, Q1, Q2, ↓awU, awV, awF, Qa, Qb, Qc, Qd, forall_const, ↓reduceIte, ↓reduceDIte, ↓Qe, Qf, Qg, Qh, Qi, Qj, Qk, Ql, Qm, Qn, Qo, Qp, Qq, Qr, Qs, implies_true, Qt, Qu, Qv, Qw, Qx, Qy, Qz, QA, QB, QC, QD, QE, QF, QG, QH, QI, QJ, QK, QL, QM, QN, QO, QP, QQ]
  first | done | rfl
theorem hi_of (hP : HP G) : HI G := fun n hn => itoaA_spec hP n (by omega)
end Go.Proofs.YtacepalmphbnfaaGreatDoor

/-
  What every law of this seat needs: what the listed tables and errors hold, and what the contracts are told of them.
-/
namespace Go.Proofs.YtacepalmphbnfaaGreatDoor
open Go Go.Proofs Go.Abs Go.RowKit Go.ChangeShapes Go.WideShapes Go.ChangeAt Go.Shelf Go.Joins Go.Deep
theorem mem_getD' {l : List Int} {i : Nat} {d : Int} (h : i < l.length) : l.getD i d ∈ l := by
  rw [List.getD_eq_getElem?_getD, List.getElem?_eq_getElem h]; exact List.getElem_mem h
theorem own : ownKnob Tryz.prog.godebug = none := by kernel_rfl
theorem laidOut : laidOutB Tryz.prog = true := by kernel_rfl
theorem cU8 : Tryz.prog.cellsOf 5 = 1 := by kernel_rfl
theorem cU64 : Tryz.prog.cellsOf 165 = 1 := by kernel_rfl
theorem cInt : Tryz.prog.cellsOf 3 = 1 := by kernel_rfl
theorem list_u8 {l : List Int} (h : ∀ n ∈ l, (Lit.int .u8 n).wf = true) : ∀ i, 0 ≤ l.getD i 0 ∧ l.getD i 0 ≤ 255 := by
  intro i
  rcases Nat.lt_or_ge i l.length with hi | hi
  · have := h _ (mem_getD' (d := 0) hi)
    simp [Lit.wf, IntKind.min, IntKind.max, IntKind.bits, IntKind.signed] at this
    rw [List.getD_eq_getElem?_getD]
    omega
  · rw [List.getD_eq_getElem?_getD, List.getElem?_eq_none hi]; simp
/-- What the contracts are told of the variables; b: of the errors too. -/
def G1 (b : Bool) : Globals := fun g => if g = 0 then some firstDs else if g = 1 then some accDs else if g = 5 then some (ints .u64 Lib.pow10Tab)
  else if b = true ∧ (g = 2 ∨ g = 3) then some [.ifc] else none
theorem hT1 {b : Bool} : HT (G1 b) := ⟨rfl, rfl⟩
theorem hP1 {b : Bool} : HP (G1 b) := rfl
theorem hI1 {b : Bool} : HI (G1 b) := hi_of hP1
theorem hE1 : HE (G1 true) := ⟨rfl, rfl⟩
theorem u8types : U8Types Tryz.prog Tryz.laysValid_ren := U8Types.of196 Tryz.laysValid
theorem u8extra : U8Extra Tryz.prog Tryz.laysValid_ren where
  n3 := by kernel_rfl
  n4 := by kernel_rfl
  y3 := by kernel_rfl
  y4 := by kernel_rfl
  c5 := by kernel_rfl
  c119 := by kernel_rfl
  c138 := by kernel_rfl
theorem first_eq : Rows.laid_unicode_utf8_first = Lib.firstData := by kernel_rfl
theorem accept_eq : (Rows.laid_unicode_utf8_acceptRanges : DataW Unit) = Lib.acceptData := by kernel_rfl
theorem pow_eq : (Rows.laid_internal_strconv_uint64pow10 : DataW Unit) = Lib.tabData .u64 Lib.pow10Tab := by kernel_rfl
theorem gPow : Tryz.prog.globalNamed "internal/strconv.uint64pow10" = some 5 := by kernel_rfl
theorem tPow : (Tryz.prog.globals[5]?).map (·.type) = some 220 := by kernel_rfl
theorem cPow : Tryz.prog.cellsOf 220 = 20 := by kernel_rfl
theorem gSyn : Tryz.prog.globalNamed "strconv.ErrSyntax" = some 2 := by kernel_rfl
theorem tSyn : (Tryz.prog.globals[2]?).map (·.type) = some 100 := by kernel_rfl
theorem gRan : Tryz.prog.globalNamed "strconv.ErrRange" = some 3 := by kernel_rfl
theorem tRan : (Tryz.prog.globals[3]?).map (·.type) = some 100 := by kernel_rfl
theorem iface_cell {X : World} {g : Nat} {n nm : String} {d : DataW Unit} (hg0 : Tryz.prog.globalNamed n = some g) (ht0 : (Tryz.prog.globals[g]?).map (·.type) = some 100) (h : Lib.VarReads Tryz.prog X n (.iface nm d)) : ∃ u v, X.cell? ⟨g, 0, none⟩ = some (.iface u v) := by
  obtain ⟨g', t, cs, fuel, p, hg, ht, hv, hd⟩ := h
  obtain rfl := Option.some.inj (hg0.symm.trans hg)
  obtain rfl := Option.some.inj (ht0.symm.trans ht)
  obtain ⟨f2, u, v, hcs, _, _⟩ := iface_of_trod Tryz.underlying100 hd
  refine ⟨u, v, ?_⟩
  rw [World.var?_cell hg hv 0, ← Array.getElem?_toList, hcs]
  rfl
theorem globOK {X : World} {b : Bool} (h1 : Lib.VarReads Tryz.prog X "unicode/utf8.first" Rows.laid_unicode_utf8_first) (h2 : Lib.VarReads Tryz.prog X "unicode/utf8.acceptRanges" Rows.laid_unicode_utf8_acceptRanges)
    (h3 : Lib.VarReads Tryz.prog X "internal/strconv.uint64pow10" Rows.laid_internal_strconv_uint64pow10)
    (h4 : b = true → Lib.VarReads Tryz.prog X "strconv.ErrSyntax" Rows.laid_strconv_ErrSyntax ∧ Lib.VarReads Tryz.prog X "strconv.ErrRange" Rows.laid_strconv_ErrRange) : GlobOK (G1 b) X := by
  rw [first_eq] at h1
  rw [accept_eq] at h2
  rw [pow_eq] at h3
  obtain ⟨t1, t2⟩ : Lib.Utf8Tabs 0 1 X := utf8Tabs_of_readsT u8types u8extra h1 h2
  intro g ds hg
  unfold G1 at hg
  split at hg
  · rename_i e; subst e; cases hg
    refine ⟨fun i => .int .u8 (Lib.firstT i), fun i x hx => ?_, fun i x hx => ?_⟩
    · have hi : i < 256 := by have := (List.getElem?_eq_some_iff.1 hx).1; simpa [firstDs] using this
      exact t1 i hi
    · have hi : i < 256 := by have := (List.getElem?_eq_some_iff.1 hx).1; simpa [firstDs] using this
      simp [firstDs, hi] at hx
      subst hx; exact .int _ _
  · split at hg
    · rename_i e; subst e; cases hg
      refine ⟨fun i => .int .u8 ((if i % 2 = 0 then Lib.accLo (i / 2) else Lib.accHi (i / 2) : Nat) : Int), fun i x hx => ?_, fun i x hx => ?_⟩
      · have hi : i < 32 := by have := (List.getElem?_eq_some_iff.1 hx).1; simpa [accDs] using this
        obtain ⟨a, b⟩ := t2 (i / 2) (by omega)
        rcases (by omega : i % 2 = 0 ∨ i % 2 = 1) with h0 | h0
        · show X.cell? ⟨_, i, none⟩ = _
          simp only [if_pos h0]
          rw [← a, show 2 * (i / 2) = i by omega]
        · show X.cell? ⟨_, i, none⟩ = _
          simp only [if_neg (show ¬ i % 2 = 0 by omega)]
          rw [← b, show 2 * (i / 2) + 1 = i by omega]
      · have hi : i < 32 := by have := (List.getElem?_eq_some_iff.1 hx).1; simpa [accDs] using this
        simp only [accDs, List.getElem?_map, List.getElem?_range hi, Option.map_some, Option.some.injEq] at hx
        subst hx; exact .int _ _
    · split at hg
      · rename_i e; subst e; cases hg
        obtain ⟨g', t, cs, fuel, p, hg', ht', hvar, hd⟩ := h3
        obtain rfl := Option.some.inj (gPow.symm.trans hg')
        obtain rfl := Option.some.inj (tPow.symm.trans ht')
        have hcs := Lib.cells_of_tab Tryz.underlying220 Tryz.underlying165 cU64 cPow hd
        refine ⟨fun i => .int .u64 (Lib.pow10Tab.getD i 0), fun i x hx => ?_, fun i x hx => ?_⟩
        · have hi : i < Lib.pow10Tab.length := by have := (List.getElem?_eq_some_iff.1 hx).1; simpa [ints] using this
          show X.cell? ⟨_, i, none⟩ = _
          rw [World.var?_cell hg' hvar i, ← Array.getElem?_toList, hcs]
          simp [hi]
        · have hi : i < Lib.pow10Tab.length := by have := (List.getElem?_eq_some_iff.1 hx).1; simpa [ints] using this
          simp only [ints, List.getElem?_map, List.getElem?_eq_getElem hi, Option.map_some, Option.some.injEq] at hx
          subst hx
          show RD _ (Value.int .u64 (Lib.pow10Tab.getD i 0)) _
          rw [List.getD_eq_getElem?_getD, List.getElem?_eq_getElem hi]
          exact .int _ _
      · split at hg
        · rename_i e
          cases hg
          obtain ⟨q1, q2⟩ := h4 e.1
          have hc : ∃ u v, X.cell? ⟨g, 0, none⟩ = some (.iface u v) := by
            rcases e.2 with rfl | rfl
            · exact iface_cell gSyn tSyn q1
            · exact iface_cell gRan tRan q2
          obtain ⟨u, v, hc⟩ := hc
          refine ⟨fun _ => .iface u v, fun i x hx => ?_, fun i x hx => ?_⟩
          · rcases i with _ | i
            · exact hc
            · simp at hx
          · rcases i with _ | i
            · simp at hx; subst hx; exact .ifc _ _
            · simp at hx
        · cases hg
end Go.Proofs.YtacepalmphbnfaaGreatDoor
