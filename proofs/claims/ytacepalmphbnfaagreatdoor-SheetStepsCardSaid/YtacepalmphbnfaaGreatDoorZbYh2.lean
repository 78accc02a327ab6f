/-
  Contracts of the functions, one after another.
-/
import Derived.Test.YtacepalmphbnfaaGreatDoorZbYh1
import Derived.Shelf.SlSortCmp.WholeK
import Derived.Shelf.SlSortCmp.NoneTotal
import Derived.Shelf.SlicesG.Cmp
import Derived.Ground.SlsfProg
import Derived.Ground.SlgcProg
import Derived.Lib.Walk
import Derived.LoopN
import Derived.StillTailTactics
import Derived.Deep.Draws
import Derived.Sort.Grow
set_option linter.all false
open Go.Abs renaming ofVal → Qa, ofVal0 → Qb, isShift → Qc, aggK → Qd, purePost → Qe, combine → Qf, idsA → Qg, cellsA → Qh, numsOf → Qi, srcA → Qj, calleeA → Qk, refsA → Ql, isScalar → Qm, scalarD → Qn, scalar0 → Qo, putL → Qr, unfA → Qs, sidsB → QJ, keyKD → QL, isIntK → QM, aggD → QN, aggL → QO, eqKs → QP, boxRow → QQ, nextC_more → QT, nextC_over → QU, bs_size → QV, bs_extract → QW, bs_toList → QX, bs_append → QY, byteAt_bs → QZ, bs_cells → Q0, nums_length → Q1, nums_getD → Q2
open Go.Abs.AV renaming one → Qp
open Go.Abs.D renaming one → Qq
open Go.IntKind renaming signed → Qt
open Nat renaming reduceAdd → Qu, reduceSub → Qv, reduceMul → Qw, reducePow → Qx, reduceDiv → Qy, reduceMod → Qz, reduceEqDiff → QI, reduceBEq → QK
open Int renaming reduceAdd → QA, reduceSub → QB, reduceMul → QC, reducePow → QD, reduceNeg → QE, reduceToNat → QF, reduceLT → QG, reduceLE → QH
open Option renaming toList_some → QR, toList_none → QS
namespace Go.Proofs.YtacepalmphbnfaaGreatDoor
open Go Go.Proofs Go.Abs
variable {G : Globals}
/-! Sheet: strings.SplitSeq at any byte; what is parsed. -/
def splC (c : UInt8) (s : List UInt8) : List (List UInt8) :=
  if h : c ∈ s then cutL c s :: splC c (cutR c s) else [s]
termination_by s.length
decreasing_by exact cutR_lt h
theorem splC_more {c : UInt8} {s : List UInt8} (h : c ∈ s) : splC c s = cutL c s :: splC c (cutR c s) := by rw [splC, dif_pos h]
theorem splC_last {c : UInt8} {s : List UInt8} (h : c ∉ s) : splC c s = [s] := by rw [splC, dif_neg h]
set_option maxHeartbeats 4000000 in
set_option maxRecDepth 100000 in
theorem split1C_spec (c : UInt8) (s : List UInt8) (hs : s.length ≤ 1000000000) : IterC Tryz.prog G 149 [.ptr 1 0, .ptr 2 0, .ptr 3 0] [.box [.d (S [c])], .box [.d (S s)], .box [.d (.int .i64 0)]] (strs (splC c s)) := by
  refine IterC.body (M := MY) hmix Tryz.func149 rfl go149 ?_
  intro lp J todo hJ hT
  simp (config := { maxSteps := 1000000 }) (disch := ((try simp only [awL]); omega)) only [QR, QS, QT, QU, QV, QW, QX, QY, QZ, Q0, Q1, Q2, MY_n, List.length_cons, List.length_nil, Tryz.f149, ↓awU, awV, awF, Qa, Qb, Qc, Qd, forall_const, ↓reduceIte, ↓reduceDIte, ↓Qe, Qf, Qg, Qh, Qi, Qj, Qk, Ql, Qm, Qn, Qo, Qp, Qq, Qr, Qs, implies_true, Qt, Qu, Qv, Qw, Qx, Qy, Qz, QA, QB, QC, QD, QE, QF, QG, QH, QI, QJ, QK, QL, QM, QN, QO, QP, QQ]
  refine LoopC.fx 15 (α := List UInt8 × List (D × Bool)) (β := List UInt8 × List (D × Bool)) (fun x => x.1.length) (fun _ => []) (fun x => [.ext J x.2, .box [.d (S [c])], .box [.d (S x.1)], .box [.d (.int .i64 0)]])
    (fun x => x.1.length ≤ 1000000000 ∧ Tdo (strs (splC c x.1)) x.2) 15 (fun _ => []) (fun y => [.ext J y.2, .box [.d (S [c])], .box [.d (S y.1)], .box [.d (.int .i64 0)]]) (fun y => Tdo [S y.1] y.2) (s, todo) ⟨hs, hT⟩ ?_ ?_ ?_
  · exact ⟨[some 0, some 1, some 2, some 3], rfl, by simp, by simp [setsA, keepA, SWeak, AWeak], by simp [HWeak, BWeak, SWeak, AWeak]⟩
  · rintro ⟨r, t⟩ ⟨h1, h2⟩
    simp only at h1 h2
    simp only [awK, Nat.reduceMod, Nat.reduceDiv, reduceIte]
    simp (config := { maxSteps := 1000000 }) (disch := ((try simp only [awL]); omega)) only [QR, QS, QT, QU, QV, QW, QX, QY, QZ, Q0, Q1, Q2, MY_n, ↓awU, awV, awF, Qa, Qb, Qc, Qd, forall_const, ↓reduceIte, ↓reduceDIte, ↓Qe, Qf, Qg, Qh, Qi, Qj, Qk, Ql, Qm, Qn, Qo, Qp, Qq, Qr, Qs, implies_true, Qt, Qu, Qv, Qw, Qx, Qy, Qz, QA, QB, QC, QD, QE, QF, QG, QH, QI, QJ, QK, QL, QM, QN, QO, QP, QQ]
    refine CallC.of (sIndex_spec r c (by omega)) (by rfl) ?_
    obtain ⟨i1, i2⟩ := cut_index c r
    by_cases h : c ∈ r
    · obtain ⟨k, g1, g2, g3, g4⟩ := i1 h
      rw [splC_more h] at h2
      rw [g1]
      have hlt := cutR_lt h
      rcases Tdo_cons h2 with ⟨t', rfl, h3⟩ | rfl
      · simp (config := { maxSteps := 1000000 }) (disch := ((try simp only [awL]); omega)) only [QR, QS, QT, QU, QV, QW, QX, QY, QZ, Q0, Q1, Q2, MY_n, Int.add_zero, List.length_cons, List.length_nil, ↓awU, awV, awF, Qa, Qb, Qc, Qd, forall_const, ↓reduceIte, ↓reduceDIte, ↓Qe, Qf, Qg, Qh, Qi, Qj, Qk, Ql, Qm, Qn, Qo, Qp, Qq, Qr, Qs, implies_true, Qt, Qu, Qv, Qw, Qx, Qy, Qz, QA, QB, QC, QD, QE, QF, QG, QH, QI, QJ, QK, QL, QM, QN, QO, QP, QQ]
        rw [g3]
        refine yieldK.by rfl hJ rfl rfl ?_
        simp (config := { maxSteps := 1000000 }) (disch := ((try simp only [awL]); omega)) only [QR, QS, QT, QU, QV, QW, QX, QY, QZ, Q0, Q1, Q2, MY_n, Int.add_zero, List.length_cons, List.length_nil, ↓awU, awV, awF, Qa, Qb, Qc, Qd, forall_const, ↓reduceIte, ↓reduceDIte, ↓Qe, Qf, Qg, Qh, Qi, Qj, Qk, Ql, Qm, Qn, Qo, Qp, Qq, Qr, Qs, implies_true, Qt, Qu, Qv, Qw, Qx, Qy, Qz, QA, QB, QC, QD, QE, QF, QG, QH, QI, QJ, QK, QL, QM, QN, QO, QP, QQ]
        rw [g4]
        exact ⟨(cutR c r, t'), ⟨by simp only; omega, h3⟩, hlt, ⟨[some 0, some 1, some 2, some 3], rfl, by simp, by simp [setsA, keepA, SWeak, AWeak], by simp [HWeak, BWeak, SWeak, AWeak]⟩⟩
      · simp (config := { maxSteps := 1000000 }) (disch := ((try simp only [awL]); omega)) only [QR, QS, QT, QU, QV, QW, QX, QY, QZ, Q0, Q1, Q2, MY_n, Int.add_zero, List.length_cons, List.length_nil, ↓awU, awV, awF, Qa, Qb, Qc, Qd, forall_const, ↓reduceIte, ↓reduceDIte, ↓Qe, Qf, Qg, Qh, Qi, Qj, Qk, Ql, Qm, Qn, Qo, Qp, Qq, Qr, Qs, implies_true, Qt, Qu, Qv, Qw, Qx, Qy, Qz, QA, QB, QC, QD, QE, QF, QG, QH, QI, QJ, QK, QL, QM, QN, QO, QP, QQ]
        rw [g3]
        refine yieldK.by rfl hJ rfl rfl ?_
        simp (config := { maxSteps := 1000000 }) (disch := ((try simp only [awL]); omega)) only [QR, QS, QT, QU, QV, QW, QX, QY, QZ, Q0, Q1, Q2, MY_n, Int.add_zero, List.length_cons, List.length_nil, ↓awU, awV, awF, Qa, Qb, Qc, Qd, forall_const, ↓reduceIte, ↓reduceDIte, ↓Qe, Qf, Qg, Qh, Qi, Qj, Qk, Ql, Qm, Qn, Qo, Qp, Qq, Qr, Qs, implies_true, Qt, Qu, Qv, Qw, Qx, Qy, Qz, QA, QB, QC, QD, QE, QF, QG, QH, QI, QJ, QK, QL, QM, QN, QO, QP, QQ]
        exact ⟨[some 0], rfl, by simp, by simp [HWeak, BWeak, SWeak, AWeak], .inl (by simp [AWeak, SWeak])⟩
    · obtain ⟨g1, g2, g3⟩ := i2 h
      rw [splC_last h] at h2
      rw [g1]
      simp (config := { maxSteps := 1000000 }) (disch := ((try simp only [awL]); omega)) only [QR, QS, QT, QU, QV, QW, QX, QY, QZ, Q0, Q1, Q2, MY_n, ↓awU, awV, awF, Qa, Qb, Qc, Qd, forall_const, ↓reduceIte, ↓reduceDIte, ↓Qe, Qf, Qg, Qh, Qi, Qj, Qk, Ql, Qm, Qn, Qo, Qp, Qq, Qr, Qs, implies_true, Qt, Qu, Qv, Qw, Qx, Qy, Qz, QA, QB, QC, QD, QE, QF, QG, QH, QI, QJ, QK, QL, QM, QN, QO, QP, QQ]
      exact ⟨(r, t), h2, ⟨[some 0, some 1, some 2, some 3], rfl, by simp, by simp [setsA, keepA, SWeak, AWeak], by simp [HWeak, BWeak, SWeak, AWeak]⟩⟩
  · rintro ⟨r, t⟩ h2
    simp only at h2
    simp only [awK, Nat.reduceMod, Nat.reduceDiv, reduceIte]
    rcases Tdo_cons h2 with ⟨t', rfl, h3⟩ | rfl
    · rw [Tdo_nil h3]
      simp (config := { maxSteps := 1000000 }) (disch := ((try simp only [awL]); omega)) only [QR, QS, QT, QU, QV, QW, QX, QY, QZ, Q0, Q1, Q2, MY_n, ↓awU, awV, awF, Qa, Qb, Qc, Qd, forall_const, ↓reduceIte, ↓reduceDIte, ↓Qe, Qf, Qg, Qh, Qi, Qj, Qk, Ql, Qm, Qn, Qo, Qp, Qq, Qr, Qs, implies_true, Qt, Qu, Qv, Qw, Qx, Qy, Qz, QA, QB, QC, QD, QE, QF, QG, QH, QI, QJ, QK, QL, QM, QN, QO, QP, QQ]
      refine yieldK.by rfl hJ rfl rfl ?_
      simp (config := { maxSteps := 1000000 }) (disch := ((try simp only [awL]); omega)) only [QR, QS, QT, QU, QV, QW, QX, QY, QZ, Q0, Q1, Q2, MY_n, ↓awU, awV, awF, Qa, Qb, Qc, Qd, forall_const, ↓reduceIte, ↓reduceDIte, ↓Qe, Qf, Qg, Qh, Qi, Qj, Qk, Ql, Qm, Qn, Qo, Qp, Qq, Qr, Qs, implies_true, Qt, Qu, Qv, Qw, Qx, Qy, Qz, QA, QB, QC, QD, QE, QF, QG, QH, QI, QJ, QK, QL, QM, QN, QO, QP, QQ]
      exact ⟨[some 0], rfl, by simp, by simp [HWeak, BWeak, SWeak, AWeak], .inl (by simp [AWeak, SWeak])⟩
    · simp (config := { maxSteps := 1000000 }) (disch := ((try simp only [awL]); omega)) only [QR, QS, QT, QU, QV, QW, QX, QY, QZ, Q0, Q1, Q2, MY_n, ↓awU, awV, awF, Qa, Qb, Qc, Qd, forall_const, ↓reduceIte, ↓reduceDIte, ↓Qe, Qf, Qg, Qh, Qi, Qj, Qk, Ql, Qm, Qn, Qo, Qp, Qq, Qr, Qs, implies_true, Qt, Qu, Qv, Qw, Qx, Qy, Qz, QA, QB, QC, QD, QE, QF, QG, QH, QI, QJ, QK, QL, QM, QN, QO, QP, QQ]
      refine yieldK.by rfl hJ rfl rfl ?_
      simp (config := { maxSteps := 1000000 }) (disch := ((try simp only [awL]); omega)) only [QR, QS, QT, QU, QV, QW, QX, QY, QZ, Q0, Q1, Q2, MY_n, ↓awU, awV, awF, Qa, Qb, Qc, Qd, forall_const, ↓reduceIte, ↓reduceDIte, ↓Qe, Qf, Qg, Qh, Qi, Qj, Qk, Ql, Qm, Qn, Qo, Qp, Qq, Qr, Qs, implies_true, Qt, Qu, Qv, Qw, Qx, Qy, Qz, QA, QB, QC, QD, QE, QF, QG, QH, QI, QJ, QK, QL, QM, QN, QO, QP, QQ]
      exact ⟨[some 0], rfl, by simp, by simp [HWeak, BWeak, SWeak, AWeak], .inl (by simp [AWeak, SWeak])⟩
abbrev SplBC (c : UInt8) (s : List UInt8) : List ABlk := [.box [.d (S s)], .box [.d (S [c])], .box [.d (.int .i64 0)]]
abbrev SplAC : AV := .fn (.func 149) [] [.ptr 1 0, .ptr 0 0, .ptr 2 0]
theorem split0C_spec (c : UInt8) (s : List UInt8) : Ctr Tryz.prog G 116 [.d (S s), .d (S [c]), .d (.int .i64 0)] [] SplAC (SplBC c s) := by
  refine Ctr.body (M := M0) hmix Tryz.func116 rfl go116 ?_
  simp (config := { maxSteps := 1000000 }) (disch := ((try simp only [awL]); omega)) only [QR, QS, QT, QU, QV, QW, QX, QY, QZ, Q0, Q1, Q2, Tryz.f116, ↓awU, awV, awF, Qa, Qb, Qc, Qd, forall_const, ↓reduceIte, ↓reduceDIte, ↓Qe, Qf, Qg, Qh, Qi, Qj, Qk, Ql, Qm, Qn, Qo, Qp, Qq, Qr, Qs, implies_true, Qt, Qu, Qv, Qw, Qx, Qy, Qz, QA, QB, QC, QD, QE, QF, QG, QH, QI, QJ, QK, QL, QM, QN, QO, QP, QQ]
  exact ⟨[some 0, some 1, some 2], rfl, by simp, by simp [HWeak, BWeak, SWeak, AWeak], .inl (by simp [AWeak, SWeak])⟩
theorem splitC_spec (c : UInt8) (s : List UInt8) : Ctr Tryz.prog G 81 [.d (S s), .d (S [c])] [] SplAC (SplBC c s) := by
  refine Ctr.body (M := M0) hmix Tryz.func81 rfl go81 ?_
  simp (config := { maxSteps := 1000000 }) (disch := ((try simp only [awL]); omega)) only [QR, QS, QT, QU, QV, QW, QX, QY, QZ, Q0, Q1, Q2, Tryz.f81, ↓awU, awV, awF, Qa, Qb, Qc, Qd, forall_const, ↓reduceIte, ↓reduceDIte, ↓Qe, Qf, Qg, Qh, Qi, Qj, Qk, Ql, Qm, Qn, Qo, Qp, Qq, Qr, Qs, implies_true, Qt, Qu, Qv, Qw, Qx, Qy, Qz, QA, QB, QC, QD, QE, QF, QG, QH, QI, QJ, QK, QL, QM, QN, QO, QP, QQ]
  refine CallC.by (split0C_spec c s) rfl rfl (by simp) ?_
  simp (config := { maxSteps := 1000000 }) (disch := ((try simp only [awL]); omega)) only [QR, QS, QT, QU, QV, QW, QX, QY, QZ, Q0, Q1, Q2, ↓awU, awV, awF, Qa, Qb, Qc, Qd, forall_const, ↓reduceIte, ↓reduceDIte, ↓Qe, Qf, Qg, Qh, Qi, Qj, Qk, Ql, Qm, Qn, Qo, Qp, Qq, Qr, Qs, implies_true, Qt, Qu, Qv, Qw, Qx, Qy, Qz, QA, QB, QC, QD, QE, QF, QG, QH, QI, QJ, QK, QL, QM, QN, QO, QP, QQ]
  exact ⟨[some 0, some 1, some 2], rfl, by simp, by simp [HWeak, BWeak, SWeak, AWeak], .inl (by simp [AWeak, SWeak])⟩
end Go.Proofs.YtacepalmphbnfaaGreatDoor

namespace Go.Proofs.YtacepalmphbnfaaGreatDoor
open Go Go.Proofs Go.Abs
variable {G : Globals}
/-! Sheet: the regions with a text: sheet.Parse. -/
theorem pin3 {s : List AV} (h0 : Pin s 0) (h1 : Pin s 1) (h2 : Pin s 2) {a b c : Option Nat} : pinOK 8 [some 0, some 1, some 2, a, b, c] s [(0, 8), (1, 9), (2, 10)] := by
  refine ⟨by decide, fun q hq => ?_⟩
  simp only [List.mem_cons, List.not_mem_nil, or_false] at hq
  rcases hq with rfl | rfl | rfl
  · exact ⟨0, rfl, by decide, rfl, h0⟩
  · exact ⟨1, rfl, by decide, rfl, h1⟩
  · exact ⟨2, rfl, by decide, rfl, h2⟩
theorem deads8 : deads 8 = [.dead, .dead, .dead, .dead, .dead, .dead, .dead, .dead] := rfl
section
variable {a0 a1 a2 a3 a4 a5 a6 a7 b0 b1 b2 : ABlk} {r : List ABlk}
theorem swapB08 : swapB 0 8 (a0 :: a1 :: a2 :: a3 :: a4 :: a5 :: a6 :: a7 :: b0 :: r) = (b0 :: a1 :: a2 :: a3 :: a4 :: a5 :: a6 :: a7 :: .dead :: r).map (renB (swF 0 8)) := rfl
theorem swapB19 : swapB 1 9 (a0 :: a1 :: a2 :: a3 :: a4 :: a5 :: a6 :: a7 :: b0 :: b1 :: r) = (a0 :: b1 :: a2 :: a3 :: a4 :: a5 :: a6 :: a7 :: b0 :: .dead :: r).map (renB (swF 1 9)) := rfl
theorem swapB210 : swapB 2 10 (a0 :: a1 :: a2 :: a3 :: a4 :: a5 :: a6 :: a7 :: b0 :: b1 :: b2 :: r) = (a0 :: a1 :: b2 :: a3 :: a4 :: a5 :: a6 :: a7 :: b0 :: b1 :: .dead :: r).map (renB (swF 2 10)) := rfl
end
theorem splC_len (c : UInt8) : ∀ (n : Nat) (s : List UInt8), s.length = n → (splC c s).length ≤ n + 1 ∧ ∀ p ∈ splC c s, p.length ≤ n := by
  intro n
  induction n using Nat.strongRecOn with
  | _ n ih =>
    intro s hn
    by_cases h : c ∈ s
    · rw [splC_more h]
      have hl := cut_len h
      obtain ⟨a, b⟩ := ih _ (by omega) (cutR c s) rfl
      refine ⟨by rw [List.length_cons]; omega, fun p hp => ?_⟩
      rcases List.mem_cons.1 hp with rfl | hp
      · omega
      · have := b p hp; omega
    · rw [splC_last h]
      refine ⟨by simp, fun p hp => ?_⟩
      simp at hp; subst hp; omega
def pieceO (p : List UInt8) : Option Rg := match allO atoiO (splC 44 p) with
  | some [a, b, c, d] => some ⟨a, b, c, d⟩
  | _ => none
def outO (s : List UInt8) : Option (List Rg) := allO pieceO (splC 59 s)
def parO (s : List UInt8) : Option (List Rg) := match outO s with
  | some l => if textR l = some s then some l else none
  | none => none
def parD (s : List UInt8) : D := if s = [] then .tup [.sl 0 false [], .bool true] else match parO s with
  | some l => .tup [.sl l.length false (regC l), .bool true]
  | none => .tup [.sl 0 false [], .bool false]
theorem firstB {α : Type} (f : List UInt8 → Option α) (m : Nat) (ps : List (List UInt8)) : (∃ n, n < ps.length ∧ n ≤ m ∧ (∀ k, k < n → f (ps.getD k []) ≠ none) ∧ (n = m ∨ f (ps.getD n []) = none)) ∨ (ps.length ≤ m ∧ ∃ o, allO f ps = some o) := by
  have key : ∀ q, q ≤ m → q ≤ ps.length → (∃ n, n < q ∧ (∀ k, k < n → f (ps.getD k []) ≠ none) ∧ f (ps.getD n []) = none) ∨ ∀ k, k < q → f (ps.getD k []) ≠ none := by
    intro q
    induction q with
    | zero => intro _ _; exact .inr fun k hk => absurd hk (Nat.not_lt_zero _)
    | succ q ih =>
      intro h1 h2
      rcases ih (by omega) (by omega) with ⟨n, a, b, c⟩ | h
      · exact .inl ⟨n, by omega, b, c⟩
      · by_cases e : f (ps.getD q []) = none
        · exact .inl ⟨q, by omega, h, e⟩
        · exact .inr fun k hk => by
            rcases Nat.lt_or_ge k q with x | x
            · exact h k x
            · obtain rfl : k = q := by omega
              exact e
  rcases Nat.lt_or_ge m ps.length with h | h
  · rcases key m (Nat.le_refl _) (by omega) with ⟨n, a, b, c⟩ | k
    · exact .inl ⟨n, by omega, by omega, b, .inr c⟩
    · exact .inl ⟨m, h, Nat.le_refl _, k, .inl rfl⟩
  · rcases key ps.length h (Nat.le_refl _) with ⟨n, a, b, c⟩ | k
    · exact .inl ⟨n, a, by omega, b, .inr c⟩
    · exact .inr ⟨h, allO_some k⟩
def pieceV (p : List UInt8) : Rg := (pieceO p).getD noRg
theorem piece_good {p : List UInt8} (h : pieceO p ≠ none) : ∃ a b c d, allO atoiO (splC 44 p) = some [a, b, c, d] ∧ pieceV p = ⟨a, b, c, d⟩ := by
  unfold pieceV pieceO at *
  split at h
  · rename_i a b c d e
    exact ⟨a, b, c, d, e, rfl⟩
  · exact absurd rfl h
/-- What stops a piece. -/
theorem piece_bad {p : List UInt8} (h : pieceO p = none) : (∃ n, n < (splC 44 p).length ∧ n ≤ 4 ∧ (∀ k, k < n → atoiO ((splC 44 p).getD k []) ≠ none) ∧ (n = 4 ∨ atoiO ((splC 44 p).getD n []) = none)) ∨ ((splC 44 p).length < 4 ∧ ∀ k, k < (splC 44 p).length → atoiO ((splC 44 p).getD k []) ≠ none) := by
  rcases firstB atoiO 4 (splC 44 p) with q | ⟨h1, o, ho⟩
  · exact .inl q
  · refine .inr ⟨?_, fun k hk => by rw [allO_at (d := (0 : Int)) ho hk]; simp⟩
    have hl := allO_len ho
    rcases Nat.lt_or_ge (splC 44 p).length 4 with q | q
    · exact q
    · have h4 : o.length = 4 := by omega
      exfalso
      unfold pieceO at h
      rw [ho] at h
      match o, h4 with
      | [a, b, c, d], _ => cases h
theorem allO_map {f : List UInt8 → Option Int} {l : List (List UInt8)} {o : List Int} (h : allO f l = some o) : l.map (fun p => (f p).getD 0) = o := by
  apply List.ext_getElem?
  intro i
  rw [List.getElem?_map]
  have hol := allO_len h
  rcases Nat.lt_or_ge i l.length with hi | hi
  · have := allO_at (d := (0 : Int)) h hi
    rw [List.getElem?_eq_getElem hi, List.getElem?_eq_getElem (by omega)]
    rw [List.getD_eq_getElem?_getD, List.getD_eq_getElem?_getD, List.getElem?_eq_getElem hi, List.getElem?_eq_getElem (show i < o.length by omega)] at this
    simp only [Option.getD_some] at this
    simp only [Option.map_some, this, Option.getD_some]
  · rw [List.getElem?_eq_none hi, List.getElem?_eq_none (by omega)]; rfl
set_option maxHeartbeats 16000000 in
set_option maxRecDepth 100000 in
theorem sparse_spec (hI : HI G) (hE : HE G) (s : List UInt8) (hs : s.length ≤ 900000) : Ctr Tryz.prog G 49 [.d (S s)] [] (.d (parD s)) [] := by
  obtain ⟨r, hr⟩ : ∃ r, r = parD s := ⟨_, rfl⟩
  rw [← hr]
  unfold parD at hr
  refine Ctr.pure (M := M0) hmix Tryz.func49 rfl go49 ?_
  obtain ⟨n1, n2⟩ := splC_len 59 _ s rfl
  by_cases hs0 : s = []
  · subst hs0
    rw [if_pos rfl] at hr
    simp (config := { maxSteps := 1000000 }) (disch := ((try simp only [awL]); omega)) only [QR, QS, QT, QU, QV, QW, QX, QY, QZ, Q0, Q1, Q2, beq_self_eq_true, Tryz.f49, ↓awU, awV, awF, Qa, Qb, Qc, Qd, forall_const, ↓reduceIte, ↓reduceDIte, ↓Qe, Qf, Qg, Qh, Qi, Qj, Qk, Ql, Qm, Qn, Qo, Qp, Qq, Qr, Qs, implies_true, Qt, Qu, Qv, Qw, Qx, Qy, Qz, QA, QB, QC, QD, QE, QF, QG, QH, QI, QJ, QK, QL, QM, QN, QO, QP, QQ]
    rw [hr]; try rfl
  · rw [if_neg hs0] at hr
    have hsb : (s == []) = false := by simpa using hs0
    simp (config := { maxSteps := 1000000 }) (disch := ((try simp only [awL]); omega)) only [QR, QS, QT, QU, QV, QW, QX, QY, QZ, Q0, Q1, Q2, hsb, Tryz.f49, ↓awU, awV, awF, Qa, Qb, Qc, Qd, forall_const, ↓reduceIte, ↓reduceDIte, ↓Qe, Qf, Qg, Qh, Qi, Qj, Qk, Ql, Qm, Qn, Qo, Qp, Qq, Qr, Qs, implies_true, Qt, Qu, Qv, Qw, Qx, Qy, Qz, QA, QB, QC, QD, QE, QF, QG, QH, QI, QJ, QK, QL, QM, QN, QO, QP, QQ]
    refine CallC.by (splitC_spec 59 s) rfl rfl (by simp) ?_
    simp (config := { maxSteps := 1000000 }) (disch := ((try simp only [awL]); omega)) only [QR, QS, QT, QU, QV, QW, QX, QY, QZ, Q0, Q1, Q2, ↓awU, awV, awF, Qa, Qb, Qc, Qd, forall_const, ↓reduceIte, ↓reduceDIte, ↓Qe, Qf, Qg, Qh, Qi, Qj, Qk, Ql, Qm, Qn, Qo, Qp, Qq, Qr, Qs, implies_true, Qt, Qu, Qv, Qw, Qx, Qy, Qz, QA, QB, QC, QD, QE, QF, QG, QH, QI, QJ, QK, QL, QM, QN, QO, QP, QQ]
    rcases firstB pieceO (s.length + 2) (splC 59 s) with ⟨n, h1, h2, h3, h4⟩ | ⟨h1, o, ho⟩
    · have hpn : pieceO ((splC 59 s).getD n []) = none := by
        rcases h4 with h4 | h4
        · omega
        · exact h4
      have hpg := h3
      have hbad : parO s = none := by
        unfold parO outO
        rw [allO_none h1 hpn]
      rw [hbad] at hr
      refine RangeC.stop (α := Unit) (β := Unit) (split1C_spec 59 s (by omega)) n (by rw [strs_length]; exact h1) [some 0, some 1, some 2, none] 1 [(2, .ptr 0 0), (3, .ptr 1 0), (4, .ptr 2 0)] (fun k _ => [.box [.d (.sl 0 true [])], .box [.d (.bool false)], .box [.lsl 3 4 0 k], .row false (regC (((splC 59 s).take k).map pieceV))]) (fun k _ => True) .ret (fun _ => [.box [.d (.sl 0 true [])], .box [.d (.bool false)], .dead, .dead]) (fun _ => True)
        rfl rfl rfl rfl rfl rfl rfl (by simp) () trivial (by simp [setsA, keepA, SWeak, AWeak]) (by simp [HWeak, BWeak, SWeak, AWeak, regC]) (fun _ _ => ⟨rfl, rfl⟩) (fun _ => rfl) ?_ ?_ ?_
      · rintro k d ⟨⟩ hk hd -
        obtain ⟨y, hy, rfl⟩ := strs_get hd
        have hk2 : k < (splC 59 s).length := by first | omega | (rw [strs_length] at hk; exact hk)
        have hyl := n2 y (List.mem_of_getElem? hy)
        have hyd : (splC 59 s).getD k [] = y := by rw [List.getD_eq_getElem?_getD, hy]; rfl
        have hoy : pieceO y ≠ none := by rw [← hyd]; exact hpg k (by first | exact hk | exact hk2)
        have st := regC_length (((splC 59 s).take k).map pieceV)
        rw [List.length_map, List.length_take, Nat.min_eq_left (by omega)] at st
        have e2 : regC (((splC 59 s).take k).map pieceV) ++ (pieceV y).cells = regC (((splC 59 s).take (k + 1)).map pieceV) := by
          rw [List.take_add_one, hy, List.map_append, regC_app]; rfl
        generalize regC (((splC 59 s).take k).map pieceV) = acc at *
        generalize regC (((splC 59 s).take (k + 1)).map pieceV) = acc2 at *
        obtain ⟨a, b, c, d, g1, g2⟩ := piece_good hoy
        rw [g2] at e2
        obtain ⟨m1, m2⟩ := splC_len 44 _ y rfl
        have gl4 : (splC 44 y).length = 4 := (allO_len g1).symm
        have gm : (splC 44 y).map atoiV = [a, b, c, d] := allO_map g1
        have hgood : ∀ j, j < (splC 44 y).length → atoiO ((splC 44 y).getD j []) ≠ none := fun j hj => by rw [allO_at (d := (0 : Int)) g1 hj]; simp
        simp only [awK, Nat.reduceMod, Nat.reduceDiv, reduceIte]
        simp (config := { maxSteps := 1000000 }) (disch := ((try simp only [awL]); omega)) only [QR, QS, QT, QU, QV, QW, QX, QY, QZ, Q0, Q1, Q2, ↓awU, awV, awF, Qa, Qb, Qc, Qd, forall_const, ↓reduceIte, ↓reduceDIte, ↓Qe, Qf, Qg, Qh, Qi, Qj, Qk, Ql, Qm, Qn, Qo, Qp, Qq, Qr, Qs, implies_true, Qt, Qu, Qv, Qw, Qx, Qy, Qz, QA, QB, QC, QD, QE, QF, QG, QH, QI, QJ, QK, QL, QM, QN, QO, QP, QQ]
        refine CallC.by (splitC_spec 44 y) rfl rfl (by simp) ?_
        simp (config := { maxSteps := 1000000 }) (disch := ((try simp only [awL]); omega)) only [QR, QS, QT, QU, QV, QW, QX, QY, QZ, Q0, Q1, Q2, ↓awU, awV, awF, Qa, Qb, Qc, Qd, forall_const, ↓reduceIte, ↓reduceDIte, ↓Qe, Qf, Qg, Qh, Qi, Qj, Qk, Ql, Qm, Qn, Qo, Qp, Qq, Qr, Qs, implies_true, Qt, Qu, Qv, Qw, Qx, Qy, Qz, QA, QB, QC, QD, QE, QF, QG, QH, QI, QJ, QK, QL, QM, QN, QO, QP, QQ]
        refine RangeC.allP (α := Unit) (split1C_spec 44 y (by omega)) [(0, 8), (1, 9), (2, 10)] [some 0, some 1, some 2, some 3, some 4, none] 1 [(2, .ptr 0 0), (3, .ptr 1 0), (4, .ptr 2 0), (6, .ptr 4 0)] (fun j _ => [.box [.d (.sl 0 true [])], .box [.d (.bool false)], .box [.lsl 3 4 0 k], .row false acc, .box [.lsl 5 1 0 j], .row false (ints .i64 (((splC 44 y).take j).map atoiV))]) (fun j _ => True)
          rfl rfl rfl rfl rfl rfl (pin3 ⟨2, 0, rfl⟩ ⟨3, 0, rfl⟩ ⟨4, 0, rfl⟩) rfl (by simp) () trivial (by simp [setsA, keepA, SWeak, AWeak]) (by simp [HWeak, BWeak, SWeak, AWeak, ints]) (fun _ _ => ⟨rfl, rfl⟩) ?_ ?_
        · rintro j d2 ⟨⟩ hj hd2 -
          obtain ⟨z, hz, rfl⟩ := strs_get hd2
          have hzl := m2 z (List.mem_of_getElem? hz)
          have hj2 : j < (splC 44 y).length := by first | omega | (rw [strs_length] at hj; exact hj)
          have hzd : (splC 44 y).getD j [] = z := by rw [List.getD_eq_getElem?_getD, hz]; rfl
          have hoz : atoiO z ≠ none := by rw [← hzd]; exact hgood j (by first | exact hj | exact hj2)
          have stz := @ints_length .i64 (((splC 44 y).take j).map atoiV)
          rw [List.length_map, List.length_take, Nat.min_eq_left (by omega)] at stz
          have e3 : ints .i64 (((splC 44 y).take j).map atoiV) ++ [D.int .i64 (atoiV z)] = ints .i64 (((splC 44 y).take (j + 1)).map atoiV) := by
            rw [List.take_add_one, hz, List.map_append]; simp [ints]
          have hj4 : j < 4 := by omega
          simp only [awK, Nat.reduceMod, Nat.reduceDiv, reduceIte]
          simp (config := { maxSteps := 1000000 }) (disch := ((try simp only [awL]); omega)) only [QR, QS, QT, QU, QV, QW, QX, QY, QZ, Q0, Q1, Q2, stz, ↓awU, awV, awF, Qa, Qb, Qc, Qd, forall_const, ↓reduceIte, ↓reduceDIte, ↓Qe, Qf, Qg, Qh, Qi, Qj, Qk, Ql, Qm, Qn, Qo, Qp, Qq, Qr, Qs, implies_true, Qt, Qu, Qv, Qw, Qx, Qy, Qz, QA, QB, QC, QD, QE, QF, QG, QH, QI, QJ, QK, QL, QM, QN, QO, QP, QQ]
          refine CallC.pure (atoi_spec hE z (by omega)) ?_
          rw [atoiD_ok hoz]
          simp (config := { maxSteps := 1000000 }) (disch := ((try simp only [awL]); omega)) only [QR, QS, QT, QU, QV, QW, QX, QY, QZ, Q0, Q1, Q2, stz, e3, ↓awU, awV, awF, Qa, Qb, Qc, Qd, forall_const, ↓reduceIte, ↓reduceDIte, ↓Qe, Qf, Qg, Qh, Qi, Qj, Qk, Ql, Qm, Qn, Qo, Qp, Qq, Qr, Qs, implies_true, Qt, Qu, Qv, Qw, Qx, Qy, Qz, QA, QB, QC, QD, QE, QF, QG, QH, QI, QJ, QK, QL, QM, QN, QO, QP, QQ]
          exact RndE.mk (⟨[some 0, some 1, some 2, some 3, some 4, some 7], rfl, by simp, by simp [setsA, keepA, SWeak, AWeak], by simp [HWeak, BWeak, SWeak, AWeak]⟩ : Weak 0 _ _ _ [.box [.d (.sl 0 true [])], .box [.d (.bool false)], .box [.lsl 3 4 0 k], .row false acc, .box [.lsl 5 1 0 (j + 1)], .row false (ints .i64 (((splC 44 y).take (j + 1)).map atoiV))]) ⟨(), rfl⟩
        · rintro ⟨⟩ -
          rw [strs_length, gl4, ← gl4, List.take_length, gl4, gm]
          have i4 : (ints .i64 [a, b, c, d]).length = 4 := rfl
          have q0 : (ints .i64 [a, b, c, d]).getD 0 .nilp = .int .i64 a := rfl
          have q1 : (ints .i64 [a, b, c, d]).getD 1 .nilp = .int .i64 b := rfl
          have q2 : (ints .i64 [a, b, c, d]).getD 2 .nilp = .int .i64 c := rfl
          have q3 : (ints .i64 [a, b, c, d]).getD 3 .nilp = .int .i64 d := rfl
          generalize ints .i64 [a, b, c, d] = nu at *
          conv =>
            rhs
            simp only [List.length_cons, List.length_nil, Nat.reduceAdd]
            simp only [deads8, List.map_cons, List.map_nil, renB, renL, renA, Nat.reduceAdd, List.cons_append, List.nil_append]
            simp only [pinB]
            simp only [swapB08, swapB19, swapB210, List.map_cons, List.map_nil, swF, renB, renL, renA, Nat.reduceEqDiff, reduceIte]
          conv =>
            lhs
            simp only [awK, Nat.reduceMod, Nat.reduceDiv, reduceIte]
            simp only [List.length_cons, List.length_nil, Nat.reduceAdd, renL, renA]
            simp only [pinS]
            simp only [renL, renA, swF, Nat.reduceAdd, Nat.reduceEqDiff, reduceIte]
          try simp only [awK, Nat.reduceMod, Nat.reduceDiv, reduceIte]
          simp (config := { maxSteps := 1000000 }) (disch := ((try simp only [awL]); omega)) only [QR, QS, QT, QU, QV, QW, QX, QY, QZ, Q0, Q1, Q2, i4, q0, q1, q2, q3, st, ↓awU, awV, awF, Qa, Qb, Qc, Qd, forall_const, ↓reduceIte, ↓reduceDIte, ↓Qe, Qf, Qg, Qh, Qi, Qj, Qk, Ql, Qm, Qn, Qo, Qp, Qq, Qr, Qs, implies_true, Qt, Qu, Qv, Qw, Qx, Qy, Qz, QA, QB, QC, QD, QE, QF, QG, QH, QI, QJ, QK, QL, QM, QN, QO, QP, QQ]
          have e4 : cut [D.int .i64 a, D.int .i64 b, D.int .i64 c, D.int .i64 d] 0 4 = [D.int .i64 a, D.int .i64 b, D.int .i64 c, D.int .i64 d] := rfl
          try rw [e4]
          rw [e2]
          first
          | exact RndE.mk (⟨[some 0, some 1, some 2, some 15], rfl, by simp, by simp [setsA, keepA, SWeak, AWeak], by simp [HWeak, BWeak, SWeak, AWeak]⟩ : Weak 0 _ _ _ [.box [.d (.sl 0 true [])], .box [.d (.bool false)], .box [.lsl 3 4 0 (k + 1)], .row false acc2]) ⟨(), rfl⟩
          | exact ⟨by rfl, RndE.mk (⟨[some 0, some 1, some 2, some 15], rfl, by simp, by simp [setsA, keepA, SWeak, AWeak], by simp [HWeak, BWeak, SWeak, AWeak]⟩ : Weak 0 _ _ _ [.box [.d (.sl 0 true [])], .box [.d (.bool false)], .box [.lsl 3 4 0 (k + 1)], .row false acc2]) ⟨(), rfl⟩⟩
          | exact ⟨by rfl, by rfl, RndE.mk (⟨[some 0, some 1, some 2, some 15], rfl, by simp, by simp [setsA, keepA, SWeak, AWeak], by simp [HWeak, BWeak, SWeak, AWeak]⟩ : Weak 0 _ _ _ [.box [.d (.sl 0 true [])], .box [.d (.bool false)], .box [.lsl 3 4 0 (k + 1)], .row false acc2]) ⟨(), rfl⟩⟩
      · rintro d ⟨⟩ hd -
        obtain ⟨y, hy, rfl⟩ := strs_get hd
        have hyl := n2 y (List.mem_of_getElem? hy)
        have hyd : (splC 59 s).getD n [] = y := by rw [List.getD_eq_getElem?_getD, hy]; rfl
        rw [hyd] at hpn
        have st := regC_length (((splC 59 s).take n).map pieceV)
        rw [List.length_map, List.length_take, Nat.min_eq_left (by omega)] at st
        generalize regC (((splC 59 s).take n).map pieceV) = acc at *
        obtain ⟨k, hk⟩ : ∃ k, k = n := ⟨_, rfl⟩
        rw [← hk]
        obtain ⟨m1, m2⟩ := splC_len 44 _ y rfl
        simp only [awK, Nat.reduceMod, Nat.reduceDiv, reduceIte]
        simp (config := { maxSteps := 1000000 }) (disch := ((try simp only [awL]); omega)) only [QR, QS, QT, QU, QV, QW, QX, QY, QZ, Q0, Q1, Q2, ↓awU, awV, awF, Qa, Qb, Qc, Qd, forall_const, ↓reduceIte, ↓reduceDIte, ↓Qe, Qf, Qg, Qh, Qi, Qj, Qk, Ql, Qm, Qn, Qo, Qp, Qq, Qr, Qs, implies_true, Qt, Qu, Qv, Qw, Qx, Qy, Qz, QA, QB, QC, QD, QE, QF, QG, QH, QI, QJ, QK, QL, QM, QN, QO, QP, QQ]
        refine CallC.by (splitC_spec 44 y) rfl rfl (by simp) ?_
        simp (config := { maxSteps := 1000000 }) (disch := ((try simp only [awL]); omega)) only [QR, QS, QT, QU, QV, QW, QX, QY, QZ, Q0, Q1, Q2, ↓awU, awV, awF, Qa, Qb, Qc, Qd, forall_const, ↓reduceIte, ↓reduceDIte, ↓Qe, Qf, Qg, Qh, Qi, Qj, Qk, Ql, Qm, Qn, Qo, Qp, Qq, Qr, Qs, implies_true, Qt, Qu, Qv, Qw, Qx, Qy, Qz, QA, QB, QC, QD, QE, QF, QG, QH, QI, QJ, QK, QL, QM, QN, QO, QP, QQ]
        rcases piece_bad hpn with ⟨q, q1, q2, q3, q4⟩ | ⟨q1, q2⟩
        · have hgood := q3
          refine RangeC.stopP (α := Unit) (β := Unit) (split1C_spec 44 y (by omega)) q (by rw [strs_length]; exact q1) [(0, 8), (1, 9), (2, 10)] [some 0, some 1, some 2, some 3, some 4, none] 1 [(2, .ptr 0 0), (3, .ptr 1 0), (4, .ptr 2 0), (6, .ptr 4 0)] (fun j _ => [.box [.d (.sl 0 true [])], .box [.d (.bool false)], .box [.lsl 3 4 0 k], .row false acc, .box [.lsl 5 1 0 j], .row false (ints .i64 (((splC 44 y).take j).map atoiV))]) (fun j _ => True) .ret (fun _ => [.box [.d (.sl 0 true [])], .box [.d (.bool false)], .dead, .dead, .dead, .dead]) (fun _ => True)
            rfl rfl rfl rfl rfl rfl (pin3 ⟨2, 0, rfl⟩ ⟨3, 0, rfl⟩ ⟨4, 0, rfl⟩) rfl (by simp) () trivial (by simp [setsA, keepA, SWeak, AWeak]) (by simp [HWeak, BWeak, SWeak, AWeak, ints]) (fun _ _ => ⟨rfl, rfl⟩) (fun _ => rfl) ?_ ?_ ?_
          · rintro j d2 ⟨⟩ hj hd2 -
            obtain ⟨z, hz, rfl⟩ := strs_get hd2
            have hzl := m2 z (List.mem_of_getElem? hz)
            have hj2 : j < (splC 44 y).length := by first | omega | (rw [strs_length] at hj; exact hj)
            have hzd : (splC 44 y).getD j [] = z := by rw [List.getD_eq_getElem?_getD, hz]; rfl
            have hoz : atoiO z ≠ none := by rw [← hzd]; exact hgood j (by first | exact hj | exact hj2)
            have stz := @ints_length .i64 (((splC 44 y).take j).map atoiV)
            rw [List.length_map, List.length_take, Nat.min_eq_left (by omega)] at stz
            have e3 : ints .i64 (((splC 44 y).take j).map atoiV) ++ [D.int .i64 (atoiV z)] = ints .i64 (((splC 44 y).take (j + 1)).map atoiV) := by
              rw [List.take_add_one, hz, List.map_append]; simp [ints]
            have hj4 : j < 4 := by omega
            simp only [awK, Nat.reduceMod, Nat.reduceDiv, reduceIte]
            simp (config := { maxSteps := 1000000 }) (disch := ((try simp only [awL]); omega)) only [QR, QS, QT, QU, QV, QW, QX, QY, QZ, Q0, Q1, Q2, stz, ↓awU, awV, awF, Qa, Qb, Qc, Qd, forall_const, ↓reduceIte, ↓reduceDIte, ↓Qe, Qf, Qg, Qh, Qi, Qj, Qk, Ql, Qm, Qn, Qo, Qp, Qq, Qr, Qs, implies_true, Qt, Qu, Qv, Qw, Qx, Qy, Qz, QA, QB, QC, QD, QE, QF, QG, QH, QI, QJ, QK, QL, QM, QN, QO, QP, QQ]
            refine CallC.pure (atoi_spec hE z (by omega)) ?_
            rw [atoiD_ok hoz]
            simp (config := { maxSteps := 1000000 }) (disch := ((try simp only [awL]); omega)) only [QR, QS, QT, QU, QV, QW, QX, QY, QZ, Q0, Q1, Q2, stz, e3, ↓awU, awV, awF, Qa, Qb, Qc, Qd, forall_const, ↓reduceIte, ↓reduceDIte, ↓Qe, Qf, Qg, Qh, Qi, Qj, Qk, Ql, Qm, Qn, Qo, Qp, Qq, Qr, Qs, implies_true, Qt, Qu, Qv, Qw, Qx, Qy, Qz, QA, QB, QC, QD, QE, QF, QG, QH, QI, QJ, QK, QL, QM, QN, QO, QP, QQ]
            exact RndE.mk (⟨[some 0, some 1, some 2, some 3, some 4, some 7], rfl, by simp, by simp [setsA, keepA, SWeak, AWeak], by simp [HWeak, BWeak, SWeak, AWeak]⟩ : Weak 0 _ _ _ [.box [.d (.sl 0 true [])], .box [.d (.bool false)], .box [.lsl 3 4 0 k], .row false acc, .box [.lsl 5 1 0 (j + 1)], .row false (ints .i64 (((splC 44 y).take (j + 1)).map atoiV))]) ⟨(), rfl⟩
          · rintro d2 ⟨⟩ hd2 -
            obtain ⟨z, hz, rfl⟩ := strs_get hd2
            have hzl := m2 z (List.mem_of_getElem? hz)
            have hzd : (splC 44 y).getD q [] = z := by rw [List.getD_eq_getElem?_getD, hz]; rfl
            rw [hzd] at q4
            have stz := @ints_length .i64 (((splC 44 y).take q).map atoiV)
            rw [List.length_map, List.length_take, Nat.min_eq_left (by omega)] at stz
            simp only [awK, Nat.reduceMod, Nat.reduceDiv, reduceIte]
            simp (config := { maxSteps := 1000000 }) (disch := ((try simp only [awL]); omega)) only [QR, QS, QT, QU, QV, QW, QX, QY, QZ, Q0, Q1, Q2, stz, ↓awU, awV, awF, Qa, Qb, Qc, Qd, forall_const, ↓reduceIte, ↓reduceDIte, ↓Qe, Qf, Qg, Qh, Qi, Qj, Qk, Ql, Qm, Qn, Qo, Qp, Qq, Qr, Qs, implies_true, Qt, Qu, Qv, Qw, Qx, Qy, Qz, QA, QB, QC, QD, QE, QF, QG, QH, QI, QJ, QK, QL, QM, QN, QO, QP, QQ]
            refine CallC.pure (atoi_spec hE z (by omega)) ?_
            by_cases hoz : atoiO z = none
            · obtain ⟨v, hv⟩ := atoiD_bad hoz
              rw [hv]
              simp (config := { maxSteps := 1000000 }) (disch := ((try simp only [awL]); omega)) only [QR, QS, QT, QU, QV, QW, QX, QY, QZ, Q0, Q1, Q2, stz, ↓awU, awV, awF, Qa, Qb, Qc, Qd, forall_const, ↓reduceIte, ↓reduceDIte, ↓Qe, Qf, Qg, Qh, Qi, Qj, Qk, Ql, Qm, Qn, Qo, Qp, Qq, Qr, Qs, implies_true, Qt, Qu, Qv, Qw, Qx, Qy, Qz, QA, QB, QC, QD, QE, QF, QG, QH, QI, QJ, QK, QL, QM, QN, QO, QP, QQ]
              exact RndE.mk (⟨[some 0, some 1, some 2, some 3, some 4, some 5], rfl, by simp, by simp [setsA, keepA, SWeak, AWeak], by simp [HWeak, BWeak, SWeak, AWeak]⟩ : Weak 0 _ _ _ [.box [.d (.sl 0 true [])], .box [.d (.bool false)], .dead, .dead, .dead, .dead]) ⟨(), rfl⟩
            · obtain rfl : q = 4 := q4.resolve_right hoz
              rw [atoiD_ok hoz]
              simp (config := { maxSteps := 1000000 }) (disch := ((try simp only [awL]); omega)) only [QR, QS, QT, QU, QV, QW, QX, QY, QZ, Q0, Q1, Q2, stz, ↓awU, awV, awF, Qa, Qb, Qc, Qd, forall_const, ↓reduceIte, ↓reduceDIte, ↓Qe, Qf, Qg, Qh, Qi, Qj, Qk, Ql, Qm, Qn, Qo, Qp, Qq, Qr, Qs, implies_true, Qt, Qu, Qv, Qw, Qx, Qy, Qz, QA, QB, QC, QD, QE, QF, QG, QH, QI, QJ, QK, QL, QM, QN, QO, QP, QQ]
              exact RndE.mk (⟨[some 0, some 1, some 2, some 3, some 4, some 5], rfl, by simp, by simp [setsA, keepA, SWeak, AWeak], by simp [HWeak, BWeak, SWeak, AWeak]⟩ : Weak 0 _ _ _ [.box [.d (.sl 0 true [])], .box [.d (.bool false)], .dead, .dead, .dead, .dead]) ⟨(), rfl⟩
          · rintro ⟨⟩ -
            show JmpQ _ _ _ _
            simp only [JmpQ]
            conv =>
              rhs
              simp only [List.length_cons, List.length_nil, Nat.reduceAdd]
              simp only [deads8, List.map_cons, List.map_nil, renB, renL, renA, Nat.reduceAdd, List.cons_append, List.nil_append]
              simp only [pinB]
              simp only [swapB08, swapB19, swapB210, List.map_cons, List.map_nil, swF, renB, renL, renA, Nat.reduceEqDiff, reduceIte]
            conv =>
              lhs
              simp only [awK, Nat.reduceMod, Nat.reduceDiv, reduceIte]
              simp only [List.length_cons, List.length_nil, Nat.reduceAdd, renL, renA]
              simp only [pinS]
              simp only [renL, renA, swF, Nat.reduceAdd, Nat.reduceEqDiff, reduceIte]
            try simp only [awK, Nat.reduceMod, Nat.reduceDiv, reduceIte]
            simp (config := { maxSteps := 1000000 }) (disch := ((try simp only [awL]); omega)) only [QR, QS, QT, QU, QV, QW, QX, QY, QZ, Q0, Q1, Q2, ↓awU, awV, awF, Qa, Qb, Qc, Qd, forall_const, ↓reduceIte, ↓reduceDIte, ↓Qe, Qf, Qg, Qh, Qi, Qj, Qk, Ql, Qm, Qn, Qo, Qp, Qq, Qr, Qs, implies_true, Qt, Qu, Qv, Qw, Qx, Qy, Qz, QA, QB, QC, QD, QE, QF, QG, QH, QI, QJ, QK, QL, QM, QN, QO, QP, QQ]
            exact RndE.mk (⟨[some 0, some 1, some 2, some 3], rfl, by simp, by simp [setsA, keepA, SWeak, AWeak], by simp [HWeak, BWeak, SWeak, AWeak]⟩ : Weak 0 _ _ _ [.box [.d (.sl 0 true [])], .box [.d (.bool false)], .dead, .dead]) ⟨(), rfl⟩
        · have hgood := q2
          refine RangeC.allP (α := Unit) (split1C_spec 44 y (by omega)) [(0, 8), (1, 9), (2, 10)] [some 0, some 1, some 2, some 3, some 4, none] 1 [(2, .ptr 0 0), (3, .ptr 1 0), (4, .ptr 2 0), (6, .ptr 4 0)] (fun j _ => [.box [.d (.sl 0 true [])], .box [.d (.bool false)], .box [.lsl 3 4 0 k], .row false acc, .box [.lsl 5 1 0 j], .row false (ints .i64 (((splC 44 y).take j).map atoiV))]) (fun j _ => True)
            rfl rfl rfl rfl rfl rfl (pin3 ⟨2, 0, rfl⟩ ⟨3, 0, rfl⟩ ⟨4, 0, rfl⟩) rfl (by simp) () trivial (by simp [setsA, keepA, SWeak, AWeak]) (by simp [HWeak, BWeak, SWeak, AWeak, ints]) (fun _ _ => ⟨rfl, rfl⟩) ?_ ?_
          · rintro j d2 ⟨⟩ hj hd2 -
            obtain ⟨z, hz, rfl⟩ := strs_get hd2
            have hzl := m2 z (List.mem_of_getElem? hz)
            have hj2 : j < (splC 44 y).length := by first | omega | (rw [strs_length] at hj; exact hj)
            have hzd : (splC 44 y).getD j [] = z := by rw [List.getD_eq_getElem?_getD, hz]; rfl
            have hoz : atoiO z ≠ none := by rw [← hzd]; exact hgood j (by first | exact hj | exact hj2)
            have stz := @ints_length .i64 (((splC 44 y).take j).map atoiV)
            rw [List.length_map, List.length_take, Nat.min_eq_left (by omega)] at stz
            have e3 : ints .i64 (((splC 44 y).take j).map atoiV) ++ [D.int .i64 (atoiV z)] = ints .i64 (((splC 44 y).take (j + 1)).map atoiV) := by
              rw [List.take_add_one, hz, List.map_append]; simp [ints]
            have hj4 : j < 4 := by omega
            simp only [awK, Nat.reduceMod, Nat.reduceDiv, reduceIte]
            simp (config := { maxSteps := 1000000 }) (disch := ((try simp only [awL]); omega)) only [QR, QS, QT, QU, QV, QW, QX, QY, QZ, Q0, Q1, Q2, stz, ↓awU, awV, awF, Qa, Qb, Qc, Qd, forall_const, ↓reduceIte, ↓reduceDIte, ↓Qe, Qf, Qg, Qh, Qi, Qj, Qk, Ql, Qm, Qn, Qo, Qp, Qq, Qr, Qs, implies_true, Qt, Qu, Qv, Qw, Qx, Qy, Qz, QA, QB, QC, QD, QE, QF, QG, QH, QI, QJ, QK, QL, QM, QN, QO, QP, QQ]
            refine CallC.pure (atoi_spec hE z (by omega)) ?_
            rw [atoiD_ok hoz]
            simp (config := { maxSteps := 1000000 }) (disch := ((try simp only [awL]); omega)) only [QR, QS, QT, QU, QV, QW, QX, QY, QZ, Q0, Q1, Q2, stz, e3, ↓awU, awV, awF, Qa, Qb, Qc, Qd, forall_const, ↓reduceIte, ↓reduceDIte, ↓Qe, Qf, Qg, Qh, Qi, Qj, Qk, Ql, Qm, Qn, Qo, Qp, Qq, Qr, Qs, implies_true, Qt, Qu, Qv, Qw, Qx, Qy, Qz, QA, QB, QC, QD, QE, QF, QG, QH, QI, QJ, QK, QL, QM, QN, QO, QP, QQ]
            exact RndE.mk (⟨[some 0, some 1, some 2, some 3, some 4, some 7], rfl, by simp, by simp [setsA, keepA, SWeak, AWeak], by simp [HWeak, BWeak, SWeak, AWeak]⟩ : Weak 0 _ _ _ [.box [.d (.sl 0 true [])], .box [.d (.bool false)], .box [.lsl 3 4 0 k], .row false acc, .box [.lsl 5 1 0 (j + 1)], .row false (ints .i64 (((splC 44 y).take (j + 1)).map atoiV))]) ⟨(), rfl⟩
          · rintro ⟨⟩ -
            rw [strs_length, List.take_length]
            have stz := @ints_length .i64 ((splC 44 y).map atoiV)
            rw [List.length_map] at stz
            conv =>
              rhs
              simp only [List.length_cons, List.length_nil, Nat.reduceAdd]
              simp only [deads8, List.map_cons, List.map_nil, renB, renL, renA, Nat.reduceAdd, List.cons_append, List.nil_append]
              simp only [pinB]
              simp only [swapB08, swapB19, swapB210, List.map_cons, List.map_nil, swF, renB, renL, renA, Nat.reduceEqDiff, reduceIte]
            conv =>
              lhs
              simp only [awK, Nat.reduceMod, Nat.reduceDiv, reduceIte]
              simp only [List.length_cons, List.length_nil, Nat.reduceAdd, renL, renA]
              simp only [pinS]
              simp only [renL, renA, swF, Nat.reduceAdd, Nat.reduceEqDiff, reduceIte]
            try simp only [awK, Nat.reduceMod, Nat.reduceDiv, reduceIte]
            simp (config := { maxSteps := 1000000 }) (disch := ((try simp only [awL]); omega)) only [QR, QS, QT, QU, QV, QW, QX, QY, QZ, Q0, Q1, Q2, stz, ↓awU, awV, awF, Qa, Qb, Qc, Qd, forall_const, ↓reduceIte, ↓reduceDIte, ↓Qe, Qf, Qg, Qh, Qi, Qj, Qk, Ql, Qm, Qn, Qo, Qp, Qq, Qr, Qs, implies_true, Qt, Qu, Qv, Qw, Qx, Qy, Qz, QA, QB, QC, QD, QE, QF, QG, QH, QI, QJ, QK, QL, QM, QN, QO, QP, QQ]
            exact RndE.mk (⟨[some 0, some 1, some 2, some 3], rfl, by simp, by simp [setsA, keepA, SWeak, AWeak], by simp [HWeak, BWeak, SWeak, AWeak]⟩ : Weak 0 _ _ _ [.box [.d (.sl 0 true [])], .box [.d (.bool false)], .dead, .dead]) ⟨(), rfl⟩
      · rintro ⟨⟩ -
        show JmpQ _ _ _ _
        simp only [JmpQ]
        simp only [awK, Nat.reduceMod, Nat.reduceDiv, reduceIte]
        simp (config := { maxSteps := 1000000 }) (disch := ((try simp only [awL]); omega)) only [QR, QS, QT, QU, QV, QW, QX, QY, QZ, Q0, Q1, Q2, ↓awU, awV, awF, Qa, Qb, Qc, Qd, forall_const, ↓reduceIte, ↓reduceDIte, ↓Qe, Qf, Qg, Qh, Qi, Qj, Qk, Ql, Qm, Qn, Qo, Qp, Qq, Qr, Qs, implies_true, Qt, Qu, Qv, Qw, Qx, Qy, Qz, QA, QB, QC, QD, QE, QF, QG, QH, QI, QJ, QK, QL, QM, QN, QO, QP, QQ]
        rw [hr]; try rfl
    · have hol := allO_len ho
      have hv : (splC 59 s).map pieceV = o := by
        apply List.ext_getElem?
        intro i
        rw [List.getElem?_map]
        rcases Nat.lt_or_ge i (splC 59 s).length with hi | hi
        · have := allO_at (d := noRg) ho hi
          rw [List.getElem?_eq_getElem hi, List.getElem?_eq_getElem (by omega)]
          rw [List.getD_eq_getElem?_getD, List.getD_eq_getElem?_getD, List.getElem?_eq_getElem hi, List.getElem?_eq_getElem (show i < o.length by omega)] at this
          simp only [Option.getD_some] at this
          simp only [Option.map_some, pieceV, this, Option.getD_some]
        · rw [List.getElem?_eq_none hi, List.getElem?_eq_none (by omega)]; rfl
      have hpg : ∀ k, k < (splC 59 s).length → pieceO ((splC 59 s).getD k []) ≠ none := fun k hk => by rw [allO_at (d := noRg) ho hk]; simp
      have hr2 : r = match (if textR o = some s then some o else none) with
          | some l => D.tup [D.sl l.length false (regC l), D.bool true]
          | none => D.tup [D.sl 0 false [], D.bool false] := by rw [hr, parO, outO, ho]
      refine RangeC.all (α := Unit) (split1C_spec 59 s (by omega)) [some 0, some 1, some 2, none] 1 [(2, .ptr 0 0), (3, .ptr 1 0), (4, .ptr 2 0)] (fun k _ => [.box [.d (.sl 0 true [])], .box [.d (.bool false)], .box [.lsl 3 4 0 k], .row false (regC (((splC 59 s).take k).map pieceV))]) (fun k _ => True)
        rfl rfl rfl rfl rfl rfl rfl (by simp) () trivial (by simp [setsA, keepA, SWeak, AWeak]) (by simp [HWeak, BWeak, SWeak, AWeak, regC]) (fun _ _ => ⟨rfl, rfl⟩) ?_ ?_
      · rintro k d ⟨⟩ hk hd -
        obtain ⟨y, hy, rfl⟩ := strs_get hd
        have hk2 : k < (splC 59 s).length := by first | omega | (rw [strs_length] at hk; exact hk)
        have hyl := n2 y (List.mem_of_getElem? hy)
        have hyd : (splC 59 s).getD k [] = y := by rw [List.getD_eq_getElem?_getD, hy]; rfl
        have hoy : pieceO y ≠ none := by rw [← hyd]; exact hpg k (by first | exact hk | exact hk2)
        have st := regC_length (((splC 59 s).take k).map pieceV)
        rw [List.length_map, List.length_take, Nat.min_eq_left (by omega)] at st
        have e2 : regC (((splC 59 s).take k).map pieceV) ++ (pieceV y).cells = regC (((splC 59 s).take (k + 1)).map pieceV) := by
          rw [List.take_add_one, hy, List.map_append, regC_app]; rfl
        generalize regC (((splC 59 s).take k).map pieceV) = acc at *
        generalize regC (((splC 59 s).take (k + 1)).map pieceV) = acc2 at *
        obtain ⟨a, b, c, d, g1, g2⟩ := piece_good hoy
        rw [g2] at e2
        obtain ⟨m1, m2⟩ := splC_len 44 _ y rfl
        have gl4 : (splC 44 y).length = 4 := (allO_len g1).symm
        have gm : (splC 44 y).map atoiV = [a, b, c, d] := allO_map g1
        have hgood : ∀ j, j < (splC 44 y).length → atoiO ((splC 44 y).getD j []) ≠ none := fun j hj => by rw [allO_at (d := (0 : Int)) g1 hj]; simp
        simp only [awK, Nat.reduceMod, Nat.reduceDiv, reduceIte]
        simp (config := { maxSteps := 1000000 }) (disch := ((try simp only [awL]); omega)) only [QR, QS, QT, QU, QV, QW, QX, QY, QZ, Q0, Q1, Q2, ↓awU, awV, awF, Qa, Qb, Qc, Qd, forall_const, ↓reduceIte, ↓reduceDIte, ↓Qe, Qf, Qg, Qh, Qi, Qj, Qk, Ql, Qm, Qn, Qo, Qp, Qq, Qr, Qs, implies_true, Qt, Qu, Qv, Qw, Qx, Qy, Qz, QA, QB, QC, QD, QE, QF, QG, QH, QI, QJ, QK, QL, QM, QN, QO, QP, QQ]
        refine CallC.by (splitC_spec 44 y) rfl rfl (by simp) ?_
        simp (config := { maxSteps := 1000000 }) (disch := ((try simp only [awL]); omega)) only [QR, QS, QT, QU, QV, QW, QX, QY, QZ, Q0, Q1, Q2, ↓awU, awV, awF, Qa, Qb, Qc, Qd, forall_const, ↓reduceIte, ↓reduceDIte, ↓Qe, Qf, Qg, Qh, Qi, Qj, Qk, Ql, Qm, Qn, Qo, Qp, Qq, Qr, Qs, implies_true, Qt, Qu, Qv, Qw, Qx, Qy, Qz, QA, QB, QC, QD, QE, QF, QG, QH, QI, QJ, QK, QL, QM, QN, QO, QP, QQ]
        refine RangeC.allP (α := Unit) (split1C_spec 44 y (by omega)) [(0, 8), (1, 9), (2, 10)] [some 0, some 1, some 2, some 3, some 4, none] 1 [(2, .ptr 0 0), (3, .ptr 1 0), (4, .ptr 2 0), (6, .ptr 4 0)] (fun j _ => [.box [.d (.sl 0 true [])], .box [.d (.bool false)], .box [.lsl 3 4 0 k], .row false acc, .box [.lsl 5 1 0 j], .row false (ints .i64 (((splC 44 y).take j).map atoiV))]) (fun j _ => True)
          rfl rfl rfl rfl rfl rfl (pin3 ⟨2, 0, rfl⟩ ⟨3, 0, rfl⟩ ⟨4, 0, rfl⟩) rfl (by simp) () trivial (by simp [setsA, keepA, SWeak, AWeak]) (by simp [HWeak, BWeak, SWeak, AWeak, ints]) (fun _ _ => ⟨rfl, rfl⟩) ?_ ?_
        · rintro j d2 ⟨⟩ hj hd2 -
          obtain ⟨z, hz, rfl⟩ := strs_get hd2
          have hzl := m2 z (List.mem_of_getElem? hz)
          have hj2 : j < (splC 44 y).length := by first | omega | (rw [strs_length] at hj; exact hj)
          have hzd : (splC 44 y).getD j [] = z := by rw [List.getD_eq_getElem?_getD, hz]; rfl
          have hoz : atoiO z ≠ none := by rw [← hzd]; exact hgood j (by first | exact hj | exact hj2)
          have stz := @ints_length .i64 (((splC 44 y).take j).map atoiV)
          rw [List.length_map, List.length_take, Nat.min_eq_left (by omega)] at stz
          have e3 : ints .i64 (((splC 44 y).take j).map atoiV) ++ [D.int .i64 (atoiV z)] = ints .i64 (((splC 44 y).take (j + 1)).map atoiV) := by
            rw [List.take_add_one, hz, List.map_append]; simp [ints]
          have hj4 : j < 4 := by omega
          simp only [awK, Nat.reduceMod, Nat.reduceDiv, reduceIte]
          simp (config := { maxSteps := 1000000 }) (disch := ((try simp only [awL]); omega)) only [QR, QS, QT, QU, QV, QW, QX, QY, QZ, Q0, Q1, Q2, stz, ↓awU, awV, awF, Qa, Qb, Qc, Qd, forall_const, ↓reduceIte, ↓reduceDIte, ↓Qe, Qf, Qg, Qh, Qi, Qj, Qk, Ql, Qm, Qn, Qo, Qp, Qq, Qr, Qs, implies_true, Qt, Qu, Qv, Qw, Qx, Qy, Qz, QA, QB, QC, QD, QE, QF, QG, QH, QI, QJ, QK, QL, QM, QN, QO, QP, QQ]
          refine CallC.pure (atoi_spec hE z (by omega)) ?_
          rw [atoiD_ok hoz]
          simp (config := { maxSteps := 1000000 }) (disch := ((try simp only [awL]); omega)) only [QR, QS, QT, QU, QV, QW, QX, QY, QZ, Q0, Q1, Q2, stz, e3, ↓awU, awV, awF, Qa, Qb, Qc, Qd, forall_const, ↓reduceIte, ↓reduceDIte, ↓Qe, Qf, Qg, Qh, Qi, Qj, Qk, Ql, Qm, Qn, Qo, Qp, Qq, Qr, Qs, implies_true, Qt, Qu, Qv, Qw, Qx, Qy, Qz, QA, QB, QC, QD, QE, QF, QG, QH, QI, QJ, QK, QL, QM, QN, QO, QP, QQ]
          exact RndE.mk (⟨[some 0, some 1, some 2, some 3, some 4, some 7], rfl, by simp, by simp [setsA, keepA, SWeak, AWeak], by simp [HWeak, BWeak, SWeak, AWeak]⟩ : Weak 0 _ _ _ [.box [.d (.sl 0 true [])], .box [.d (.bool false)], .box [.lsl 3 4 0 k], .row false acc, .box [.lsl 5 1 0 (j + 1)], .row false (ints .i64 (((splC 44 y).take (j + 1)).map atoiV))]) ⟨(), rfl⟩
        · rintro ⟨⟩ -
          rw [strs_length, gl4, ← gl4, List.take_length, gl4, gm]
          have i4 : (ints .i64 [a, b, c, d]).length = 4 := rfl
          have q0 : (ints .i64 [a, b, c, d]).getD 0 .nilp = .int .i64 a := rfl
          have q1 : (ints .i64 [a, b, c, d]).getD 1 .nilp = .int .i64 b := rfl
          have q2 : (ints .i64 [a, b, c, d]).getD 2 .nilp = .int .i64 c := rfl
          have q3 : (ints .i64 [a, b, c, d]).getD 3 .nilp = .int .i64 d := rfl
          generalize ints .i64 [a, b, c, d] = nu at *
          conv =>
            rhs
            simp only [List.length_cons, List.length_nil, Nat.reduceAdd]
            simp only [deads8, List.map_cons, List.map_nil, renB, renL, renA, Nat.reduceAdd, List.cons_append, List.nil_append]
            simp only [pinB]
            simp only [swapB08, swapB19, swapB210, List.map_cons, List.map_nil, swF, renB, renL, renA, Nat.reduceEqDiff, reduceIte]
          conv =>
            lhs
            simp only [awK, Nat.reduceMod, Nat.reduceDiv, reduceIte]
            simp only [List.length_cons, List.length_nil, Nat.reduceAdd, renL, renA]
            simp only [pinS]
            simp only [renL, renA, swF, Nat.reduceAdd, Nat.reduceEqDiff, reduceIte]
          try simp only [awK, Nat.reduceMod, Nat.reduceDiv, reduceIte]
          simp (config := { maxSteps := 1000000 }) (disch := ((try simp only [awL]); omega)) only [QR, QS, QT, QU, QV, QW, QX, QY, QZ, Q0, Q1, Q2, i4, q0, q1, q2, q3, st, ↓awU, awV, awF, Qa, Qb, Qc, Qd, forall_const, ↓reduceIte, ↓reduceDIte, ↓Qe, Qf, Qg, Qh, Qi, Qj, Qk, Ql, Qm, Qn, Qo, Qp, Qq, Qr, Qs, implies_true, Qt, Qu, Qv, Qw, Qx, Qy, Qz, QA, QB, QC, QD, QE, QF, QG, QH, QI, QJ, QK, QL, QM, QN, QO, QP, QQ]
          have e4 : cut [D.int .i64 a, D.int .i64 b, D.int .i64 c, D.int .i64 d] 0 4 = [D.int .i64 a, D.int .i64 b, D.int .i64 c, D.int .i64 d] := rfl
          try rw [e4]
          rw [e2]
          first
          | exact RndE.mk (⟨[some 0, some 1, some 2, some 15], rfl, by simp, by simp [setsA, keepA, SWeak, AWeak], by simp [HWeak, BWeak, SWeak, AWeak]⟩ : Weak 0 _ _ _ [.box [.d (.sl 0 true [])], .box [.d (.bool false)], .box [.lsl 3 4 0 (k + 1)], .row false acc2]) ⟨(), rfl⟩
          | exact ⟨by rfl, RndE.mk (⟨[some 0, some 1, some 2, some 15], rfl, by simp, by simp [setsA, keepA, SWeak, AWeak], by simp [HWeak, BWeak, SWeak, AWeak]⟩ : Weak 0 _ _ _ [.box [.d (.sl 0 true [])], .box [.d (.bool false)], .box [.lsl 3 4 0 (k + 1)], .row false acc2]) ⟨(), rfl⟩⟩
          | exact ⟨by rfl, by rfl, RndE.mk (⟨[some 0, some 1, some 2, some 15], rfl, by simp, by simp [setsA, keepA, SWeak, AWeak], by simp [HWeak, BWeak, SWeak, AWeak]⟩ : Weak 0 _ _ _ [.box [.d (.sl 0 true [])], .box [.d (.bool false)], .box [.lsl 3 4 0 (k + 1)], .row false acc2]) ⟨(), rfl⟩⟩
      · rintro ⟨⟩ -
        rw [strs_length, List.take_length, hv, ← hol]
        have ol := regC_length o
        have cu : cut (regC o) 0 (4 * o.length) = regC o := cut_all ol.symm
        have cu' : cut (regC o) 0 (o.length * 4) = regC o := cut_all (by omega)
        simp only [awK, Nat.reduceMod, Nat.reduceDiv, reduceIte]
        simp (config := { maxSteps := 1000000 }) (disch := ((try simp only [awL]); omega)) only [QR, QS, QT, QU, QV, QW, QX, QY, QZ, Q0, Q1, Q2, ol, cu, cu', ↓awU, awV, awF, Qa, Qb, Qc, Qd, forall_const, ↓reduceIte, ↓reduceDIte, ↓Qe, Qf, Qg, Qh, Qi, Qj, Qk, Ql, Qm, Qn, Qo, Qp, Qq, Qr, Qs, implies_true, Qt, Qu, Qv, Qw, Qx, Qy, Qz, QA, QB, QC, QD, QE, QF, QG, QH, QI, QJ, QK, QL, QM, QN, QO, QP, QQ]
        refine CallC.frozenE (stext_spec hI o false (by omega)) (by rfl) ?_
        cases ht : textR o with
        | none =>
          rw [if_neg (by rw [ht]; simp)] at hr2
          simp (config := { maxSteps := 1000000 }) (disch := ((try simp only [awL]); omega)) only [QR, QS, QT, QU, QV, QW, QX, QY, QZ, Q0, Q1, Q2, textD, ol, cu, cu', ↓awU, awV, awF, Qa, Qb, Qc, Qd, forall_const, ↓reduceIte, ↓reduceDIte, ↓Qe, Qf, Qg, Qh, Qi, Qj, Qk, Ql, Qm, Qn, Qo, Qp, Qq, Qr, Qs, implies_true, Qt, Qu, Qv, Qw, Qx, Qy, Qz, QA, QB, QC, QD, QE, QF, QG, QH, QI, QJ, QK, QL, QM, QN, QO, QP, QQ]
          rw [hr2]; try rfl
        | some t =>
          by_cases hts : t = s
          · subst hts
            rw [if_pos ht] at hr2
            simp (config := { maxSteps := 1000000 }) (disch := ((try simp only [awL]); omega)) only [QR, QS, QT, QU, QV, QW, QX, QY, QZ, Q0, Q1, Q2, textD, ol, cu, cu', beq_self_eq_true, ↓awU, awV, awF, Qa, Qb, Qc, Qd, forall_const, ↓reduceIte, ↓reduceDIte, ↓Qe, Qf, Qg, Qh, Qi, Qj, Qk, Ql, Qm, Qn, Qo, Qp, Qq, Qr, Qs, implies_true, Qt, Qu, Qv, Qw, Qx, Qy, Qz, QA, QB, QC, QD, QE, QF, QG, QH, QI, QJ, QK, QL, QM, QN, QO, QP, QQ]
            rw [hr2]; try rfl
          · have hne : (t == s) = false := by simpa using hts
            rw [if_neg (by rw [ht]; simpa using hts)] at hr2
            simp (config := { maxSteps := 1000000 }) (disch := ((try simp only [awL]); omega)) only [QR, QS, QT, QU, QV, QW, QX, QY, QZ, Q0, Q1, Q2, textD, ol, cu, cu', hne, ↓awU, awV, awF, Qa, Qb, Qc, Qd, forall_const, ↓reduceIte, ↓reduceDIte, ↓Qe, Qf, Qg, Qh, Qi, Qj, Qk, Ql, Qm, Qn, Qo, Qp, Qq, Qr, Qs, implies_true, Qt, Qu, Qv, Qw, Qx, Qy, Qz, QA, QB, QC, QD, QE, QF, QG, QH, QI, QJ, QK, QL, QM, QN, QO, QP, QQ]
            rw [hr2]; try rfl
end Go.Proofs.YtacepalmphbnfaaGreatDoor

namespace Go.Proofs.YtacepalmphbnfaaGreatDoor
open Go Go.Proofs Go.Abs
/-! Sheet, plain: every text of regions is read back, by the program's Parse and by the reference's. -/
theorem splC_app {c : UInt8} {x r : List UInt8} (h : c ∉ x) : splC c (x ++ c :: r) = x :: splC c r := by
  have hk : x.length < (x ++ c :: r).length := by simp
  have hg : (x ++ c :: r).getD x.length 0 = c := by simp [List.getD_eq_getElem?_getD]
  have ht : (x ++ c :: r).take x.length = x := by simp
  obtain ⟨h1, h2, h3⟩ := cut_at (c := c) hk hg (by rw [ht]; exact h)
  rw [splC_more h3, h1, h2, ht]
  simp
theorem join2 {c : UInt8} (x y : List UInt8) (t : List (List UInt8)) : Lib.join (x :: y :: t) [c] = x ++ c :: Lib.join (y :: t) [c] := by
  rw [Lib.join_cons, Lib.join_cons]; simp [Lib.joinTail]
theorem splC_join {c : UInt8} : ∀ (l : List (List UInt8)), l ≠ [] → (∀ x ∈ l, c ∉ x) → splC c (Lib.join l [c]) = l
  | [], h, _ => absurd rfl h
  | [x], _, hx => by rw [Lib.join_one, splC_last (hx x (by simp))]
  | x :: y :: t, _, hx => by
    have ih := splC_join (y :: t) (by simp) fun z hz => hx z (List.mem_cons_of_mem _ hz)
    rw [join2, splC_app (hx x (by simp)), ih]
theorem dec_no59 (n : Nat) : (59 : UInt8) ∉ Lib.decDigits n := fun h => by have := (dec_bytes n _ h).2; revert this; decide
theorem regT_form (a : Rg) : regT a = Lib.decDigits a.t.toNat ++ 44 :: (Lib.decDigits a.l.toNat ++ 44 :: (Lib.decDigits a.b.toNat ++ 44 :: Lib.decDigits a.r.toNat)) := by
  rw [regT, fourN, numT, List.map_cons, List.map_cons, List.map_cons, List.map_cons, List.map_nil, join2, join2, join2, Lib.join_one]
theorem regT_no59 (a : Rg) : (59 : UInt8) ∉ regT a := by
  rw [regT_form]
  intro h
  simp only [List.mem_append, List.mem_cons] at h
  rcases h with h | h | h | h | h | h | h
  · exact dec_no59 _ h
  · revert h; decide
  · exact dec_no59 _ h
  · revert h; decide
  · exact dec_no59 _ h
  · revert h; decide
  · exact dec_no59 _ h
theorem piece_reg {a : Rg} (h : okRg a = true) : pieceO (regT a) = some a := by
  obtain ⟨t, l, b, r, rfl, h1, h2, h3, h4⟩ := okRg_nat h
  have hs : splC 44 (regT ⟨t, l, b, r⟩) = numT [t, l, b, r] := by
    rw [regT, splC_join _ (by simp [numT, fourN])]
    · rfl
    · intro x hx
      obtain ⟨n, _, rfl⟩ := List.mem_map.1 hx
      exact dec_no44 n
  have hn : ∀ n ∈ [t, l, b, r], n < 100000000 := by
    intro n hn
    simp only [List.mem_cons, List.not_mem_nil, or_false] at hn
    omega
  unfold pieceO
  rw [hs, allO_dec (g := fun n : Nat => (n : Int)) (fun n hn => atoiO_dec hn) _ hn]
  rfl
theorem out_join : ∀ {l : List Rg}, (∀ a ∈ l, okRg a = true) → allO pieceO (l.map regT) = some l
  | [], _ => rfl
  | a :: t, h => by
    rw [List.map_cons, allO, piece_reg (h a (by simp)), out_join fun x hx => h x (List.mem_cons_of_mem _ hx)]
theorem textR_some {l : List Rg} {s : List UInt8} (h : textR l = some s) : (∀ a ∈ l, okRg a = true) ∧ s = Lib.join (l.map regT) [59] := by
  unfold textR at h
  split at h
  · rename_i h2
    exact ⟨List.all_eq_true.1 h2, (Option.some.inj h).symm⟩
  · cases h
theorem outO_text {l : List Rg} {s : List UInt8} (h : textR l = some s) (hl : l ≠ []) : outO s = some l := by
  obtain ⟨h1, rfl⟩ := textR_some h
  rw [outO, splC_join _ (by simpa using hl), out_join h1]
  intro x hx
  obtain ⟨a, _, rfl⟩ := List.mem_map.1 hx
  exact regT_no59 a
theorem textR_ne {l : List Rg} {s : List UInt8} (h : textR l = some s) (hs : s ≠ []) : l ≠ [] := by
  rintro rfl
  have e : textR [] = some [] := rfl
  rw [e] at h
  exact hs (Option.some.inj h).symm
theorem parO_iff {s : List UInt8} (hs : s ≠ []) {l : List Rg} : parO s = some l ↔ textR l = some s := by
  refine ⟨fun h => ?_, fun h => ?_⟩
  · unfold parO at h
    split at h
    · split at h
      · rename_i h2; cases h; exact h2
      · cases h
    · cases h
  · rw [parO, outO_text h (textR_ne h hs)]
    exact if_pos h
/-! The reference reads numbers between commas and semicolons, four to a region. -/
def four (l : List Nat) : Rg := ⟨(l.getD 0 0 : Nat), (l.getD 1 0 : Nat), (l.getD 2 0 : Nat), (l.getD 3 0 : Nat)⟩
def rpN (nums : List Nat) (n : Nat) : List Nat := if nums.length = 3 then [] else nums ++ [n]
def rpO (nums : List Nat) (n : Nat) (out : List Rg) : List Rg := if nums.length = 3 then out ++ [four (nums ++ [n])] else out
def rp (cur : List UInt8) (nums : List Nat) (out : List Rg) : List UInt8 → Option (List Rg)
  | [] => match natO cur with
    | none => none
    | some n => some (rpO nums n out)
  | c :: t => if c = 44 ∨ c = 59 then (match natO cur with
    | none => none
    | some n => rp [] (rpN nums n) (rpO nums n out) t) else rp (cur ++ [c]) nums out t
theorem rp_skip (nums : List Nat) (out : List Rg) (t : List UInt8) : ∀ (x cur : List UInt8), (44 : UInt8) ∉ x → (59 : UInt8) ∉ x → rp cur nums out (x ++ t) = rp (cur ++ x) nums out t
  | [], cur, _, _ => by simp
  | c :: x, cur, h1, h2 => by
    rw [List.cons_append, rp, if_neg, rp_skip nums out t x (cur ++ [c]) (fun h => h1 (by simp [h])) (fun h => h2 (by simp [h]))]
    · simp
    · rintro (rfl | rfl)
      · exact h1 (by simp)
      · exact h2 (by simp)
theorem rp_num (nums : List Nat) (out : List Rg) (n : Nat) (hn : n < 100000000) (c : UInt8) (hc : c = 44 ∨ c = 59) (t : List UInt8) : rp [] nums out (Lib.decDigits n ++ c :: t) = rp [] (rpN nums n) (rpO nums n out) t := by
  rw [rp_skip _ _ _ _ _ (dec_no44 n) (dec_no59 n), List.nil_append, rp, if_pos hc, natO_dec hn]
theorem rp_last (nums : List Nat) (out : List Rg) (n : Nat) (hn : n < 100000000) : rp [] nums out (Lib.decDigits n) = some (rpO nums n out) := by
  have := rp_skip nums out [] (Lib.decDigits n) [] (dec_no44 n) (dec_no59 n)
  rw [List.append_nil, List.nil_append] at this
  rw [this, rp, natO_dec hn]
theorem rp_reg {a : Rg} (h : okRg a = true) (out : List Rg) (t : List UInt8) : rp [] [] out (regT a ++ 59 :: t) = rp [] [] (out ++ [a]) t := by
  obtain ⟨t1, l, b, r, rfl, h1, h2, h3, h4⟩ := okRg_nat h
  rw [regT_form]
  simp only [Int.toNat_natCast, List.append_assoc, List.cons_append]
  rw [rp_num _ _ _ (by omega) _ (.inl rfl), rp_num _ _ _ (by omega) _ (.inl rfl), rp_num _ _ _ (by omega) _ (.inl rfl), rp_num _ _ _ (by omega) _ (.inr rfl)]
  rfl
theorem rp_reg1 {a : Rg} (h : okRg a = true) (out : List Rg) : rp [] [] out (regT a) = some (out ++ [a]) := by
  obtain ⟨t1, l, b, r, rfl, h1, h2, h3, h4⟩ := okRg_nat h
  rw [regT_form]
  simp only [Int.toNat_natCast]
  rw [rp_num _ _ _ (by omega) _ (.inl rfl), rp_num _ _ _ (by omega) _ (.inl rfl), rp_num _ _ _ (by omega) _ (.inl rfl), rp_last _ _ _ (by omega)]
  rfl
theorem rp_text : ∀ {l : List Rg} (_ : l ≠ []) (_ : ∀ a ∈ l, okRg a = true) (out : List Rg), rp [] [] out (Lib.join (l.map regT) [59]) = some (out ++ l)
  | [], h, _, _ => absurd rfl h
  | [a], _, h, out => by rw [List.map_cons, List.map_nil, Lib.join_one, rp_reg1 (h a (by simp))]
  | a :: b :: t, _, h, out => by
    have ih := rp_text (l := b :: t) (by simp) (fun x hx => h x (List.mem_cons_of_mem _ hx)) (out ++ [a])
    rw [List.map_cons] at ih
    rw [List.map_cons, List.map_cons, join2, rp_reg (h a (by simp)), ih]
    simp
theorem rp_back {l : List Rg} {s : List UInt8} (h : textR l = some s) (hs : s ≠ []) : rp [] [] [] s = some l := by
  obtain ⟨h1, e⟩ := textR_some h
  rw [e, rp_text (textR_ne h hs) h1, List.nil_append]
/-- What the reference finds is what the program finds. -/
theorem parO_rp {s : List UInt8} (hs : s ≠ []) : parO s = match rp [] [] [] s with
    | some l => if textR l = some s then some l else none
    | none => none := by
  by_cases h : ∃ l, textR l = some s
  · obtain ⟨l, hl⟩ := h
    rw [(parO_iff hs).2 hl, rp_back hl hs]
    exact (if_pos hl).symm
  · have : parO s = none := by
      cases e : parO s with
      | none => rfl
      | some l => exact absurd ⟨l, (parO_iff hs).1 e⟩ h
    rw [this]
    cases rp [] [] [] s with
    | none => rfl
    | some l => exact (if_neg fun q => h ⟨l, q⟩).symm
end Go.Proofs.YtacepalmphbnfaaGreatDoor

namespace Go.Proofs.YtacepalmphbnfaaGreatDoor
open Go Go.Proofs Go.Abs
variable {G : Globals}
/-! Sheet: the reference's Text and natural. -/
set_option maxHeartbeats 8000000 in
set_option maxRecDepth 100000 in
theorem rstext_spec (hI : HI G) (l : List Rg) (full : Bool) (hl : l.length ≤ 1000000) : Ctr Tryz.prog G 48 [.d (.sl l.length full (regC l))] [] (.d (textD (textR l))) [] := by
  obtain ⟨r, hr⟩ : ∃ r, r = textR l := ⟨_, rfl⟩
  rw [← hr]
  unfold textR at hr
  have ol := regC_length l
  refine Ctr.pure (M := M0) hmix Tryz.func48 rfl go48 ?_
  simp (config := { maxSteps := 1000000 }) (disch := ((try simp only [awL]); omega)) only [QR, QS, QT, QU, QV, QW, QX, QY, QZ, Q0, Q1, Q2, ol, Tryz.f48, ↓awU, awV, awF, Qa, Qb, Qc, Qd, forall_const, ↓reduceIte, ↓reduceDIte, ↓Qe, Qf, Qg, Qh, Qi, Qj, Qk, Ql, Qm, Qn, Qo, Qp, Qq, Qr, Qs, implies_true, Qt, Qu, Qv, Qw, Qx, Qy, Qz, QA, QB, QC, QD, QE, QF, QG, QH, QI, QJ, QK, QL, QM, QN, QO, QP, QQ]
  obtain ⟨t, ht⟩ : ∃ t, t = l.map regT := ⟨_, rfl⟩
  have tl : t.length = l.length := by rw [ht, List.length_map]
  rw [← ht] at hr
  refine LoopC.fr 384 (α := Nat) (fun i => l.length - i) (fun i => [(4, .d (S (Lib.join (t.take i) [59]))), (9, .d (.int .i64 i))]) (fun _ => []) (fun i => i ≤ l.length ∧ ∀ x ∈ l.take i, okRg x = true) 0 ⟨Nat.zero_le _, fun x hx => by simp at hx⟩ ?_ ?_
  · exact ⟨[], rfl, by simp, by simp [setsA, keepA, SWeak, AWeak, Lib.join_nil], by simp [HWeak, BWeak, SWeak, AWeak]⟩
  · rintro i ⟨hi, hok⟩
    have tk0 : (t.take i).length = i := by simp; omega
    have jl := join_len [59] 88 (Nat.le_refl _) (t.take i) (fun s hs => by
      rw [ht, ← List.map_take] at hs
      obtain ⟨n, hn, rfl⟩ := List.mem_map.1 hs
      exact regT_len (hok n hn))
    rw [tk0] at jl
    simp only [awK, Nat.reduceMod, Nat.reduceDiv, reduceIte]
    rcases Nat.lt_or_ge i l.length with h | h
    · have g := regC_get h
      have sv := rsvalid_spec (G := G) (l.getD i noRg)
      have mem := memD (d := noRg) h
      have tk := List.take_add_one (l := l) (i := i)
      rw [getD_some (d := noRg) h] at tk
      have tkt : t.take (i + 1) = t.take i ++ [regT (l.getD i noRg)] := by
        rw [List.take_add_one, ht, List.getElem?_map, getD_some (d := noRg) h]; rfl
      have js := join_snoc [59] (regT (l.getD i noRg)) (t.take i)
      rw [← tkt] at js
      generalize l.getD i noRg = o at *
      cases ho : okRg o
      · rw [ho] at sv
        have e : l.all okRg = false := List.all_eq_false.2 ⟨o, mem, by rw [ho]; decide⟩
        rw [if_neg (by rw [e]; decide)] at hr
        simp (config := { maxSteps := 1000000 }) (disch := ((try simp only [awL]); omega)) only [QR, QS, QT, QU, QV, QW, QX, QY, QZ, Q0, Q1, Q2, ol, g, ↓awU, awV, awF, Qa, Qb, Qc, Qd, forall_const, ↓reduceIte, ↓reduceDIte, ↓Qe, Qf, Qg, Qh, Qi, Qj, Qk, Ql, Qm, Qn, Qo, Qp, Qq, Qr, Qs, implies_true, Qt, Qu, Qv, Qw, Qx, Qy, Qz, QA, QB, QC, QD, QE, QF, QG, QH, QI, QJ, QK, QL, QM, QN, QO, QP, QQ]
        refine CallC.pure sv ?_
        simp (config := { maxSteps := 1000000 }) (disch := ((try simp only [awL]); omega)) only [QR, QS, QT, QU, QV, QW, QX, QY, QZ, Q0, Q1, Q2, ol, g, ↓awU, awV, awF, Qa, Qb, Qc, Qd, forall_const, ↓reduceIte, ↓reduceDIte, ↓Qe, Qf, Qg, Qh, Qi, Qj, Qk, Ql, Qm, Qn, Qo, Qp, Qq, Qr, Qs, implies_true, Qt, Qu, Qv, Qw, Qx, Qy, Qz, QA, QB, QC, QD, QE, QF, QG, QH, QI, QJ, QK, QL, QM, QN, QO, QP, QQ]
        rw [hr]; rfl
      · rw [ho] at sv
        have rl := regT_len ho
        have rf := regT_form o
        have hok2 : ∀ x ∈ l.take (i + 1), okRg x = true := fun x hx => by
          rw [tk] at hx
          rcases List.mem_append.1 hx with hx | hx
          · exact hok x hx
          · simp only [Option.toList, List.mem_singleton] at hx
            rw [hx]; exact ho
        obtain ⟨p1, p2, p3, p4, rfl, b1, b2, b3, b4⟩ := okRg_nat ho
        simp only [Int.toNat_natCast] at rf
        rw [rf] at js rl
        have d1 := dec_len (n := p1) (by omega)
        have d2 := dec_len (n := p2) (by omega)
        have d3 := dec_len (n := p3) (by omega)
        have d4 := dec_len (n := p4) (by omega)
        have i1 := hI p1 (by omega)
        have i2 := hI p2 (by omega)
        have i3 := hI p3 (by omega)
        have i4 := hI p4 (by omega)
        generalize Lib.decDigits p1 = q1 at *
        generalize Lib.decDigits p2 = q2 at *
        generalize Lib.decDigits p3 = q3 at *
        generalize Lib.decDigits p4 = q4 at *
        clear rl
        rcases Nat.eq_zero_or_pos i with h0 | h0
        · subst h0
          rw [List.take_zero, if_pos rfl] at js
          have g0 := g
          rw [Nat.zero_mul, List.drop_zero] at g0
          simp (config := { maxSteps := 1000000 }) (disch := ((try simp only [awL]); omega)) only [QR, QS, QT, QU, QV, QW, QX, QY, QZ, Q0, Q1, Q2, ol, g, g0, List.take_zero, Lib.join_nil, ↓awU, awV, awF, Qa, Qb, Qc, Qd, forall_const, ↓reduceIte, ↓reduceDIte, ↓Qe, Qf, Qg, Qh, Qi, Qj, Qk, Ql, Qm, Qn, Qo, Qp, Qq, Qr, Qs, implies_true, Qt, Qu, Qv, Qw, Qx, Qy, Qz, QA, QB, QC, QD, QE, QF, QG, QH, QI, QJ, QK, QL, QM, QN, QO, QP, QQ]
          refine CallC.pure sv ?_
          simp (config := { maxSteps := 1000000 }) (disch := ((try simp only [awL]); omega)) only [QR, QS, QT, QU, QV, QW, QX, QY, QZ, Q0, Q1, Q2, ol, g, ↓awU, awV, awF, Qa, Qb, Qc, Qd, forall_const, ↓reduceIte, ↓reduceDIte, ↓Qe, Qf, Qg, Qh, Qi, Qj, Qk, Ql, Qm, Qn, Qo, Qp, Qq, Qr, Qs, implies_true, Qt, Qu, Qv, Qw, Qx, Qy, Qz, QA, QB, QC, QD, QE, QF, QG, QH, QI, QJ, QK, QL, QM, QN, QO, QP, QQ]
          refine CallC.pure i1 ?_
          simp (config := { maxSteps := 1000000 }) (disch := ((try simp only [awL]); omega)) only [QR, QS, QT, QU, QV, QW, QX, QY, QZ, Q0, Q1, Q2, List.length_nil, List.length_append, List.length_cons, ↓awU, awV, awF, Qa, Qb, Qc, Qd, forall_const, ↓reduceIte, ↓reduceDIte, ↓Qe, Qf, Qg, Qh, Qi, Qj, Qk, Ql, Qm, Qn, Qo, Qp, Qq, Qr, Qs, implies_true, Qt, Qu, Qv, Qw, Qx, Qy, Qz, QA, QB, QC, QD, QE, QF, QG, QH, QI, QJ, QK, QL, QM, QN, QO, QP, QQ]
          refine CallC.pure i2 ?_
          simp (config := { maxSteps := 1000000 }) (disch := ((try simp only [awL]); omega)) only [QR, QS, QT, QU, QV, QW, QX, QY, QZ, Q0, Q1, Q2, List.length_nil, List.length_append, List.length_cons, ↓awU, awV, awF, Qa, Qb, Qc, Qd, forall_const, ↓reduceIte, ↓reduceDIte, ↓Qe, Qf, Qg, Qh, Qi, Qj, Qk, Ql, Qm, Qn, Qo, Qp, Qq, Qr, Qs, implies_true, Qt, Qu, Qv, Qw, Qx, Qy, Qz, QA, QB, QC, QD, QE, QF, QG, QH, QI, QJ, QK, QL, QM, QN, QO, QP, QQ]
          refine CallC.pure i3 ?_
          simp (config := { maxSteps := 1000000 }) (disch := ((try simp only [awL]); omega)) only [QR, QS, QT, QU, QV, QW, QX, QY, QZ, Q0, Q1, Q2, List.length_nil, List.length_append, List.length_cons, ↓awU, awV, awF, Qa, Qb, Qc, Qd, forall_const, ↓reduceIte, ↓reduceDIte, ↓Qe, Qf, Qg, Qh, Qi, Qj, Qk, Ql, Qm, Qn, Qo, Qp, Qq, Qr, Qs, implies_true, Qt, Qu, Qv, Qw, Qx, Qy, Qz, QA, QB, QC, QD, QE, QF, QG, QH, QI, QJ, QK, QL, QM, QN, QO, QP, QQ]
          refine CallC.pure i4 ?_
          simp (config := { maxSteps := 1000000 }) (disch := ((try simp only [awL]); omega)) only [QR, QS, QT, QU, QV, QW, QX, QY, QZ, Q0, Q1, Q2, List.length_nil, List.length_append, List.length_cons, ↓awU, awV, awF, Qa, Qb, Qc, Qd, forall_const, ↓reduceIte, ↓reduceDIte, ↓Qe, Qf, Qg, Qh, Qi, Qj, Qk, Ql, Qm, Qn, Qo, Qp, Qq, Qr, Qs, implies_true, Qt, Qu, Qv, Qw, Qx, Qy, Qz, QA, QB, QC, QD, QE, QF, QG, QH, QI, QJ, QK, QL, QM, QN, QO, QP, QQ]
          first
          | exact ⟨0 + 1, ⟨h, hok2⟩, by simp only; omega, ⟨[], rfl, by simp, by simp [setsA, keepA, SWeak, AWeak, js], by simp [HWeak, BWeak, SWeak, AWeak]⟩⟩
          | exact ⟨by rfl, 0 + 1, ⟨h, hok2⟩, by simp only; omega, ⟨[], rfl, by simp, by simp [setsA, keepA, SWeak, AWeak, js], by simp [HWeak, BWeak, SWeak, AWeak]⟩⟩
        · rw [if_neg (by intro e; have := congrArg List.length e; rw [tk0] at this; simp at this; omega)] at js
          generalize Lib.join (t.take i) [59] = j at *
          simp (config := { maxSteps := 1000000 }) (disch := ((try simp only [awL]); omega)) only [QR, QS, QT, QU, QV, QW, QX, QY, QZ, Q0, Q1, Q2, ol, g, ↓awU, awV, awF, Qa, Qb, Qc, Qd, forall_const, ↓reduceIte, ↓reduceDIte, ↓Qe, Qf, Qg, Qh, Qi, Qj, Qk, Ql, Qm, Qn, Qo, Qp, Qq, Qr, Qs, implies_true, Qt, Qu, Qv, Qw, Qx, Qy, Qz, QA, QB, QC, QD, QE, QF, QG, QH, QI, QJ, QK, QL, QM, QN, QO, QP, QQ]
          refine CallC.pure sv ?_
          simp (config := { maxSteps := 1000000 }) (disch := ((try simp only [awL]); omega)) only [QR, QS, QT, QU, QV, QW, QX, QY, QZ, Q0, Q1, Q2, ol, g, List.length_nil, List.length_append, List.length_cons, ↓awU, awV, awF, Qa, Qb, Qc, Qd, forall_const, ↓reduceIte, ↓reduceDIte, ↓Qe, Qf, Qg, Qh, Qi, Qj, Qk, Ql, Qm, Qn, Qo, Qp, Qq, Qr, Qs, implies_true, Qt, Qu, Qv, Qw, Qx, Qy, Qz, QA, QB, QC, QD, QE, QF, QG, QH, QI, QJ, QK, QL, QM, QN, QO, QP, QQ]
          refine CallC.pure i1 ?_
          simp (config := { maxSteps := 1000000 }) (disch := ((try simp only [awL]); omega)) only [QR, QS, QT, QU, QV, QW, QX, QY, QZ, Q0, Q1, Q2, List.length_nil, List.length_append, List.length_cons, ↓awU, awV, awF, Qa, Qb, Qc, Qd, forall_const, ↓reduceIte, ↓reduceDIte, ↓Qe, Qf, Qg, Qh, Qi, Qj, Qk, Ql, Qm, Qn, Qo, Qp, Qq, Qr, Qs, implies_true, Qt, Qu, Qv, Qw, Qx, Qy, Qz, QA, QB, QC, QD, QE, QF, QG, QH, QI, QJ, QK, QL, QM, QN, QO, QP, QQ]
          refine CallC.pure i2 ?_
          simp (config := { maxSteps := 1000000 }) (disch := ((try simp only [awL]); omega)) only [QR, QS, QT, QU, QV, QW, QX, QY, QZ, Q0, Q1, Q2, List.length_nil, List.length_append, List.length_cons, ↓awU, awV, awF, Qa, Qb, Qc, Qd, forall_const, ↓reduceIte, ↓reduceDIte, ↓Qe, Qf, Qg, Qh, Qi, Qj, Qk, Ql, Qm, Qn, Qo, Qp, Qq, Qr, Qs, implies_true, Qt, Qu, Qv, Qw, Qx, Qy, Qz, QA, QB, QC, QD, QE, QF, QG, QH, QI, QJ, QK, QL, QM, QN, QO, QP, QQ]
          refine CallC.pure i3 ?_
          simp (config := { maxSteps := 1000000 }) (disch := ((try simp only [awL]); omega)) only [QR, QS, QT, QU, QV, QW, QX, QY, QZ, Q0, Q1, Q2, List.length_nil, List.length_append, List.length_cons, ↓awU, awV, awF, Qa, Qb, Qc, Qd, forall_const, ↓reduceIte, ↓reduceDIte, ↓Qe, Qf, Qg, Qh, Qi, Qj, Qk, Ql, Qm, Qn, Qo, Qp, Qq, Qr, Qs, implies_true, Qt, Qu, Qv, Qw, Qx, Qy, Qz, QA, QB, QC, QD, QE, QF, QG, QH, QI, QJ, QK, QL, QM, QN, QO, QP, QQ]
          refine CallC.pure i4 ?_
          simp (config := { maxSteps := 1000000 }) (disch := ((try simp only [awL]); omega)) only [QR, QS, QT, QU, QV, QW, QX, QY, QZ, Q0, Q1, Q2, List.length_nil, List.length_append, List.length_cons, ↓awU, awV, awF, Qa, Qb, Qc, Qd, forall_const, ↓reduceIte, ↓reduceDIte, ↓Qe, Qf, Qg, Qh, Qi, Qj, Qk, Ql, Qm, Qn, Qo, Qp, Qq, Qr, Qs, implies_true, Qt, Qu, Qv, Qw, Qx, Qy, Qz, QA, QB, QC, QD, QE, QF, QG, QH, QI, QJ, QK, QL, QM, QN, QO, QP, QQ]
          first
          | exact ⟨i + 1, ⟨h, hok2⟩, by simp only; omega, ⟨[], rfl, by simp, by simp [setsA, keepA, SWeak, AWeak, js], by simp [HWeak, BWeak, SWeak, AWeak]⟩⟩
          | exact ⟨by rfl, i + 1, ⟨h, hok2⟩, by simp only; omega, ⟨[], rfl, by simp, by simp [setsA, keepA, SWeak, AWeak, js], by simp [HWeak, BWeak, SWeak, AWeak]⟩⟩
    · obtain rfl : i = l.length := by omega
      rw [List.take_of_length_le (Nat.le_refl _)] at hok
      rw [if_pos (List.all_eq_true.2 hok)] at hr
      rw [List.take_of_length_le (by omega)]
      simp (config := { maxSteps := 1000000 }) (disch := ((try simp only [awL]); omega)) only [QR, QS, QT, QU, QV, QW, QX, QY, QZ, Q0, Q1, Q2, ol, ↓awU, awV, awF, Qa, Qb, Qc, Qd, forall_const, ↓reduceIte, ↓reduceDIte, ↓Qe, Qf, Qg, Qh, Qi, Qj, Qk, Ql, Qm, Qn, Qo, Qp, Qq, Qr, Qs, implies_true, Qt, Qu, Qv, Qw, Qx, Qy, Qz, QA, QB, QC, QD, QE, QF, QG, QH, QI, QJ, QK, QL, QM, QN, QO, QP, QQ]
      all_goals (rw [hr]; rfl)
set_option maxHeartbeats 4000000 in
set_option maxRecDepth 100000 in
theorem rsnatural_spec (s : List UInt8) (hs : s.length ≤ 1000000000) : Ctr Tryz.prog G 90 [.d (S s)] [] (.d (natD s)) [] := by
  obtain ⟨r, hr⟩ : ∃ r, r = natD s := ⟨_, rfl⟩
  rw [← hr]
  refine Ctr.pure (M := M0) hmix Tryz.func90 rfl go90 ?_
  unfold natD at hr
  simp (config := { maxSteps := 1000000 }) (disch := ((try simp only [awL]); omega)) only [QR, QS, QT, QU, QV, QW, QX, QY, QZ, Q0, Q1, Q2, Tryz.f90, ↓awU, awV, awF, Qa, Qb, Qc, Qd, forall_const, ↓reduceIte, ↓reduceDIte, ↓Qe, Qf, Qg, Qh, Qi, Qj, Qk, Ql, Qm, Qn, Qo, Qp, Qq, Qr, Qs, implies_true, Qt, Qu, Qv, Qw, Qx, Qy, Qz, QA, QB, QC, QD, QE, QF, QG, QH, QI, QJ, QK, QL, QM, QN, QO, QP, QQ]
  refine LoopC.fr 1 (α := Nat × Nat) (fun x => s.length - x.2) (fun x => [(4, .d (.int .i64 x.1)), (5, .d (.int .i64 x.2))]) (fun _ => []) (fun x => x.2 ≤ s.length ∧ x.1 ≤ 1000000000000 ∧ natGo 0 0 s = natGo x.1 x.2 (s.drop x.2)) (0, 0) ⟨Nat.zero_le _, Nat.zero_le _, rfl⟩ ?_ ?_
  · exact ⟨[], rfl, by simp, by simp [setsA, keepA, SWeak, AWeak], by simp [HWeak, BWeak, SWeak, AWeak]⟩
  · rintro ⟨n, i⟩ ⟨h1, h2, h3⟩
    simp only at h1 h2 h3
    simp only [awK, Nat.reduceMod, Nat.reduceDiv, reduceIte]
    rcases Nat.lt_or_ge i s.length with h | h
    · have e : s.drop i = s.getD i 0 :: s.drop (i + 1) := by
        rw [List.drop_eq_getElem_cons h, List.getD_eq_getElem?_getD, List.getElem?_eq_getElem h]; rfl
      rw [e, natGo] at h3
      have hc := (s.getD i 0).toNat_lt
      obtain ⟨c, gc⟩ : ∃ c, (s.getD i 0).toNat = c := ⟨_, rfl⟩
      rw [gc] at h3 hc
      rcases (by omega : c < 48 ∨ 57 < c ∨ (48 ≤ c ∧ c ≤ 57 ∧ 68719476736 < n) ∨ (48 ≤ c ∧ c ≤ 57 ∧ n ≤ 68719476736 ∧ 0 < i ∧ n = 0) ∨ (48 ≤ c ∧ c ≤ 57 ∧ n ≤ 68719476736 ∧ i = 0) ∨ (48 ≤ c ∧ c ≤ 57 ∧ n ≤ 68719476736 ∧ 0 < i ∧ n ≠ 0)) with q | q | q | q | q | q
      · rw [if_pos (by omega)] at h3
        rw [h3] at hr
        simp (config := { maxSteps := 1000000 }) (disch := ((try simp only [awL]); omega)) only [QR, QS, QT, QU, QV, QW, QX, QY, QZ, Q0, Q1, Q2, gc, ↓awU, awV, awF, Qa, Qb, Qc, Qd, forall_const, ↓reduceIte, ↓reduceDIte, ↓Qe, Qf, Qg, Qh, Qi, Qj, Qk, Ql, Qm, Qn, Qo, Qp, Qq, Qr, Qs, implies_true, Qt, Qu, Qv, Qw, Qx, Qy, Qz, QA, QB, QC, QD, QE, QF, QG, QH, QI, QJ, QK, QL, QM, QN, QO, QP, QQ]
        all_goals rw [hr]
      · rw [if_pos (by omega)] at h3
        rw [h3] at hr
        simp (config := { maxSteps := 1000000 }) (disch := ((try simp only [awL]); omega)) only [QR, QS, QT, QU, QV, QW, QX, QY, QZ, Q0, Q1, Q2, gc, ↓awU, awV, awF, Qa, Qb, Qc, Qd, forall_const, ↓reduceIte, ↓reduceDIte, ↓Qe, Qf, Qg, Qh, Qi, Qj, Qk, Ql, Qm, Qn, Qo, Qp, Qq, Qr, Qs, implies_true, Qt, Qu, Qv, Qw, Qx, Qy, Qz, QA, QB, QC, QD, QE, QF, QG, QH, QI, QJ, QK, QL, QM, QN, QO, QP, QQ]
        all_goals rw [hr]
      · obtain ⟨q1, q2, q3⟩ := q
        rw [if_pos (by omega)] at h3
        rw [h3] at hr
        simp (config := { maxSteps := 1000000 }) (disch := ((try simp only [awL]); omega)) only [QR, QS, QT, QU, QV, QW, QX, QY, QZ, Q0, Q1, Q2, gc, ↓awU, awV, awF, Qa, Qb, Qc, Qd, forall_const, ↓reduceIte, ↓reduceDIte, ↓Qe, Qf, Qg, Qh, Qi, Qj, Qk, Ql, Qm, Qn, Qo, Qp, Qq, Qr, Qs, implies_true, Qt, Qu, Qv, Qw, Qx, Qy, Qz, QA, QB, QC, QD, QE, QF, QG, QH, QI, QJ, QK, QL, QM, QN, QO, QP, QQ]
        all_goals rw [hr]
      · obtain ⟨q1, q2, q3, q4, q5⟩ := q
        rw [if_pos (by omega)] at h3
        rw [h3] at hr
        simp (config := { maxSteps := 1000000 }) (disch := ((try simp only [awL]); omega)) only [QR, QS, QT, QU, QV, QW, QX, QY, QZ, Q0, Q1, Q2, gc, ↓awU, awV, awF, Qa, Qb, Qc, Qd, forall_const, ↓reduceIte, ↓reduceDIte, ↓Qe, Qf, Qg, Qh, Qi, Qj, Qk, Ql, Qm, Qn, Qo, Qp, Qq, Qr, Qs, implies_true, Qt, Qu, Qv, Qw, Qx, Qy, Qz, QA, QB, QC, QD, QE, QF, QG, QH, QI, QJ, QK, QL, QM, QN, QO, QP, QQ]
        all_goals rw [hr]
      · obtain ⟨q1, q2, q3, q4⟩ := q
        rw [if_neg (by omega)] at h3
        have ec : ((c : Int) - 48) = ((c - 48 : Nat) : Int) := by omega
        simp (config := { maxSteps := 1000000 }) (disch := ((try simp only [awL]); omega)) only [QR, QS, QT, QU, QV, QW, QX, QY, QZ, Q0, Q1, Q2, gc, ec, ↓awU, awV, awF, Qa, Qb, Qc, Qd, forall_const, ↓reduceIte, ↓reduceDIte, ↓Qe, Qf, Qg, Qh, Qi, Qj, Qk, Ql, Qm, Qn, Qo, Qp, Qq, Qr, Qs, implies_true, Qt, Qu, Qv, Qw, Qx, Qy, Qz, QA, QB, QC, QD, QE, QF, QG, QH, QI, QJ, QK, QL, QM, QN, QO, QP, QQ]
        exact ⟨(10 * n + (c - 48), i + 1), ⟨h, by simp only; omega, h3⟩, by simp only; omega, ⟨[], rfl, by simp, by simp [setsA, keepA, SWeak, AWeak], by simp [HWeak, BWeak, SWeak, AWeak]⟩⟩
      · obtain ⟨q1, q2, q3, q4, q5⟩ := q
        rw [if_neg (by omega)] at h3
        have ec : ((c : Int) - 48) = ((c - 48 : Nat) : Int) := by omega
        simp (config := { maxSteps := 1000000 }) (disch := ((try simp only [awL]); omega)) only [QR, QS, QT, QU, QV, QW, QX, QY, QZ, Q0, Q1, Q2, gc, ec, ↓awU, awV, awF, Qa, Qb, Qc, Qd, forall_const, ↓reduceIte, ↓reduceDIte, ↓Qe, Qf, Qg, Qh, Qi, Qj, Qk, Ql, Qm, Qn, Qo, Qp, Qq, Qr, Qs, implies_true, Qt, Qu, Qv, Qw, Qx, Qy, Qz, QA, QB, QC, QD, QE, QF, QG, QH, QI, QJ, QK, QL, QM, QN, QO, QP, QQ]
        exact ⟨(10 * n + (c - 48), i + 1), ⟨h, by simp only; omega, h3⟩, by simp only; omega, ⟨[], rfl, by simp, by simp [setsA, keepA, SWeak, AWeak], by simp [HWeak, BWeak, SWeak, AWeak]⟩⟩
    · rw [List.drop_eq_nil_of_le h, natGo] at h3
      rw [h3] at hr
      simp (config := { maxSteps := 1000000 }) (disch := ((try simp only [awL]); omega)) only [QR, QS, QT, QU, QV, QW, QX, QY, QZ, Q0, Q1, Q2, ↓awU, awV, awF, Qa, Qb, Qc, Qd, forall_const, ↓reduceIte, ↓reduceDIte, ↓Qe, Qf, Qg, Qh, Qi, Qj, Qk, Ql, Qm, Qn, Qo, Qp, Qq, Qr, Qs, implies_true, Qt, Qu, Qv, Qw, Qx, Qy, Qz, QA, QB, QC, QD, QE, QF, QG, QH, QI, QJ, QK, QL, QM, QN, QO, QP, QQ]
      all_goals (rw [hr])
end Go.Proofs.YtacepalmphbnfaaGreatDoor

namespace Go.Proofs.YtacepalmphbnfaaGreatDoor
open Go Go.Proofs Go.Abs
variable {G : Globals}
/-! Sheet: the reference's Parse. -/
theorem rp_sep {cur : List UInt8} {nums : List Nat} {out : List Rg} {c : UInt8} {t : List UInt8} (hc : c = 44 ∨ c = 59) : rp cur nums out (c :: t) = match natO cur with
    | none => none
    | some n => rp [] (rpN nums n) (rpO nums n out) t := by
  rw [rp, if_pos hc]
  all_goals (cases natO cur <;> rfl)
theorem rp_other {cur : List UInt8} {nums : List Nat} {out : List Rg} {c : UInt8} {t : List UInt8} (hc : ¬ (c = 44 ∨ c = 59)) : rp cur nums out (c :: t) = rp (cur ++ [c]) nums out t := by rw [rp, if_neg hc]
theorem rp_none {s : List UInt8} (hs : s ≠ []) (h : rp [] [] [] s = none) : parO s = none := by rw [parO_rp hs, h]
theorem rp_some {s : List UInt8} {l : List Rg} (hs : s ≠ []) (h : rp [] [] [] s = some l) : parO s = if textR l = some s then some l else none := by rw [parO_rp hs, h]
set_option maxHeartbeats 16000000 in
set_option maxRecDepth 100000 in
theorem rsparse_spec (hI : HI G) (s : List UInt8) (hs : s.length ≤ 900000) : Ctr Tryz.prog G 50 [.d (S s)] [] (.d (parD s)) [] := by
  obtain ⟨r, hr⟩ : ∃ r, r = parD s := ⟨_, rfl⟩
  rw [← hr]
  unfold parD at hr
  refine Ctr.pure (M := M0) hmix Tryz.func50 rfl go50 ?_
  by_cases h0 : s = []
  · subst h0
    rw [if_pos rfl] at hr
    simp (config := { maxSteps := 1000000 }) (disch := ((try simp only [awL]); omega)) only [QR, QS, QT, QU, QV, QW, QX, QY, QZ, Q0, Q1, Q2, beq_self_eq_true, Tryz.f50, ↓awU, awV, awF, Qa, Qb, Qc, Qd, forall_const, ↓reduceIte, ↓reduceDIte, ↓Qe, Qf, Qg, Qh, Qi, Qj, Qk, Ql, Qm, Qn, Qo, Qp, Qq, Qr, Qs, implies_true, Qt, Qu, Qv, Qw, Qx, Qy, Qz, QA, QB, QC, QD, QE, QF, QG, QH, QI, QJ, QK, QL, QM, QN, QO, QP, QQ]
    all_goals (rw [hr])
  · rw [if_neg h0] at hr
    have hne : (s == []) = false := by simpa using h0
    simp (config := { maxSteps := 1000000 }) (disch := ((try simp only [awL]); omega)) only [QR, QS, QT, QU, QV, QW, QX, QY, QZ, Q0, Q1, Q2, hne, Tryz.f50, ↓awU, awV, awF, Qa, Qb, Qc, Qd, forall_const, ↓reduceIte, ↓reduceDIte, ↓Qe, Qf, Qg, Qh, Qi, Qj, Qk, Ql, Qm, Qn, Qo, Qp, Qq, Qr, Qs, implies_true, Qt, Qu, Qv, Qw, Qx, Qy, Qz, QA, QB, QC, QD, QE, QF, QG, QH, QI, QJ, QK, QL, QM, QN, QO, QP, QQ]
    refine LoopC.fx 1 (α := Nat × Nat × List Nat × List Rg) (β := List Rg) (fun x => s.length + 1 - x.1) (fun x => [(4, .lsl 0 4 0 x.2.2.2.length), (5, .lsl 1 1 0 x.2.2.1.length), (6, .d (.int .i64 x.2.1)), (7, .d (.int .i64 x.1))]) (fun x => [.row false (regC x.2.2.2), .row false (nats .i64 x.2.2.1)])
      (fun x => (x.1 ≤ s.length ∧ x.2.1 ≤ x.1 ∧ x.2.2.1.length ≤ 3 ∧ x.2.2.2.length ≤ x.1 ∧ rp [] [] [] s = rp ((s.take x.1).drop x.2.1) x.2.2.1 x.2.2.2 (s.drop x.1)) ∨ (x.1 = s.length + 1 ∧ x.2.1 ≤ x.1 ∧ x.2.2.2.length ≤ x.1 ∧ rp [] [] [] s = some x.2.2.2)) 1 (fun y => [(4, .lsl 0 4 0 y.length)]) (fun y => [.row false (regC y)]) (fun y => y.length ≤ s.length + 1 ∧ rp [] [] [] s = some y) (0, 0, [], []) (.inl ⟨Nat.zero_le _, Nat.zero_le _, Nat.zero_le _, Nat.zero_le _, by simp⟩) ?_ ?_ ?_
    · exact ⟨[none, none], rfl, by simp, by simp [setsA, keepA, SWeak, AWeak], by simp [HWeak, BWeak, SWeak, AWeak, nats, regC]⟩
    · rintro ⟨i, a, o, out⟩ hinv
      simp only at hinv
      have ol := @nats_length .i64 o
      have rl := regC_length out
      simp only [awK, Nat.reduceMod, Nat.reduceDiv, reduceIte]
      rcases hinv with ⟨h1, h2, h3, h4, h5⟩ | ⟨h1, h2, h3, h4⟩
      · have hpart : ((s.take i).drop a).length ≤ s.length := by simp; omega
--BEGIN
        rcases Nat.lt_or_ge i s.length with h | h
        · have e : s.drop i = s.getD i 0 :: s.drop (i + 1) := by
            rw [List.drop_eq_getElem_cons h, List.getD_eq_getElem?_getD, List.getElem?_eq_getElem h]; rfl
          rw [e] at h5
          have tks := take_snoc h2 h
          by_cases hc : (s.getD i 0).toNat = 44 ∨ (s.getD i 0).toNat = 59
          · rw [rp_sep (hc.imp (fun q => UInt8.toNat_inj.1 q) fun q => UInt8.toNat_inj.1 q)] at h5
            have h6 : natO ((s.take i).drop a) = none → rp [] [] [] s = none := fun q => by rw [h5, q]
            have h7 : ∀ n, natO ((s.take i).drop a) = some n → rp [] [] [] s = rp [] (rpN o n) (rpO o n out) (s.drop (i + 1)) := fun n q => by rw [h5, q]
            clear h5
            obtain ⟨part, hp⟩ : ∃ part, part = (s.take i).drop a := ⟨_, rfl⟩
            rw [← hp] at h6 h7 hpart
            rcases hc with hc | hc
            · simp (config := { maxSteps := 1000000 }) (disch := ((try simp only [awL]); omega)) only [QR, QS, QT, QU, QV, QW, QX, QY, QZ, Q0, Q1, Q2, ol, rl, hc, ← hp, ↓awU, awV, awF, Qa, Qb, Qc, Qd, forall_const, ↓reduceIte, ↓reduceDIte, ↓Qe, Qf, Qg, Qh, Qi, Qj, Qk, Ql, Qm, Qn, Qo, Qp, Qq, Qr, Qs, implies_true, Qt, Qu, Qv, Qw, Qx, Qy, Qz, QA, QB, QC, QD, QE, QF, QG, QH, QI, QJ, QK, QL, QM, QN, QO, QP, QQ]
              refine CallC.of (rsnatural_spec part (by omega)) (by first | rfl | simp [*]) ?_
              cases hn : natO part with
              | none =>
                rw [rp_none h0 (h6 hn)] at hr
                obtain ⟨m, e⟩ := natO_none hn
                rw [e]
                simp (config := { maxSteps := 1000000 }) (disch := ((try simp only [awL]); omega)) only [QR, QS, QT, QU, QV, QW, QX, QY, QZ, Q0, Q1, Q2, ↓awU, awV, awF, Qa, Qb, Qc, Qd, forall_const, ↓reduceIte, ↓reduceDIte, ↓Qe, Qf, Qg, Qh, Qi, Qj, Qk, Ql, Qm, Qn, Qo, Qp, Qq, Qr, Qs, implies_true, Qt, Qu, Qv, Qw, Qx, Qy, Qz, QA, QB, QC, QD, QE, QF, QG, QH, QI, QJ, QK, QL, QM, QN, QO, QP, QQ]
                rw [hr]
              | some n =>
                have h7 := h7 n hn
                rw [natO_some hn]
                have sp : nats .i64 o ++ [D.int .i64 (n : Int)] = nats .i64 (o ++ [n]) := by simp [nats]
                have lb : (o ++ [n]).length = o.length + 1 := by simp
                rcases Nat.lt_or_ge o.length 3 with o3 | o3
                · rw [rpN, if_neg (by omega), rpO, if_neg (by omega)] at h7
                  generalize hb : o ++ [n] = o2 at *
                  simp (config := { maxSteps := 1000000 }) (disch := ((try simp only [awL]); omega)) only [QR, QS, QT, QU, QV, QW, QX, QY, QZ, Q0, Q1, Q2, ol, rl, sp, ↓awU, awV, awF, Qa, Qb, Qc, Qd, forall_const, ↓reduceIte, ↓reduceDIte, ↓Qe, Qf, Qg, Qh, Qi, Qj, Qk, Ql, Qm, Qn, Qo, Qp, Qq, Qr, Qs, implies_true, Qt, Qu, Qv, Qw, Qx, Qy, Qz, QA, QB, QC, QD, QE, QF, QG, QH, QI, QJ, QK, QL, QM, QN, QO, QP, QQ]
                  exact ⟨(i + 1, i + 1, o2, out), .inl ⟨h, Nat.le_refl _, by simp only; omega, by simp only; omega, by simp only; rw [h7]; simp⟩, by simp only; omega, ⟨[some 0, some 3], rfl, by simp, by simp [setsA, keepA, SWeak, AWeak, lb], by simp [HWeak, BWeak, SWeak, AWeak]⟩⟩
                · rw [rpN, if_pos (by omega), rpO, if_pos (by omega)] at h7
                  obtain ⟨x, y, z, rfl⟩ : ∃ x y z, o = [x, y, z] := by
                    match o, o3, h3 with
                    | [x, y, z], _, _ => exact ⟨x, y, z, rfl⟩
                    | [_, _], q, _ => exact absurd q (by simp)
                    | [_], q, _ => exact absurd q (by simp)
                    | [], q, _ => exact absurd q (by simp)
                    | _ :: _ :: _ :: _ :: t, _, q => simp only [List.length_cons] at q; omega
                  have qf : four ([x, y, z] ++ [n]) = ⟨x, y, z, n⟩ := rfl
                  rw [qf] at h7
                  have lb2 : (out ++ [(⟨x, y, z, n⟩ : Rg)]).length = out.length + 1 := by simp
                  have e4 : cut [D.int .i64 x, D.int .i64 y, D.int .i64 z, D.int .i64 n] 0 4 = [D.int .i64 x, D.int .i64 y, D.int .i64 z, D.int .i64 n] := rfl
                  have e5 : regC out ++ [D.int .i64 x, D.int .i64 y, D.int .i64 z, D.int .i64 n] = regC (out ++ [(⟨x, y, z, n⟩ : Rg)]) := by rw [regC_app]; rfl
                  have g0 : (nats .i64 ([x, y, z] ++ [n])).getD 0 .nilp = .int .i64 x := rfl
                  have g1 : (nats .i64 ([x, y, z] ++ [n])).getD 1 .nilp = .int .i64 y := rfl
                  have g2 : (nats .i64 ([x, y, z] ++ [n])).getD 2 .nilp = .int .i64 z := rfl
                  have g3 : (nats .i64 ([x, y, z] ++ [n])).getD 3 .nilp = .int .i64 n := rfl
                  have nl4 : (nats .i64 ([x, y, z] ++ [n])).length = 4 := rfl
                  generalize hb : out ++ [(⟨x, y, z, n⟩ : Rg)] = out2 at *
                  generalize nats .i64 ([x, y, z] ++ [n]) = nn at *
                  simp (config := { maxSteps := 1000000 }) (disch := ((try simp only [awL]); omega)) only [QR, QS, QT, QU, QV, QW, QX, QY, QZ, Q0, Q1, Q2, ol, rl, sp, e4, e5, g0, g1, g2, g3, nl4, ↓awU, awV, awF, Qa, Qb, Qc, Qd, forall_const, ↓reduceIte, ↓reduceDIte, ↓Qe, Qf, Qg, Qh, Qi, Qj, Qk, Ql, Qm, Qn, Qo, Qp, Qq, Qr, Qs, implies_true, Qt, Qu, Qv, Qw, Qx, Qy, Qz, QA, QB, QC, QD, QE, QF, QG, QH, QI, QJ, QK, QL, QM, QN, QO, QP, QQ]
                  try rw [e4]
                  try rw [e5]
                  first | exact ⟨(i + 1, i + 1, [], out2), .inl ⟨h, Nat.le_refl _, Nat.zero_le _, by simp only; omega, by simp only; rw [h7]; simp⟩, by simp only; omega, ⟨[some 5, none], rfl, by simp, by simp [setsA, keepA, SWeak, AWeak, lb2], by simp [HWeak, BWeak, SWeak, AWeak, nats]⟩⟩ | exact ⟨by rfl, (i + 1, i + 1, [], out2), .inl ⟨h, Nat.le_refl _, Nat.zero_le _, by simp only; omega, by simp only; rw [h7]; simp⟩, by simp only; omega, ⟨[some 5, none], rfl, by simp, by simp [setsA, keepA, SWeak, AWeak, lb2], by simp [HWeak, BWeak, SWeak, AWeak, nats]⟩⟩ | exact ⟨by rfl, by rfl, (i + 1, i + 1, [], out2), .inl ⟨h, Nat.le_refl _, Nat.zero_le _, by simp only; omega, by simp only; rw [h7]; simp⟩, by simp only; omega, ⟨[some 5, none], rfl, by simp, by simp [setsA, keepA, SWeak, AWeak, lb2], by simp [HWeak, BWeak, SWeak, AWeak, nats]⟩⟩
            · simp (config := { maxSteps := 1000000 }) (disch := ((try simp only [awL]); omega)) only [QR, QS, QT, QU, QV, QW, QX, QY, QZ, Q0, Q1, Q2, ol, rl, hc, ← hp, ↓awU, awV, awF, Qa, Qb, Qc, Qd, forall_const, ↓reduceIte, ↓reduceDIte, ↓Qe, Qf, Qg, Qh, Qi, Qj, Qk, Ql, Qm, Qn, Qo, Qp, Qq, Qr, Qs, implies_true, Qt, Qu, Qv, Qw, Qx, Qy, Qz, QA, QB, QC, QD, QE, QF, QG, QH, QI, QJ, QK, QL, QM, QN, QO, QP, QQ]
              refine CallC.of (rsnatural_spec part (by omega)) (by first | rfl | simp [*]) ?_
              cases hn : natO part with
              | none =>
                rw [rp_none h0 (h6 hn)] at hr
                obtain ⟨m, e⟩ := natO_none hn
                rw [e]
                simp (config := { maxSteps := 1000000 }) (disch := ((try simp only [awL]); omega)) only [QR, QS, QT, QU, QV, QW, QX, QY, QZ, Q0, Q1, Q2, ↓awU, awV, awF, Qa, Qb, Qc, Qd, forall_const, ↓reduceIte, ↓reduceDIte, ↓Qe, Qf, Qg, Qh, Qi, Qj, Qk, Ql, Qm, Qn, Qo, Qp, Qq, Qr, Qs, implies_true, Qt, Qu, Qv, Qw, Qx, Qy, Qz, QA, QB, QC, QD, QE, QF, QG, QH, QI, QJ, QK, QL, QM, QN, QO, QP, QQ]
                rw [hr]
              | some n =>
                have h7 := h7 n hn
                rw [natO_some hn]
                have sp : nats .i64 o ++ [D.int .i64 (n : Int)] = nats .i64 (o ++ [n]) := by simp [nats]
                have lb : (o ++ [n]).length = o.length + 1 := by simp
                rcases Nat.lt_or_ge o.length 3 with o3 | o3
                · rw [rpN, if_neg (by omega), rpO, if_neg (by omega)] at h7
                  generalize hb : o ++ [n] = o2 at *
                  simp (config := { maxSteps := 1000000 }) (disch := ((try simp only [awL]); omega)) only [QR, QS, QT, QU, QV, QW, QX, QY, QZ, Q0, Q1, Q2, ol, rl, sp, ↓awU, awV, awF, Qa, Qb, Qc, Qd, forall_const, ↓reduceIte, ↓reduceDIte, ↓Qe, Qf, Qg, Qh, Qi, Qj, Qk, Ql, Qm, Qn, Qo, Qp, Qq, Qr, Qs, implies_true, Qt, Qu, Qv, Qw, Qx, Qy, Qz, QA, QB, QC, QD, QE, QF, QG, QH, QI, QJ, QK, QL, QM, QN, QO, QP, QQ]
                  exact ⟨(i + 1, i + 1, o2, out), .inl ⟨h, Nat.le_refl _, by simp only; omega, by simp only; omega, by simp only; rw [h7]; simp⟩, by simp only; omega, ⟨[some 0, some 3], rfl, by simp, by simp [setsA, keepA, SWeak, AWeak, lb], by simp [HWeak, BWeak, SWeak, AWeak]⟩⟩
                · rw [rpN, if_pos (by omega), rpO, if_pos (by omega)] at h7
                  obtain ⟨x, y, z, rfl⟩ : ∃ x y z, o = [x, y, z] := by
                    match o, o3, h3 with
                    | [x, y, z], _, _ => exact ⟨x, y, z, rfl⟩
                    | [_, _], q, _ => exact absurd q (by simp)
                    | [_], q, _ => exact absurd q (by simp)
                    | [], q, _ => exact absurd q (by simp)
                    | _ :: _ :: _ :: _ :: t, _, q => simp only [List.length_cons] at q; omega
                  have qf : four ([x, y, z] ++ [n]) = ⟨x, y, z, n⟩ := rfl
                  rw [qf] at h7
                  have lb2 : (out ++ [(⟨x, y, z, n⟩ : Rg)]).length = out.length + 1 := by simp
                  have e4 : cut [D.int .i64 x, D.int .i64 y, D.int .i64 z, D.int .i64 n] 0 4 = [D.int .i64 x, D.int .i64 y, D.int .i64 z, D.int .i64 n] := rfl
                  have e5 : regC out ++ [D.int .i64 x, D.int .i64 y, D.int .i64 z, D.int .i64 n] = regC (out ++ [(⟨x, y, z, n⟩ : Rg)]) := by rw [regC_app]; rfl
                  have g0 : (nats .i64 ([x, y, z] ++ [n])).getD 0 .nilp = .int .i64 x := rfl
                  have g1 : (nats .i64 ([x, y, z] ++ [n])).getD 1 .nilp = .int .i64 y := rfl
                  have g2 : (nats .i64 ([x, y, z] ++ [n])).getD 2 .nilp = .int .i64 z := rfl
                  have g3 : (nats .i64 ([x, y, z] ++ [n])).getD 3 .nilp = .int .i64 n := rfl
                  have nl4 : (nats .i64 ([x, y, z] ++ [n])).length = 4 := rfl
                  generalize hb : out ++ [(⟨x, y, z, n⟩ : Rg)] = out2 at *
                  generalize nats .i64 ([x, y, z] ++ [n]) = nn at *
                  simp (config := { maxSteps := 1000000 }) (disch := ((try simp only [awL]); omega)) only [QR, QS, QT, QU, QV, QW, QX, QY, QZ, Q0, Q1, Q2, ol, rl, sp, e4, e5, g0, g1, g2, g3, nl4, ↓awU, awV, awF, Qa, Qb, Qc, Qd, forall_const, ↓reduceIte, ↓reduceDIte, ↓Qe, Qf, Qg, Qh, Qi, Qj, Qk, Ql, Qm, Qn, Qo, Qp, Qq, Qr, Qs, implies_true, Qt, Qu, Qv, Qw, Qx, Qy, Qz, QA, QB, QC, QD, QE, QF, QG, QH, QI, QJ, QK, QL, QM, QN, QO, QP, QQ]
                  try rw [e4]
                  try rw [e5]
                  first | exact ⟨(i + 1, i + 1, [], out2), .inl ⟨h, Nat.le_refl _, Nat.zero_le _, by simp only; omega, by simp only; rw [h7]; simp⟩, by simp only; omega, ⟨[some 5, none], rfl, by simp, by simp [setsA, keepA, SWeak, AWeak, lb2], by simp [HWeak, BWeak, SWeak, AWeak, nats]⟩⟩ | exact ⟨by rfl, (i + 1, i + 1, [], out2), .inl ⟨h, Nat.le_refl _, Nat.zero_le _, by simp only; omega, by simp only; rw [h7]; simp⟩, by simp only; omega, ⟨[some 5, none], rfl, by simp, by simp [setsA, keepA, SWeak, AWeak, lb2], by simp [HWeak, BWeak, SWeak, AWeak, nats]⟩⟩ | exact ⟨by rfl, by rfl, (i + 1, i + 1, [], out2), .inl ⟨h, Nat.le_refl _, Nat.zero_le _, by simp only; omega, by simp only; rw [h7]; simp⟩, by simp only; omega, ⟨[some 5, none], rfl, by simp, by simp [setsA, keepA, SWeak, AWeak, lb2], by simp [HWeak, BWeak, SWeak, AWeak, nats]⟩⟩
          · obtain ⟨c1, c2⟩ := not_or.1 hc
            rw [rp_other (fun q => hc (q.imp (fun q => by rw [q]; rfl) fun q => by rw [q]; rfl))] at h5
            rw [← tks] at h5
            simp (config := { maxSteps := 1000000 }) (disch := ((try simp only [awL]); omega)) only [QR, QS, QT, QU, QV, QW, QX, QY, QZ, Q0, Q1, Q2, ol, rl, c1, c2, ↓awU, awV, awF, Qa, Qb, Qc, Qd, forall_const, ↓reduceIte, ↓reduceDIte, ↓Qe, Qf, Qg, Qh, Qi, Qj, Qk, Ql, Qm, Qn, Qo, Qp, Qq, Qr, Qs, implies_true, Qt, Qu, Qv, Qw, Qx, Qy, Qz, QA, QB, QC, QD, QE, QF, QG, QH, QI, QJ, QK, QL, QM, QN, QO, QP, QQ]
            exact ⟨(i + 1, a, o, out), .inl ⟨h, by simp only; omega, h3, by simp only; omega, h5⟩, by simp only; omega, ⟨[some 0, some 1], rfl, by simp, by simp [setsA, keepA, SWeak, AWeak], by simp [HWeak, BWeak, SWeak, AWeak]⟩⟩
        · obtain rfl : i = s.length := by omega
          rw [List.drop_length] at h5
          have ex : s.take s.length = s := List.take_length
          rw [rp, ex] at h5
          rw [ex] at hpart
          have h6 : natO (s.drop a) = none → rp [] [] [] s = none := fun q => by rw [h5, q]
          have h7 : ∀ n, natO (s.drop a) = some n → rp [] [] [] s = some (rpO o n out) := fun n q => by rw [h5, q]
          clear h5
          obtain ⟨part, hp⟩ : ∃ part, part = s.drop a := ⟨_, rfl⟩
          rw [← hp] at h6 h7 hpart
          simp (config := { maxSteps := 1000000 }) (disch := ((try simp only [awL]); omega)) only [QR, QS, QT, QU, QV, QW, QX, QY, QZ, Q0, Q1, Q2, ol, rl, ex, ← hp, ↓awU, awV, awF, Qa, Qb, Qc, Qd, forall_const, ↓reduceIte, ↓reduceDIte, ↓Qe, Qf, Qg, Qh, Qi, Qj, Qk, Ql, Qm, Qn, Qo, Qp, Qq, Qr, Qs, implies_true, Qt, Qu, Qv, Qw, Qx, Qy, Qz, QA, QB, QC, QD, QE, QF, QG, QH, QI, QJ, QK, QL, QM, QN, QO, QP, QQ]
          refine CallC.of (rsnatural_spec part (by omega)) (by first | rfl | simp [*]) ?_
          cases hn : natO part with
          | none =>
            rw [rp_none h0 (h6 hn)] at hr
            obtain ⟨m, e⟩ := natO_none hn
            rw [e]
            simp (config := { maxSteps := 1000000 }) (disch := ((try simp only [awL]); omega)) only [QR, QS, QT, QU, QV, QW, QX, QY, QZ, Q0, Q1, Q2, ↓awU, awV, awF, Qa, Qb, Qc, Qd, forall_const, ↓reduceIte, ↓reduceDIte, ↓Qe, Qf, Qg, Qh, Qi, Qj, Qk, Ql, Qm, Qn, Qo, Qp, Qq, Qr, Qs, implies_true, Qt, Qu, Qv, Qw, Qx, Qy, Qz, QA, QB, QC, QD, QE, QF, QG, QH, QI, QJ, QK, QL, QM, QN, QO, QP, QQ]
            rw [hr]
          | some n =>
            have h7 := h7 n hn
            rw [natO_some hn]
            have sp : nats .i64 o ++ [D.int .i64 (n : Int)] = nats .i64 (o ++ [n]) := by simp [nats]
            have lb : (o ++ [n]).length = o.length + 1 := by simp
            rcases Nat.lt_or_ge o.length 3 with o3 | o3
            · rw [rpO, if_neg (by omega)] at h7
              generalize hb : o ++ [n] = o2 at *
              simp (config := { maxSteps := 1000000 }) (disch := ((try simp only [awL]); omega)) only [QR, QS, QT, QU, QV, QW, QX, QY, QZ, Q0, Q1, Q2, ol, rl, sp, ↓awU, awV, awF, Qa, Qb, Qc, Qd, forall_const, ↓reduceIte, ↓reduceDIte, ↓Qe, Qf, Qg, Qh, Qi, Qj, Qk, Ql, Qm, Qn, Qo, Qp, Qq, Qr, Qs, implies_true, Qt, Qu, Qv, Qw, Qx, Qy, Qz, QA, QB, QC, QD, QE, QF, QG, QH, QI, QJ, QK, QL, QM, QN, QO, QP, QQ]
              exact ⟨(s.length + 1, s.length + 1, o2, out), .inr ⟨rfl, Nat.le_refl _, by simp only; omega, h7⟩, by simp only; omega, ⟨[some 0, some 3], rfl, by simp, by simp [setsA, keepA, SWeak, AWeak, lb], by simp [HWeak, BWeak, SWeak, AWeak]⟩⟩
            · rw [rpO, if_pos (by omega)] at h7
              obtain ⟨x, y, z, rfl⟩ : ∃ x y z, o = [x, y, z] := by
                match o, o3, h3 with
                | [x, y, z], _, _ => exact ⟨x, y, z, rfl⟩
                | [_, _], q, _ => exact absurd q (by simp)
                | [_], q, _ => exact absurd q (by simp)
                | [], q, _ => exact absurd q (by simp)
                | _ :: _ :: _ :: _ :: t, _, q => simp only [List.length_cons] at q; omega
              have qf : four ([x, y, z] ++ [n]) = ⟨x, y, z, n⟩ := rfl
              rw [qf] at h7
              have lb2 : (out ++ [(⟨x, y, z, n⟩ : Rg)]).length = out.length + 1 := by simp
              have e4 : cut [D.int .i64 x, D.int .i64 y, D.int .i64 z, D.int .i64 n] 0 4 = [D.int .i64 x, D.int .i64 y, D.int .i64 z, D.int .i64 n] := rfl
              have e5 : regC out ++ [D.int .i64 x, D.int .i64 y, D.int .i64 z, D.int .i64 n] = regC (out ++ [(⟨x, y, z, n⟩ : Rg)]) := by rw [regC_app]; rfl
              have g0 : (nats .i64 ([x, y, z] ++ [n])).getD 0 .nilp = .int .i64 x := rfl
              have g1 : (nats .i64 ([x, y, z] ++ [n])).getD 1 .nilp = .int .i64 y := rfl
              have g2 : (nats .i64 ([x, y, z] ++ [n])).getD 2 .nilp = .int .i64 z := rfl
              have g3 : (nats .i64 ([x, y, z] ++ [n])).getD 3 .nilp = .int .i64 n := rfl
              have nl4 : (nats .i64 ([x, y, z] ++ [n])).length = 4 := rfl
              generalize hb : out ++ [(⟨x, y, z, n⟩ : Rg)] = out2 at *
              generalize nats .i64 ([x, y, z] ++ [n]) = nn at *
              simp (config := { maxSteps := 1000000 }) (disch := ((try simp only [awL]); omega)) only [QR, QS, QT, QU, QV, QW, QX, QY, QZ, Q0, Q1, Q2, ol, rl, sp, e4, e5, g0, g1, g2, g3, nl4, ↓awU, awV, awF, Qa, Qb, Qc, Qd, forall_const, ↓reduceIte, ↓reduceDIte, ↓Qe, Qf, Qg, Qh, Qi, Qj, Qk, Ql, Qm, Qn, Qo, Qp, Qq, Qr, Qs, implies_true, Qt, Qu, Qv, Qw, Qx, Qy, Qz, QA, QB, QC, QD, QE, QF, QG, QH, QI, QJ, QK, QL, QM, QN, QO, QP, QQ]
              try rw [e4]
              try rw [e5]
              first | exact ⟨(s.length + 1, s.length + 1, [], out2), .inr ⟨rfl, Nat.le_refl _, by simp only; omega, h7⟩, by simp only; omega, ⟨[some 5, none], rfl, by simp, by simp [setsA, keepA, SWeak, AWeak, lb2], by simp [HWeak, BWeak, SWeak, AWeak, nats]⟩⟩ | exact ⟨by rfl, (s.length + 1, s.length + 1, [], out2), .inr ⟨rfl, Nat.le_refl _, by simp only; omega, h7⟩, by simp only; omega, ⟨[some 5, none], rfl, by simp, by simp [setsA, keepA, SWeak, AWeak, lb2], by simp [HWeak, BWeak, SWeak, AWeak, nats]⟩⟩ | exact ⟨by rfl, by rfl, (s.length + 1, s.length + 1, [], out2), .inr ⟨rfl, Nat.le_refl _, by simp only; omega, h7⟩, by simp only; omega, ⟨[some 5, none], rfl, by simp, by simp [setsA, keepA, SWeak, AWeak, lb2], by simp [HWeak, BWeak, SWeak, AWeak, nats]⟩⟩
--END
      · simp (config := { maxSteps := 1000000 }) (disch := ((try simp only [awL]); omega)) only [QR, QS, QT, QU, QV, QW, QX, QY, QZ, Q0, Q1, Q2, ol, rl, ↓awU, awV, awF, Qa, Qb, Qc, Qd, forall_const, ↓reduceIte, ↓reduceDIte, ↓Qe, Qf, Qg, Qh, Qi, Qj, Qk, Ql, Qm, Qn, Qo, Qp, Qq, Qr, Qs, implies_true, Qt, Qu, Qv, Qw, Qx, Qy, Qz, QA, QB, QC, QD, QE, QF, QG, QH, QI, QJ, QK, QL, QM, QN, QO, QP, QQ]
        exact ⟨out, ⟨by omega, h4⟩, ⟨[some 0], rfl, by simp, by simp [setsA, keepA, SWeak, AWeak], by simp [HWeak, BWeak, SWeak, AWeak]⟩⟩
    · rintro o ⟨h1, h2⟩
      rw [rp_some h0 h2] at hr
      have oil := regC_length o
      have cu : cut (regC o) 0 (4 * o.length) = regC o := cut_all oil.symm
      have cu' : cut (regC o) 0 (o.length * 4) = regC o := cut_all (by omega)
      simp only [awK, Nat.reduceMod, Nat.reduceDiv, reduceIte]
      simp (config := { maxSteps := 1000000 }) (disch := ((try simp only [awL]); omega)) only [QR, QS, QT, QU, QV, QW, QX, QY, QZ, Q0, Q1, Q2, oil, cu, cu', ↓awU, awV, awF, Qa, Qb, Qc, Qd, forall_const, ↓reduceIte, ↓reduceDIte, ↓Qe, Qf, Qg, Qh, Qi, Qj, Qk, Ql, Qm, Qn, Qo, Qp, Qq, Qr, Qs, implies_true, Qt, Qu, Qv, Qw, Qx, Qy, Qz, QA, QB, QC, QD, QE, QF, QG, QH, QI, QJ, QK, QL, QM, QN, QO, QP, QQ]
      refine CallC.frozenE (rstext_spec hI o false (by omega)) (by rfl) ?_
      cases ht : textR o with
      | none =>
        rw [if_neg (by rw [ht]; simp)] at hr
        simp (config := { maxSteps := 1000000 }) (disch := ((try simp only [awL]); omega)) only [QR, QS, QT, QU, QV, QW, QX, QY, QZ, Q0, Q1, Q2, textD, oil, cu, cu', ↓awU, awV, awF, Qa, Qb, Qc, Qd, forall_const, ↓reduceIte, ↓reduceDIte, ↓Qe, Qf, Qg, Qh, Qi, Qj, Qk, Ql, Qm, Qn, Qo, Qp, Qq, Qr, Qs, implies_true, Qt, Qu, Qv, Qw, Qx, Qy, Qz, QA, QB, QC, QD, QE, QF, QG, QH, QI, QJ, QK, QL, QM, QN, QO, QP, QQ]
        rw [hr]; try rfl
      | some t =>
        by_cases hts : t = s
        · subst hts
          rw [if_pos ht] at hr
          simp (config := { maxSteps := 1000000 }) (disch := ((try simp only [awL]); omega)) only [QR, QS, QT, QU, QV, QW, QX, QY, QZ, Q0, Q1, Q2, textD, oil, cu, cu', beq_self_eq_true, ↓awU, awV, awF, Qa, Qb, Qc, Qd, forall_const, ↓reduceIte, ↓reduceDIte, ↓Qe, Qf, Qg, Qh, Qi, Qj, Qk, Ql, Qm, Qn, Qo, Qp, Qq, Qr, Qs, implies_true, Qt, Qu, Qv, Qw, Qx, Qy, Qz, QA, QB, QC, QD, QE, QF, QG, QH, QI, QJ, QK, QL, QM, QN, QO, QP, QQ]
          rw [hr]; try rfl
        · have hne2 : (t == s) = false := by simpa using hts
          rw [if_neg (by rw [ht]; simpa using hts)] at hr
          simp (config := { maxSteps := 1000000 }) (disch := ((try simp only [awL]); omega)) only [QR, QS, QT, QU, QV, QW, QX, QY, QZ, Q0, Q1, Q2, textD, oil, cu, cu', hne2, ↓awU, awV, awF, Qa, Qb, Qc, Qd, forall_const, ↓reduceIte, ↓reduceDIte, ↓Qe, Qf, Qg, Qh, Qi, Qj, Qk, Ql, Qm, Qn, Qo, Qp, Qq, Qr, Qs, implies_true, Qt, Qu, Qv, Qw, Qx, Qy, Qz, QA, QB, QC, QD, QE, QF, QG, QH, QI, QJ, QK, QL, QM, QN, QO, QP, QQ]
          rw [hr]; try rfl
end Go.Proofs.YtacepalmphbnfaaGreatDoor

namespace Go.Proofs.YtacepalmphbnfaaGreatDoor
open Go Go.Proofs Go.Abs Go.RowKit Go.Sort Go.Shelf
/-! Sheet: slices.SortFunc of regions, in place, out of the kit's contract. -/
instance : Inhabited Ar := ⟨⟨0, 0, 0, 0⟩⟩
def numsA (a : Ar) : List Int := [a.t, a.l, a.b, a.r]
def encA (a : Ar) : List Value := (numsA a).map (Value.int .i64)
theorem regC_nums : ∀ l : List Ar, regC (rgs l) = (l.flatMap numsA).map (D.int .i64)
  | [] => rfl
  | a :: l => by
    have ih := regC_nums l
    rw [List.flatMap_cons, List.map_append, ← ih]
    rfl
theorem nums_len : ∀ l : List Ar, (l.flatMap numsA).length = l.length * 4
  | [] => rfl
  | a :: l => by rw [List.flatMap_cons, List.length_append, nums_len l, List.length_cons]; simp [numsA]; omega
theorem flat_nums : ∀ (l : List Ar) (t : Nat), t < l.length * 4 → (encA l[t / 4]!)[t % 4]! = Value.int .i64 ((l.flatMap numsA).getD t 0)
  | [], t, h => by simp at h
  | a :: l, t, h => by
    rw [List.flatMap_cons]
    rcases Nat.lt_or_ge t 4 with h4 | h4
    · have e : t / 4 = 0 := by omega
      rw [e]
      rcases (by omega : t = 0 ∨ t = 1 ∨ t = 2 ∨ t = 3) with rfl | rfl | rfl | rfl <;> rfl
    · obtain ⟨u, rfl⟩ : ∃ u, t = u + 4 := ⟨t - 4, by omega⟩
      have e1 : (u + 4) / 4 = u / 4 + 1 := by omega
      have e2 : (u + 4) % 4 = u % 4 := by omega
      have ih := flat_nums l u (by rw [List.length_cons] at h; omega)
      have e3 : (numsA a ++ l.flatMap numsA).getD (u + 4) 0 = (l.flatMap numsA).getD u 0 := getD_right (a := numsA a) u
      rw [e1, e2, e3, ← ih]
      simp
theorem flatK_nums (l : List Ar) (t : Nat) (h : t < l.length * 4) : (flatK encA 4 l.toArray)[t]! = Value.int .i64 ((l.flatMap numsA).getD t 0) := by
  rw [get_flatK _ _ _ t (by simpa using h), ← flat_nums l t h]
  simp
theorem rd_int {h : Held} {v : Value} {k : IntKind} {x : Int} (r : RD h v (.int k x)) : v = .int k x := by
  cases r with
  | int => rfl
theorem fn_inv {h : Held} {ρ : Abs.Place} {v : Value} {g : Nat} (r : R h ρ v (.d (.fn (.func g) [] []))) : v = .func (.func g) #[] #[] := by
  cases r with
  | d v x hx => cases hx with
  | fn f vs us a b hl hl' =>
    have e1 : vs = #[] := Array.eq_empty_of_size_eq_zero hl
    have e2 : us = #[] := Array.eq_empty_of_size_eq_zero hl'
    rw [e1, e2]
theorem sortf_ctr {P : Program} {G : Globals} {f g : FuncId} (hg : goFn P f = true) (l m : List Ar) (hm : m.length = l.length)
    (hn : ∀ (p : Option Addr) (cap : Nat) (fv : Value) (w : World), Calls P f #[.slice p 0 cap, fv] w fun e w' => e = .returned (.tuple #[]) ∧ w' = w)
    (hs : 0 < l.length → ∀ (blk cap : Nat) (w : World), HoldsK encA 4 w blk 0 l.toArray → blk < w.heap.size →
      Calls P f #[.slice (some ⟨blk, 0, none⟩) l.length cap, .func (.func g) #[] #[]] w fun e w' => e = .returned (.tuple #[]) ∧ ∃ n os, w' = sortWorldK encA 4 w blk 0 n m.toArray os) :
    Ctr P G f [.lsl 0 4 0 l.length, .d (.fn (.func g) [] [])] [.row false (regC (rgs l))] .undef [.row false (regC (rgs m))] := by
  refine ⟨hg, fun h ρ w vs s r => ?_⟩
  obtain ⟨v, u, rfl, hv, hu⟩ := r.inv2
  have hu := fn_inv hu
  subst hu
  have hb := s.blk 0 _ rfl
  rcases Nat.eq_zero_or_pos l.length with h0 | h0
  · obtain rfl : l = [] := List.eq_nil_of_length_eq_zero h0
    obtain rfl : m = [] := List.eq_nil_of_length_eq_zero hm
    have key : ∃ p cap, v = .slice p 0 cap := by
      cases hv with
      | lsl0 base => exact ⟨_, _, rfl⟩
      | lsl b sz off n cap g S h1 h2 h3 => exact ⟨_, _, rfl⟩
    obtain ⟨p, cap, rfl⟩ := key
    refine (hn p cap _ w).mono ?_
    rintro e w' ⟨rfl, rfl⟩
    exact ⟨_, h, ρ, rfl, by simpa using s, .undef _, Step.refl _ _ _⟩
  have key : ∃ g S cap, v = .slice (some ⟨g, 0, none⟩) l.length cap ∧ ρ 0 = some (g, S) ∧ l.length ≤ cap ∧ 0 + cap * 4 ≤ S := by
    generalize hk : l.length = k at hv h0
    cases hv with
    | lsl0 base => omega
    | lsl b sz off n cap g S h1 h2 h3 => exact ⟨g, S, cap, rfl, h1, h2, h3⟩
  obtain ⟨gg, S, cap, rfl, hρ, hcap, hS⟩ := key
  obtain ⟨hone, hb⟩ := hb
  rcases hb with ⟨hno, _⟩ | ⟨g', S', c, E, fr, b1, b2, b3, b4, b5, b6, b7, b8⟩
  · rw [hρ] at hno; cases hno
  rw [hρ] at b1; cases b1
  have cells : ∀ (q : List Ar) (j : Nat), j < q.length * 4 → (regC (rgs q))[j]? = some (.int .i64 ((q.flatMap numsA).getD j 0)) := fun q j hj => by
    have hj' : j < (q.flatMap numsA).length := by rw [nums_len]; exact hj
    rw [regC_nums, List.getElem?_map, List.getElem?_eq_getElem hj', List.getD_eq_getElem?_getD, List.getElem?_eq_getElem hj']
    rfl
  have clen : ∀ q : List Ar, (regC (rgs q)).length = q.length * 4 := fun q => by rw [regC_nums, List.length_map, nums_len]
  have hcs : l.length * 4 ≤ c.size := by omega
  have hval : ∀ (j : Nat), j < l.length * 4 → c[j]? = some (.int .i64 ((l.flatMap numsA).getD j 0)) := fun j hj => by
    have h1 : c[j]? = some c[j] := Array.getElem?_eq_getElem (by omega)
    rw [h1, rd_int (b6 j _ _ (cells l j hj) h1)]
  have hH : HoldsK encA 4 w gg 0 l.toArray := by
    intro j hj
    have hj' : j < l.length * 4 := by simpa using hj
    refine ⟨?_, ?_⟩
    · simp only [World.cell?, b2, Nat.zero_add]
      rw [hval j hj', flatK_nums l j hj']
      rfl
    · simp only [World.frozen?, b2, Nat.zero_add]
      have := b4 j (by omega)
      simp only [Bool.and_eq_false_iff, decide_eq_false_iff_not]
      omega
  have hgl : gg < w.heap.size := (Array.getElem?_eq_some_iff.1 b2).1
  refine (hs h0 gg cap w hH hgl).mono ?_
  rintro e w' ⟨rfl, n, os, rfl⟩
  have fsz : (flatK encA 4 m.toArray).size = l.length * 4 := by rw [size_flatK]; simp [hm]
  have fget : ∀ t, t < l.length * 4 → (flatK encA 4 m.toArray)[t]! = Value.int .i64 ((m.flatMap numsA).getD t 0) := fun t ht => flatK_nums m t (by omega)
  have other : ∀ k, k ≠ gg → k < w.heap.size → (grow (putRow id (Sort.ahead w n) gg 0 (flatK encA 4 m.toArray)) os).heap[k]? = w.heap[k]? := fun k hk hlt => by
    rw [heap_grow_old _ _ (by simpa using hlt)]
    show (w.heap.modify gg _)[k]? = _
    rw [Array.getElem?_modify, if_neg (Ne.symm hk)]
  have same : (grow (putRow id (Sort.ahead w n) gg 0 (flatK encA 4 m.toArray)) os).heap[gg]? = some (.cells (putCells id 0 (flatK encA 4 m.toArray) c) E fr) := by
    rw [heap_grow_old _ _ (by simpa using hgl)]
    show (w.heap.modify gg _)[gg]? = _
    rw [Array.getElem?_modify, if_pos rfl, b2]
    rfl
  have hw : sortWorldK encA 4 w gg 0 n m.toArray os = grow (putRow id (Sort.ahead w n) gg 0 (flatK encA 4 m.toArray)) os := rfl
  rw [hw]
  clear hw
  generalize flatK encA 4 m.toArray = F at *
  have hsz : (putCells id 0 F c).size = c.size := by simp [putCells]
  have hcell : ∀ (j : Nat) (hj : j < l.length * 4), (putCells id 0 F c)[j]? = some (Value.int .i64 ((m.flatMap numsA).getD j 0)) := fun j hj => by
    have : j < c.size := by omega
    have hF : j < F.size := by omega
    rw [← fget j hj]
    simp [putCells, Array.getElem?_mapIdx, Array.getElem?_eq_getElem this, hF]
  have hprom : ∀ b o u, h b o = some u → (grow (putRow id (Sort.ahead w n) gg 0 F) os).cell? ⟨b, o, none⟩ = some u := by
    intro b o u e
    have hlt := s.held_lt e
    have hne : b ≠ gg := fun e' => by subst e'; rw [b8 o (fun e => by cases e)] at e; cases e
    have := s.prom b o u e
    rw [← this]
    simp only [World.cell?, other b hne hlt]
  refine ⟨_, h, ρ, rfl, ⟨hprom, s.glob, fun i b e => ?_, fun i k S2 e => ?_, fun i j k S1 S2 e1 e2 l1 l2 => ?_⟩, .undef _, ⟨rfl, rfl, rfl, by simp, fun k hk hnk => other k (fun e => hnk 0 S (e ▸ hρ)) hk, Held.le_refl _, fun _ _ _ _ => rfl, Place.le_refl _, fun i k S2 e => .inl ⟨i, S2, e⟩⟩⟩
  · cases i with
    | zero =>
      simp [hp] at e; subst e
      refine ⟨fun j x hx => ?_, .inr ⟨gg, S, _, E, fr, hρ, same, by rw [hsz]; exact b3, b4, by rw [clen, hm]; omega, fun j x u hx hu => ?_, (fun e => by cases e), fun j _ => b8 j (fun e => by cases e)⟩⟩
      · have hj : j < m.length * 4 := by rw [← clen]; exact (List.getElem?_eq_some_iff.1 hx).1
        rw [cells m j hj] at hx; cases hx; rfl
      · have hj : j < m.length * 4 := by rw [← clen]; exact (List.getElem?_eq_some_iff.1 hx).1
        rw [cells m j hj] at hx; cases hx
        rw [hcell j (by omega)] at hu
        cases hu
        exact .int _ _
    | succ i => simp [hp] at e
  · obtain ⟨q1, b, q2⟩ := s.dom i k S2 e
    refine ⟨by simp; omega, ?_⟩
    cases i with
    | zero => exact ⟨_, rfl⟩
    | succ i => simp [hp] at q2
  · have z : ∀ i, live (hp [.row false (regC (rgs m))]) i → i = 0 := by
      rintro i ⟨b, q, _⟩
      cases i with
      | zero => rfl
      | succ i => simp [hp] at q
    rw [z i l1, z j l2]
def cfA (x y : Ar) : Int := cmpRg x.rg y.rg
theorem cfA_lt (x y : Ar) : ltOf cfA x y = decide (x.t < y.t ∨ (x.t = y.t ∧ x.l < y.l)) := by
  unfold ltOf cfA cmpRg cmpI
  congr 1
  apply propext
  simp only
  repeat' split
  all_goals omega
theorem cfA_swo : SWO (ltOf cfA) := by
  refine ⟨fun x => ?_, fun x y z h1 h2 => ?_, fun x y z h1 h2 => ?_⟩
  · rw [cfA_lt]; simp
  · rw [cfA_lt, decide_eq_true_eq] at *; omega
  · rw [cfA_lt, decide_eq_false_iff_not] at *; omega
/-- The only sorted permutation. -/
theorem perm_sorted {l : List Ar} {d : Array Ar} (hk : KeysOne l) (hp : PermIn 0 l.toArray.size l.toArray d) (hs : SortedIn (ltOf cfA) 0 l.toArray.size d) : d = (l.mergeSort leA).toArray := by
  obtain ⟨p1, _, p3⟩ := hp
  have e1 : d.extract 0 l.toArray.size = d := by rw [← p1, Array.extract_size]
  have e2 : l.toArray.extract 0 l.toArray.size = l.toArray := Array.extract_size
  rw [e1, e2] at p3
  have p3 : d.toList.Perm l := p3
  have hd : d.toList.Pairwise fun x y => leA x y = true := by
    refine List.pairwise_iff_getElem.2 fun i j hi hj hij => ?_
    have hi' : i < d.size := by simpa using hi
    have hj' : j < d.size := by simpa using hj
    have := hs i j (Nat.zero_le _) hij (by rw [← p1]; exact hj')
    rw [getElem!_pos d i hi', getElem!_pos d j hj', cfA_lt, decide_eq_false_iff_not] at this
    simp only [leA, Array.getElem_toList, decide_eq_true_eq]; omega
  have := sorted_uniq ((List.mergeSort_perm l leA).trans p3.symm) (fun x hx y hy => hk x ((List.mergeSort_perm l leA).subset hx) y ((List.mergeSort_perm l leA).subset hy)) (sortA_sorted l) hd
  rw [this]
end Go.Proofs.YtacepalmphbnfaaGreatDoor

namespace Go.Proofs.YtacepalmphbnfaaGreatDoor
open Go Go.Proofs Go.Abs Go.RowKit Go.Sort Go.Shelf
variable {G : Globals}
/-! Sheet: slices.SortFunc of regions; sheet.Regions. -/
def Tryz.cmpIntL_ren : Go.Shelf.Ren := ⟨fun | 5 => 65 | 7 => 106 | n => n, fun | 22 => 3 | 3 => 3 | 4 => 4 | n => n, fun | n => n⟩
theorem Tryz.cmpIntL : Go.Proofs.SlLaysC2.n5 Tryz.prog Tryz.cmpIntL_ren where
  mixed := by kernel_rfl
  f5 := ⟨Tryz.f65.name, by kernel_rfl, Tryz.func65.trans (congrArg some (by kernel_rfl))⟩
  f7 := ⟨Tryz.f106.name, by kernel_rfl, Tryz.func106.trans (congrArg some (by kernel_rfl))⟩
  t3 := Tryz.underlying3
  a3 := Tryz.isAgg3
  z3 := Tryz.sizeOf3
  v3 := Tryz.zeroValue3
  t4 := Tryz.underlying4
  a4 := Tryz.isAgg4
  z4 := Tryz.sizeOf4
  v4 := Tryz.zeroValue4
  t22 := Tryz.underlying3
  a22 := Tryz.isAgg3
  z22 := Tryz.sizeOf3
  v22 := Tryz.zeroValue3

def Tryz.sortRgL_ren : Go.Shelf.Ren := ⟨fun | 6 => 85 | 15 => 105 | 14 => 121 | 28 => 140 | 29 => 141 | 20 => 157 | 21 => 158 | 22 => 159 | 23 => 160 | 24 => 161 | 25 => 162 | 26 => 163 | 27 => 164 | 46 => 192 | 47 => 175 | 48 => 176 | 49 => 193 | 50 => 194 | 57 => 209 | n => n, fun | 22 => 61 | 24 => 64 | 25 => 116 | 3 => 3 | 39 => 129 | 0 => 0 | 53 => 163 | 55 => 165 | 4 => 4 | 46 => 157 | 45 => 156 | 50 => 112 | 5 => 5 | 9 => 9 | 66 => 194 | 70 => 198 | 76 => 215 | 77 => 216 | n => n, fun | n => n⟩
theorem Tryz.sortRgL : Go.Proofs.SlLaysF0.n6 Tryz.prog Tryz.sortRgL_ren where
  mixed := by kernel_rfl
  f6 := ⟨Tryz.f85.name, by kernel_rfl, Tryz.func85.trans (congrArg some (by kernel_rfl))⟩
  f14 := ⟨Tryz.f121.name, by kernel_rfl, Tryz.func121.trans (congrArg some (by kernel_rfl))⟩
  f15 := Tryz.func105.trans (congrArg some (by kernel_rfl))
  f20 := ⟨Tryz.f157.name, by kernel_rfl, Tryz.func157.trans (congrArg some (by kernel_rfl))⟩
  f21 := ⟨Tryz.f158.name, by kernel_rfl, Tryz.func158.trans (congrArg some (by kernel_rfl))⟩
  f22 := ⟨Tryz.f159.name, by kernel_rfl, Tryz.func159.trans (congrArg some (by kernel_rfl))⟩
  f23 := ⟨Tryz.f160.name, by kernel_rfl, Tryz.func160.trans (congrArg some (by kernel_rfl))⟩
  f24 := ⟨Tryz.f161.name, by kernel_rfl, Tryz.func161.trans (congrArg some (by kernel_rfl))⟩
  f25 := ⟨Tryz.f162.name, by kernel_rfl, Tryz.func162.trans (congrArg some (by kernel_rfl))⟩
  f26 := ⟨Tryz.f163.name, by kernel_rfl, Tryz.func163.trans (congrArg some (by kernel_rfl))⟩
  f27 := ⟨Tryz.f164.name, by kernel_rfl, Tryz.func164.trans (congrArg some (by kernel_rfl))⟩
  f28 := Tryz.func140.trans (congrArg some (by kernel_rfl))
  f29 := Tryz.func141.trans (congrArg some (by kernel_rfl))
  f46 := ⟨Tryz.f192.name, by kernel_rfl, Tryz.func192.trans (congrArg some (by kernel_rfl))⟩
  f47 := Tryz.func175.trans (congrArg some (by kernel_rfl))
  f48 := Tryz.func176.trans (congrArg some (by kernel_rfl))
  f49 := ⟨Tryz.f193.name, by kernel_rfl, Tryz.func193.trans (congrArg some (by kernel_rfl))⟩
  f50 := ⟨Tryz.f194.name, by kernel_rfl, Tryz.func194.trans (congrArg some (by kernel_rfl))⟩
  f57 := ⟨Tryz.f209.name, by kernel_rfl, Tryz.func209.trans (congrArg some (by kernel_rfl))⟩
  t0 := Tryz.underlying0
  a0 := Tryz.isAgg0
  z0 := Tryz.sizeOf0
  v0 := Tryz.zeroValue0
  t3 := Tryz.underlying3
  a3 := Tryz.isAgg3
  z3 := Tryz.sizeOf3
  v3 := Tryz.zeroValue3
  t4 := Tryz.underlying4
  a4 := Tryz.isAgg4
  z4 := Tryz.sizeOf4
  v4 := Tryz.zeroValue4
  t5 := Tryz.underlying5
  a5 := Tryz.isAgg5
  z5 := Tryz.sizeOf5
  v5 := Tryz.zeroValue5
  t9 := Tryz.underlying9
  a9 := Tryz.isAgg9
  z9 := Tryz.sizeOf9
  v9 := Tryz.zeroValue9
  t22 := Tryz.underlying61
  a22 := Tryz.isAgg61
  z22 := Tryz.sizeOf61
  v22 := Tryz.zeroValue61
  t25 := Tryz.underlying116
  a25 := Tryz.isAgg116
  z25 := Tryz.sizeOf116
  v25 := Tryz.zeroValue116
  t39 := Tryz.underlying129
  a39 := Tryz.isAgg129
  z39 := Tryz.sizeOf129
  v39 := Tryz.zeroValue129
  t45 := Tryz.underlying156
  a45 := Tryz.isAgg156
  z45 := Tryz.sizeOf156
  v45 := Tryz.zeroValue156
  t46 := Tryz.underlying157
  a46 := Tryz.isAgg157
  z46 := Tryz.sizeOf157
  v46 := Tryz.zeroValue157
  t50 := Tryz.underlying112
  a50 := Tryz.isAgg112
  z50 := Tryz.sizeOf112
  v50 := Tryz.zeroValue112
  t53 := Tryz.underlying163
  a53 := Tryz.isAgg163
  z53 := Tryz.sizeOf163
  v53 := Tryz.zeroValue163
  t55 := Tryz.underlying165
  a55 := Tryz.isAgg165
  z55 := Tryz.sizeOf165
  v55 := Tryz.zeroValue165
  t66 := Tryz.underlying194
  a66 := Tryz.isAgg194
  z66 := Tryz.sizeOf194
  v66 := Tryz.zeroValue194
  t70 := Tryz.underlying198
  a70 := Tryz.isAgg198
  z70 := Tryz.sizeOf198
  v70 := Tryz.zeroValue198
  t76 := Tryz.underlying215
  a76 := Tryz.isAgg215
  z76 := Tryz.sizeOf215
  v76 := Tryz.zeroValue215
  t77 := Tryz.underlying216
  a77 := Tryz.isAgg216
  z77 := Tryz.sizeOf216
  v77 := Tryz.zeroValue216

set_option maxHeartbeats 4000000 in
theorem or_raw (x y : Int) (blk : Nat) (w : World) (h0 : w.cell? ⟨blk, 0, none⟩ = some (.int .i64 x)) (h1 : w.cell? ⟨blk, 1, none⟩ = some (.int .i64 y)) :
    Calls Tryz.prog 64 #[.slice (some ⟨blk, 0, none⟩) 2 2] w fun e w' => e = .returned (.int .i64 (if x ≠ 0 then x else y)) ∧ w' = w := by
  go_enter Tryz.func64, Tryz.ntmps64
  by_cases hx : x = 0
  · by_cases hy : y = 0
    · subst hx hy
      go_wp2
      refine wp_loop_rounds 3 ?_
      rw [rounds_succ]
      go_wp2
      rw [rounds_succ]
      go_wp2
      rw [rounds_succ]
      go_wp2
      go_ret
      exact ⟨rfl, rfl⟩
    · subst hx
      have hyb : (y != 0) = true := by simpa using hy
      go_wp2
      refine wp_loop_rounds 3 ?_
      rw [rounds_succ]
      go_wp2
      rw [rounds_succ]
      go_wp2
      go_ret
      exact ⟨rfl, rfl⟩
  · rw [if_pos hx]
    have hxb : (x != 0) = true := by simpa using hx
    go_wp2
    refine wp_loop_rounds 3 ?_
    rw [rounds_succ]
    go_wp2
    go_ret
    exact ⟨rfl, rfl⟩
theorem two_objs (W : World) (o1 o2 : Obj) : ((W.alloc o1).alloc o2).heap[W.heap.size]? = some o1 ∧ ((W.alloc o1).alloc o2).heap[W.heap.size + 1]? = some o2 := by
  constructor
  · show ((W.heap.push o1).push o2)[W.heap.size]? = _
    simp [Array.getElem?_push]
  · show ((W.heap.push o1).push o2)[W.heap.size + 1]? = _
    have : W.heap.size + 1 = (W.heap.push o1).size := by simp
    rw [this, Array.getElem?_push_size]
theorem two_cells (W : World) (c1 c2 : Array Value) (e : TypeId) (i : Nat) : ((W.alloc (.cells c1 e)).alloc (.cells c2 e)).cell? ⟨W.heap.size, i, none⟩ = c1[i]? ∧ ((W.alloc (.cells c1 e)).alloc (.cells c2 e)).cell? ⟨W.heap.size + 1, i, none⟩ = c2[i]? := by
  obtain ⟨h1, h2⟩ := two_objs W (.cells c1 e) (.cells c2 e)
  constructor
  · rw [World.cell?]; simp only [h1, Option.isSome_none, Bool.false_eq_true, if_false]
  · rw [World.cell?]; simp only [h2, Option.isSome_none, Bool.false_eq_true, if_false]
theorem one_cell (W : World) (c : Array Value) (e : TypeId) (i : Nat) : (W.alloc (.cells c e)).cell? ⟨W.heap.size, i, none⟩ = c[i]? := by
  have h1 : (W.alloc (.cells c e)).heap[W.heap.size]? = some (.cells c e) := by
    show (W.heap.push _)[W.heap.size]? = _
    rw [Array.getElem?_push_size]
  rw [World.cell?]; simp only [h1, Option.isSome_none, Bool.false_eq_true, if_false]
set_option maxHeartbeats 16000000 in
set_option maxRecDepth 100000 in
theorem clo_raw (a b c d a' b' c' d' : Int) (W : World) : Calls Tryz.prog 86 #[.agg #[.int .i64 a, .int .i64 b, .int .i64 c, .int .i64 d], .agg #[.int .i64 a', .int .i64 b', .int .i64 c', .int .i64 d']] W fun e w' => e = .returned (.int .i64 (if Lib.compareInt a a' ≠ 0 then Lib.compareInt a a' else Lib.compareInt b b')) ∧ ∃ q os', w' = grow (W.drewN q) os' := by
  have hcon := fun x y W' => AnyG.cmp_Compare_int Tryz.cmpIntL x y W'
  change ∀ x y W', Calls Tryz.prog 65 _ _ _ at hcon
  have h1 := hcon a a'
  have h2 := hcon b b'
  clear hcon
  generalize Lib.compareInt a a' = r at h1 ⊢
  generalize Lib.compareInt b b' = s at h2 ⊢
  have h3 := fun blk w => or_raw r s blk w
  generalize (if r ≠ 0 then r else s) = z at h3 ⊢
  go_enter Tryz.func86, Tryz.ntmps86
  go_wp2_with (fail)
  change Code.wp _ _ _ _ ((W.alloc (.cells #[.int .i64 a, .int .i64 b, .int .i64 c, .int .i64 d] 64)).alloc (.cells #[.int .i64 a', .int .i64 b', .int .i64 c', .int .i64 d'] 64))
  have f0 : ((W.alloc (.cells #[.int .i64 a, .int .i64 b, .int .i64 c, .int .i64 d] 64)).alloc (.cells #[.int .i64 a', .int .i64 b', .int .i64 c', .int .i64 d'] 64)).cell? ⟨W.heap.size, 0, none⟩ = some (.int .i64 a) := (two_cells W _ _ _ 0).1
  have f1 : ((W.alloc (.cells #[.int .i64 a, .int .i64 b, .int .i64 c, .int .i64 d] 64)).alloc (.cells #[.int .i64 a', .int .i64 b', .int .i64 c', .int .i64 d'] 64)).cell? ⟨W.heap.size, 1, none⟩ = some (.int .i64 b) := (two_cells W _ _ _ 1).1
  have g0 : ((W.alloc (.cells #[.int .i64 a, .int .i64 b, .int .i64 c, .int .i64 d] 64)).alloc (.cells #[.int .i64 a', .int .i64 b', .int .i64 c', .int .i64 d'] 64)).cell? ⟨W.heap.size + 1, 0, none⟩ = some (.int .i64 a') := (two_cells W _ _ _ 0).2
  have g1 : ((W.alloc (.cells #[.int .i64 a, .int .i64 b, .int .i64 c, .int .i64 d] 64)).alloc (.cells #[.int .i64 a', .int .i64 b', .int .i64 c', .int .i64 d'] 64)).cell? ⟨W.heap.size + 1, 1, none⟩ = some (.int .i64 b') := (two_cells W _ _ _ 1).2
  have hgr : grow W (#[.cells #[.int .i64 a, .int .i64 b, .int .i64 c, .int .i64 d] 64] ++ #[.cells #[.int .i64 a', .int .i64 b', .int .i64 c', .int .i64 d'] 64]) = ((W.alloc (.cells #[.int .i64 a, .int .i64 b, .int .i64 c, .int .i64 d] 64)).alloc (.cells #[.int .i64 a', .int .i64 b', .int .i64 c', .int .i64 d'] 64)) := by rw [alloc_eq_grow, alloc_eq_grow, grow_grow]
  generalize ((W.alloc (.cells #[.int .i64 a, .int .i64 b, .int .i64 c, .int .i64 d] 64)).alloc (.cells #[.int .i64 a', .int .i64 b', .int .i64 c', .int .i64 d'] 64)) = W2 at f0 f1 g0 g1 hgr ⊢
  have hX : ∃ X, grow W X = W2 := ⟨_, hgr⟩
  clear hgr
  have f0' : W2.drew.cell? ⟨W.heap.size, 0, none⟩ = some (.int .i64 a) := f0
  have f1' : W2.drew.cell? ⟨W.heap.size, 1, none⟩ = some (.int .i64 b) := f1
  have g0' : W2.drew.cell? ⟨W.heap.size + 1, 0, none⟩ = some (.int .i64 a') := g0
  have g1' : W2.drew.cell? ⟨W.heap.size + 1, 1, none⟩ = some (.int .i64 b') := g1
  have h4 := h3 W2.heap.size (W2.drew.alloc (.cells #[.int .i64 r, .int .i64 s] 3)) (one_cell W2.drew _ _ 0) (one_cell W2.drew _ _ 1)
  clear h3
  refine wp_region_still_tail 10 (by kernel_rfl) (by kernel_rfl) ?_
  simp only [List.take_succ_cons, List.take_zero, List.drop_succ_cons, List.drop_zero]
  still_step
  still_step
  still_step
  still_step
  still_call (h1 _)
  still_step
  still_step
  still_step
  still_step
  still_call (h2 _)
  refine wpStill_nil ?_
  change wpList _ _ _ _ _ W2.drew
  go_wp2_with (go_at_call 64; refine h4.mono ?_; rintro e w' ⟨rfl, rfl⟩)
  go_ret
  obtain ⟨X, rfl⟩ := hX
  refine ⟨rfl, 1, X ++ #[.cells #[.int .i64 r, .int .i64 s] 3], ?_⟩
  rw [alloc_eq_grow]
  exact grow_grow (W.drewN 1) X _
theorem cmpI_lib (x y : Int) : Lib.compareInt x y = cmpI x y := rfl
theorem cfA_raw (x y : Ar) : (if Lib.compareInt (x.t : Int) y.t ≠ 0 then Lib.compareInt (x.t : Int) y.t else Lib.compareInt (x.l : Int) y.l) = cfA x y := by
  simp only [cmpI_lib]
  rfl
theorem clo_lays (blk off size : Nat) (w : World) : CmpLays Tryz.prog 86 #[] encA 4 cfA blk off size w := by
  intro m os dk _ x y
  rw [← cfA_raw]
  exact clo_raw x.t x.l x.b x.r y.t y.l y.b y.r _
theorem rg_agg (w : World) : (isAgg 64).run Tryz.prog w = .ok true w := Abs.run_isAgg ti64 w
theorem rg_size (w : World) : (Go.sizeOf 64).run Tryz.prog w = .ok 4 w := Abs.run_sizeOf ti64 w
theorem sortRg_spec (l : List Ar) (hl : l.length ≤ 1000000) (hk : KeysOne l) :
    Ctr Tryz.prog G 85 [.lsl 0 4 0 l.length, .d (.fn (.func 86) [] [])] [.row false (regC (rgs l))] .undef [.row false (regC (rgs (l.mergeSort leA)))] := by
  refine sortf_ctr go85 l (l.mergeSort leA) (List.length_mergeSort l) (fun p cap fv w => AnyF.slices_SortFunc_none Tryz.sortRgL p cap fv w) fun _ blk cap w hH hblk => ?_
  have eg : ∀ args w, (callFunc 86 args).run Tryz.prog w = .ok (.enter 86 args) w := enters_of Tryz.func86 (by kernel_rfl) rfl
  have hcon := AnyQ.slices_SortFunc Tryz.sortRgL 4 rg_agg rg_size encA (fun _ => rfl) (fun x v hv => by simp [encA, numsA] at hv; rcases hv with rfl | rfl | rfl | rfl <;> rfl) cfA cfA_swo 86 #[] blk 0 cap l.toArray w eg (clo_lays blk 0 l.toArray.size w) hH hblk (by simp; omega)
  refine hcon.mono ?_
  rintro e w' ⟨he, d', n, os, hp, hs, hw⟩
  exact ⟨he, n, os, by rw [hw, perm_sorted hk hp hs]⟩
def MRg : Muts := fun k => k == 85 || k == 84
theorem MRg_p : MRg 84 = true := rfl
theorem MRg_s : MRg 85 = true := rfl
theorem MRg_n {k : Nat} (h : k ≠ 85 ∧ k ≠ 84) : MRg k = false := by
  simp only [MRg, Bool.or_eq_false_iff, beq_eq_false_iff_ne]; exact h
set_option maxHeartbeats 8000000 in
set_option maxRecDepth 100000 in
theorem regions_spec (g : List Row) (full : Bool) (hg : okGW g) (h : Grd g) :
    Ctr Tryz.prog G 37 [.d (.agg [Gr g full])] [] (.lsl 0 4 0 (regsL g).length) [.row false (regC (rgs (regsL g)))] := by
  have gl := @rowsD_length g
  have g1 := h.gl
  have g2 := h.gw
  refine Ctr.body (M := MRg) hmix Tryz.func37 rfl go37 ?_
  have sp := split_any (G := G) g hg (wholeG g) (whole_in h) full (Nat.le_trans (leaves_few h) (by decide))
  rw [show splitX g ((wholeG g).sz + 1) (wholeG g) = leavesX g (wholeG g) from rfl] at sp
  have so := sortRg_spec (G := G) (leavesX g (wholeG g)) (leaves_few h) (keys_of (leavesOK (whole_in h)))
  rw [show (leavesX g (wholeG g)).mergeSort leA = regsL g from rfl] at so
  have le : (regsL g).length = (leavesX g (wholeG g)).length := (regs_perm g).length_eq
  rw [le]
  generalize leavesX g (wholeG g) = L at *
  simp (config := { maxSteps := 1000000 }) (disch := ((try simp only [awL]); omega)) only [QR, QS, QT, QU, QV, QW, QX, QY, QZ, Q0, Q1, Q2, MRg_s, MRg_p, MRg_n, gl, Tryz.f37, ↓awU, awV, awF, Qa, Qb, Qc, Qd, forall_const, ↓reduceIte, ↓reduceDIte, ↓Qe, Qf, Qg, Qh, Qi, Qj, Qk, Ql, Qm, Qn, Qo, Qp, Qq, Qr, Qs, implies_true, Qt, Qu, Qv, Qw, Qx, Qy, Qz, QA, QB, QC, QD, QE, QF, QG, QH, QI, QJ, QK, QL, QM, QN, QO, QP, QQ]
  refine CallC.of (width_spec g false hg) (by rfl) ?_
  simp (config := { maxSteps := 1000000 }) (disch := ((try simp only [awL]); omega)) only [QR, QS, QT, QU, QV, QW, QX, QY, QZ, Q0, Q1, Q2, MRg_s, MRg_p, MRg_n, gl, ↓awU, awV, awF, Qa, Qb, Qc, Qd, forall_const, ↓reduceIte, ↓reduceDIte, ↓Qe, Qf, Qg, Qh, Qi, Qj, Qk, Ql, Qm, Qn, Qo, Qp, Qq, Qr, Qs, implies_true, Qt, Qu, Qv, Qw, Qx, Qy, Qz, QA, QB, QC, QD, QE, QF, QG, QH, QI, QJ, QK, QL, QM, QN, QO, QP, QQ]
  refine CallC.by sp (by rfl) (by rfl) (Nat.zero_le _) ?_
  simp (config := { maxSteps := 1000000 }) (disch := ((try simp only [awL]); omega)) only [QR, QS, QT, QU, QV, QW, QX, QY, QZ, Q0, Q1, Q2, MRg_s, MRg_p, MRg_n, gl, ↓awU, awV, awF, Qa, Qb, Qc, Qd, forall_const, ↓reduceIte, ↓reduceDIte, ↓Qe, Qf, Qg, Qh, Qi, Qj, Qk, Ql, Qm, Qn, Qo, Qp, Qq, Qr, Qs, implies_true, Qt, Qu, Qv, Qw, Qx, Qy, Qz, QA, QB, QC, QD, QE, QF, QG, QH, QI, QJ, QK, QL, QM, QN, QO, QP, QQ]
  refine ⟨by rfl, CallC.by so (by rfl) (by rfl) (Nat.le_refl _) ?_⟩
  simp (config := { maxSteps := 1000000 }) (disch := ((try simp only [awL]); omega)) only [QR, QS, QT, QU, QV, QW, QX, QY, QZ, Q0, Q1, Q2, MRg_s, MRg_p, MRg_n, gl, ↓awU, awV, awF, Qa, Qb, Qc, Qd, forall_const, ↓reduceIte, ↓reduceDIte, ↓Qe, Qf, Qg, Qh, Qi, Qj, Qk, Ql, Qm, Qn, Qo, Qp, Qq, Qr, Qs, implies_true, Qt, Qu, Qv, Qw, Qx, Qy, Qz, QA, QB, QC, QD, QE, QF, QG, QH, QI, QJ, QK, QL, QM, QN, QO, QP, QQ]
  first | exact ⟨[some 1], rfl, by simp, by simp [HWeak, BWeak, SWeak, AWeak], .inl (by simp [AWeak, SWeak])⟩ | trace_state
end Go.Proofs.YtacepalmphbnfaaGreatDoor

namespace Go.Proofs.YtacepalmphbnfaaGreatDoor
open Go Go.Proofs Go.Abs
/-! Sheet, plain: a cut at a blank column. -/
theorem perm_flat {α β : Type} {F F' : α → List β} : ∀ {l : List α}, (∀ x ∈ l, (F x).Perm (F' x)) → (l.flatMap F).Perm (l.flatMap F')
  | [], _ => List.Perm.refl _
  | x :: l, h => by
    rw [List.flatMap_cons, List.flatMap_cons]
    exact (h x (by simp)).append (perm_flat fun y hy => h y (by simp [hy]))
theorem perm_flat_app {α β : Type} {F F' : α → List β} : ∀ {l : List α}, (l.flatMap fun x => F x ++ F' x).Perm (l.flatMap F ++ l.flatMap F')
  | [] => List.Perm.refl _
  | x :: l => by
    rw [List.flatMap_cons, List.flatMap_cons, List.flatMap_cons]
    have ih := perm_flat_app (F := F) (F' := F') (l := l)
    refine (List.Perm.append_left _ ih).trans ?_
    rw [List.append_assoc, List.append_assoc]
    refine List.Perm.append_left _ ?_
    rw [← List.append_assoc, ← List.append_assoc]
    exact List.perm_append_comm.append_right _
/-- Cuts at all blank places of an axis. -/
theorem cut_list {F : Nat → Nat → List Ar} {L H : Nat} {bl : Nat → Prop} (hcut : ∀ lo i hi, L ≤ lo → lo ≤ i → i < hi → hi ≤ H → bl i → (F lo hi).Perm (F lo i ++ F (i + 1) hi)) (hnil : ∀ lo, F lo lo = []) :
    ∀ (l : List (Nat × Nat)) (lo hi : Nat), L ≤ lo → lo ≤ hi → hi ≤ H → RunsOf (fun k => lo ≤ k ∧ k < hi ∧ ¬ bl k) l → (F lo hi).Perm (l.flatMap fun p => F p.1 p.2) := by
  have drop : ∀ (n lo hi : Nat), L ≤ lo → lo + n ≤ hi → hi ≤ H → (∀ k, lo ≤ k → k < lo + n → bl k) → (F lo hi).Perm (F (lo + n) hi) := by
    intro n
    induction n with
    | zero => intro lo hi _ _ _ _; exact List.Perm.refl _
    | succ n ih =>
      intro lo hi h1 h2 h3 hb
      have c := hcut lo lo hi h1 (Nat.le_refl _) (by omega) h3 (hb lo (Nat.le_refl _) (by omega))
      rw [hnil, List.nil_append] at c
      have := ih (lo + 1) hi (by omega) (by omega) h3 fun k k1 k2 => hb k (by omega) (by omega)
      rw [show lo + (n + 1) = lo + 1 + n by omega]
      exact c.trans this
  intro l
  induction l with
  | nil =>
    intro lo hi h1 h2 h3 R
    have := drop (hi - lo) lo hi h1 (by omega) h3 fun k k1 k2 => Classical.byContradiction fun q => by
      obtain ⟨x, hx, _⟩ := (R.met k).1 ⟨k1, by omega, q⟩
      cases hx
    rw [show lo + (hi - lo) = hi by omega, hnil] at this
    exact this
  | cons p t ih =>
    intro lo hi h1 h2 h3 R
    have bp := R.bnd p (by simp)
    obtain ⟨i1, i2, _⟩ := (R.met p.1).2 ⟨p, by simp, Nat.le_refl _, bp⟩
    obtain ⟨j1, j2, _⟩ := (R.met (p.2 - 1)).2 ⟨p, by simp, by omega, by omega⟩
    have po := List.pairwise_cons.1 R.ord
    have d1 := drop (p.1 - lo) lo hi h1 (by omega) h3 fun k k1 k2 => Classical.byContradiction fun q => by
      obtain ⟨x, hx, x1, x2⟩ := (R.met k).1 ⟨k1, by omega, q⟩
      rcases List.mem_cons.1 hx with rfl | hx
      · omega
      · have := po.1 x hx; omega
    rw [show lo + (p.1 - lo) = p.1 by omega] at d1
    rw [List.flatMap_cons]
    refine d1.trans ?_
    rcases Nat.lt_or_ge p.2 hi with h | h
    · have hb : bl p.2 := Classical.byContradiction fun q => by
        obtain ⟨x, hx, x1, x2⟩ := (R.met p.2).1 ⟨by omega, h, q⟩
        rcases List.mem_cons.1 hx with rfl | hx
        · omega
        · have := po.1 x hx; omega
      refine (hcut p.1 p.2 hi (by omega) (by omega) h h3 hb).trans (List.Perm.append_left _ ?_)
      refine ih (p.2 + 1) hi (by omega) (by omega) h3 ⟨fun x hx => R.bnd x (by simp [hx]), fun k => ⟨?_, ?_⟩, po.2⟩
      · rintro ⟨k1, k2, k3⟩
        obtain ⟨x, hx, x1, x2⟩ := (R.met k).1 ⟨by omega, k2, k3⟩
        rcases List.mem_cons.1 hx with rfl | hx
        · omega
        · exact ⟨x, hx, x1, x2⟩
      · rintro ⟨x, hx, x1, x2⟩
        have := po.1 x hx
        obtain ⟨k1, k2, k3⟩ := (R.met k).2 ⟨x, by simp [hx], x1, x2⟩
        exact ⟨by omega, k2, k3⟩
    · have e : p.2 = hi := by omega
      have et : t = [] := by
        cases t with
        | nil => rfl
        | cons y t =>
          have := po.1 y (by simp)
          have by' := R.bnd y (by simp)
          obtain ⟨k1, k2, _⟩ := (R.met y.1).2 ⟨y, by simp, Nat.le_refl _, by'⟩
          omega
      rw [et, e, List.flatMap_nil, List.append_nil]
/-- A cut at a blank column, up to order. -/
theorem cutA_col {g : List Row} : ∀ (n : Nat) (a : Ar), InG g a → a.sz < n → ∀ j, a.l ≤ j → j < a.r → (∀ p, a.t ≤ p → p < a.b → inkG g p j = false) →
    (leavesX g a).Perm (leavesX g ⟨a.t, a.l, a.b, j⟩ ++ leavesX g ⟨a.t, j + 1, a.b, a.r⟩)
  | 0, _, _, h, _, _, _, _ => absurd h (Nat.not_lt_zero _)
  | n + 1, a, h, hn, j, h1, h2, hb => by
    obtain ⟨k1, k2, k3, k4, k5⟩ := h
    have hsz : (a.b - a.t) + (a.r - a.l) < n + 1 := hn
    have g1 : InG g ⟨a.t, a.l, a.b, j⟩ := ⟨k1, k2, h1, by simp only; omega, k5⟩
    have g2 : InG g ⟨a.t, j + 1, a.b, a.r⟩ := ⟨k1, k2, by simp only; omega, k4, k5⟩
    have sp : ∀ p q, inkG g p q = true → (a.In p q ↔ Ar.In ⟨a.t, a.l, a.b, j⟩ p q ∨ Ar.In ⟨a.t, j + 1, a.b, a.r⟩ p q) := by
      intro p q k
      have : q = j → ¬ (a.t ≤ p ∧ p < a.b) := by
        rintro rfl ⟨q1, q2⟩
        rw [hb p q1 q2] at k; cases k
      unfold Ar.In
      simp only
      constructor
      · rintro ⟨i1, i2, i3, i4⟩
        have : q ≠ j := fun e => this e ⟨i1, i2⟩
        rcases Nat.lt_or_ge q j with h | h
        · exact .inl ⟨i1, i2, i3, h⟩
        · exact .inr ⟨i1, i2, by omega, i4⟩
      · rintro (⟨i1, i2, i3, i4⟩ | ⟨i1, i2, i3, i4⟩)
        · exact ⟨i1, i2, i3, by omega⟩
        · exact ⟨i1, i2, by omega, i4⟩
    by_cases hk1 : HasInk g ⟨a.t, a.l, a.b, j⟩
    · by_cases hk2 : HasInk g ⟨a.t, j + 1, a.b, a.r⟩
      · have hk : HasInk g a := by
          obtain ⟨p, q, i, k⟩ := hasInk_iff.1 hk1
          exact hasInk_iff.2 ⟨p, q, (sp _ _ k).2 (.inl i), k⟩
        obtain ⟨b0, b1, b2, b3, b4, b5⟩ := boxB_in ⟨k1, k2, k3, k4, k5⟩ hk
        have R := absR_runs g a
        by_cases c1 : 1 < (absR g a).length
        · rw [← row_sum (a := a) ⟨k1, k2, k3, k4, k5⟩ a.l a.r k3 k4 fun p q _ _ _ => Iff.rfl]
          have short : ∀ p ∈ absR g a, a.t ≤ p.1 ∧ p.2 ≤ a.b ∧ p.1 < p.2 ∧ p.2 - p.1 < a.b - a.t := fun p hp => by
            obtain ⟨x, hx, rfl⟩ := List.mem_map.1 hp
            have RR := rowsP_runs g a
            have := RR.bnd x hx
            have := runs_short RR (by rw [← absR_len]; exact c1) x hx
            simp only; omega
          have step : ∀ p ∈ absR g a, (leavesX g ⟨p.1, a.l, p.2, a.r⟩).Perm (leavesX g ⟨p.1, a.l, p.2, j⟩ ++ leavesX g ⟨p.1, j + 1, p.2, a.r⟩) := fun p hp => by
            have s := short p hp
            exact cutA_col n ⟨p.1, a.l, p.2, a.r⟩ ⟨by simp only; omega, by simp only; omega, k3, k4, k5⟩ (by simp only [Ar.sz]; omega) j h1 h2 fun q q1 q2 => hb q (by simp only at q1; omega) (by simp only at q2; omega)
          refine (perm_flat step).trans (perm_flat_app.trans ?_)
          have Rb : RunsOf (fun k => a.t ≤ k ∧ k < a.b ∧ ¬ (∀ q, a.l ≤ q → q < a.r → inkG g k q = false)) (absR g a) := R.congr fun k => ⟨fun ⟨q, i, e⟩ => ⟨i.1, i.2.1, fun f => by rw [f q i.2.2.1 i.2.2.2] at e; cases e⟩, fun ⟨i1, i2, f⟩ => Classical.byContradiction fun c => f fun q q1 q2 => by
            cases e : inkG g k q
            · rfl
            · exact absurd ⟨q, ⟨i1, i2, q1, q2⟩, e⟩ c⟩
          have nil : ∀ (l r lo : Nat), leavesX g ⟨lo, l, lo, r⟩ = [] := fun l r lo => leaves_none fun hk => by
            obtain ⟨p, q, i, _⟩ := hasInk_iff.1 hk
            have := i.1; have := i.2.1; simp only at *; omega
          refine List.Perm.append ?_ ?_
          · refine (cut_list (F := fun lo hi => leavesX g ⟨lo, a.l, hi, j⟩) (L := a.t) (H := a.b) (fun lo i hi l1 l2 l3 l4 f => ?_) (fun lo => nil _ _ lo) (absR g a) a.t a.b (Nat.le_refl _) k1 (Nat.le_refl _) Rb).symm
            rw [cutA_row (a := ⟨lo, a.l, hi, j⟩) ⟨by simp only; omega, by simp only; omega, h1, by simp only; omega, k5⟩ i l2 l3 fun q q1 q2 => f q q1 (by simp only at q2; omega)]
          · refine (cut_list (F := fun lo hi => leavesX g ⟨lo, j + 1, hi, a.r⟩) (L := a.t) (H := a.b) (fun lo i hi l1 l2 l3 l4 f => ?_) (fun lo => nil _ _ lo) (absR g a) a.t a.b (Nat.le_refl _) k1 (Nat.le_refl _) Rb).symm
            rw [cutA_row (a := ⟨lo, j + 1, hi, a.r⟩) ⟨by simp only; omega, by simp only; omega, by simp only; omega, k4, k5⟩ i l2 l3 fun q q1 q2 => f q (by simp only at q1; omega) q2]
        · have eC : absC g a = absC g ⟨a.t, a.l, a.b, j⟩ ++ absC g ⟨a.t, j + 1, a.b, a.r⟩ := by
            refine (absC_runs g a).uniq (((absC_runs g _).append (absC_runs g _) ?_).congr fun k => ?_)
            · rintro x y ⟨_, i1, _⟩ ⟨_, i2, _⟩
              have := i1.2.2.2; have := i2.2.2.1
              simp only at *; omega
            · constructor
              · rintro (⟨q, i, k⟩ | ⟨q, i, k⟩)
                · exact ⟨q, (sp _ _ k).2 (.inl i), k⟩
                · exact ⟨q, (sp _ _ k).2 (.inr i), k⟩
              · rintro ⟨q, i, k⟩
                rcases (sp _ _ k).1 i with i | i
                · exact .inl ⟨q, i, k⟩
                · exact .inr ⟨q, i, k⟩
          have l1 := List.length_pos_iff.2 (absC_ne.2 hk1)
          have l2 := List.length_pos_iff.2 (absC_ne.2 hk2)
          have C := absC_runs g a
          rw [leaves_eq ⟨k1, k2, k3, k4, k5⟩ hk, if_neg c1, if_pos (by rw [eC, List.length_append]; omega)]
          have wide : ((absC g a).flatMap fun p => leavesX g ⟨(boxB g a).t, p.1, (boxB g a).b, p.2⟩) = (absC g a).flatMap fun p => leavesX g ⟨a.t, p.1, a.b, p.2⟩ := flatMap_ext fun p hp => by
            have bp := C.bnd p hp
            obtain ⟨_, i1, _⟩ := (C.met p.1).2 ⟨p, hp, Nat.le_refl _, bp⟩
            obtain ⟨_, i2, _⟩ := (C.met (p.2 - 1)).2 ⟨p, hp, by omega, by omega⟩
            have e1 := i1.2.2.1; have e2 := i2.2.2.2
            refine leaves_same ⟨b0.tb, b0.bg, by simp only; omega, by simp only; omega, k5⟩ ⟨k1, k2, by simp only; omega, by simp only; omega, k5⟩ fun x y k => ⟨fun i => ?_, fun i => ?_⟩
            · have i1 := i.1; have i2 := i.2.1; have i3 := i.2.2.1; have i4 := i.2.2.2
              simp only at i1 i2 i3 i4
              exact ⟨by simp only; omega, by simp only; omega, i3, i4⟩
            · have i1 := i.1; have i2 := i.2.1; have i3 := i.2.2.1; have i4 := i.2.2.2
              simp only at i1 i2 i3 i4
              have := b5 x y ⟨i1, i2, by omega, by omega⟩ k
              exact ⟨this.1, this.2.1, i3, i4⟩
          rw [wide, eC, List.flatMap_append]
          have nil : ∀ (lo : Nat), leavesX g ⟨a.t, lo, a.b, lo⟩ = [] := fun lo => leaves_none fun hk => by
            obtain ⟨p, q, i, _⟩ := hasInk_iff.1 hk
            have := i.2.2.1; have := i.2.2.2; simp only at *; omega
          have Cb : ∀ (lo hi : Nat), RunsOf (fun k => lo ≤ k ∧ k < hi ∧ ¬ (∀ p, a.t ≤ p → p < a.b → inkG g p k = false)) (absC g ⟨a.t, lo, a.b, hi⟩) := fun lo hi => (absC_runs g _).congr fun k => ⟨fun ⟨q, i, e⟩ => ⟨i.2.2.1, i.2.2.2, fun f => by rw [f q i.1 i.2.1] at e; cases e⟩, fun ⟨i1, i2, f⟩ => Classical.byContradiction fun c => f fun q q1 q2 => by
            cases e : inkG g q k
            · rfl
            · exact absurd ⟨q, ⟨q1, q2, i1, i2⟩, e⟩ c⟩
          refine List.Perm.append ?_ ?_
          · refine (cut_list (F := fun lo hi => leavesX g ⟨a.t, lo, a.b, hi⟩) (L := a.l) (H := j) (fun lo i hi l1 l2 l3 l4 f => ?_) nil _ a.l j (Nat.le_refl _) h1 (Nat.le_refl _) (Cb a.l j)).symm
            exact cutA_col n ⟨a.t, lo, a.b, hi⟩ ⟨k1, k2, by simp only; omega, by simp only; omega, k5⟩ (by simp only [Ar.sz]; omega) i l2 l3 f
          · refine (cut_list (F := fun lo hi => leavesX g ⟨a.t, lo, a.b, hi⟩) (L := j + 1) (H := a.r) (fun lo i hi l1 l2 l3 l4 f => ?_) nil _ (j + 1) a.r (Nat.le_refl _) h2 (Nat.le_refl _) (Cb (j + 1) a.r)).symm
            exact cutA_col n ⟨a.t, lo, a.b, hi⟩ ⟨k1, k2, by simp only; omega, by simp only; omega, k5⟩ (by simp only [Ar.sz]; omega) i l2 l3 f
      · rw [leaves_none hk2, List.append_nil, leaves_same ⟨k1, k2, k3, k4, k5⟩ g1 fun p q k => by
          rw [sp p q k]
          exact or_iff_left fun i => hk2 (hasInk_iff.2 ⟨p, q, i, k⟩)]
    · rw [leaves_none hk1, List.nil_append, leaves_same ⟨k1, k2, k3, k4, k5⟩ g2 fun p q k => by
        rw [sp p q k]
        exact or_iff_right fun i => hk1 (hasInk_iff.2 ⟨p, q, i, k⟩)]
end Go.Proofs.YtacepalmphbnfaaGreatDoor

namespace Go.Proofs.YtacepalmphbnfaaGreatDoor
open Go Go.Proofs Go.Abs
/-! Sheet, plain: the box is tight; the first blank row or column. -/
theorem box_rt {g : List Row} {a : Ar} (hk : HasInk g a) : ∃ q, a.In (boxB g a).t q ∧ inkG g (boxB g a).t q = true := by
  have h0 := List.length_pos_iff.2 (absR_ne.2 hk)
  have hm := memD (d := ((0 : Nat), (0 : Nat))) h0
  exact ((absR_runs g a).met _).2 ⟨_, hm, Nat.le_refl _, (absR_runs g a).bnd _ hm⟩
theorem box_rb {g : List Row} {a : Ar} (hk : HasInk g a) : ∃ q, a.In ((boxB g a).b - 1) q ∧ inkG g ((boxB g a).b - 1) q = true := by
  have h0 := List.length_pos_iff.2 (absR_ne.2 hk)
  have hm := memD (d := ((0 : Nat), (0 : Nat))) (show (absR g a).length - 1 < (absR g a).length by omega)
  have hb := (absR_runs g a).bnd _ hm
  refine ((absR_runs g a).met _).2 ⟨_, hm, ?_, ?_⟩
  · show _ ≤ ((absR g a).getD ((absR g a).length - 1) (0, 0)).2 - 1; omega
  · show ((absR g a).getD ((absR g a).length - 1) (0, 0)).2 - 1 < _; omega
theorem box_cl {g : List Row} {a : Ar} (hk : HasInk g a) : ∃ p, a.In p (boxB g a).l ∧ inkG g p (boxB g a).l = true := by
  have h0 := List.length_pos_iff.2 (absC_ne.2 hk)
  have hm := memD (d := ((0 : Nat), (0 : Nat))) h0
  exact ((absC_runs g a).met _).2 ⟨_, hm, Nat.le_refl _, (absC_runs g a).bnd _ hm⟩
theorem box_cr {g : List Row} {a : Ar} (hk : HasInk g a) : ∃ p, a.In p ((boxB g a).r - 1) ∧ inkG g p ((boxB g a).r - 1) = true := by
  have h0 := List.length_pos_iff.2 (absC_ne.2 hk)
  have hm := memD (d := ((0 : Nat), (0 : Nat))) (show (absC g a).length - 1 < (absC g a).length by omega)
  have hb := (absC_runs g a).bnd _ hm
  refine ((absC_runs g a).met _).2 ⟨_, hm, ?_, ?_⟩
  · show _ ≤ ((absC g a).getD ((absC g a).length - 1) (0, 0)).2 - 1; omega
  · show ((absC g a).getD ((absC g a).length - 1) (0, 0)).2 - 1 < _; omega
theorem has_row {g : List Row} {l r i : Nat} : HasInk g ⟨i, l, i + 1, r⟩ ↔ ∃ q, l ≤ q ∧ q < r ∧ inkG g i q = true := by
  constructor
  · rintro ⟨p, q, h1, h2, h3, h4, h5⟩
    simp only at h1 h2 h3 h4
    obtain rfl : p = i := by omega
    exact ⟨q, h3, h4, h5⟩
  · rintro ⟨q, h1, h2, h3⟩
    exact ⟨i, q, Nat.le_refl _, Nat.lt_succ_self _, h1, h2, h3⟩
theorem has_col {g : List Row} {t b j : Nat} : HasInk g ⟨t, j, b, j + 1⟩ ↔ ∃ p, t ≤ p ∧ p < b ∧ inkG g p j = true := by
  constructor
  · rintro ⟨p, q, h1, h2, h3, h4, h5⟩
    simp only at h1 h2 h3 h4
    obtain rfl : q = j := by omega
    exact ⟨p, h1, h2, h5⟩
  · rintro ⟨p, h1, h2, h3⟩
    exact ⟨p, j, h1, h2, Nat.le_refl _, Nat.lt_succ_self _, h3⟩
theorem tight1 {g : List Row} {a : Ar} (h : InG g a) (hk : HasInk g a) {i : Nat} (h1 : a.t ≤ i) (h2 : i ≤ (boxB g a).t) : decide (i ≠ (boxB g a).t) = true ↔ ¬ HasInk g ⟨i, a.l, i + 1, a.r⟩ := by
  obtain ⟨b0, b1, b2, b3, b4, b5⟩ := boxB_in h hk
  rw [decide_eq_true_eq, has_row]
  have := b0.tb
  constructor
  · rintro hne ⟨q, q1, q2, q3⟩
    have := (b5 i q ⟨h1, by omega, q1, q2⟩ q3).1
    omega
  · intro hn he
    obtain ⟨q, q1, q2⟩ := box_rt hk
    rw [← he] at q1 q2
    exact hn ⟨q, q1.2.2.1, q1.2.2.2, q2⟩
theorem tight2 {g : List Row} {a : Ar} (h : InG g a) (hk : HasInk g a) {k : Nat} (h1 : (boxB g a).b ≤ k + 1) (h2 : k + 1 ≤ a.b) : decide (k + 1 ≠ (boxB g a).b) = true ↔ ¬ HasInk g ⟨k, a.l, k + 1, a.r⟩ := by
  obtain ⟨b0, b1, b2, b3, b4, b5⟩ := boxB_in h hk
  rw [decide_eq_true_eq, has_row]
  have := b0.tb
  constructor
  · rintro hne ⟨q, q1, q2, q3⟩
    have := (b5 k q ⟨by omega, by omega, q1, q2⟩ q3).2.1
    omega
  · intro hn he
    obtain ⟨q, q1, q2⟩ := box_rb hk
    rw [← he, Nat.add_sub_cancel] at q1 q2
    exact hn ⟨q, q1.2.2.1, q1.2.2.2, q2⟩
theorem tight3 {g : List Row} {a : Ar} (h : InG g a) (hk : HasInk g a) {j : Nat} (h1 : a.l ≤ j) (h2 : j ≤ (boxB g a).l) : decide (j ≠ (boxB g a).l) = true ↔ ¬ HasInk g ⟨(boxB g a).t, j, (boxB g a).b, j + 1⟩ := by
  obtain ⟨b0, b1, b2, b3, b4, b5⟩ := boxB_in h hk
  rw [decide_eq_true_eq, has_col]
  have := b0.lr
  constructor
  · rintro hne ⟨p, p1, p2, p3⟩
    have := (b5 p j ⟨by omega, by omega, h1, by omega⟩ p3).2.2.1
    omega
  · intro hn he
    obtain ⟨p, q1, q2⟩ := box_cl hk
    have q3 := b5 _ _ q1 q2
    rw [← he] at q2
    exact hn ⟨p, q3.1, q3.2.1, q2⟩
theorem tight4 {g : List Row} {a : Ar} (h : InG g a) (hk : HasInk g a) {k : Nat} (h1 : (boxB g a).r ≤ k + 1) (h2 : k + 1 ≤ a.r) : decide (k + 1 ≠ (boxB g a).r) = true ↔ ¬ HasInk g ⟨(boxB g a).t, k, (boxB g a).b, k + 1⟩ := by
  obtain ⟨b0, b1, b2, b3, b4, b5⟩ := boxB_in h hk
  rw [decide_eq_true_eq, has_col]
  obtain ⟨p0, q0, q1⟩ := box_cr hk
  have b9 := b5 _ _ q0 q1
  constructor
  · rintro hne ⟨p, p1, p2, p3⟩
    have := b9.2.2.1
    have := (b5 p k ⟨by omega, by omega, by omega, by omega⟩ p3).2.2.2
    omega
  · intro hn he
    rw [← he, Nat.add_sub_cancel] at q1
    exact hn ⟨p0, b9.1, b9.2.1, q1⟩
theorem leastI (P : Nat → Prop) (lo : Nat) : ∀ n, (∀ k, lo ≤ k → k < lo + n → ¬ P k) ∨ ∃ i, lo ≤ i ∧ i < lo + n ∧ P i ∧ ∀ k, lo ≤ k → k < i → ¬ P k
  | 0 => .inl fun k h1 h2 => by omega
  | n + 1 => by
    rcases leastI P lo n with h | ⟨i, h1, h2, h3, h4⟩
    · by_cases e : P (lo + n)
      · exact .inr ⟨lo + n, by omega, by omega, e, h⟩
      · refine .inl fun k h1 h2 => ?_
        rcases Nat.lt_or_ge k (lo + n) with h5 | h5
        · exact h k h1 h5
        · obtain rfl : k = lo + n := by omega
          exact e
    · exact .inr ⟨i, h1, by omega, h3, h4⟩
/-- The leaves of an area are those of its box. -/
theorem leaves_box {g : List Row} {a : Ar} (h : InG g a) (hk : HasInk g a) : leavesX g a = leavesX g (boxB g a) := by
  obtain ⟨b0, b1, b2, b3, b4, b5⟩ := boxB_in h hk
  refine leaves_same h b0 fun p q k => ⟨fun i => b5 p q i k, fun i => ?_⟩
  obtain ⟨i1, i2, i3, i4⟩ := i
  exact ⟨by omega, by omega, by omega, by omega⟩
theorem box_ne {g : List Row} {a : Ar} (h : InG g a) (hk : HasInk g a) : (boxB g a).t < (boxB g a).b ∧ (boxB g a).l < (boxB g a).r := by
  obtain ⟨b0, b1, b2, b3, b4, b5⟩ := boxB_in h hk
  obtain ⟨p, q, i, k⟩ := hasInk_iff.1 hk
  obtain ⟨i1, i2, i3, i4⟩ := b5 p q i k
  omega
/-- A tight area without a blank row or column. -/
theorem box_leaf {g : List Row} {a : Ar} (h : InG g a) (hk : HasInk g a) (hr : ∀ k, (boxB g a).t ≤ k → k < (boxB g a).b → HasInk g ⟨k, (boxB g a).l, k + 1, (boxB g a).r⟩)
    (hc : ∀ k, (boxB g a).l ≤ k → k < (boxB g a).r → HasInk g ⟨(boxB g a).t, k, (boxB g a).b, k + 1⟩) : leavesX g a = [boxB g a] := by
  obtain ⟨n1, n2⟩ := box_ne h hk
  rw [leaves_box h hk]
  exact leaf_one ⟨(boxB_in h hk).1, n1, n2, fun p p1 p2 => has_row.1 (hr p p1 p2), fun q q1 q2 => has_col.1 (hc q q1 q2)⟩
end Go.Proofs.YtacepalmphbnfaaGreatDoor

namespace Go.Proofs.YtacepalmphbnfaaGreatDoor
open Go Go.Proofs Go.Abs
variable {G : Globals}
/-! Sheet: the reference's tighten. -/
set_option maxHeartbeats 16000000 in
set_option maxRecDepth 100000 in
theorem tighten_spec (g : List Row) (fl : Bool) (hg : okGW g) (a : Ar) (h : InG g a) (hk : HasInk g a) :
    Ctr Tryz.prog G 123 [.d (.agg [Gr g fl]), .d (RgD a.rg)] [] (.d (RgD (boxB g a).rg)) [] := by
  obtain ⟨b0, b1, b2, b3, b4, b5⟩ := boxB_in h hk
  obtain ⟨n1, n2⟩ := box_ne h hk
  have T1 := @tight1 g a h hk
  have T2 := @tight2 g a h hk
  have T3 := @tight3 g a h hk
  have T4 := @tight4 g a h hk
  clear b5
  generalize boxB g a = B at *
  obtain ⟨k1, k2, k3, k4, k5⟩ := h
  refine Ctr.pure (M := M0) hmix Tryz.func123 rfl go123 ?_
  simp (config := { maxSteps := 1000000 }) (disch := ((try simp only [awL]); omega)) only [QR, QS, QT, QU, QV, QW, QX, QY, QZ, Q0, Q1, Q2, Tryz.f123, ↓awU, awV, awF, Qa, Qb, Qc, Qd, forall_const, ↓reduceIte, ↓reduceDIte, ↓Qe, Qf, Qg, Qh, Qi, Qj, Qk, Ql, Qm, Qn, Qo, Qp, Qq, Qr, Qs, implies_true, Qt, Qu, Qv, Qw, Qx, Qy, Qz, QA, QB, QC, QD, QE, QF, QG, QH, QI, QJ, QK, QL, QM, QN, QO, QP, QQ]
  refine LoopC.fr 28 (α := Nat) (fun i => B.t - i) (fun _ => []) (fun i => [.box [.d (Gr g fl)], .box [.d (.int .i64 i), .d (.int .i64 a.l), .d (.int .i64 a.b), .d (.int .i64 a.r)], .box [.d (.int .i64 0), .d (.int .i64 0), .d (.int .i64 0), .d (.int .i64 0)]]) (fun i => a.t ≤ i ∧ i ≤ B.t) a.t ⟨Nat.le_refl _, b1⟩ ?_ ?_
  · exact ⟨[some 0, some 1, some 2], rfl, by simp, by simp [setsA, keepA, SWeak, AWeak], by simp [HWeak, BWeak, SWeak, AWeak]⟩
  · rintro i ⟨i1, i2⟩
    have rb := rblank_spec (G := G) g false hg ⟨i, a.l, i + 1, a.r⟩ (by simp only; omega) (by simp only; omega) (by simp only; omega) (by simp only; omega) (decide (i ≠ B.t)) (T1 i1 i2)
    simp only [awK, Nat.reduceMod, Nat.reduceDiv, reduceIte]
    by_cases hi : i ≠ B.t
    · rw [decide_eq_true hi] at rb
      simp (config := { maxSteps := 1000000 }) (disch := ((try simp only [awL]); omega)) only [QR, QS, QT, QU, QV, QW, QX, QY, QZ, Q0, Q1, Q2, ↓awU, awV, awF, Qa, Qb, Qc, Qd, forall_const, ↓reduceIte, ↓reduceDIte, ↓Qe, Qf, Qg, Qh, Qi, Qj, Qk, Ql, Qm, Qn, Qo, Qp, Qq, Qr, Qs, implies_true, Qt, Qu, Qv, Qw, Qx, Qy, Qz, QA, QB, QC, QD, QE, QF, QG, QH, QI, QJ, QK, QL, QM, QN, QO, QP, QQ]
      refine CallC.of (rrow_spec ⟨i, a.l, a.b, a.r⟩ (i : Int) (by omega) (by omega)) (by rfl) ?_
      simp (config := { maxSteps := 1000000 }) (disch := ((try simp only [awL]); omega)) only [QR, QS, QT, QU, QV, QW, QX, QY, QZ, Q0, Q1, Q2, ↓awU, awV, awF, Qa, Qb, Qc, Qd, forall_const, ↓reduceIte, ↓reduceDIte, ↓Qe, Qf, Qg, Qh, Qi, Qj, Qk, Ql, Qm, Qn, Qo, Qp, Qq, Qr, Qs, implies_true, Qt, Qu, Qv, Qw, Qx, Qy, Qz, QA, QB, QC, QD, QE, QF, QG, QH, QI, QJ, QK, QL, QM, QN, QO, QP, QQ]
      refine CallC.of rb (by rfl) ?_
      simp (config := { maxSteps := 1000000 }) (disch := ((try simp only [awL]); omega)) only [QR, QS, QT, QU, QV, QW, QX, QY, QZ, Q0, Q1, Q2, ↓awU, awV, awF, Qa, Qb, Qc, Qd, forall_const, ↓reduceIte, ↓reduceDIte, ↓Qe, Qf, Qg, Qh, Qi, Qj, Qk, Ql, Qm, Qn, Qo, Qp, Qq, Qr, Qs, implies_true, Qt, Qu, Qv, Qw, Qx, Qy, Qz, QA, QB, QC, QD, QE, QF, QG, QH, QI, QJ, QK, QL, QM, QN, QO, QP, QQ]
      exact ⟨by rfl, i + 1, ⟨by omega, by omega⟩, by simp only; omega, ⟨[some 0, some 1, some 2], rfl, by simp, by simp [setsA, keepA, SWeak, AWeak], by simp [HWeak, BWeak, SWeak, AWeak]⟩⟩
    · have hi : i = B.t := Decidable.not_not.1 hi
      rw [decide_eq_false (fun q => q hi)] at rb
      simp (config := { maxSteps := 1000000 }) (disch := ((try simp only [awL]); omega)) only [QR, QS, QT, QU, QV, QW, QX, QY, QZ, Q0, Q1, Q2, ↓awU, awV, awF, Qa, Qb, Qc, Qd, forall_const, ↓reduceIte, ↓reduceDIte, ↓Qe, Qf, Qg, Qh, Qi, Qj, Qk, Ql, Qm, Qn, Qo, Qp, Qq, Qr, Qs, implies_true, Qt, Qu, Qv, Qw, Qx, Qy, Qz, QA, QB, QC, QD, QE, QF, QG, QH, QI, QJ, QK, QL, QM, QN, QO, QP, QQ]
      refine CallC.of (rrow_spec ⟨i, a.l, a.b, a.r⟩ (i : Int) (by omega) (by omega)) (by rfl) ?_
      simp (config := { maxSteps := 1000000 }) (disch := ((try simp only [awL]); omega)) only [QR, QS, QT, QU, QV, QW, QX, QY, QZ, Q0, Q1, Q2, ↓awU, awV, awF, Qa, Qb, Qc, Qd, forall_const, ↓reduceIte, ↓reduceDIte, ↓Qe, Qf, Qg, Qh, Qi, Qj, Qk, Ql, Qm, Qn, Qo, Qp, Qq, Qr, Qs, implies_true, Qt, Qu, Qv, Qw, Qx, Qy, Qz, QA, QB, QC, QD, QE, QF, QG, QH, QI, QJ, QK, QL, QM, QN, QO, QP, QQ]
      refine CallC.of rb (by rfl) ?_
      clear rb
      try rw [hi]
      simp (config := { maxSteps := 1000000 }) (disch := ((try simp only [awL]); omega)) only [QR, QS, QT, QU, QV, QW, QX, QY, QZ, Q0, Q1, Q2, hi, ↓awU, awV, awF, Qa, Qb, Qc, Qd, forall_const, ↓reduceIte, ↓reduceDIte, ↓Qe, Qf, Qg, Qh, Qi, Qj, Qk, Ql, Qm, Qn, Qo, Qp, Qq, Qr, Qs, implies_true, Qt, Qu, Qv, Qw, Qx, Qy, Qz, QA, QB, QC, QD, QE, QF, QG, QH, QI, QJ, QK, QL, QM, QN, QO, QP, QQ]
      refine ⟨by rfl, ?_⟩
      obtain ⟨s0, hs0⟩ : ∃ s0, a.b = s0 + 1 := ⟨a.b - 1, by omega⟩
      try rw [hs0]
      refine LoopC.fr 28 (α := Nat) (fun i => i) (fun _ => []) (fun i => [.box [.d (Gr g fl)], .box [.d (.int .i64 B.t), .d (.int .i64 a.l), .d (.int .i64 (i + 1 : Nat)), .d (.int .i64 a.r)], .box [.d (.int .i64 0), .d (.int .i64 0), .d (.int .i64 0), .d (.int .i64 0)]]) (fun i => B.b ≤ i + 1 ∧ i + 1 ≤ a.b) s0 ⟨by omega, by omega⟩ ?_ ?_
      · exact ⟨[some 0, some 1, some 2], rfl, by simp, by simp [setsA, keepA, SWeak, AWeak], by simp [HWeak, BWeak, SWeak, AWeak]⟩
      · rintro i ⟨i1, i2⟩
        have rb := rblank_spec (G := G) g false hg ⟨i, a.l, i + 1, a.r⟩ (by simp only; omega) (by simp only; omega) (by simp only; omega) (by simp only; omega) (decide (i + 1 ≠ B.b)) (T2 i1 i2)
        have e1 : (((i + 1 : Nat) : Int) - 1) = (i : Int) := by omega
        simp only [awK, Nat.reduceMod, Nat.reduceDiv, reduceIte]
        by_cases hi : i + 1 ≠ B.b
        · rw [decide_eq_true hi] at rb
          simp (config := { maxSteps := 1000000 }) (disch := ((try simp only [awL]); omega)) only [QR, QS, QT, QU, QV, QW, QX, QY, QZ, Q0, Q1, Q2, e1, ↓awU, awV, awF, Qa, Qb, Qc, Qd, forall_const, ↓reduceIte, ↓reduceDIte, ↓Qe, Qf, Qg, Qh, Qi, Qj, Qk, Ql, Qm, Qn, Qo, Qp, Qq, Qr, Qs, implies_true, Qt, Qu, Qv, Qw, Qx, Qy, Qz, QA, QB, QC, QD, QE, QF, QG, QH, QI, QJ, QK, QL, QM, QN, QO, QP, QQ]
          refine CallC.of (rrow_spec ⟨B.t, a.l, (i + 1 : Nat), a.r⟩ (i : Int) (by omega) (by omega)) (by rfl) ?_
          simp (config := { maxSteps := 1000000 }) (disch := ((try simp only [awL]); omega)) only [QR, QS, QT, QU, QV, QW, QX, QY, QZ, Q0, Q1, Q2, e1, ↓awU, awV, awF, Qa, Qb, Qc, Qd, forall_const, ↓reduceIte, ↓reduceDIte, ↓Qe, Qf, Qg, Qh, Qi, Qj, Qk, Ql, Qm, Qn, Qo, Qp, Qq, Qr, Qs, implies_true, Qt, Qu, Qv, Qw, Qx, Qy, Qz, QA, QB, QC, QD, QE, QF, QG, QH, QI, QJ, QK, QL, QM, QN, QO, QP, QQ]
          refine CallC.of rb (by rfl) ?_
          simp (config := { maxSteps := 1000000 }) (disch := ((try simp only [awL]); omega)) only [QR, QS, QT, QU, QV, QW, QX, QY, QZ, Q0, Q1, Q2, e1, ↓awU, awV, awF, Qa, Qb, Qc, Qd, forall_const, ↓reduceIte, ↓reduceDIte, ↓Qe, Qf, Qg, Qh, Qi, Qj, Qk, Ql, Qm, Qn, Qo, Qp, Qq, Qr, Qs, implies_true, Qt, Qu, Qv, Qw, Qx, Qy, Qz, QA, QB, QC, QD, QE, QF, QG, QH, QI, QJ, QK, QL, QM, QN, QO, QP, QQ]
          obtain ⟨p, rfl⟩ : ∃ p, i = p + 1 := ⟨i - 1, by omega⟩
          exact ⟨by rfl, p, ⟨by omega, by omega⟩, by simp only; omega, ⟨[some 0, some 1, some 2], rfl, by simp, by simp [setsA, keepA, SWeak, AWeak], by simp [HWeak, BWeak, SWeak, AWeak]⟩⟩
        · have hi : i + 1 = B.b := Decidable.not_not.1 hi
          rw [decide_eq_false (fun q => q hi)] at rb
          simp (config := { maxSteps := 1000000 }) (disch := ((try simp only [awL]); omega)) only [QR, QS, QT, QU, QV, QW, QX, QY, QZ, Q0, Q1, Q2, e1, ↓awU, awV, awF, Qa, Qb, Qc, Qd, forall_const, ↓reduceIte, ↓reduceDIte, ↓Qe, Qf, Qg, Qh, Qi, Qj, Qk, Ql, Qm, Qn, Qo, Qp, Qq, Qr, Qs, implies_true, Qt, Qu, Qv, Qw, Qx, Qy, Qz, QA, QB, QC, QD, QE, QF, QG, QH, QI, QJ, QK, QL, QM, QN, QO, QP, QQ]
          refine CallC.of (rrow_spec ⟨B.t, a.l, (i + 1 : Nat), a.r⟩ (i : Int) (by omega) (by omega)) (by rfl) ?_
          simp (config := { maxSteps := 1000000 }) (disch := ((try simp only [awL]); omega)) only [QR, QS, QT, QU, QV, QW, QX, QY, QZ, Q0, Q1, Q2, e1, ↓awU, awV, awF, Qa, Qb, Qc, Qd, forall_const, ↓reduceIte, ↓reduceDIte, ↓Qe, Qf, Qg, Qh, Qi, Qj, Qk, Ql, Qm, Qn, Qo, Qp, Qq, Qr, Qs, implies_true, Qt, Qu, Qv, Qw, Qx, Qy, Qz, QA, QB, QC, QD, QE, QF, QG, QH, QI, QJ, QK, QL, QM, QN, QO, QP, QQ]
          refine CallC.of rb (by rfl) ?_
          clear rb
          try rw [hi]
          simp (config := { maxSteps := 1000000 }) (disch := ((try simp only [awL]); omega)) only [QR, QS, QT, QU, QV, QW, QX, QY, QZ, Q0, Q1, Q2, e1, hi, ↓awU, awV, awF, Qa, Qb, Qc, Qd, forall_const, ↓reduceIte, ↓reduceDIte, ↓Qe, Qf, Qg, Qh, Qi, Qj, Qk, Ql, Qm, Qn, Qo, Qp, Qq, Qr, Qs, implies_true, Qt, Qu, Qv, Qw, Qx, Qy, Qz, QA, QB, QC, QD, QE, QF, QG, QH, QI, QJ, QK, QL, QM, QN, QO, QP, QQ]
          refine ⟨by rfl, ?_⟩
          refine LoopC.fr 28 (α := Nat) (fun i => B.l - i) (fun _ => []) (fun i => [.box [.d (Gr g fl)], .box [.d (.int .i64 B.t), .d (.int .i64 i), .d (.int .i64 B.b), .d (.int .i64 a.r)], .box [.d (.int .i64 0), .d (.int .i64 0), .d (.int .i64 0), .d (.int .i64 0)]]) (fun i => a.l ≤ i ∧ i ≤ B.l) a.l ⟨Nat.le_refl _, b3⟩ ?_ ?_
          · exact ⟨[some 0, some 1, some 2], rfl, by simp, by simp [setsA, keepA, SWeak, AWeak], by simp [HWeak, BWeak, SWeak, AWeak]⟩
          · rintro i ⟨i1, i2⟩
            have rb := rblank_spec (G := G) g false hg ⟨B.t, i, B.b, i + 1⟩ (by simp only; omega) (by simp only; omega) (by simp only; omega) (by simp only; omega) (decide (i ≠ B.l)) (T3 i1 i2)
            simp only [awK, Nat.reduceMod, Nat.reduceDiv, reduceIte]
            by_cases hi : i ≠ B.l
            · rw [decide_eq_true hi] at rb
              simp (config := { maxSteps := 1000000 }) (disch := ((try simp only [awL]); omega)) only [QR, QS, QT, QU, QV, QW, QX, QY, QZ, Q0, Q1, Q2, ↓awU, awV, awF, Qa, Qb, Qc, Qd, forall_const, ↓reduceIte, ↓reduceDIte, ↓Qe, Qf, Qg, Qh, Qi, Qj, Qk, Ql, Qm, Qn, Qo, Qp, Qq, Qr, Qs, implies_true, Qt, Qu, Qv, Qw, Qx, Qy, Qz, QA, QB, QC, QD, QE, QF, QG, QH, QI, QJ, QK, QL, QM, QN, QO, QP, QQ]
              refine CallC.of (rcolumn_spec ⟨B.t, i, B.b, a.r⟩ (i : Int) (by omega) (by omega)) (by rfl) ?_
              simp (config := { maxSteps := 1000000 }) (disch := ((try simp only [awL]); omega)) only [QR, QS, QT, QU, QV, QW, QX, QY, QZ, Q0, Q1, Q2, ↓awU, awV, awF, Qa, Qb, Qc, Qd, forall_const, ↓reduceIte, ↓reduceDIte, ↓Qe, Qf, Qg, Qh, Qi, Qj, Qk, Ql, Qm, Qn, Qo, Qp, Qq, Qr, Qs, implies_true, Qt, Qu, Qv, Qw, Qx, Qy, Qz, QA, QB, QC, QD, QE, QF, QG, QH, QI, QJ, QK, QL, QM, QN, QO, QP, QQ]
              refine CallC.of rb (by rfl) ?_
              simp (config := { maxSteps := 1000000 }) (disch := ((try simp only [awL]); omega)) only [QR, QS, QT, QU, QV, QW, QX, QY, QZ, Q0, Q1, Q2, ↓awU, awV, awF, Qa, Qb, Qc, Qd, forall_const, ↓reduceIte, ↓reduceDIte, ↓Qe, Qf, Qg, Qh, Qi, Qj, Qk, Ql, Qm, Qn, Qo, Qp, Qq, Qr, Qs, implies_true, Qt, Qu, Qv, Qw, Qx, Qy, Qz, QA, QB, QC, QD, QE, QF, QG, QH, QI, QJ, QK, QL, QM, QN, QO, QP, QQ]
              exact ⟨by rfl, i + 1, ⟨by omega, by omega⟩, by simp only; omega, ⟨[some 0, some 1, some 2], rfl, by simp, by simp [setsA, keepA, SWeak, AWeak], by simp [HWeak, BWeak, SWeak, AWeak]⟩⟩
            · have hi : i = B.l := Decidable.not_not.1 hi
              rw [decide_eq_false (fun q => q hi)] at rb
              simp (config := { maxSteps := 1000000 }) (disch := ((try simp only [awL]); omega)) only [QR, QS, QT, QU, QV, QW, QX, QY, QZ, Q0, Q1, Q2, ↓awU, awV, awF, Qa, Qb, Qc, Qd, forall_const, ↓reduceIte, ↓reduceDIte, ↓Qe, Qf, Qg, Qh, Qi, Qj, Qk, Ql, Qm, Qn, Qo, Qp, Qq, Qr, Qs, implies_true, Qt, Qu, Qv, Qw, Qx, Qy, Qz, QA, QB, QC, QD, QE, QF, QG, QH, QI, QJ, QK, QL, QM, QN, QO, QP, QQ]
              refine CallC.of (rcolumn_spec ⟨B.t, i, B.b, a.r⟩ (i : Int) (by omega) (by omega)) (by rfl) ?_
              simp (config := { maxSteps := 1000000 }) (disch := ((try simp only [awL]); omega)) only [QR, QS, QT, QU, QV, QW, QX, QY, QZ, Q0, Q1, Q2, ↓awU, awV, awF, Qa, Qb, Qc, Qd, forall_const, ↓reduceIte, ↓reduceDIte, ↓Qe, Qf, Qg, Qh, Qi, Qj, Qk, Ql, Qm, Qn, Qo, Qp, Qq, Qr, Qs, implies_true, Qt, Qu, Qv, Qw, Qx, Qy, Qz, QA, QB, QC, QD, QE, QF, QG, QH, QI, QJ, QK, QL, QM, QN, QO, QP, QQ]
              refine CallC.of rb (by rfl) ?_
              clear rb
              try rw [hi]
              simp (config := { maxSteps := 1000000 }) (disch := ((try simp only [awL]); omega)) only [QR, QS, QT, QU, QV, QW, QX, QY, QZ, Q0, Q1, Q2, hi, ↓awU, awV, awF, Qa, Qb, Qc, Qd, forall_const, ↓reduceIte, ↓reduceDIte, ↓Qe, Qf, Qg, Qh, Qi, Qj, Qk, Ql, Qm, Qn, Qo, Qp, Qq, Qr, Qs, implies_true, Qt, Qu, Qv, Qw, Qx, Qy, Qz, QA, QB, QC, QD, QE, QF, QG, QH, QI, QJ, QK, QL, QM, QN, QO, QP, QQ]
              refine ⟨by rfl, ?_⟩
              obtain ⟨s0, hs0⟩ : ∃ s0, a.r = s0 + 1 := ⟨a.r - 1, by omega⟩
              try rw [hs0]
              refine LoopC.fr 28 (α := Nat) (fun i => i) (fun _ => []) (fun i => [.box [.d (Gr g fl)], .box [.d (.int .i64 B.t), .d (.int .i64 B.l), .d (.int .i64 B.b), .d (.int .i64 (i + 1 : Nat))], .box [.d (.int .i64 0), .d (.int .i64 0), .d (.int .i64 0), .d (.int .i64 0)]]) (fun i => B.r ≤ i + 1 ∧ i + 1 ≤ a.r) s0 ⟨by omega, by omega⟩ ?_ ?_
              · exact ⟨[some 0, some 1, some 2], rfl, by simp, by simp [setsA, keepA, SWeak, AWeak], by simp [HWeak, BWeak, SWeak, AWeak]⟩
              · rintro i ⟨i1, i2⟩
                have rb := rblank_spec (G := G) g false hg ⟨B.t, i, B.b, i + 1⟩ (by simp only; omega) (by simp only; omega) (by simp only; omega) (by simp only; omega) (decide (i + 1 ≠ B.r)) (T4 i1 i2)
                have e1 : (((i + 1 : Nat) : Int) - 1) = (i : Int) := by omega
                simp only [awK, Nat.reduceMod, Nat.reduceDiv, reduceIte]
                by_cases hi : i + 1 ≠ B.r
                · rw [decide_eq_true hi] at rb
                  simp (config := { maxSteps := 1000000 }) (disch := ((try simp only [awL]); omega)) only [QR, QS, QT, QU, QV, QW, QX, QY, QZ, Q0, Q1, Q2, e1, ↓awU, awV, awF, Qa, Qb, Qc, Qd, forall_const, ↓reduceIte, ↓reduceDIte, ↓Qe, Qf, Qg, Qh, Qi, Qj, Qk, Ql, Qm, Qn, Qo, Qp, Qq, Qr, Qs, implies_true, Qt, Qu, Qv, Qw, Qx, Qy, Qz, QA, QB, QC, QD, QE, QF, QG, QH, QI, QJ, QK, QL, QM, QN, QO, QP, QQ]
                  refine CallC.of (rcolumn_spec ⟨B.t, B.l, B.b, (i + 1 : Nat)⟩ (i : Int) (by omega) (by omega)) (by rfl) ?_
                  simp (config := { maxSteps := 1000000 }) (disch := ((try simp only [awL]); omega)) only [QR, QS, QT, QU, QV, QW, QX, QY, QZ, Q0, Q1, Q2, e1, ↓awU, awV, awF, Qa, Qb, Qc, Qd, forall_const, ↓reduceIte, ↓reduceDIte, ↓Qe, Qf, Qg, Qh, Qi, Qj, Qk, Ql, Qm, Qn, Qo, Qp, Qq, Qr, Qs, implies_true, Qt, Qu, Qv, Qw, Qx, Qy, Qz, QA, QB, QC, QD, QE, QF, QG, QH, QI, QJ, QK, QL, QM, QN, QO, QP, QQ]
                  refine CallC.of rb (by rfl) ?_
                  simp (config := { maxSteps := 1000000 }) (disch := ((try simp only [awL]); omega)) only [QR, QS, QT, QU, QV, QW, QX, QY, QZ, Q0, Q1, Q2, e1, ↓awU, awV, awF, Qa, Qb, Qc, Qd, forall_const, ↓reduceIte, ↓reduceDIte, ↓Qe, Qf, Qg, Qh, Qi, Qj, Qk, Ql, Qm, Qn, Qo, Qp, Qq, Qr, Qs, implies_true, Qt, Qu, Qv, Qw, Qx, Qy, Qz, QA, QB, QC, QD, QE, QF, QG, QH, QI, QJ, QK, QL, QM, QN, QO, QP, QQ]
                  obtain ⟨p, rfl⟩ : ∃ p, i = p + 1 := ⟨i - 1, by omega⟩
                  exact ⟨by rfl, p, ⟨by omega, by omega⟩, by simp only; omega, ⟨[some 0, some 1, some 2], rfl, by simp, by simp [setsA, keepA, SWeak, AWeak], by simp [HWeak, BWeak, SWeak, AWeak]⟩⟩
                · have hi : i + 1 = B.r := Decidable.not_not.1 hi
                  rw [decide_eq_false (fun q => q hi)] at rb
                  simp (config := { maxSteps := 1000000 }) (disch := ((try simp only [awL]); omega)) only [QR, QS, QT, QU, QV, QW, QX, QY, QZ, Q0, Q1, Q2, e1, ↓awU, awV, awF, Qa, Qb, Qc, Qd, forall_const, ↓reduceIte, ↓reduceDIte, ↓Qe, Qf, Qg, Qh, Qi, Qj, Qk, Ql, Qm, Qn, Qo, Qp, Qq, Qr, Qs, implies_true, Qt, Qu, Qv, Qw, Qx, Qy, Qz, QA, QB, QC, QD, QE, QF, QG, QH, QI, QJ, QK, QL, QM, QN, QO, QP, QQ]
                  refine CallC.of (rcolumn_spec ⟨B.t, B.l, B.b, (i + 1 : Nat)⟩ (i : Int) (by omega) (by omega)) (by rfl) ?_
                  simp (config := { maxSteps := 1000000 }) (disch := ((try simp only [awL]); omega)) only [QR, QS, QT, QU, QV, QW, QX, QY, QZ, Q0, Q1, Q2, e1, ↓awU, awV, awF, Qa, Qb, Qc, Qd, forall_const, ↓reduceIte, ↓reduceDIte, ↓Qe, Qf, Qg, Qh, Qi, Qj, Qk, Ql, Qm, Qn, Qo, Qp, Qq, Qr, Qs, implies_true, Qt, Qu, Qv, Qw, Qx, Qy, Qz, QA, QB, QC, QD, QE, QF, QG, QH, QI, QJ, QK, QL, QM, QN, QO, QP, QQ]
                  refine CallC.of rb (by rfl) ?_
                  clear rb
                  try rw [hi]
                  simp (config := { maxSteps := 1000000 }) (disch := ((try simp only [awL]); omega)) only [QR, QS, QT, QU, QV, QW, QX, QY, QZ, Q0, Q1, Q2, e1, hi, ↓awU, awV, awF, Qa, Qb, Qc, Qd, forall_const, ↓reduceIte, ↓reduceDIte, ↓Qe, Qf, Qg, Qh, Qi, Qj, Qk, Ql, Qm, Qn, Qo, Qp, Qq, Qr, Qs, implies_true, Qt, Qu, Qv, Qw, Qx, Qy, Qz, QA, QB, QC, QD, QE, QF, QG, QH, QI, QJ, QK, QL, QM, QN, QO, QP, QQ]
                  first | (exact rfl) | exact ⟨by rfl, by rfl⟩ | trace_state
end Go.Proofs.YtacepalmphbnfaaGreatDoor

namespace Go.Proofs.YtacepalmphbnfaaGreatDoor
open Go Go.Proofs Go.Abs
variable {G : Globals}
/-! Sheet: the reference's done. -/
theorem done_rows {g : List Row} {a : Ar} (h : InG g a) (hk : HasInk g a) {i : Nat} (i1 : (boxB g a).t ≤ i) (i2 : i < (boxB g a).b) (hb : ¬ HasInk g ⟨i, (boxB g a).l, i + 1, (boxB g a).r⟩) :
    (InG g ⟨(boxB g a).t, (boxB g a).l, i, (boxB g a).r⟩ ∧ HasInk g ⟨(boxB g a).t, (boxB g a).l, i, (boxB g a).r⟩ ∧ Ar.sz ⟨(boxB g a).t, (boxB g a).l, i, (boxB g a).r⟩ < a.sz) ∧
    (InG g ⟨i + 1, (boxB g a).l, (boxB g a).b, (boxB g a).r⟩ ∧ HasInk g ⟨i + 1, (boxB g a).l, (boxB g a).b, (boxB g a).r⟩ ∧ Ar.sz ⟨i + 1, (boxB g a).l, (boxB g a).b, (boxB g a).r⟩ < a.sz) ∧
    leavesX g a = leavesX g ⟨(boxB g a).t, (boxB g a).l, i, (boxB g a).r⟩ ++ leavesX g ⟨i + 1, (boxB g a).l, (boxB g a).b, (boxB g a).r⟩ := by
  obtain ⟨b0, b1, b2, b3, b4, b5⟩ := boxB_in h hk
  obtain ⟨q, q1, q2⟩ := box_rt hk
  obtain ⟨z, z1, z2⟩ := box_rb hk
  have q3 := b5 _ _ q1 q2
  have z3 := b5 _ _ z1 z2
  have hn : ∀ q, (boxB g a).l ≤ q → q < (boxB g a).r → inkG g i q = false := fun q h1 h2 => by
    cases e : inkG g i q
    · rfl
    · exact absurd (has_row.2 ⟨q, h1, h2, e⟩) hb
  have lv := leaves_box h hk
  rw [cutA_row b0 i i1 i2 hn] at lv
  have ne1 : i ≠ (boxB g a).t := fun e => by
    rw [← e] at q2
    rw [hn q q3.2.2.1 q3.2.2.2] at q2; cases q2
  have ne2 : i ≠ (boxB g a).b - 1 := fun e => by
    rw [← e] at z2
    rw [hn z z3.2.2.1 z3.2.2.2] at z2; cases z2
  generalize boxB g a = B at *
  obtain ⟨k1, k2, k3, k4, k5⟩ := b0
  obtain ⟨j1, j2, j3, j4, j5⟩ := h
  obtain ⟨q31, q32, q33, q34⟩ := q3
  obtain ⟨z31, z32, z33, z34⟩ := z3
  refine ⟨⟨⟨i1, by simp only; omega, k3, k4, k5⟩, ⟨_, q, Nat.le_refl _, by simp only; omega, q33, q34, q2⟩, by simp only [Ar.sz]; omega⟩,
    ⟨⟨by simp only; omega, k2, k3, k4, k5⟩, ⟨_, z, by simp only; omega, by simp only; omega, z33, z34, z2⟩, by simp only [Ar.sz]; omega⟩, lv⟩
theorem done_cols {g : List Row} {a : Ar} (h : InG g a) (hk : HasInk g a) {i : Nat} (i1 : (boxB g a).l ≤ i) (i2 : i < (boxB g a).r) (hb : ¬ HasInk g ⟨(boxB g a).t, i, (boxB g a).b, i + 1⟩) :
    (InG g ⟨(boxB g a).t, (boxB g a).l, (boxB g a).b, i⟩ ∧ HasInk g ⟨(boxB g a).t, (boxB g a).l, (boxB g a).b, i⟩ ∧ Ar.sz ⟨(boxB g a).t, (boxB g a).l, (boxB g a).b, i⟩ < a.sz) ∧
    (InG g ⟨(boxB g a).t, i + 1, (boxB g a).b, (boxB g a).r⟩ ∧ HasInk g ⟨(boxB g a).t, i + 1, (boxB g a).b, (boxB g a).r⟩ ∧ Ar.sz ⟨(boxB g a).t, i + 1, (boxB g a).b, (boxB g a).r⟩ < a.sz) ∧
    (leavesX g a).Perm (leavesX g ⟨(boxB g a).t, (boxB g a).l, (boxB g a).b, i⟩ ++ leavesX g ⟨(boxB g a).t, i + 1, (boxB g a).b, (boxB g a).r⟩) := by
  obtain ⟨b0, b1, b2, b3, b4, b5⟩ := boxB_in h hk
  obtain ⟨q, q1, q2⟩ := box_cl hk
  obtain ⟨z, z1, z2⟩ := box_cr hk
  have q3 := b5 _ _ q1 q2
  have z3 := b5 _ _ z1 z2
  have hn : ∀ p, (boxB g a).t ≤ p → p < (boxB g a).b → inkG g p i = false := fun p h1 h2 => by
    cases e : inkG g p i
    · rfl
    · exact absurd (has_col.2 ⟨p, h1, h2, e⟩) hb
  have lv := cutA_col _ _ b0 (Nat.lt_succ_self _) i i1 i2 hn
  rw [← leaves_box h hk] at lv
  have ne1 : i ≠ (boxB g a).l := fun e => by
    rw [← e] at q2
    rw [hn q q3.1 q3.2.1] at q2; cases q2
  have ne2 : i ≠ (boxB g a).r - 1 := fun e => by
    rw [← e] at z2
    rw [hn z z3.1 z3.2.1] at z2; cases z2
  generalize boxB g a = B at *
  obtain ⟨k1, k2, k3, k4, k5⟩ := b0
  obtain ⟨j1, j2, j3, j4, j5⟩ := h
  obtain ⟨q31, q32, q33, q34⟩ := q3
  obtain ⟨z31, z32, z33, z34⟩ := z3
  refine ⟨⟨⟨k1, k2, i1, by simp only; omega, k5⟩, ⟨q, _, q31, q32, Nat.le_refl _, by simp only; omega, q2⟩, by simp only [Ar.sz]; omega⟩,
    ⟨⟨k1, k2, by simp only; omega, k4, k5⟩, ⟨z, _, z31, z32, by simp only; omega, by simp only; omega, z2⟩, by simp only [Ar.sz]; omega⟩, lv⟩
end Go.Proofs.YtacepalmphbnfaaGreatDoor

namespace Go.Proofs.YtacepalmphbnfaaGreatDoor
open Go Go.Proofs Go.Abs
variable {G : Globals}
/-! Sheet: the reference's done. -/
set_option maxHeartbeats 16000000 in
set_option maxRecDepth 100000 in
theorem done_spec (g : List Row) (hg : okGW g) : ∀ (n : Nat) (a : Ar), InG g a → HasInk g a → a.sz < n → (leavesX g a).length ≤ 1000000 → ∃ L : List Ar, L.Perm (leavesX g a) ∧
    ∀ fl : Bool, Ctr Tryz.prog G 87 [.d (.agg [Gr g fl]), .d (RgD a.rg)] [] (.lsl 0 4 0 L.length) [.row false (regC (rgs L))] := by
  intro n
  induction n with
  | zero => intro a _ _ h _; exact absurd h (Nat.not_lt_zero _)
  | succ n ih =>
    intro a h hk hn hlen
    obtain ⟨w1, w2, w3, w4, w5⟩ := id h
    have bl0 := rblank_spec (G := G) g false hg a (by omega) (by omega) (by omega) (by omega) false ⟨fun e => (by cases e), fun e => absurd hk e⟩
    have tt := tighten_spec (G := G) g false hg a h hk
    have dr := @done_rows g a h hk
    have dc := @done_cols g a h hk
    have dl := @box_leaf g a h hk
    obtain ⟨b0, b1, b2, b3, b4, b5⟩ := boxB_in h hk
    obtain ⟨n1, n2⟩ := box_ne h hk
    clear b5
    generalize boxB g a = B at *
    obtain ⟨k1, k2, k3, k4, k5⟩ := b0
    rcases leastI (fun k => ¬ HasInk g ⟨k, B.l, k + 1, B.r⟩) B.t (B.b - B.t) with hall | ⟨i0, i1, i2, i3, i4⟩
    · rcases leastI (fun k => ¬ HasInk g ⟨B.t, k, B.b, k + 1⟩) B.l (B.r - B.l) with halc | ⟨j0, j1, j2, j3, j4⟩
      · refine ⟨[B], by rw [dl (fun k h1 h2 => Classical.byContradiction fun c => hall k h1 (by omega) c) (fun k h1 h2 => Classical.byContradiction fun c => halc k h1 (by omega) c)], fun fl => ?_⟩
        refine Ctr.body (M := M0) hmix Tryz.func87 rfl go87 ?_
        simp (config := { maxSteps := 1000000 }) (disch := ((try simp only [awL]); omega)) only [QR, QS, QT, QU, QV, QW, QX, QY, QZ, Q0, Q1, Q2, Tryz.f87, ↓awU, awV, awF, Qa, Qb, Qc, Qd, forall_const, ↓reduceIte, ↓reduceDIte, ↓Qe, Qf, Qg, Qh, Qi, Qj, Qk, Ql, Qm, Qn, Qo, Qp, Qq, Qr, Qs, implies_true, Qt, Qu, Qv, Qw, Qx, Qy, Qz, QA, QB, QC, QD, QE, QF, QG, QH, QI, QJ, QK, QL, QM, QN, QO, QP, QQ]
        refine CallC.of bl0 (by rfl) ?_
        simp (config := { maxSteps := 1000000 }) (disch := ((try simp only [awL]); omega)) only [QR, QS, QT, QU, QV, QW, QX, QY, QZ, Q0, Q1, Q2, ↓awU, awV, awF, Qa, Qb, Qc, Qd, forall_const, ↓reduceIte, ↓reduceDIte, ↓Qe, Qf, Qg, Qh, Qi, Qj, Qk, Ql, Qm, Qn, Qo, Qp, Qq, Qr, Qs, implies_true, Qt, Qu, Qv, Qw, Qx, Qy, Qz, QA, QB, QC, QD, QE, QF, QG, QH, QI, QJ, QK, QL, QM, QN, QO, QP, QQ]
        refine CallC.of tt (by rfl) ?_
        simp (config := { maxSteps := 1000000 }) (disch := ((try simp only [awL]); omega)) only [QR, QS, QT, QU, QV, QW, QX, QY, QZ, Q0, Q1, Q2, ↓awU, awV, awF, Qa, Qb, Qc, Qd, forall_const, ↓reduceIte, ↓reduceDIte, ↓Qe, Qf, Qg, Qh, Qi, Qj, Qk, Ql, Qm, Qn, Qo, Qp, Qq, Qr, Qs, implies_true, Qt, Qu, Qv, Qw, Qx, Qy, Qz, QA, QB, QC, QD, QE, QF, QG, QH, QI, QJ, QK, QL, QM, QN, QO, QP, QQ]
        refine LoopC.fr 12 (α := Nat) (fun i => B.b + 1 - i) (fun i => [(5, .d (.int .i64 i))]) (fun _ => [.box [.d (Gr g fl)], .box [.d (.int .i64 B.t), .d (.int .i64 B.l), .d (.int .i64 B.b), .d (.int .i64 B.r)]]) (fun i => B.t ≤ i ∧ i ≤ B.b) B.t ⟨Nat.le_refl _, by omega⟩ ?_ ?_
        · exact ⟨[some 0, some 1], rfl, by simp, by simp [setsA, keepA, SWeak, AWeak], by simp [HWeak, BWeak, SWeak, AWeak]⟩
        · rintro i ⟨q1, q2⟩
          simp only [awK, Nat.reduceMod, Nat.reduceDiv, reduceIte]
          rcases Nat.lt_or_ge i B.b with hlt | hge
          · have rb := rblank_spec (G := G) g false hg ⟨i, B.l, i + 1, B.r⟩ (by simp only; omega) (by simp only; omega) (by simp only; omega) (by simp only; omega) false ⟨fun e => (by cases e), fun e => absurd e (hall i q1 (by omega))⟩
            simp (config := { maxSteps := 1000000 }) (disch := ((try simp only [awL]); omega)) only [QR, QS, QT, QU, QV, QW, QX, QY, QZ, Q0, Q1, Q2, ↓awU, awV, awF, Qa, Qb, Qc, Qd, forall_const, ↓reduceIte, ↓reduceDIte, ↓Qe, Qf, Qg, Qh, Qi, Qj, Qk, Ql, Qm, Qn, Qo, Qp, Qq, Qr, Qs, implies_true, Qt, Qu, Qv, Qw, Qx, Qy, Qz, QA, QB, QC, QD, QE, QF, QG, QH, QI, QJ, QK, QL, QM, QN, QO, QP, QQ]
            refine CallC.of (rrow_spec ⟨B.t, B.l, B.b, B.r⟩ (i : Int) (by omega) (by omega)) (by rfl) ?_
            simp (config := { maxSteps := 1000000 }) (disch := ((try simp only [awL]); omega)) only [QR, QS, QT, QU, QV, QW, QX, QY, QZ, Q0, Q1, Q2, ↓awU, awV, awF, Qa, Qb, Qc, Qd, forall_const, ↓reduceIte, ↓reduceDIte, ↓Qe, Qf, Qg, Qh, Qi, Qj, Qk, Ql, Qm, Qn, Qo, Qp, Qq, Qr, Qs, implies_true, Qt, Qu, Qv, Qw, Qx, Qy, Qz, QA, QB, QC, QD, QE, QF, QG, QH, QI, QJ, QK, QL, QM, QN, QO, QP, QQ]
            refine CallC.of rb (by rfl) ?_
            simp (config := { maxSteps := 1000000 }) (disch := ((try simp only [awL]); omega)) only [QR, QS, QT, QU, QV, QW, QX, QY, QZ, Q0, Q1, Q2, ↓awU, awV, awF, Qa, Qb, Qc, Qd, forall_const, ↓reduceIte, ↓reduceDIte, ↓Qe, Qf, Qg, Qh, Qi, Qj, Qk, Ql, Qm, Qn, Qo, Qp, Qq, Qr, Qs, implies_true, Qt, Qu, Qv, Qw, Qx, Qy, Qz, QA, QB, QC, QD, QE, QF, QG, QH, QI, QJ, QK, QL, QM, QN, QO, QP, QQ]
            exact ⟨by rfl, i + 1, ⟨by omega, by omega⟩, by simp only; omega, ⟨[some 0, some 1], rfl, by simp, by simp [setsA, keepA, SWeak, AWeak], by simp [HWeak, BWeak, SWeak, AWeak]⟩⟩
          · have hib : i = B.b := by omega
            clear hge
            simp (config := { maxSteps := 1000000 }) (disch := ((try simp only [awL]); omega)) only [QR, QS, QT, QU, QV, QW, QX, QY, QZ, Q0, Q1, Q2, ↓awU, awV, awF, Qa, Qb, Qc, Qd, forall_const, ↓reduceIte, ↓reduceDIte, ↓Qe, Qf, Qg, Qh, Qi, Qj, Qk, Ql, Qm, Qn, Qo, Qp, Qq, Qr, Qs, implies_true, Qt, Qu, Qv, Qw, Qx, Qy, Qz, QA, QB, QC, QD, QE, QF, QG, QH, QI, QJ, QK, QL, QM, QN, QO, QP, QQ]
            refine LoopC.fr 12 (α := Nat) (fun j => B.r + 1 - j) (fun j => [(8, .d (.int .i64 j))]) (fun _ => [.box [.d (Gr g fl)], .box [.d (.int .i64 B.t), .d (.int .i64 B.l), .d (.int .i64 B.b), .d (.int .i64 B.r)]]) (fun j => B.l ≤ j ∧ j ≤ B.r) B.l ⟨Nat.le_refl _, by omega⟩ ?_ ?_
            · exact ⟨[some 0, some 1], rfl, by simp, by simp [setsA, keepA, SWeak, AWeak], by simp [HWeak, BWeak, SWeak, AWeak]⟩
            · rintro j ⟨r1, r2⟩
              simp only [awK, Nat.reduceMod, Nat.reduceDiv, reduceIte]
              rcases Nat.lt_or_ge j B.r with hlt | hge
              · have rb := rblank_spec (G := G) g false hg ⟨B.t, j, B.b, j + 1⟩ (by simp only; omega) (by simp only; omega) (by simp only; omega) (by simp only; omega) false ⟨fun e => (by cases e), fun e => absurd e (halc j r1 (by omega))⟩
                simp (config := { maxSteps := 1000000 }) (disch := ((try simp only [awL]); omega)) only [QR, QS, QT, QU, QV, QW, QX, QY, QZ, Q0, Q1, Q2, ↓awU, awV, awF, Qa, Qb, Qc, Qd, forall_const, ↓reduceIte, ↓reduceDIte, ↓Qe, Qf, Qg, Qh, Qi, Qj, Qk, Ql, Qm, Qn, Qo, Qp, Qq, Qr, Qs, implies_true, Qt, Qu, Qv, Qw, Qx, Qy, Qz, QA, QB, QC, QD, QE, QF, QG, QH, QI, QJ, QK, QL, QM, QN, QO, QP, QQ]
                refine CallC.of (rcolumn_spec ⟨B.t, B.l, B.b, B.r⟩ (j : Int) (by omega) (by omega)) (by rfl) ?_
                simp (config := { maxSteps := 1000000 }) (disch := ((try simp only [awL]); omega)) only [QR, QS, QT, QU, QV, QW, QX, QY, QZ, Q0, Q1, Q2, ↓awU, awV, awF, Qa, Qb, Qc, Qd, forall_const, ↓reduceIte, ↓reduceDIte, ↓Qe, Qf, Qg, Qh, Qi, Qj, Qk, Ql, Qm, Qn, Qo, Qp, Qq, Qr, Qs, implies_true, Qt, Qu, Qv, Qw, Qx, Qy, Qz, QA, QB, QC, QD, QE, QF, QG, QH, QI, QJ, QK, QL, QM, QN, QO, QP, QQ]
                refine CallC.of rb (by rfl) ?_
                simp (config := { maxSteps := 1000000 }) (disch := ((try simp only [awL]); omega)) only [QR, QS, QT, QU, QV, QW, QX, QY, QZ, Q0, Q1, Q2, ↓awU, awV, awF, Qa, Qb, Qc, Qd, forall_const, ↓reduceIte, ↓reduceDIte, ↓Qe, Qf, Qg, Qh, Qi, Qj, Qk, Ql, Qm, Qn, Qo, Qp, Qq, Qr, Qs, implies_true, Qt, Qu, Qv, Qw, Qx, Qy, Qz, QA, QB, QC, QD, QE, QF, QG, QH, QI, QJ, QK, QL, QM, QN, QO, QP, QQ]
                exact ⟨by rfl, j + 1, ⟨by omega, by omega⟩, by simp only; omega, ⟨[some 0, some 1], rfl, by simp, by simp [setsA, keepA, SWeak, AWeak], by simp [HWeak, BWeak, SWeak, AWeak]⟩⟩
              · have hjb : j = B.r := by omega
                clear hge
                have cl4 : cut [D.int .i64 B.t, D.int .i64 B.l, D.int .i64 B.b, D.int .i64 B.r] 0 4 = [D.int .i64 B.t, D.int .i64 B.l, D.int .i64 B.b, D.int .i64 B.r] := rfl
                simp (config := { maxSteps := 1000000 }) (disch := ((try simp only [awL]); omega)) only [QR, QS, QT, QU, QV, QW, QX, QY, QZ, Q0, Q1, Q2, cl4, ↓awU, awV, awF, Qa, Qb, Qc, Qd, forall_const, ↓reduceIte, ↓reduceDIte, ↓Qe, Qf, Qg, Qh, Qi, Qj, Qk, Ql, Qm, Qn, Qo, Qp, Qq, Qr, Qs, implies_true, Qt, Qu, Qv, Qw, Qx, Qy, Qz, QA, QB, QC, QD, QE, QF, QG, QH, QI, QJ, QK, QL, QM, QN, QO, QP, QQ]
                rw [show [D.int .i64 B.t, D.int .i64 B.l, D.int .i64 B.b, D.int .i64 B.r] = regC (rgs [B]) from rfl]
                first | exact ⟨[some 2], rfl, by simp, by simp [HWeak, BWeak, SWeak, AWeak], .inl (by simp [AWeak, SWeak])⟩ | exact ⟨by rfl, ⟨[some 2], rfl, by simp, by simp [HWeak, BWeak, SWeak, AWeak], .inl (by simp [AWeak, SWeak])⟩⟩ | trace_state
      · obtain ⟨⟨u1, u2, u3⟩, ⟨d1, d2, d3⟩, lv⟩ := dc j1 (by omega) j3
        have lvl := lv.length_eq
        rw [List.length_append] at lvl
        obtain ⟨L1, p1, c1⟩ := ih _ u1 u2 (by omega) (by omega)
        obtain ⟨L2, p2, c2⟩ := ih _ d1 d2 (by omega) (by omega)
        refine ⟨L1 ++ L2, (p1.append p2).trans lv.symm, fun fl => ?_⟩
        refine Ctr.body (M := M0) hmix Tryz.func87 rfl go87 ?_
        simp (config := { maxSteps := 1000000 }) (disch := ((try simp only [awL]); omega)) only [QR, QS, QT, QU, QV, QW, QX, QY, QZ, Q0, Q1, Q2, Tryz.f87, ↓awU, awV, awF, Qa, Qb, Qc, Qd, forall_const, ↓reduceIte, ↓reduceDIte, ↓Qe, Qf, Qg, Qh, Qi, Qj, Qk, Ql, Qm, Qn, Qo, Qp, Qq, Qr, Qs, implies_true, Qt, Qu, Qv, Qw, Qx, Qy, Qz, QA, QB, QC, QD, QE, QF, QG, QH, QI, QJ, QK, QL, QM, QN, QO, QP, QQ]
        refine CallC.of bl0 (by rfl) ?_
        simp (config := { maxSteps := 1000000 }) (disch := ((try simp only [awL]); omega)) only [QR, QS, QT, QU, QV, QW, QX, QY, QZ, Q0, Q1, Q2, ↓awU, awV, awF, Qa, Qb, Qc, Qd, forall_const, ↓reduceIte, ↓reduceDIte, ↓Qe, Qf, Qg, Qh, Qi, Qj, Qk, Ql, Qm, Qn, Qo, Qp, Qq, Qr, Qs, implies_true, Qt, Qu, Qv, Qw, Qx, Qy, Qz, QA, QB, QC, QD, QE, QF, QG, QH, QI, QJ, QK, QL, QM, QN, QO, QP, QQ]
        refine CallC.of tt (by rfl) ?_
        simp (config := { maxSteps := 1000000 }) (disch := ((try simp only [awL]); omega)) only [QR, QS, QT, QU, QV, QW, QX, QY, QZ, Q0, Q1, Q2, ↓awU, awV, awF, Qa, Qb, Qc, Qd, forall_const, ↓reduceIte, ↓reduceDIte, ↓Qe, Qf, Qg, Qh, Qi, Qj, Qk, Ql, Qm, Qn, Qo, Qp, Qq, Qr, Qs, implies_true, Qt, Qu, Qv, Qw, Qx, Qy, Qz, QA, QB, QC, QD, QE, QF, QG, QH, QI, QJ, QK, QL, QM, QN, QO, QP, QQ]
        refine LoopC.fr 12 (α := Nat) (fun i => B.b + 1 - i) (fun i => [(5, .d (.int .i64 i))]) (fun _ => [.box [.d (Gr g fl)], .box [.d (.int .i64 B.t), .d (.int .i64 B.l), .d (.int .i64 B.b), .d (.int .i64 B.r)]]) (fun i => B.t ≤ i ∧ i ≤ B.b) B.t ⟨Nat.le_refl _, by omega⟩ ?_ ?_
        · exact ⟨[some 0, some 1], rfl, by simp, by simp [setsA, keepA, SWeak, AWeak], by simp [HWeak, BWeak, SWeak, AWeak]⟩
        · rintro i ⟨q1, q2⟩
          simp only [awK, Nat.reduceMod, Nat.reduceDiv, reduceIte]
          rcases Nat.lt_or_ge i B.b with hlt | hge
          · have rb := rblank_spec (G := G) g false hg ⟨i, B.l, i + 1, B.r⟩ (by simp only; omega) (by simp only; omega) (by simp only; omega) (by simp only; omega) false ⟨fun e => (by cases e), fun e => absurd e (hall i q1 (by omega))⟩
            simp (config := { maxSteps := 1000000 }) (disch := ((try simp only [awL]); omega)) only [QR, QS, QT, QU, QV, QW, QX, QY, QZ, Q0, Q1, Q2, ↓awU, awV, awF, Qa, Qb, Qc, Qd, forall_const, ↓reduceIte, ↓reduceDIte, ↓Qe, Qf, Qg, Qh, Qi, Qj, Qk, Ql, Qm, Qn, Qo, Qp, Qq, Qr, Qs, implies_true, Qt, Qu, Qv, Qw, Qx, Qy, Qz, QA, QB, QC, QD, QE, QF, QG, QH, QI, QJ, QK, QL, QM, QN, QO, QP, QQ]
            refine CallC.of (rrow_spec ⟨B.t, B.l, B.b, B.r⟩ (i : Int) (by omega) (by omega)) (by rfl) ?_
            simp (config := { maxSteps := 1000000 }) (disch := ((try simp only [awL]); omega)) only [QR, QS, QT, QU, QV, QW, QX, QY, QZ, Q0, Q1, Q2, ↓awU, awV, awF, Qa, Qb, Qc, Qd, forall_const, ↓reduceIte, ↓reduceDIte, ↓Qe, Qf, Qg, Qh, Qi, Qj, Qk, Ql, Qm, Qn, Qo, Qp, Qq, Qr, Qs, implies_true, Qt, Qu, Qv, Qw, Qx, Qy, Qz, QA, QB, QC, QD, QE, QF, QG, QH, QI, QJ, QK, QL, QM, QN, QO, QP, QQ]
            refine CallC.of rb (by rfl) ?_
            simp (config := { maxSteps := 1000000 }) (disch := ((try simp only [awL]); omega)) only [QR, QS, QT, QU, QV, QW, QX, QY, QZ, Q0, Q1, Q2, ↓awU, awV, awF, Qa, Qb, Qc, Qd, forall_const, ↓reduceIte, ↓reduceDIte, ↓Qe, Qf, Qg, Qh, Qi, Qj, Qk, Ql, Qm, Qn, Qo, Qp, Qq, Qr, Qs, implies_true, Qt, Qu, Qv, Qw, Qx, Qy, Qz, QA, QB, QC, QD, QE, QF, QG, QH, QI, QJ, QK, QL, QM, QN, QO, QP, QQ]
            exact ⟨by rfl, i + 1, ⟨by omega, by omega⟩, by simp only; omega, ⟨[some 0, some 1], rfl, by simp, by simp [setsA, keepA, SWeak, AWeak], by simp [HWeak, BWeak, SWeak, AWeak]⟩⟩
          · have hib : i = B.b := by omega
            clear hge
            simp (config := { maxSteps := 1000000 }) (disch := ((try simp only [awL]); omega)) only [QR, QS, QT, QU, QV, QW, QX, QY, QZ, Q0, Q1, Q2, ↓awU, awV, awF, Qa, Qb, Qc, Qd, forall_const, ↓reduceIte, ↓reduceDIte, ↓Qe, Qf, Qg, Qh, Qi, Qj, Qk, Ql, Qm, Qn, Qo, Qp, Qq, Qr, Qs, implies_true, Qt, Qu, Qv, Qw, Qx, Qy, Qz, QA, QB, QC, QD, QE, QF, QG, QH, QI, QJ, QK, QL, QM, QN, QO, QP, QQ]
            refine LoopC.fr 12 (α := Nat) (fun j => B.r + 1 - j) (fun j => [(8, .d (.int .i64 j))]) (fun _ => [.box [.d (Gr g fl)], .box [.d (.int .i64 B.t), .d (.int .i64 B.l), .d (.int .i64 B.b), .d (.int .i64 B.r)]]) (fun j => B.l ≤ j ∧ j ≤ j0) B.l ⟨Nat.le_refl _, by omega⟩ ?_ ?_
            · exact ⟨[some 0, some 1], rfl, by simp, by simp [setsA, keepA, SWeak, AWeak], by simp [HWeak, BWeak, SWeak, AWeak]⟩
            · rintro j ⟨r1, r2⟩
              simp only [awK, Nat.reduceMod, Nat.reduceDiv, reduceIte]
              rcases Nat.lt_or_ge j j0 with hlt | hge
              · have rb := rblank_spec (G := G) g false hg ⟨B.t, j, B.b, j + 1⟩ (by simp only; omega) (by simp only; omega) (by simp only; omega) (by simp only; omega) false ⟨fun e => (by cases e), fun e => absurd e (j4 j r1 hlt)⟩
                simp (config := { maxSteps := 1000000 }) (disch := ((try simp only [awL]); omega)) only [QR, QS, QT, QU, QV, QW, QX, QY, QZ, Q0, Q1, Q2, ↓awU, awV, awF, Qa, Qb, Qc, Qd, forall_const, ↓reduceIte, ↓reduceDIte, ↓Qe, Qf, Qg, Qh, Qi, Qj, Qk, Ql, Qm, Qn, Qo, Qp, Qq, Qr, Qs, implies_true, Qt, Qu, Qv, Qw, Qx, Qy, Qz, QA, QB, QC, QD, QE, QF, QG, QH, QI, QJ, QK, QL, QM, QN, QO, QP, QQ]
                refine CallC.of (rcolumn_spec ⟨B.t, B.l, B.b, B.r⟩ (j : Int) (by omega) (by omega)) (by rfl) ?_
                simp (config := { maxSteps := 1000000 }) (disch := ((try simp only [awL]); omega)) only [QR, QS, QT, QU, QV, QW, QX, QY, QZ, Q0, Q1, Q2, ↓awU, awV, awF, Qa, Qb, Qc, Qd, forall_const, ↓reduceIte, ↓reduceDIte, ↓Qe, Qf, Qg, Qh, Qi, Qj, Qk, Ql, Qm, Qn, Qo, Qp, Qq, Qr, Qs, implies_true, Qt, Qu, Qv, Qw, Qx, Qy, Qz, QA, QB, QC, QD, QE, QF, QG, QH, QI, QJ, QK, QL, QM, QN, QO, QP, QQ]
                refine CallC.of rb (by rfl) ?_
                simp (config := { maxSteps := 1000000 }) (disch := ((try simp only [awL]); omega)) only [QR, QS, QT, QU, QV, QW, QX, QY, QZ, Q0, Q1, Q2, ↓awU, awV, awF, Qa, Qb, Qc, Qd, forall_const, ↓reduceIte, ↓reduceDIte, ↓Qe, Qf, Qg, Qh, Qi, Qj, Qk, Ql, Qm, Qn, Qo, Qp, Qq, Qr, Qs, implies_true, Qt, Qu, Qv, Qw, Qx, Qy, Qz, QA, QB, QC, QD, QE, QF, QG, QH, QI, QJ, QK, QL, QM, QN, QO, QP, QQ]
                exact ⟨by rfl, j + 1, ⟨by omega, by omega⟩, by simp only; omega, ⟨[some 0, some 1], rfl, by simp, by simp [setsA, keepA, SWeak, AWeak], by simp [HWeak, BWeak, SWeak, AWeak]⟩⟩
              · obtain rfl : j = j0 := by omega
                have rb := rblank_spec (G := G) g false hg ⟨B.t, j, B.b, j + 1⟩ (by simp only; omega) (by simp only; omega) (by simp only; omega) (by simp only; omega) true ⟨fun _ => j3, fun _ => rfl⟩
                simp (config := { maxSteps := 1000000 }) (disch := ((try simp only [awL]); omega)) only [QR, QS, QT, QU, QV, QW, QX, QY, QZ, Q0, Q1, Q2, ↓awU, awV, awF, Qa, Qb, Qc, Qd, forall_const, ↓reduceIte, ↓reduceDIte, ↓Qe, Qf, Qg, Qh, Qi, Qj, Qk, Ql, Qm, Qn, Qo, Qp, Qq, Qr, Qs, implies_true, Qt, Qu, Qv, Qw, Qx, Qy, Qz, QA, QB, QC, QD, QE, QF, QG, QH, QI, QJ, QK, QL, QM, QN, QO, QP, QQ]
                refine CallC.of (rcolumn_spec ⟨B.t, B.l, B.b, B.r⟩ (j : Int) (by omega) (by omega)) (by rfl) ?_
                simp (config := { maxSteps := 1000000 }) (disch := ((try simp only [awL]); omega)) only [QR, QS, QT, QU, QV, QW, QX, QY, QZ, Q0, Q1, Q2, ↓awU, awV, awF, Qa, Qb, Qc, Qd, forall_const, ↓reduceIte, ↓reduceDIte, ↓Qe, Qf, Qg, Qh, Qi, Qj, Qk, Ql, Qm, Qn, Qo, Qp, Qq, Qr, Qs, implies_true, Qt, Qu, Qv, Qw, Qx, Qy, Qz, QA, QB, QC, QD, QE, QF, QG, QH, QI, QJ, QK, QL, QM, QN, QO, QP, QQ]
                refine CallC.of rb (by rfl) ?_
                simp (config := { maxSteps := 1000000 }) (disch := ((try simp only [awL]); omega)) only [QR, QS, QT, QU, QV, QW, QX, QY, QZ, Q0, Q1, Q2, ↓awU, awV, awF, Qa, Qb, Qc, Qd, forall_const, ↓reduceIte, ↓reduceDIte, ↓Qe, Qf, Qg, Qh, Qi, Qj, Qk, Ql, Qm, Qn, Qo, Qp, Qq, Qr, Qs, implies_true, Qt, Qu, Qv, Qw, Qx, Qy, Qz, QA, QB, QC, QD, QE, QF, QG, QH, QI, QJ, QK, QL, QM, QN, QO, QP, QQ]
                have lu := p1.length_eq
                have ld := p2.length_eq
                first | refine CallC.by (L := []) (c1 false) (by rfl) (by rfl) (by simp) ?_ | refine ⟨by rfl, CallC.by (L := []) (c1 false) (by rfl) (by rfl) (by simp) ?_⟩ | refine ⟨by rfl, by rfl, CallC.by (L := []) (c1 false) (by rfl) (by rfl) (by simp) ?_⟩
                simp (config := { maxSteps := 1000000 }) (disch := ((try simp only [awL]); omega)) only [QR, QS, QT, QU, QV, QW, QX, QY, QZ, Q0, Q1, Q2, ↓awU, awV, awF, Qa, Qb, Qc, Qd, forall_const, ↓reduceIte, ↓reduceDIte, ↓Qe, Qf, Qg, Qh, Qi, Qj, Qk, Ql, Qm, Qn, Qo, Qp, Qq, Qr, Qs, implies_true, Qt, Qu, Qv, Qw, Qx, Qy, Qz, QA, QB, QC, QD, QE, QF, QG, QH, QI, QJ, QK, QL, QM, QN, QO, QP, QQ]
                first | refine CallC.by (L := []) (c2 false) (by rfl) (by rfl) (by simp) ?_ | refine ⟨by rfl, CallC.by (L := []) (c2 false) (by rfl) (by rfl) (by simp) ?_⟩ | refine ⟨by rfl, by rfl, CallC.by (L := []) (c2 false) (by rfl) (by rfl) (by simp) ?_⟩
                have ol1 := regC_length (rgs L1)
                have ol2 := regC_length (rgs L2)
                have ml1 : (rgs L1).length = L1.length := List.length_map _
                have ml2 : (rgs L2).length = L2.length := List.length_map _
                rw [ml1] at ol1
                rw [ml2] at ol2
                have cu : cut (regC (rgs L2)) 0 (L2.length * 4) = regC (rgs L2) := cut_all (by omega)
                have ap : regC (rgs L1) ++ regC (rgs L2) = regC (rgs (L1 ++ L2)) := by rw [← regC_app, show rgs L1 ++ rgs L2 = rgs (L1 ++ L2) from (List.map_append ..).symm]
                have al : (L1 ++ L2).length = L1.length + L2.length := List.length_append
                simp (config := { maxSteps := 1000000 }) (disch := ((try simp only [awL]); omega)) only [QR, QS, QT, QU, QV, QW, QX, QY, QZ, Q0, Q1, Q2, ol1, ol2, cu, ap, al, ↓awU, awV, awF, Qa, Qb, Qc, Qd, forall_const, ↓reduceIte, ↓reduceDIte, ↓Qe, Qf, Qg, Qh, Qi, Qj, Qk, Ql, Qm, Qn, Qo, Qp, Qq, Qr, Qs, implies_true, Qt, Qu, Qv, Qw, Qx, Qy, Qz, QA, QB, QC, QD, QE, QF, QG, QH, QI, QJ, QK, QL, QM, QN, QO, QP, QQ]
                first | exact ⟨[some 6], rfl, by simp, by simp [HWeak, BWeak, SWeak, AWeak], .inl (by simp [AWeak, SWeak])⟩ | exact ⟨by rfl, ⟨[some 6], rfl, by simp, by simp [HWeak, BWeak, SWeak, AWeak], .inl (by simp [AWeak, SWeak])⟩⟩ | trace_state
    · obtain ⟨⟨u1, u2, u3⟩, ⟨d1, d2, d3⟩, lv⟩ := dr i1 (by omega) i3
      have lvl := congrArg List.length lv
      rw [List.length_append] at lvl
      obtain ⟨L1, p1, c1⟩ := ih _ u1 u2 (by omega) (by omega)
      obtain ⟨L2, p2, c2⟩ := ih _ d1 d2 (by omega) (by omega)
      refine ⟨L1 ++ L2, by rw [lv]; exact p1.append p2, fun fl => ?_⟩
      refine Ctr.body (M := M0) hmix Tryz.func87 rfl go87 ?_
      simp (config := { maxSteps := 1000000 }) (disch := ((try simp only [awL]); omega)) only [QR, QS, QT, QU, QV, QW, QX, QY, QZ, Q0, Q1, Q2, Tryz.f87, ↓awU, awV, awF, Qa, Qb, Qc, Qd, forall_const, ↓reduceIte, ↓reduceDIte, ↓Qe, Qf, Qg, Qh, Qi, Qj, Qk, Ql, Qm, Qn, Qo, Qp, Qq, Qr, Qs, implies_true, Qt, Qu, Qv, Qw, Qx, Qy, Qz, QA, QB, QC, QD, QE, QF, QG, QH, QI, QJ, QK, QL, QM, QN, QO, QP, QQ]
      refine CallC.of bl0 (by rfl) ?_
      simp (config := { maxSteps := 1000000 }) (disch := ((try simp only [awL]); omega)) only [QR, QS, QT, QU, QV, QW, QX, QY, QZ, Q0, Q1, Q2, ↓awU, awV, awF, Qa, Qb, Qc, Qd, forall_const, ↓reduceIte, ↓reduceDIte, ↓Qe, Qf, Qg, Qh, Qi, Qj, Qk, Ql, Qm, Qn, Qo, Qp, Qq, Qr, Qs, implies_true, Qt, Qu, Qv, Qw, Qx, Qy, Qz, QA, QB, QC, QD, QE, QF, QG, QH, QI, QJ, QK, QL, QM, QN, QO, QP, QQ]
      refine CallC.of tt (by rfl) ?_
      simp (config := { maxSteps := 1000000 }) (disch := ((try simp only [awL]); omega)) only [QR, QS, QT, QU, QV, QW, QX, QY, QZ, Q0, Q1, Q2, ↓awU, awV, awF, Qa, Qb, Qc, Qd, forall_const, ↓reduceIte, ↓reduceDIte, ↓Qe, Qf, Qg, Qh, Qi, Qj, Qk, Ql, Qm, Qn, Qo, Qp, Qq, Qr, Qs, implies_true, Qt, Qu, Qv, Qw, Qx, Qy, Qz, QA, QB, QC, QD, QE, QF, QG, QH, QI, QJ, QK, QL, QM, QN, QO, QP, QQ]
      refine LoopC.fr 12 (α := Nat) (fun i => i0 + 1 - i) (fun i => [(5, .d (.int .i64 i))]) (fun _ => [.box [.d (Gr g fl)], .box [.d (.int .i64 B.t), .d (.int .i64 B.l), .d (.int .i64 B.b), .d (.int .i64 B.r)]]) (fun i => B.t ≤ i ∧ i ≤ i0) B.t ⟨Nat.le_refl _, by omega⟩ ?_ ?_
      · exact ⟨[some 0, some 1], rfl, by simp, by simp [setsA, keepA, SWeak, AWeak], by simp [HWeak, BWeak, SWeak, AWeak]⟩
      · rintro i ⟨q1, q2⟩
        simp only [awK, Nat.reduceMod, Nat.reduceDiv, reduceIte]
        rcases Nat.lt_or_ge i i0 with hlt | hge
        · have rb := rblank_spec (G := G) g false hg ⟨i, B.l, i + 1, B.r⟩ (by simp only; omega) (by simp only; omega) (by simp only; omega) (by simp only; omega) false ⟨fun e => (by cases e), fun e => absurd e (i4 i q1 hlt)⟩
          simp (config := { maxSteps := 1000000 }) (disch := ((try simp only [awL]); omega)) only [QR, QS, QT, QU, QV, QW, QX, QY, QZ, Q0, Q1, Q2, ↓awU, awV, awF, Qa, Qb, Qc, Qd, forall_const, ↓reduceIte, ↓reduceDIte, ↓Qe, Qf, Qg, Qh, Qi, Qj, Qk, Ql, Qm, Qn, Qo, Qp, Qq, Qr, Qs, implies_true, Qt, Qu, Qv, Qw, Qx, Qy, Qz, QA, QB, QC, QD, QE, QF, QG, QH, QI, QJ, QK, QL, QM, QN, QO, QP, QQ]
          refine CallC.of (rrow_spec ⟨B.t, B.l, B.b, B.r⟩ (i : Int) (by omega) (by omega)) (by rfl) ?_
          simp (config := { maxSteps := 1000000 }) (disch := ((try simp only [awL]); omega)) only [QR, QS, QT, QU, QV, QW, QX, QY, QZ, Q0, Q1, Q2, ↓awU, awV, awF, Qa, Qb, Qc, Qd, forall_const, ↓reduceIte, ↓reduceDIte, ↓Qe, Qf, Qg, Qh, Qi, Qj, Qk, Ql, Qm, Qn, Qo, Qp, Qq, Qr, Qs, implies_true, Qt, Qu, Qv, Qw, Qx, Qy, Qz, QA, QB, QC, QD, QE, QF, QG, QH, QI, QJ, QK, QL, QM, QN, QO, QP, QQ]
          refine CallC.of rb (by rfl) ?_
          simp (config := { maxSteps := 1000000 }) (disch := ((try simp only [awL]); omega)) only [QR, QS, QT, QU, QV, QW, QX, QY, QZ, Q0, Q1, Q2, ↓awU, awV, awF, Qa, Qb, Qc, Qd, forall_const, ↓reduceIte, ↓reduceDIte, ↓Qe, Qf, Qg, Qh, Qi, Qj, Qk, Ql, Qm, Qn, Qo, Qp, Qq, Qr, Qs, implies_true, Qt, Qu, Qv, Qw, Qx, Qy, Qz, QA, QB, QC, QD, QE, QF, QG, QH, QI, QJ, QK, QL, QM, QN, QO, QP, QQ]
          exact ⟨by rfl, i + 1, ⟨by omega, by omega⟩, by simp only; omega, ⟨[some 0, some 1], rfl, by simp, by simp [setsA, keepA, SWeak, AWeak], by simp [HWeak, BWeak, SWeak, AWeak]⟩⟩
        · obtain rfl : i = i0 := by omega
          have rb := rblank_spec (G := G) g false hg ⟨i, B.l, i + 1, B.r⟩ (by simp only; omega) (by simp only; omega) (by simp only; omega) (by simp only; omega) true ⟨fun _ => i3, fun _ => rfl⟩
          simp (config := { maxSteps := 1000000 }) (disch := ((try simp only [awL]); omega)) only [QR, QS, QT, QU, QV, QW, QX, QY, QZ, Q0, Q1, Q2, ↓awU, awV, awF, Qa, Qb, Qc, Qd, forall_const, ↓reduceIte, ↓reduceDIte, ↓Qe, Qf, Qg, Qh, Qi, Qj, Qk, Ql, Qm, Qn, Qo, Qp, Qq, Qr, Qs, implies_true, Qt, Qu, Qv, Qw, Qx, Qy, Qz, QA, QB, QC, QD, QE, QF, QG, QH, QI, QJ, QK, QL, QM, QN, QO, QP, QQ]
          refine CallC.of (rrow_spec ⟨B.t, B.l, B.b, B.r⟩ (i : Int) (by omega) (by omega)) (by rfl) ?_
          simp (config := { maxSteps := 1000000 }) (disch := ((try simp only [awL]); omega)) only [QR, QS, QT, QU, QV, QW, QX, QY, QZ, Q0, Q1, Q2, ↓awU, awV, awF, Qa, Qb, Qc, Qd, forall_const, ↓reduceIte, ↓reduceDIte, ↓Qe, Qf, Qg, Qh, Qi, Qj, Qk, Ql, Qm, Qn, Qo, Qp, Qq, Qr, Qs, implies_true, Qt, Qu, Qv, Qw, Qx, Qy, Qz, QA, QB, QC, QD, QE, QF, QG, QH, QI, QJ, QK, QL, QM, QN, QO, QP, QQ]
          refine CallC.of rb (by rfl) ?_
          simp (config := { maxSteps := 1000000 }) (disch := ((try simp only [awL]); omega)) only [QR, QS, QT, QU, QV, QW, QX, QY, QZ, Q0, Q1, Q2, ↓awU, awV, awF, Qa, Qb, Qc, Qd, forall_const, ↓reduceIte, ↓reduceDIte, ↓Qe, Qf, Qg, Qh, Qi, Qj, Qk, Ql, Qm, Qn, Qo, Qp, Qq, Qr, Qs, implies_true, Qt, Qu, Qv, Qw, Qx, Qy, Qz, QA, QB, QC, QD, QE, QF, QG, QH, QI, QJ, QK, QL, QM, QN, QO, QP, QQ]
          have lu := p1.length_eq
          have ld := p2.length_eq
          first | refine CallC.by (L := []) (c1 false) (by rfl) (by rfl) (by simp) ?_ | refine ⟨by rfl, CallC.by (L := []) (c1 false) (by rfl) (by rfl) (by simp) ?_⟩ | refine ⟨by rfl, by rfl, CallC.by (L := []) (c1 false) (by rfl) (by rfl) (by simp) ?_⟩
          simp (config := { maxSteps := 1000000 }) (disch := ((try simp only [awL]); omega)) only [QR, QS, QT, QU, QV, QW, QX, QY, QZ, Q0, Q1, Q2, ↓awU, awV, awF, Qa, Qb, Qc, Qd, forall_const, ↓reduceIte, ↓reduceDIte, ↓Qe, Qf, Qg, Qh, Qi, Qj, Qk, Ql, Qm, Qn, Qo, Qp, Qq, Qr, Qs, implies_true, Qt, Qu, Qv, Qw, Qx, Qy, Qz, QA, QB, QC, QD, QE, QF, QG, QH, QI, QJ, QK, QL, QM, QN, QO, QP, QQ]
          first | refine CallC.by (L := []) (c2 false) (by rfl) (by rfl) (by simp) ?_ | refine ⟨by rfl, CallC.by (L := []) (c2 false) (by rfl) (by rfl) (by simp) ?_⟩ | refine ⟨by rfl, by rfl, CallC.by (L := []) (c2 false) (by rfl) (by rfl) (by simp) ?_⟩
          have ol1 := regC_length (rgs L1)
          have ol2 := regC_length (rgs L2)
          have ml1 : (rgs L1).length = L1.length := List.length_map _
          have ml2 : (rgs L2).length = L2.length := List.length_map _
          rw [ml1] at ol1
          rw [ml2] at ol2
          have cu : cut (regC (rgs L2)) 0 (L2.length * 4) = regC (rgs L2) := cut_all (by omega)
          have ap : regC (rgs L1) ++ regC (rgs L2) = regC (rgs (L1 ++ L2)) := by rw [← regC_app, show rgs L1 ++ rgs L2 = rgs (L1 ++ L2) from (List.map_append ..).symm]
          have al : (L1 ++ L2).length = L1.length + L2.length := List.length_append
          simp (config := { maxSteps := 1000000 }) (disch := ((try simp only [awL]); omega)) only [QR, QS, QT, QU, QV, QW, QX, QY, QZ, Q0, Q1, Q2, ol1, ol2, cu, ap, al, ↓awU, awV, awF, Qa, Qb, Qc, Qd, forall_const, ↓reduceIte, ↓reduceDIte, ↓Qe, Qf, Qg, Qh, Qi, Qj, Qk, Ql, Qm, Qn, Qo, Qp, Qq, Qr, Qs, implies_true, Qt, Qu, Qv, Qw, Qx, Qy, Qz, QA, QB, QC, QD, QE, QF, QG, QH, QI, QJ, QK, QL, QM, QN, QO, QP, QQ]
          first | exact ⟨[some 6], rfl, by simp, by simp [HWeak, BWeak, SWeak, AWeak], .inl (by simp [AWeak, SWeak])⟩ | exact ⟨by rfl, ⟨[some 6], rfl, by simp, by simp [HWeak, BWeak, SWeak, AWeak], .inl (by simp [AWeak, SWeak])⟩⟩ | trace_state
end Go.Proofs.YtacepalmphbnfaaGreatDoor

namespace Go.Proofs.YtacepalmphbnfaaGreatDoor
open Go Go.Proofs Go.Abs
variable {G : Globals}
/-! Sheet: the reference's Regions: plain. -/
theorem pairwise_get {l : List Ar} (h : l.Pairwise fun x y => leA x y = true) {i j : Nat} (hij : i < j) (hj : j < l.length) : leA (l.getD i default) (l.getD j default) = true := by
  have hi : i < l.length := by omega
  have := List.pairwise_iff_getElem.1 h i j hi hj hij
  rw [List.getD_eq_getElem?_getD, List.getD_eq_getElem?_getD, List.getElem?_eq_getElem hi, List.getElem?_eq_getElem hj]
  exact this
theorem mem_getD {α : Type} {l : List α} {x d : α} (h : x ∈ l) : ∃ i, i < l.length ∧ l.getD i d = x := by
  obtain ⟨i, hi, e⟩ := List.getElem_of_mem h
  exact ⟨i, hi, by rw [List.getD_eq_getElem?_getD, List.getElem?_eq_getElem hi]; exact e⟩
theorem ins_ok {out : List Ar} {r : Ar} {k : Nat} (hk : k ≤ out.length) (hs : out.Pairwise fun x y => leA x y = true) (h1 : ∀ j, k ≤ j → j < out.length → leA r (out.getD j default) = true) (h2 : k = 0 ∨ leA (out.getD (k - 1) default) r = true) :
    ((out.take k ++ r :: out.drop k).Pairwise fun x y => leA x y = true) ∧ (out.take k ++ r :: out.drop k).Perm (r :: out) := by
  refine ⟨?_, ?_⟩
  · have e : out.take k ++ out.drop k = out := List.take_append_drop k out
    have hs2 := hs
    rw [← e, List.pairwise_append] at hs2
    obtain ⟨p1, p2, p3⟩ := hs2
    have hb : ∀ y ∈ out.drop k, leA r y = true := fun y hy => by
      obtain ⟨i, hi, e⟩ := mem_getD (d := default) hy
      rw [List.length_drop] at hi
      have := h1 (k + i) (by omega) (by omega)
      rw [List.getD_eq_getElem?_getD, List.getElem?_drop, ← List.getD_eq_getElem?_getD] at e
      rwa [e] at this
    have ha : ∀ x ∈ out.take k, leA x r = true := fun x hx => by
      obtain ⟨i, hi, e⟩ := mem_getD (d := default) hx
      rw [List.length_take] at hi
      rcases h2 with h2 | h2
      · omega
      · rw [List.getD_eq_getElem?_getD, List.getElem?_take, if_pos (by omega), ← List.getD_eq_getElem?_getD] at e
        rcases Nat.lt_or_ge i (k - 1) with h3 | h3
        · have := pairwise_get hs h3 (by omega)
          rw [e] at this
          exact leA_trans _ _ _ this h2
        · obtain rfl : i = k - 1 := by omega
          rwa [e] at h2
    rw [List.pairwise_append]
    refine ⟨p1, List.pairwise_cons.2 ⟨hb, p2⟩, fun x hx y hy => ?_⟩
    rcases List.mem_cons.1 hy with rfl | hy
    · exact ha x hx
    · exact leA_trans _ _ _ (ha x hx) (hb y hy)
  · refine List.perm_middle.trans ?_
    rw [List.take_append_drop]
theorem regC_take (l : List Rg) (k : Nat) : (regC l).take (k * 4) = regC (l.take k) := by
  rcases Nat.lt_or_ge l.length k with h | h
  · rw [List.take_of_length_le (by rw [regC_length]; omega), List.take_of_length_le (by omega)]
  · have e : regC l = regC (l.take k) ++ regC (l.drop k) := by rw [← regC_app, List.take_append_drop]
    have tl : (regC (l.take k)).length = k * 4 := by rw [regC_length, List.length_take]; omega
    rw [e, ← tl, List.take_left]
theorem regC_drop (l : List Rg) (k : Nat) : (regC l).drop (k * 4) = regC (l.drop k) := by
  rcases Nat.lt_or_ge l.length k with h | h
  · rw [List.drop_of_length_le (by rw [regC_length]; omega), List.drop_of_length_le (by omega)]; rfl
  · have e : regC l = regC (l.take k) ++ regC (l.drop k) := by rw [← regC_app, List.take_append_drop]
    have tl : (regC (l.take k)).length = k * 4 := by rw [regC_length, List.length_take]; omega
    rw [e, ← tl, List.drop_left]
end Go.Proofs.YtacepalmphbnfaaGreatDoor

namespace Go.Proofs.YtacepalmphbnfaaGreatDoor
open Go Go.Proofs Go.Abs
variable {G : Globals}
/-! Sheet: the reference's Regions. -/
theorem rgs_length (l : List Ar) : (rgs l).length = l.length := List.length_map _
theorem rgs_get {l : List Ar} {k : Nat} (h : k < l.length) : (rgs l).getD k noRg = (l.getD k default).rg := by
  rw [List.getD_eq_getElem?_getD, List.getD_eq_getElem?_getD, List.getElem?_map, List.getElem?_eq_getElem h]; rfl
theorem rgs_cells {l : List Ar} {k : Nat} (h : k < l.length) : ((regC (rgs l)).drop (k * 4)).take 4 = [.int .i64 (l.getD k default).t, .int .i64 (l.getD k default).l, .int .i64 (l.getD k default).b, .int .i64 (l.getD k default).r] := by
  rw [regC_get (by rw [rgs_length]; exact h), rgs_get h]
theorem rgs_cell {l : List Ar} {k q : Nat} (h : k < l.length) (hq : q < 4) : (regC (rgs l)).getD (k * 4 + q) .nilp = (((regC (rgs l)).drop (k * 4)).take 4).getD q .nilp := by
  rw [List.getD_eq_getElem?_getD, List.getD_eq_getElem?_getD, List.getElem?_take, if_pos hq, List.getElem?_drop]
theorem rgs_c0 {l : List Ar} {k : Nat} (h : k < l.length) : (regC (rgs l)).getD (k * 4) .nilp = .int .i64 (l.getD k default).t := by
  have := rgs_cell (q := 0) h (by decide)
  rw [rgs_cells h] at this
  exact this
theorem rgs_c1 {l : List Ar} {k : Nat} (h : k < l.length) : (regC (rgs l)).getD (k * 4 + 1) .nilp = .int .i64 (l.getD k default).l := by
  rw [rgs_cell h (by decide), rgs_cells h]; rfl
set_option maxHeartbeats 4000000 in
set_option maxRecDepth 100000 in
theorem done_none (g : List Row) (hg : okGW g) (a : Ar) (h : InG g a) (hk : ¬ HasInk g a) (fl : Bool) :
    Ctr Tryz.prog G 87 [.d (.agg [Gr g fl]), .d (RgD a.rg)] [] (.d (.sl 0 false [])) [] := by
  obtain ⟨w1, w2, w3, w4, w5⟩ := id h
  have bl0 := rblank_spec (G := G) g false hg a (by omega) (by omega) (by omega) (by omega) true ⟨fun _ => hk, fun _ => rfl⟩
  refine Ctr.pure (M := M0) hmix Tryz.func87 rfl go87 ?_
  simp (config := { maxSteps := 1000000 }) (disch := ((try simp only [awL]); omega)) only [QR, QS, QT, QU, QV, QW, QX, QY, QZ, Q0, Q1, Q2, Tryz.f87, ↓awU, awV, awF, Qa, Qb, Qc, Qd, forall_const, ↓reduceIte, ↓reduceDIte, ↓Qe, Qf, Qg, Qh, Qi, Qj, Qk, Ql, Qm, Qn, Qo, Qp, Qq, Qr, Qs, implies_true, Qt, Qu, Qv, Qw, Qx, Qy, Qz, QA, QB, QC, QD, QE, QF, QG, QH, QI, QJ, QK, QL, QM, QN, QO, QP, QQ]
  refine CallC.of bl0 (by rfl) ?_
  simp (config := { maxSteps := 1000000 }) (disch := ((try simp only [awL]); omega)) only [QR, QS, QT, QU, QV, QW, QX, QY, QZ, Q0, Q1, Q2, ↓awU, awV, awF, Qa, Qb, Qc, Qd, forall_const, ↓reduceIte, ↓reduceDIte, ↓Qe, Qf, Qg, Qh, Qi, Qj, Qk, Ql, Qm, Qn, Qo, Qp, Qq, Qr, Qs, implies_true, Qt, Qu, Qv, Qw, Qx, Qy, Qz, QA, QB, QC, QD, QE, QF, QG, QH, QI, QJ, QK, QL, QM, QN, QO, QP, QQ]
def MRr : Muts := fun k => k == 2000068
theorem MRr_t : MRr 2000068 = true := rfl
theorem MRr_n {k : Nat} (h : k ≠ 2000068) : MRr k = false := by simp only [MRr, beq_eq_false_iff_ne]; exact h
set_option maxHeartbeats 16000000 in
set_option maxRecDepth 100000 in
theorem rregions_spec (g : List Row) (full : Bool) (hg : okGW g) (h : Grd g) :
    Ctr Tryz.prog G 40 [.d (.agg [Gr g full])] [] (.d (.sl (regsL g).length false (regC (rgs (regsL g))))) [] := by
  have gl := @rowsD_length g
  have g1 := h.gl
  have g2 := h.gw
  have lf := leaves_few h
  refine Ctr.pure (M := MRr) hmix Tryz.func40 rfl go40 ?_
  by_cases hk : HasInk g (wholeG g)
  · obtain ⟨L, pL, cL⟩ := done_spec (G := G) g hg _ (wholeG g) (whole_in h) hk (Nat.lt_succ_self _) lf
    have isr := fun (l : List Ar) (p : l.Perm L) (s : l.Pairwise fun x y => leA x y = true) => regs_is h (p.trans pL) s
    rw [← pL.length_eq] at lf
    clear pL
    have ol := regC_length (rgs L)
    rw [rgs_length] at ol
    simp (config := { maxSteps := 1000000 }) (disch := ((try simp only [awL]); omega)) only [QR, QS, QT, QU, QV, QW, QX, QY, QZ, Q0, Q1, Q2, MRr_t, MRr_n, gl, Tryz.f40, ↓awU, awV, awF, Qa, Qb, Qc, Qd, forall_const, ↓reduceIte, ↓reduceDIte, ↓Qe, Qf, Qg, Qh, Qi, Qj, Qk, Ql, Qm, Qn, Qo, Qp, Qq, Qr, Qs, implies_true, Qt, Qu, Qv, Qw, Qx, Qy, Qz, QA, QB, QC, QD, QE, QF, QG, QH, QI, QJ, QK, QL, QM, QN, QO, QP, QQ]
    refine CallC.of (rwidth_spec g false hg) (by rfl) ?_
    simp (config := { maxSteps := 1000000 }) (disch := ((try simp only [awL]); omega)) only [QR, QS, QT, QU, QV, QW, QX, QY, QZ, Q0, Q1, Q2, MRr_t, MRr_n, gl, ↓awU, awV, awF, Qa, Qb, Qc, Qd, forall_const, ↓reduceIte, ↓reduceDIte, ↓Qe, Qf, Qg, Qh, Qi, Qj, Qk, Ql, Qm, Qn, Qo, Qp, Qq, Qr, Qs, implies_true, Qt, Qu, Qv, Qw, Qx, Qy, Qz, QA, QB, QC, QD, QE, QF, QG, QH, QI, QJ, QK, QL, QM, QN, QO, QP, QQ]
    refine CallC.by (L := []) (cL false) (by rfl) (by rfl) (by simp) ?_
    simp (config := { maxSteps := 1000000 }) (disch := ((try simp only [awL]); omega)) only [QR, QS, QT, QU, QV, QW, QX, QY, QZ, Q0, Q1, Q2, MRr_t, MRr_n, gl, ↓awU, awV, awF, Qa, Qb, Qc, Qd, forall_const, ↓reduceIte, ↓reduceDIte, ↓Qe, Qf, Qg, Qh, Qi, Qj, Qk, Ql, Qm, Qn, Qo, Qp, Qq, Qr, Qs, implies_true, Qt, Qu, Qv, Qw, Qx, Qy, Qz, QA, QB, QC, QD, QE, QF, QG, QH, QI, QJ, QK, QL, QM, QN, QO, QP, QQ]
    refine ⟨by rfl, ?_⟩
    refine LoopC.fr 49152 (α := Nat × List Ar) (fun x => L.length - x.1) (fun x => [(3, .lsl 2 4 0 x.2.length), (16, .d (.int .i64 x.1))]) (fun x => [.box [.d (Gr g full)], .row false (regC (rgs L)), .row false (regC (rgs x.2))])
      (fun x => x.1 ≤ L.length ∧ x.2.length = x.1 ∧ x.2.Perm (L.take x.1) ∧ x.2.Pairwise fun x y => leA x y = true) (0, []) ⟨Nat.zero_le _, rfl, by simp, List.Pairwise.nil⟩ ?_ ?_
    · exact ⟨[some 0, some 1, none], rfl, by simp, by simp [setsA, keepA, SWeak, AWeak], by simp [HWeak, BWeak, SWeak, AWeak, regC]⟩
    · rintro ⟨i, out⟩ ⟨h1, h2, h3, h4⟩
      simp only at h1 h2 h3 h4
      have oo := regC_length (rgs out)
      rw [rgs_length] at oo
      simp only [awK, Nat.reduceMod, Nat.reduceDiv, reduceIte]
      rcases Nat.lt_or_ge i L.length with hi | hi
      · have gc := rgs_cells hi
        have tk := List.take_add_one (l := L) (i := i)
        rw [getD_some (d := default) hi] at tk
        generalize L.getD i default = r at *
        simp (config := { maxSteps := 1000000 }) (disch := ((try simp only [awL]); omega)) only [QR, QS, QT, QU, QV, QW, QX, QY, QZ, Q0, Q1, Q2, MRr_t, MRr_n, ol, oo, gc, ↓awU, awV, awF, Qa, Qb, Qc, Qd, forall_const, ↓reduceIte, ↓reduceDIte, ↓Qe, Qf, Qg, Qh, Qi, Qj, Qk, Ql, Qm, Qn, Qo, Qp, Qq, Qr, Qs, implies_true, Qt, Qu, Qv, Qw, Qx, Qy, Qz, QA, QB, QC, QD, QE, QF, QG, QH, QI, QJ, QK, QL, QM, QN, QO, QP, QQ]
        refine LoopC.fx 114728 (α := Nat) (β := Nat) (fun k => k) (fun k => [(6, .d (.int .i64 k))]) (fun _ => [.box [.d (Gr g full)], .row false (regC (rgs L)), .row false (regC (rgs out)), .box [.d (.int .i64 r.t), .d (.int .i64 r.l), .d (.int .i64 r.b), .d (.int .i64 r.r)]])
          (fun k => k ≤ out.length ∧ ∀ j, k ≤ j → j < out.length → leA r (out.getD j default) = true) 114728 (fun k => [(6, .d (.int .i64 k))]) (fun _ => [.box [.d (Gr g full)], .row false (regC (rgs L)), .row false (regC (rgs out)), .box [.d (.int .i64 r.t), .d (.int .i64 r.l), .d (.int .i64 r.b), .d (.int .i64 r.r)]])
          (fun k => k ≤ out.length ∧ (∀ j, k ≤ j → j < out.length → leA r (out.getD j default) = true) ∧ (k = 0 ∨ leA (out.getD (k - 1) default) r = true)) out.length ⟨Nat.le_refl _, fun j a b => by omega⟩ ?_ ?_ ?_
        · exact ⟨[some 0, some 1, some 2, some 3], rfl, by simp, by simp [setsA, keepA, SWeak, AWeak], by simp [HWeak, BWeak, SWeak, AWeak]⟩
        · rintro k ⟨k1, k2⟩
          simp only [awK, Nat.reduceMod, Nat.reduceDiv, reduceIte]
          rcases Nat.eq_zero_or_pos k with h0 | h0
          · subst h0
            simp (config := { maxSteps := 1000000 }) (disch := ((try simp only [awL]); omega)) only [QR, QS, QT, QU, QV, QW, QX, QY, QZ, Q0, Q1, Q2, MRr_n, ↓awU, awV, awF, Qa, Qb, Qc, Qd, forall_const, ↓reduceIte, ↓reduceDIte, ↓Qe, Qf, Qg, Qh, Qi, Qj, Qk, Ql, Qm, Qn, Qo, Qp, Qq, Qr, Qs, implies_true, Qt, Qu, Qv, Qw, Qx, Qy, Qz, QA, QB, QC, QD, QE, QF, QG, QH, QI, QJ, QK, QL, QM, QN, QO, QP, QQ]
            exact ⟨by rfl, 0, ⟨Nat.zero_le _, k2, .inl rfl⟩, ⟨[some 0, some 1, some 2, some 3], rfl, by simp, by simp [setsA, keepA, SWeak, AWeak], by simp [HWeak, BWeak, SWeak, AWeak]⟩⟩
          · obtain ⟨q, rfl⟩ : ∃ q, k = q + 1 := ⟨k - 1, by omega⟩
            have eq1 : (((q + 1 : Nat) : Int) - 1) = (q : Int) := by omega
            have o0 := rgs_c0 (l := out) (k := q) (by omega)
            have o1 := rgs_c1 (l := out) (k := q) (by omega)
            have step : leA r (out.getD q default) = true → ∀ j, q ≤ j → j < out.length → leA r (out.getD j default) = true := fun e j a b => by
              rcases Nat.lt_or_ge q j with hj | hj
              · exact k2 j (by omega) b
              · obtain rfl : j = q := by omega
                exact e
            rw [leA_iff] at step
            have stop : leA (out.getD q default) r = true ↔ _ := leA_iff
            generalize hp : out.getD q default = p at *
            rcases Nat.lt_trichotomy p.t r.t with hf | hf | hf
            · simp (config := { maxSteps := 1000000 }) (disch := ((try simp only [awL]); omega)) only [QR, QS, QT, QU, QV, QW, QX, QY, QZ, Q0, Q1, Q2, MRr_n, oo, eq1, o0, o1, ↓awU, awV, awF, Qa, Qb, Qc, Qd, forall_const, ↓reduceIte, ↓reduceDIte, ↓Qe, Qf, Qg, Qh, Qi, Qj, Qk, Ql, Qm, Qn, Qo, Qp, Qq, Qr, Qs, implies_true, Qt, Qu, Qv, Qw, Qx, Qy, Qz, QA, QB, QC, QD, QE, QF, QG, QH, QI, QJ, QK, QL, QM, QN, QO, QP, QQ]
              exact ⟨by rfl, q + 1, ⟨by omega, k2, .inr (by rw [Nat.add_sub_cancel, hp]; exact stop.2 (.inl hf))⟩, ⟨[some 0, some 1, some 2, some 3], rfl, by simp, by simp [setsA, keepA, SWeak, AWeak], by simp [HWeak, BWeak, SWeak, AWeak]⟩⟩
            · rcases Nat.lt_or_ge r.l p.l with hw | hw
              · simp (config := { maxSteps := 1000000 }) (disch := ((try simp only [awL]); omega)) only [QR, QS, QT, QU, QV, QW, QX, QY, QZ, Q0, Q1, Q2, MRr_n, oo, eq1, o0, o1, ↓awU, awV, awF, Qa, Qb, Qc, Qd, forall_const, ↓reduceIte, ↓reduceDIte, ↓Qe, Qf, Qg, Qh, Qi, Qj, Qk, Ql, Qm, Qn, Qo, Qp, Qq, Qr, Qs, implies_true, Qt, Qu, Qv, Qw, Qx, Qy, Qz, QA, QB, QC, QD, QE, QF, QG, QH, QI, QJ, QK, QL, QM, QN, QO, QP, QQ]
                exact ⟨by rfl, q, ⟨by omega, step (.inr ⟨hf.symm, by omega⟩)⟩, by simp only; omega, ⟨[some 0, some 1, some 2, some 3], rfl, by simp, by simp [setsA, keepA, SWeak, AWeak], by simp [HWeak, BWeak, SWeak, AWeak]⟩⟩
              · simp (config := { maxSteps := 1000000 }) (disch := ((try simp only [awL]); omega)) only [QR, QS, QT, QU, QV, QW, QX, QY, QZ, Q0, Q1, Q2, MRr_n, oo, eq1, o0, o1, ↓awU, awV, awF, Qa, Qb, Qc, Qd, forall_const, ↓reduceIte, ↓reduceDIte, ↓Qe, Qf, Qg, Qh, Qi, Qj, Qk, Ql, Qm, Qn, Qo, Qp, Qq, Qr, Qs, implies_true, Qt, Qu, Qv, Qw, Qx, Qy, Qz, QA, QB, QC, QD, QE, QF, QG, QH, QI, QJ, QK, QL, QM, QN, QO, QP, QQ]
                exact ⟨by rfl, q + 1, ⟨by omega, k2, .inr (by rw [Nat.add_sub_cancel, hp]; exact stop.2 (.inr ⟨hf, hw⟩))⟩, ⟨[some 0, some 1, some 2, some 3], rfl, by simp, by simp [setsA, keepA, SWeak, AWeak], by simp [HWeak, BWeak, SWeak, AWeak]⟩⟩
            · simp (config := { maxSteps := 1000000 }) (disch := ((try simp only [awL]); omega)) only [QR, QS, QT, QU, QV, QW, QX, QY, QZ, Q0, Q1, Q2, MRr_n, oo, eq1, o0, o1, ↓awU, awV, awF, Qa, Qb, Qc, Qd, forall_const, ↓reduceIte, ↓reduceDIte, ↓Qe, Qf, Qg, Qh, Qi, Qj, Qk, Ql, Qm, Qn, Qo, Qp, Qq, Qr, Qs, implies_true, Qt, Qu, Qv, Qw, Qx, Qy, Qz, QA, QB, QC, QD, QE, QF, QG, QH, QI, QJ, QK, QL, QM, QN, QO, QP, QQ]
              exact ⟨by rfl, q, ⟨by omega, step (.inl hf)⟩, by simp only; omega, ⟨[some 0, some 1, some 2, some 3], rfl, by simp, by simp [setsA, keepA, SWeak, AWeak], by simp [HWeak, BWeak, SWeak, AWeak]⟩⟩
        · rintro k ⟨k1, k2, k3⟩
          obtain ⟨n1, n2⟩ := ins_ok k1 h4 k2 k3
          simp only [awK, Nat.reduceMod, Nat.reduceDiv, reduceIte]
          simp (config := { maxSteps := 1000000 }) (disch := ((try simp only [awL]); omega)) only [QR, QS, QT, QU, QV, QW, QX, QY, QZ, Q0, Q1, Q2, MRr_t, MRr_n, show markK MRr (some 68) = true from rfl, oo, ↓awU, awV, awF, Qa, Qb, Qc, Qd, forall_const, ↓reduceIte, ↓reduceDIte, ↓Qe, Qf, Qg, Qh, Qi, Qj, Qk, Ql, Qm, Qn, Qo, Qp, Qq, Qr, Qs, implies_true, Qt, Qu, Qv, Qw, Qx, Qy, Qz, QA, QB, QC, QD, QE, QF, QG, QH, QI, QJ, QK, QL, QM, QN, QO, QP, QQ]
          have c1 : cut (regC (rgs out)) (k * 4) ((out.length - k) * 4) = regC (rgs (out.drop k)) := by
            unfold cut; rw [regC_drop, List.take_of_length_le (by rw [regC_length, List.length_drop, rgs_length]; omega), show (rgs out).drop k = rgs (out.drop k) from (List.map_drop ..).symm]
          have c2 : D.int .i64 r.t :: D.int .i64 r.l :: D.int .i64 r.b :: D.int .i64 r.r :: regC (rgs (out.drop k)) = regC (rgs (r :: out.drop k)) := rfl
          have c3 : cut (regC (rgs (r :: out.drop k))) 0 ((1 + (out.length - k)) * 4) = regC (rgs (r :: out.drop k)) := cut_all (by rw [regC_length, rgs_length, List.length_cons, List.length_drop]; omega)
          have c4 : (regC (rgs out)).take (k * 4) ++ regC (rgs (r :: out.drop k)) = regC (rgs (out.take k ++ r :: out.drop k)) := by
            rw [regC_take, ← regC_app]; simp [rgs, List.map_take]
          have nl : (out.take k ++ r :: out.drop k).length = k + (1 + (out.length - k)) := by
            rw [List.length_append, List.length_take, List.length_cons, List.length_drop]; omega
          have np : (out.take k ++ r :: out.drop k).Perm (L.take (i + 1)) := by
            refine n2.trans ?_
            rw [tk]
            exact (h3.cons r).trans (List.perm_append_comm (l₁ := [r]))
          rw [c1, c2, c3, c4]
          refine ⟨by rw [regC_length, rgs_length, List.length_drop]; omega, by rw [regC_length, rgs_length, List.length_cons, List.length_drop]; omega, by rfl, ?_⟩
          generalize out.take k ++ r :: out.drop k = nw at *
          exact ⟨(i + 1, nw), ⟨hi, by simp only; omega, np, n1⟩, by simp only; omega, ⟨[some 0, some 1, some 6], rfl, by simp, by simp [setsA, keepA, SWeak, AWeak, nl], by simp [HWeak, BWeak, SWeak, AWeak]⟩⟩
      · obtain rfl : i = L.length := by omega
        rw [List.take_length] at h3
        rw [← isr out h3 h4]
        have cu : cut (regC (rgs out)) 0 (out.length * 4) = regC (rgs out) := cut_all (by omega)
        simp (config := { maxSteps := 1000000 }) (disch := ((try simp only [awL]); omega)) only [QR, QS, QT, QU, QV, QW, QX, QY, QZ, Q0, Q1, Q2, MRr_n, oo, cu, ↓awU, awV, awF, Qa, Qb, Qc, Qd, forall_const, ↓reduceIte, ↓reduceDIte, ↓Qe, Qf, Qg, Qh, Qi, Qj, Qk, Ql, Qm, Qn, Qo, Qp, Qq, Qr, Qs, implies_true, Qt, Qu, Qv, Qw, Qx, Qy, Qz, QA, QB, QC, QD, QE, QF, QG, QH, QI, QJ, QK, QL, QM, QN, QO, QP, QQ]
        try rfl
  · have hr : regsL g = [] := List.length_eq_zero_iff.1 (by rw [(regs_perm g).length_eq, leaves_none hk]; rfl)
    rw [hr]
    simp (config := { maxSteps := 1000000 }) (disch := ((try simp only [awL]); omega)) only [QR, QS, QT, QU, QV, QW, QX, QY, QZ, Q0, Q1, Q2, MRr_t, MRr_n, gl, Tryz.f40, ↓awU, awV, awF, Qa, Qb, Qc, Qd, forall_const, ↓reduceIte, ↓reduceDIte, ↓Qe, Qf, Qg, Qh, Qi, Qj, Qk, Ql, Qm, Qn, Qo, Qp, Qq, Qr, Qs, implies_true, Qt, Qu, Qv, Qw, Qx, Qy, Qz, QA, QB, QC, QD, QE, QF, QG, QH, QI, QJ, QK, QL, QM, QN, QO, QP, QQ]
    refine CallC.of (rwidth_spec g false hg) (by rfl) ?_
    simp (config := { maxSteps := 1000000 }) (disch := ((try simp only [awL]); omega)) only [QR, QS, QT, QU, QV, QW, QX, QY, QZ, Q0, Q1, Q2, MRr_t, MRr_n, gl, ↓awU, awV, awF, Qa, Qb, Qc, Qd, forall_const, ↓reduceIte, ↓reduceDIte, ↓Qe, Qf, Qg, Qh, Qi, Qj, Qk, Ql, Qm, Qn, Qo, Qp, Qq, Qr, Qs, implies_true, Qt, Qu, Qv, Qw, Qx, Qy, Qz, QA, QB, QC, QD, QE, QF, QG, QH, QI, QJ, QK, QL, QM, QN, QO, QP, QQ]
    refine CallC.of (done_none g hg (wholeG g) (whole_in h) hk false) (by rfl) ?_
    simp (config := { maxSteps := 1000000 }) (disch := ((try simp only [awL]); omega)) only [QR, QS, QT, QU, QV, QW, QX, QY, QZ, Q0, Q1, Q2, MRr_t, MRr_n, List.length_nil, ↓awU, awV, awF, Qa, Qb, Qc, Qd, forall_const, ↓reduceIte, ↓reduceDIte, ↓Qe, Qf, Qg, Qh, Qi, Qj, Qk, Ql, Qm, Qn, Qo, Qp, Qq, Qr, Qs, implies_true, Qt, Qu, Qv, Qw, Qx, Qy, Qz, QA, QB, QC, QD, QE, QF, QG, QH, QI, QJ, QK, QL, QM, QN, QO, QP, QQ]
    try refine ⟨by rfl, ?_⟩
    refine LoopC.fr 49160 (α := Unit) (fun _ => 0) (fun _ => [(16, .d (.int .i64 0))]) (fun _ => []) (fun _ => True) () trivial ?_ ?_
    · exact ⟨[], rfl, by simp, by simp [setsA, keepA, SWeak, AWeak], by simp [HWeak, BWeak, SWeak, AWeak]⟩
    · rintro ⟨⟩ -
      simp only [awK, Nat.reduceMod, Nat.reduceDiv, reduceIte]
      simp (config := { maxSteps := 1000000 }) (disch := ((try simp only [awL]); omega)) only [QR, QS, QT, QU, QV, QW, QX, QY, QZ, Q0, Q1, Q2, MRr_n, List.length_nil, ↓awU, awV, awF, Qa, Qb, Qc, Qd, forall_const, ↓reduceIte, ↓reduceDIte, ↓Qe, Qf, Qg, Qh, Qi, Qj, Qk, Ql, Qm, Qn, Qo, Qp, Qq, Qr, Qs, implies_true, Qt, Qu, Qv, Qw, Qx, Qy, Qz, QA, QB, QC, QD, QE, QF, QG, QH, QI, QJ, QK, QL, QM, QN, QO, QP, QQ]
      try rfl
end Go.Proofs.YtacepalmphbnfaaGreatDoor

namespace Go.Proofs.YtacepalmphbnfaaGreatDoor
open Go Go.Proofs Go.Abs
variable {G : Globals}
/-! Sheet: the sanity check. -/
def saneG : List Row := [[[97], [98], [], [99]], [[100], [], [], [101]]]
def saneR : List Ar := [⟨0, 0, 2, 2⟩, ⟨0, 3, 2, 4⟩]
def saneS : List UInt8 := [48, 44, 48, 44, 50, 44, 50, 59, 48, 44, 51, 44, 50, 44, 52]
theorem saneG_small : SmallG 8 saneG := by
  refine ⟨by decide, fun r hr => ?_⟩
  simp only [saneG, List.mem_cons, List.not_mem_nil, or_false] at hr
  rcases hr with rfl | rfl
  · exact ⟨by decide, fun s hs => by simp only [List.mem_cons, List.not_mem_nil, or_false] at hs; rcases hs with rfl | rfl | rfl | rfl <;> simp⟩
  · exact ⟨by decide, fun s hs => by simp only [List.mem_cons, List.not_mem_nil, or_false] at hs; rcases hs with rfl | rfl | rfl | rfl <;> simp⟩
set_option maxRecDepth 100000 in
theorem sane_leaves : leavesX saneG (wholeG saneG) = saneR := by decide +kernel
theorem sane_regs : regsL saneG = saneR := by
  refine (regs_is (saneG_small.ok (by decide)).2 (l := saneR) (by rw [sane_leaves]) ?_).symm
  unfold saneR
  decide
set_option maxRecDepth 100000 in
theorem sane_textR : textR (rgs saneR) = some saneS := by decide +kernel
theorem sane_par : parO saneS = some (rgs saneR) := (parO_iff (by decide)).2 sane_textR
set_option maxHeartbeats 4000000 in
set_option maxRecDepth 100000 in
theorem ssane_spec (hI : HI G) (hE : HE G) : Ctr Tryz.prog G 35 [] [] (.d (.bool true)) [] := by
  refine Ctr.pure (M := M0) hmix Tryz.func35 rfl go35 ?_
  have h0 := saneG_small.ok (by decide)
  have r0 := regions_spec (G := G) saneG false h0.1 h0.2
  have t0 := stext_spec hI (rgs saneR) false (by decide)
  have p0 := sparse_spec hI hE saneS (by decide)
  rw [sane_regs] at r0
  rw [sane_textR] at t0
  unfold parD at p0
  rw [if_neg (by decide), sane_par] at p0
  dsimp only at p0
  have hs : S saneS = S [48, 44, 48, 44, 50, 44, 50, 59, 48, 44, 51, 44, 50, 44, 52] := rfl
  have cl : (regC (rgs saneR)).length = 8 := rfl
  have cu : cut (regC (rgs saneR)) 0 (2 * 4) = regC (rgs saneR) := rfl
  have cc : ((regC (rgs saneR)).drop (1 * 4)).take 4 = [.int .i64 0, .int .i64 3, .int .i64 2, .int .i64 4] := rfl
  have l2 : (rgs saneR).length = 2 := rfl
  have l3 : saneR.length = 2 := rfl
  rw [l2] at p0 t0
  rw [l3] at r0
  simp (config := { maxSteps := 1000000 }) (disch := ((try simp only [awL]); omega)) only [QR, QS, QT, QU, QV, QW, QX, QY, QZ, Q0, Q1, Q2, Tryz.f35, ↓awU, awV, awF, Qa, Qb, Qc, Qd, forall_const, ↓reduceIte, ↓reduceDIte, ↓Qe, Qf, Qg, Qh, Qi, Qj, Qk, Ql, Qm, Qn, Qo, Qp, Qq, Qr, Qs, implies_true, Qt, Qu, Qv, Qw, Qx, Qy, Qz, QA, QB, QC, QD, QE, QF, QG, QH, QI, QJ, QK, QL, QM, QN, QO, QP, QQ]
  refine CallC.by r0 (by rfl) (by rfl) (Nat.zero_le _) ?_
  generalize regC (rgs saneR) = C at *
  simp (config := { maxSteps := 1000000 }) (disch := ((try simp only [awL]); omega)) only [QR, QS, QT, QU, QV, QW, QX, QY, QZ, Q0, Q1, Q2, cl, cu, ↓awU, awV, awF, Qa, Qb, Qc, Qd, forall_const, ↓reduceIte, ↓reduceDIte, ↓Qe, Qf, Qg, Qh, Qi, Qj, Qk, Ql, Qm, Qn, Qo, Qp, Qq, Qr, Qs, implies_true, Qt, Qu, Qv, Qw, Qx, Qy, Qz, QA, QB, QC, QD, QE, QF, QG, QH, QI, QJ, QK, QL, QM, QN, QO, QP, QQ]
  refine CallC.frozenE t0 (by first | rfl | rw [cu]) ?_
  simp (config := { maxSteps := 1000000 }) (disch := ((try simp only [awL]); omega)) only [QR, QS, QT, QU, QV, QW, QX, QY, QZ, Q0, Q1, Q2, textD, cl, cu, ↓awU, awV, awF, Qa, Qb, Qc, Qd, forall_const, ↓reduceIte, ↓reduceDIte, ↓Qe, Qf, Qg, Qh, Qi, Qj, Qk, Ql, Qm, Qn, Qo, Qp, Qq, Qr, Qs, implies_true, Qt, Qu, Qv, Qw, Qx, Qy, Qz, QA, QB, QC, QD, QE, QF, QG, QH, QI, QJ, QK, QL, QM, QN, QO, QP, QQ]
  refine CallC.of p0 (by rfl) ?_
  simp (config := { maxSteps := 1000000 }) (disch := ((try simp only [awL]); omega)) only [QR, QS, QT, QU, QV, QW, QX, QY, QZ, Q0, Q1, Q2, cl, cu, cc, hs, beq_self_eq_true, ↓awU, awV, awF, Qa, Qb, Qc, Qd, forall_const, ↓reduceIte, ↓reduceDIte, ↓Qe, Qf, Qg, Qh, Qi, Qj, Qk, Ql, Qm, Qn, Qo, Qp, Qq, Qr, Qs, implies_true, Qt, Qu, Qv, Qw, Qx, Qy, Qz, QA, QB, QC, QD, QE, QF, QG, QH, QI, QJ, QK, QL, QM, QN, QO, QP, QQ]
  rfl
end Go.Proofs.YtacepalmphbnfaaGreatDoor

namespace Go.Proofs.YtacepalmphbnfaaGreatDoor
open Go Go.Proofs Go.Abs
variable {G : Globals}
/-! The law SheetJoins. -/
theorem regs_in {g : List Row} (h : Grd g) {x : Ar} (hx : x ∈ regsL g) : x.t ≤ x.b ∧ x.b ≤ 1000 ∧ x.l ≤ x.r ∧ x.r ≤ 1000 := by
  obtain ⟨a, b1, b2, b3, b4⟩ := (regs_ok h).leaf x hx
  have := h.gl
  have := h.gw
  have := a.tb
  have := a.lr
  simp only [wholeG] at b2 b4
  omega
end Go.Proofs.YtacepalmphbnfaaGreatDoor
