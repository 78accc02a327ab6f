/-
  Contracts of the functions, one after another.
-/
import Derived.Test.YtacepalmphbnfaaGreatDoorMb1
import Derived.Shelf.Strings.OnBuilder
import Derived.Lib.ItoaNum
import Derived.Lib.ItoaMem
import Derived.Lib.ItoaLen
import Derived.Shelf.Strconv.AtoiAll
import Derived.Lib.AtoiErrMem
import Derived.Shelf.Strconv.Itoa0
import Derived.Test.YtacepalmphbnfaaGreatDoorCards
import Derived.Test.YtacepalmphbnfaaGreatDoorTie
import Derived.Lib.LaidU8T
import Derived.Lib.LaidTab
import Derived.LaidLaws
import Derived.Shelf.Vars
import Derived.Lib.SmallJoins
set_option linter.all false
open Go.Abs renaming ofVal → Qa, ofVal0 → Qb, isShift → Qc, aggK → Qd, purePost → Qe, combine → Qf, idsA → Qg, cellsA → Qh, numsOf → Qi, srcA → Qj, calleeA → Qk, refsA → Ql, isScalar → Qm, scalarD → Qn, scalar0 → Qo, putL → Qr, unfA → Qs, sidsB → QJ, keyKD → QL, isIntK → QM, aggD → QN, aggL → QO, eqKs → QP, boxRow → QQ, nextC_more → QT, nextC_over → QU, bs_size → QV, bs_extract → QW, bs_toList → QX, bs_append → QY, byteAt_bs → QZ, bs_cells → Q0, nums_length → Q1, nums_getD → Q2
open Go.Abs.AV renaming one → Qp
open Go.Abs.D renaming one → Qq
open Go.IntKind renaming signed → Qt
open Nat renaming reduceAdd → Qu, reduceSub → Qv, reduceMul → Qw, reducePow → Qx, reduceDiv → Qy, reduceMod → Qz, reduceEqDiff → QI, reduceBEq → QK
open Int renaming reduceAdd → QA, reduceSub → QB, reduceMul → QC, reducePow → QD, reduceNeg → QE, reduceToNat → QF, reduceLT → QG, reduceLE → QH
open Option renaming toList_some → QR, toList_none → QS
namespace Go.Proofs.YtacepalmphbnfaaGreatDoor
open Go Go.Proofs Go.Abs
variable {G : Globals}
/-! The reference's fields. -/
theorem offA_end {l : List UInt8} {k : Nat} (h : (posF l 0).length ≤ k) : offA l k = l.length := by
  unfold offA offL
  rw [Nat.min_eq_right h]
  simp [List.getD_eq_getElem?_getD]
theorem rn_len (l : List UInt8) : (rnF l 0).length = (posF l 0).length := rn_pos_len _ l 0 rfl
end Go.Proofs.YtacepalmphbnfaaGreatDoor

namespace Go.Proofs.YtacepalmphbnfaaGreatDoor
open Go Go.Proofs Go.Abs
variable {G : Globals}
/-! The lines of a valid text are valid; the reference's Parse. -/
end Go.Proofs.YtacepalmphbnfaaGreatDoor

namespace Go.Proofs.YtacepalmphbnfaaGreatDoor
open Go Go.Proofs Go.Abs
variable {G : Globals}
/-! Which grids may be written in a layout: fixed.check. -/
def roomW (lay : List Nat) (i : Nat) : Nat := if i + 1 < lay.length then lay.getD (i + 1) 0 - lay.getD i 0 else 1048576
theorem room_spec (lay : List Nat) (full : Bool) (i : Nat) (hlay : Lay lay) (hi : i < lay.length) : Ctr Tryz.prog G 109 [.d (Ns lay full), .d (.int .i64 i)] [] (.d (.int .i64 (roomW lay i))) [] := by
  obtain ⟨b1, b2, b3⟩ := hlay
  refine Ctr.pure (M := M0) hmix Tryz.func109 rfl go109 ?_
  have al := @nats_length .i64 lay
  have g0 := nats_getD (k := .i64) (d := .nilp) hi
  have c0 := b2 i hi
  unfold roomW
  rcases Nat.lt_or_ge (i + 1) lay.length with h | h
  · have g1 := nats_getD (k := .i64) (d := .nilp) h
    have c1 := b2 _ h
    have m := b3 i h
    have e : ((lay.getD (i + 1) 0 : Nat) : Int) - (lay.getD i 0 : Nat) = ((lay.getD (i + 1) 0 - lay.getD i 0 : Nat) : Int) := by omega
    rw [if_pos h]
    simp (config := { maxSteps := 1000000 }) (disch := ((try simp only [awL]); omega)) only [QR, QS, QT, QU, QV, QW, QX, QY, QZ, Q0, Q1, Q2, Ns, al, g0, g1, e, Tryz.f109, ↓awU, awV, awF, Qa, Qb, Qc, Qd, forall_const, ↓reduceIte, ↓reduceDIte, ↓Qe, Qf, Qg, Qh, Qi, Qj, Qk, Ql, Qm, Qn, Qo, Qp, Qq, Qr, Qs, implies_true, Qt, Qu, Qv, Qw, Qx, Qy, Qz, QA, QB, QC, QD, QE, QF, QG, QH, QI, QJ, QK, QL, QM, QN, QO, QP, QQ]
    rfl
  · rw [if_neg (by omega)]
    simp (config := { maxSteps := 1000000 }) (disch := ((try simp only [awL]); omega)) only [QR, QS, QT, QU, QV, QW, QX, QY, QZ, Q0, Q1, Q2, Ns, al, g0, Tryz.f109, ↓awU, awV, awF, Qa, Qb, Qc, Qd, forall_const, ↓reduceIte, ↓reduceDIte, ↓Qe, Qf, Qg, Qh, Qi, Qj, Qk, Ql, Qm, Qn, Qo, Qp, Qq, Qr, Qs, implies_true, Qt, Qu, Qv, Qw, Qx, Qy, Qz, QA, QB, QC, QD, QE, QF, QG, QH, QI, QJ, QK, QL, QM, QN, QO, QP, QQ]
theorem rcFrom (l : List UInt8) : ∀ (b p : Nat), l.length - p ≤ b → Lib.runeCountFrom (bs l) b p = (rnF l p).length
  | 0, p, h => by rw [rnF_end (by omega)]; rfl
  | b + 1, p, h => by
    unfold Lib.runeCountFrom
    rw [bs_size]
    by_cases hp : p < l.length
    · have := dec_end l p hp
      rw [if_pos hp, rnF_more hp, List.length_cons, Nat.add_comm 1]
      congr 1
      exact rcFrom l b _ (by show l.length - (p + (dec l p).2) ≤ b; omega)
    · rw [if_neg hp, rnF_end hp]; rfl
theorem rcL_eq (l : List UInt8) : rcL l = (rnF l 0).length := rcFrom l _ 0 (by rw [bs_size]; omega)
theorem rcL_le (l : List UInt8) : rcL l ≤ l.length := by
  rw [rcL_eq, rn_len]
  have := posF_len _ l 0 rfl
  omega
/-- What may not stand in a field. -/
def badX (lay : List Nat) (i : Nat) (s : List UInt8) : Bool := !(Lib.trimB s 32 == s) || hasNl s || decide (roomW lay i < rcL s)
def badTo (lay : List Nat) (r : Row) (n : Nat) : Bool := (List.range n).any fun i => badX lay i (r.getD i [])
def badRow (lay : List Nat) (r : Row) : Bool := badTo lay r r.length
/-- A row that is no row of the layout. -/
def oddRw (lay : List Nat) (r : Row) : Bool := decide (r.length ≠ lay.length) || r.any fun s => !Lib.validD s
def checkL (lay : List Nat) (g : List Row) : Nat :=
  if g.any (oddRw lay) then 1 else if decide (4096 < g.length) || g.any (fun r => r.any bigF) then 3 else if g.any (badRow lay) then 4 else 0
theorem badTo_step {lay : List Nat} {r : Row} {j : Nat} : badTo lay r (j + 1) = (badTo lay r j || badX lay j (r.getD j [])) := by
  rw [badTo, badTo, List.range_succ, List.any_append]; simp
theorem any_snoc {α : Type} {p : α → Bool} {l : List α} {i : Nat} (h : i < l.length) {x : α} (e : l[i]? = some x) : (l.take (i + 1)).any p = ((l.take i).any p || p x) := by
  rw [List.take_add_one, e, List.any_append]; simp
theorem getD_some {α : Type} {l : List α} {i : Nat} {d : α} (h : i < l.length) : l[i]? = some (l.getD i d) := by
  rw [List.getD_eq_getElem?_getD, List.getElem?_eq_getElem h]; rfl
set_option maxHeartbeats 16000000 in
set_option maxRecDepth 100000 in
theorem check_spec (hT : HT G) (lay : List Nat) (full : Bool) (g : List Row) (gf : Bool) (hlay : Lay lay) (hg : okGrid g) :
    Ctr Tryz.prog G 69 [.d (Ns lay full), .d (Gr g gf)] [] (.d (.int .i64 (checkL lay g))) [] := by
  obtain ⟨r, hr⟩ : ∃ r, r = checkL lay g := ⟨_, rfl⟩
  rw [← hr]
  obtain ⟨g1, g2⟩ := hg
  have gl := @rowsD_length g
  have al := @nats_length .i64 lay
  refine Ctr.pure (M := M0) hmix Tryz.func69 rfl go69 ?_
  unfold checkL at hr
  obtain ⟨lim0, hlim⟩ : ∃ b, b = decide (4096 < g.length) := ⟨_, rfl⟩
  rw [← hlim] at hr
  have hl0 : decide ((4096 : Int) < (g.length : Nat)) = lim0 := by rw [hlim]; simp; omega
  simp (config := { maxSteps := 1000000 }) (disch := ((try simp only [awL]); omega)) only [QR, QS, QT, QU, QV, QW, QX, QY, QZ, Q0, Q1, Q2, Ns, gl, al, hl0, Tryz.f69, ↓awU, awV, awF, Qa, Qb, Qc, Qd, forall_const, ↓reduceIte, ↓reduceDIte, ↓Qe, Qf, Qg, Qh, Qi, Qj, Qk, Ql, Qm, Qn, Qo, Qp, Qq, Qr, Qs, implies_true, Qt, Qu, Qv, Qw, Qx, Qy, Qz, QA, QB, QC, QD, QE, QF, QG, QH, QI, QJ, QK, QL, QM, QN, QO, QP, QQ]
  refine LoopC.fx 49153 (α := Nat) (β := Unit) (fun i => g.length - i) (fun i => [(5, .d (.bool (lim0 || (g.take i).any (fun r => r.any bigF)))), (6, .d (.bool ((g.take i).any (badRow lay)))), (16, .d (.int .i64 i))]) (fun _ => [])
    (fun i => i ≤ g.length ∧ (g.take i).any (oddRw lay) = false) 0 (fun _ => [(5, .d (.bool (lim0 || g.any (fun r => r.any bigF)))), (6, .d (.bool (g.any (badRow lay))))]) (fun _ => []) (fun _ => g.any (oddRw lay) = false) 0 ⟨Nat.zero_le _, rfl⟩ ?_ ?_ ?_
  · simp only [List.take_zero, List.any_nil, Bool.or_false]
    exact ⟨[], rfl, by simp, by simp [setsA, keepA, SWeak, AWeak], by simp [HWeak, BWeak, SWeak, AWeak]⟩
  · rintro i ⟨h1, h2⟩
    simp only [awK, Nat.reduceMod, Nat.reduceDiv, reduceIte]
    rcases Nat.lt_or_ge i g.length with h | h
    · have gg := rowsD_getD (g := g) (i := i) h
      have ge := getD_some (d := ([] : Row)) h
      have hm := memD (d := ([] : Row)) h
      have sLim := any_snoc (p := fun r : Row => r.any bigF) h ge
      have sBad := any_snoc (p := badRow lay) h ge
      have sOdd := any_snoc (p := oddRw lay) h ge
      obtain ⟨r1, r2⟩ := g2 _ hm
      have hodd : oddRw lay (g.getD i []) = true → g.any (oddRw lay) = true := fun e => List.any_eq_true.2 ⟨_, hm, e⟩
      generalize g.getD i [] = row at *
      have rn := @strs_length row
      by_cases hlen : row.length = lay.length
      · simp (config := { maxSteps := 1000000 }) (disch := ((try simp only [awL]); omega)) only [QR, QS, QT, QU, QV, QW, QX, QY, QZ, Q0, Q1, Q2, Ns, gl, al, gg, rn, hlen, ↓awU, awV, awF, Qa, Qb, Qc, Qd, forall_const, ↓reduceIte, ↓reduceDIte, ↓Qe, Qf, Qg, Qh, Qi, Qj, Qk, Ql, Qm, Qn, Qo, Qp, Qq, Qr, Qs, implies_true, Qt, Qu, Qv, Qw, Qx, Qy, Qz, QA, QB, QC, QD, QE, QF, QG, QH, QI, QJ, QK, QL, QM, QN, QO, QP, QQ]
        obtain ⟨L0, hL0⟩ : ∃ b, b = (lim0 || (g.take i).any (fun r => r.any bigF)) := ⟨_, rfl⟩
        obtain ⟨F0, hF0⟩ : ∃ b, b = (g.take i).any (badRow lay) := ⟨_, rfl⟩
        rw [← hL0, ← hF0]
        have w1 : (lim0 || (g.take (i + 1)).any (fun r => r.any bigF)) = (L0 || row.any bigF) := by rw [sLim, ← Bool.or_assoc, ← hL0]
        have w2 : (g.take (i + 1)).any (badRow lay) = (F0 || badRow lay row) := by rw [sBad, ← hF0]
        refine LoopC.fx 100777985 (α := Nat) (β := Unit) (fun j => row.length - j) (fun j => [(5, .d (.bool (L0 || (row.take j).any bigF))), (6, .d (.bool (F0 || badTo lay row j))), (27, .d (.int .i64 j))]) (fun _ => [])
          (fun j => j ≤ row.length ∧ (row.take j).any (fun s => !Lib.validD s) = false) 114689 (fun _ => [(5, .d (.bool (L0 || row.any bigF))), (6, .d (.bool (F0 || badRow lay row)))]) (fun _ => []) (fun _ => row.any (fun s => !Lib.validD s) = false) 0 ⟨Nat.zero_le _, rfl⟩ ?_ ?_ ?_
        · have e0 : badTo lay row 0 = false := rfl
          simp only [List.take_zero, List.any_nil, Bool.or_false, e0]
          exact ⟨[], rfl, by simp, by simp [setsA, keepA, SWeak, AWeak], by simp [HWeak, BWeak, SWeak, AWeak]⟩
        · rintro j ⟨h5, h6⟩
          simp only [awK, Nat.reduceMod, Nat.reduceDiv, reduceIte]
          rcases Nat.lt_or_ge j row.length with h7 | h7
          · have gs := strs_getD h7
            have hs := r2 _ (memD (d := []) h7)
            have hmv := memD (d := ([] : List UInt8)) h7
            have tL := any_snoc (p := bigF) h7 (getD_some (d := []) h7)
            have tV := any_snoc (p := fun s => !Lib.validD s) h7 (getD_some (d := []) h7)
            have tB := badTo_step (lay := lay) (r := row) (j := j)
            generalize row.getD j [] = x at *
            simp (config := { maxSteps := 1000000 }) (disch := ((try simp only [awL]); omega)) only [QR, QS, QT, QU, QV, QW, QX, QY, QZ, Q0, Q1, Q2, rn, hlen, gs, ↓awU, awV, awF, Qa, Qb, Qc, Qd, forall_const, ↓reduceIte, ↓reduceDIte, ↓Qe, Qf, Qg, Qh, Qi, Qj, Qk, Ql, Qm, Qn, Qo, Qp, Qq, Qr, Qs, implies_true, Qt, Qu, Qv, Qw, Qx, Qy, Qz, QA, QB, QC, QD, QE, QF, QG, QH, QI, QJ, QK, QL, QM, QN, QO, QP, QQ]
            refine CallC.pure (tvalid_spec hT x (by omega)) ?_
            cases hv : Lib.validD x
            · rw [if_pos (hodd (by rw [oddRw, Bool.or_eq_true]; exact .inr (List.any_eq_true.2 ⟨x, hmv, by rw [hv]; rfl⟩)))] at hr
              simp (config := { maxSteps := 1000000 }) (disch := ((try simp only [awL]); omega)) only [QR, QS, QT, QU, QV, QW, QX, QY, QZ, Q0, Q1, Q2, ↓awU, awV, awF, Qa, Qb, Qc, Qd, forall_const, ↓reduceIte, ↓reduceDIte, ↓Qe, Qf, Qg, Qh, Qi, Qj, Qk, Ql, Qm, Qn, Qo, Qp, Qq, Qr, Qs, implies_true, Qt, Qu, Qv, Qw, Qx, Qy, Qz, QA, QB, QC, QD, QE, QF, QG, QH, QI, QJ, QK, QL, QM, QN, QO, QP, QQ]
              all_goals rw [hr]
            · obtain ⟨L, hL⟩ : ∃ b, b = (L0 || (row.take j).any bigF) := ⟨_, rfl⟩
              obtain ⟨F, hF⟩ : ∃ b, b = (F0 || badTo lay row j) := ⟨_, rfl⟩
              rw [← hL, ← hF]
              have v1 : (L0 || (row.take (j + 1)).any bigF) = (L || bigF x) := by rw [tL, ← Bool.or_assoc, ← hL]
              have v2 : (F0 || badTo lay row (j + 1)) = (F || badX lay j x) := by rw [tB, ← Bool.or_assoc, ← hF]
              have v3 : (row.take (j + 1)).any (fun s => !Lib.validD s) = false := by rw [tV, h6, hv]; rfl
              cases L
              · cases F
                · simp (config := { maxSteps := 1000000 }) (disch := ((try simp only [awL]); omega)) only [QR, QS, QT, QU, QV, QW, QX, QY, QZ, Q0, Q1, Q2, rn, hlen, ↓awU, awV, awF, Qa, Qb, Qc, Qd, forall_const, ↓reduceIte, ↓reduceDIte, ↓Qe, Qf, Qg, Qh, Qi, Qj, Qk, Ql, Qm, Qn, Qo, Qp, Qq, Qr, Qs, implies_true, Qt, Qu, Qv, Qw, Qx, Qy, Qz, QA, QB, QC, QD, QE, QF, QG, QH, QI, QJ, QK, QL, QM, QN, QO, QP, QQ]
                  refine CallC.pure (flong_spec x hs) ?_
                  simp (config := { maxSteps := 1000000 }) (disch := ((try simp only [awL]); omega)) only [QR, QS, QT, QU, QV, QW, QX, QY, QZ, Q0, Q1, Q2, rn, hlen, ↓awU, awV, awF, Qa, Qb, Qc, Qd, forall_const, ↓reduceIte, ↓reduceDIte, ↓Qe, Qf, Qg, Qh, Qi, Qj, Qk, Ql, Qm, Qn, Qo, Qp, Qq, Qr, Qs, implies_true, Qt, Qu, Qv, Qw, Qx, Qy, Qz, QA, QB, QC, QD, QE, QF, QG, QH, QI, QJ, QK, QL, QM, QN, QO, QP, QQ]
                  refine CallC.pure (ttrim_spec x (by omega)) ?_
                  by_cases he : Lib.trimB x 32 = x
                  · rw [he]
                    simp (config := { maxSteps := 1000000 }) (disch := ((try simp only [awL]); omega)) only [QR, QS, QT, QU, QV, QW, QX, QY, QZ, Q0, Q1, Q2, rn, hlen, ↓awU, awV, awF, Qa, Qb, Qc, Qd, forall_const, ↓reduceIte, ↓reduceDIte, ↓Qe, Qf, Qg, Qh, Qi, Qj, Qk, Ql, Qm, Qn, Qo, Qp, Qq, Qr, Qs, implies_true, Qt, Qu, Qv, Qw, Qx, Qy, Qz, QA, QB, QC, QD, QE, QF, QG, QH, QI, QJ, QK, QL, QM, QN, QO, QP, QQ]
                    refine CallC.of (containsAny_spec x hs) (by rfl) ?_
                    cases hn : hasNl x
                    · have v4 : badX lay j x = decide (roomW lay j < rcL x) := by simp [badX, he, hn]
                      simp (config := { maxSteps := 1000000 }) (disch := ((try simp only [awL]); omega)) only [QR, QS, QT, QU, QV, QW, QX, QY, QZ, Q0, Q1, Q2, rn, hlen, ↓awU, awV, awF, Qa, Qb, Qc, Qd, forall_const, ↓reduceIte, ↓reduceDIte, ↓Qe, Qf, Qg, Qh, Qi, Qj, Qk, Ql, Qm, Qn, Qo, Qp, Qq, Qr, Qs, implies_true, Qt, Qu, Qv, Qw, Qx, Qy, Qz, QA, QB, QC, QD, QE, QF, QG, QH, QI, QJ, QK, QL, QM, QN, QO, QP, QQ]
                      refine CallC.pure (runeCount_spec x hs) ?_
                      simp (config := { maxSteps := 1000000 }) (disch := ((try simp only [awL]); omega)) only [QR, QS, QT, QU, QV, QW, QX, QY, QZ, Q0, Q1, Q2, rn, hlen, ↓awU, awV, awF, Qa, Qb, Qc, Qd, forall_const, ↓reduceIte, ↓reduceDIte, ↓Qe, Qf, Qg, Qh, Qi, Qj, Qk, Ql, Qm, Qn, Qo, Qp, Qq, Qr, Qs, implies_true, Qt, Qu, Qv, Qw, Qx, Qy, Qz, QA, QB, QC, QD, QE, QF, QG, QH, QI, QJ, QK, QL, QM, QN, QO, QP, QQ]
                      refine CallC.of (room_spec lay false j hlay (by omega)) (by rfl) ?_
                      have hrc : decide (((roomW lay j : Nat) : Int) < (rcL x : Nat)) = decide (roomW lay j < rcL x) := by simp
                      simp (config := { maxSteps := 1000000 }) (disch := ((try simp only [awL]); omega)) only [QR, QS, QT, QU, QV, QW, QX, QY, QZ, Q0, Q1, Q2, rn, hlen, hrc, ↓awU, awV, awF, Qa, Qb, Qc, Qd, forall_const, ↓reduceIte, ↓reduceDIte, ↓Qe, Qf, Qg, Qh, Qi, Qj, Qk, Ql, Qm, Qn, Qo, Qp, Qq, Qr, Qs, implies_true, Qt, Qu, Qv, Qw, Qx, Qy, Qz, QA, QB, QC, QD, QE, QF, QG, QH, QI, QJ, QK, QL, QM, QN, QO, QP, QQ]
                      refine ⟨j + 1, ⟨(by omega), v3⟩, by simp only; omega, ?_⟩
                      simp only [v1, v2, v4, Bool.false_or, Bool.true_or, Bool.or_false, Bool.or_true]
                      exact ⟨[], rfl, by simp, by simp [setsA, keepA, SWeak, AWeak], by simp [HWeak, BWeak, SWeak, AWeak]⟩
                    · have v4 : badX lay j x = true := by simp [badX, he, hn]
                      simp (config := { maxSteps := 1000000 }) (disch := ((try simp only [awL]); omega)) only [QR, QS, QT, QU, QV, QW, QX, QY, QZ, Q0, Q1, Q2, rn, hlen, ↓awU, awV, awF, Qa, Qb, Qc, Qd, forall_const, ↓reduceIte, ↓reduceDIte, ↓Qe, Qf, Qg, Qh, Qi, Qj, Qk, Ql, Qm, Qn, Qo, Qp, Qq, Qr, Qs, implies_true, Qt, Qu, Qv, Qw, Qx, Qy, Qz, QA, QB, QC, QD, QE, QF, QG, QH, QI, QJ, QK, QL, QM, QN, QO, QP, QQ]
                      refine ⟨j + 1, ⟨(by omega), v3⟩, by simp only; omega, ?_⟩
                      simp only [v1, v2, v4, Bool.false_or, Bool.true_or, Bool.or_false, Bool.or_true]
                      exact ⟨[], rfl, by simp, by simp [setsA, keepA, SWeak, AWeak], by simp [HWeak, BWeak, SWeak, AWeak]⟩
                  · have v4 : badX lay j x = true := by simp [badX, he]
                    have he2 : (Lib.trimB x 32 == x) = false := by simpa using he
                    simp (config := { maxSteps := 1000000 }) (disch := ((try simp only [awL]); omega)) only [QR, QS, QT, QU, QV, QW, QX, QY, QZ, Q0, Q1, Q2, rn, hlen, he2, ↓awU, awV, awF, Qa, Qb, Qc, Qd, forall_const, ↓reduceIte, ↓reduceDIte, ↓Qe, Qf, Qg, Qh, Qi, Qj, Qk, Ql, Qm, Qn, Qo, Qp, Qq, Qr, Qs, implies_true, Qt, Qu, Qv, Qw, Qx, Qy, Qz, QA, QB, QC, QD, QE, QF, QG, QH, QI, QJ, QK, QL, QM, QN, QO, QP, QQ]
                    refine ⟨j + 1, ⟨(by omega), v3⟩, by simp only; omega, ?_⟩
                    simp only [v1, v2, v4, Bool.false_or, Bool.true_or, Bool.or_false, Bool.or_true]
                    exact ⟨[], rfl, by simp, by simp [setsA, keepA, SWeak, AWeak], by simp [HWeak, BWeak, SWeak, AWeak]⟩
                · simp (config := { maxSteps := 1000000 }) (disch := ((try simp only [awL]); omega)) only [QR, QS, QT, QU, QV, QW, QX, QY, QZ, Q0, Q1, Q2, rn, hlen, ↓awU, awV, awF, Qa, Qb, Qc, Qd, forall_const, ↓reduceIte, ↓reduceDIte, ↓Qe, Qf, Qg, Qh, Qi, Qj, Qk, Ql, Qm, Qn, Qo, Qp, Qq, Qr, Qs, implies_true, Qt, Qu, Qv, Qw, Qx, Qy, Qz, QA, QB, QC, QD, QE, QF, QG, QH, QI, QJ, QK, QL, QM, QN, QO, QP, QQ]
                  refine CallC.pure (flong_spec x hs) ?_
                  simp (config := { maxSteps := 1000000 }) (disch := ((try simp only [awL]); omega)) only [QR, QS, QT, QU, QV, QW, QX, QY, QZ, Q0, Q1, Q2, rn, hlen, ↓awU, awV, awF, Qa, Qb, Qc, Qd, forall_const, ↓reduceIte, ↓reduceDIte, ↓Qe, Qf, Qg, Qh, Qi, Qj, Qk, Ql, Qm, Qn, Qo, Qp, Qq, Qr, Qs, implies_true, Qt, Qu, Qv, Qw, Qx, Qy, Qz, QA, QB, QC, QD, QE, QF, QG, QH, QI, QJ, QK, QL, QM, QN, QO, QP, QQ]
                  refine ⟨j + 1, ⟨(by omega), v3⟩, by simp only; omega, ?_⟩
                  simp only [v1, v2, Bool.false_or, Bool.true_or, Bool.or_false, Bool.or_true]
                  exact ⟨[], rfl, by simp, by simp [setsA, keepA, SWeak, AWeak], by simp [HWeak, BWeak, SWeak, AWeak]⟩
              · cases F
                · simp (config := { maxSteps := 1000000 }) (disch := ((try simp only [awL]); omega)) only [QR, QS, QT, QU, QV, QW, QX, QY, QZ, Q0, Q1, Q2, rn, hlen, ↓awU, awV, awF, Qa, Qb, Qc, Qd, forall_const, ↓reduceIte, ↓reduceDIte, ↓Qe, Qf, Qg, Qh, Qi, Qj, Qk, Ql, Qm, Qn, Qo, Qp, Qq, Qr, Qs, implies_true, Qt, Qu, Qv, Qw, Qx, Qy, Qz, QA, QB, QC, QD, QE, QF, QG, QH, QI, QJ, QK, QL, QM, QN, QO, QP, QQ]
                  refine CallC.pure (ttrim_spec x (by omega)) ?_
                  by_cases he : Lib.trimB x 32 = x
                  · rw [he]
                    simp (config := { maxSteps := 1000000 }) (disch := ((try simp only [awL]); omega)) only [QR, QS, QT, QU, QV, QW, QX, QY, QZ, Q0, Q1, Q2, rn, hlen, ↓awU, awV, awF, Qa, Qb, Qc, Qd, forall_const, ↓reduceIte, ↓reduceDIte, ↓Qe, Qf, Qg, Qh, Qi, Qj, Qk, Ql, Qm, Qn, Qo, Qp, Qq, Qr, Qs, implies_true, Qt, Qu, Qv, Qw, Qx, Qy, Qz, QA, QB, QC, QD, QE, QF, QG, QH, QI, QJ, QK, QL, QM, QN, QO, QP, QQ]
                    refine CallC.of (containsAny_spec x hs) (by rfl) ?_
                    cases hn : hasNl x
                    · have v4 : badX lay j x = decide (roomW lay j < rcL x) := by simp [badX, he, hn]
                      simp (config := { maxSteps := 1000000 }) (disch := ((try simp only [awL]); omega)) only [QR, QS, QT, QU, QV, QW, QX, QY, QZ, Q0, Q1, Q2, rn, hlen, ↓awU, awV, awF, Qa, Qb, Qc, Qd, forall_const, ↓reduceIte, ↓reduceDIte, ↓Qe, Qf, Qg, Qh, Qi, Qj, Qk, Ql, Qm, Qn, Qo, Qp, Qq, Qr, Qs, implies_true, Qt, Qu, Qv, Qw, Qx, Qy, Qz, QA, QB, QC, QD, QE, QF, QG, QH, QI, QJ, QK, QL, QM, QN, QO, QP, QQ]
                      refine CallC.pure (runeCount_spec x hs) ?_
                      simp (config := { maxSteps := 1000000 }) (disch := ((try simp only [awL]); omega)) only [QR, QS, QT, QU, QV, QW, QX, QY, QZ, Q0, Q1, Q2, rn, hlen, ↓awU, awV, awF, Qa, Qb, Qc, Qd, forall_const, ↓reduceIte, ↓reduceDIte, ↓Qe, Qf, Qg, Qh, Qi, Qj, Qk, Ql, Qm, Qn, Qo, Qp, Qq, Qr, Qs, implies_true, Qt, Qu, Qv, Qw, Qx, Qy, Qz, QA, QB, QC, QD, QE, QF, QG, QH, QI, QJ, QK, QL, QM, QN, QO, QP, QQ]
                      refine CallC.of (room_spec lay false j hlay (by omega)) (by rfl) ?_
                      have hrc : decide (((roomW lay j : Nat) : Int) < (rcL x : Nat)) = decide (roomW lay j < rcL x) := by simp
                      simp (config := { maxSteps := 1000000 }) (disch := ((try simp only [awL]); omega)) only [QR, QS, QT, QU, QV, QW, QX, QY, QZ, Q0, Q1, Q2, rn, hlen, hrc, ↓awU, awV, awF, Qa, Qb, Qc, Qd, forall_const, ↓reduceIte, ↓reduceDIte, ↓Qe, Qf, Qg, Qh, Qi, Qj, Qk, Ql, Qm, Qn, Qo, Qp, Qq, Qr, Qs, implies_true, Qt, Qu, Qv, Qw, Qx, Qy, Qz, QA, QB, QC, QD, QE, QF, QG, QH, QI, QJ, QK, QL, QM, QN, QO, QP, QQ]
                      refine ⟨j + 1, ⟨(by omega), v3⟩, by simp only; omega, ?_⟩
                      simp only [v1, v2, v4, Bool.false_or, Bool.true_or, Bool.or_false, Bool.or_true]
                      exact ⟨[], rfl, by simp, by simp [setsA, keepA, SWeak, AWeak], by simp [HWeak, BWeak, SWeak, AWeak]⟩
                    · have v4 : badX lay j x = true := by simp [badX, he, hn]
                      simp (config := { maxSteps := 1000000 }) (disch := ((try simp only [awL]); omega)) only [QR, QS, QT, QU, QV, QW, QX, QY, QZ, Q0, Q1, Q2, rn, hlen, ↓awU, awV, awF, Qa, Qb, Qc, Qd, forall_const, ↓reduceIte, ↓reduceDIte, ↓Qe, Qf, Qg, Qh, Qi, Qj, Qk, Ql, Qm, Qn, Qo, Qp, Qq, Qr, Qs, implies_true, Qt, Qu, Qv, Qw, Qx, Qy, Qz, QA, QB, QC, QD, QE, QF, QG, QH, QI, QJ, QK, QL, QM, QN, QO, QP, QQ]
                      refine ⟨j + 1, ⟨(by omega), v3⟩, by simp only; omega, ?_⟩
                      simp only [v1, v2, v4, Bool.false_or, Bool.true_or, Bool.or_false, Bool.or_true]
                      exact ⟨[], rfl, by simp, by simp [setsA, keepA, SWeak, AWeak], by simp [HWeak, BWeak, SWeak, AWeak]⟩
                  · have v4 : badX lay j x = true := by simp [badX, he]
                    have he2 : (Lib.trimB x 32 == x) = false := by simpa using he
                    simp (config := { maxSteps := 1000000 }) (disch := ((try simp only [awL]); omega)) only [QR, QS, QT, QU, QV, QW, QX, QY, QZ, Q0, Q1, Q2, rn, hlen, he2, ↓awU, awV, awF, Qa, Qb, Qc, Qd, forall_const, ↓reduceIte, ↓reduceDIte, ↓Qe, Qf, Qg, Qh, Qi, Qj, Qk, Ql, Qm, Qn, Qo, Qp, Qq, Qr, Qs, implies_true, Qt, Qu, Qv, Qw, Qx, Qy, Qz, QA, QB, QC, QD, QE, QF, QG, QH, QI, QJ, QK, QL, QM, QN, QO, QP, QQ]
                    refine ⟨j + 1, ⟨(by omega), v3⟩, by simp only; omega, ?_⟩
                    simp only [v1, v2, v4, Bool.false_or, Bool.true_or, Bool.or_false, Bool.or_true]
                    exact ⟨[], rfl, by simp, by simp [setsA, keepA, SWeak, AWeak], by simp [HWeak, BWeak, SWeak, AWeak]⟩
                · simp (config := { maxSteps := 1000000 }) (disch := ((try simp only [awL]); omega)) only [QR, QS, QT, QU, QV, QW, QX, QY, QZ, Q0, Q1, Q2, rn, hlen, ↓awU, awV, awF, Qa, Qb, Qc, Qd, forall_const, ↓reduceIte, ↓reduceDIte, ↓Qe, Qf, Qg, Qh, Qi, Qj, Qk, Ql, Qm, Qn, Qo, Qp, Qq, Qr, Qs, implies_true, Qt, Qu, Qv, Qw, Qx, Qy, Qz, QA, QB, QC, QD, QE, QF, QG, QH, QI, QJ, QK, QL, QM, QN, QO, QP, QQ]
                  refine ⟨j + 1, ⟨(by omega), v3⟩, by simp only; omega, ?_⟩
                  simp only [v1, v2, Bool.false_or, Bool.true_or, Bool.or_false, Bool.or_true]
                  exact ⟨[], rfl, by simp, by simp [setsA, keepA, SWeak, AWeak], by simp [HWeak, BWeak, SWeak, AWeak]⟩
          · rw [List.take_of_length_le h7] at h6 ⊢
            have e0 : badTo lay row j = badRow lay row := by rw [badRow, show row.length = j by omega]
            rw [e0]
            simp (config := { maxSteps := 1000000 }) (disch := ((try simp only [awL]); omega)) only [QR, QS, QT, QU, QV, QW, QX, QY, QZ, Q0, Q1, Q2, rn, hlen, ↓awU, awV, awF, Qa, Qb, Qc, Qd, forall_const, ↓reduceIte, ↓reduceDIte, ↓Qe, Qf, Qg, Qh, Qi, Qj, Qk, Ql, Qm, Qn, Qo, Qp, Qq, Qr, Qs, implies_true, Qt, Qu, Qv, Qw, Qx, Qy, Qz, QA, QB, QC, QD, QE, QF, QG, QH, QI, QJ, QK, QL, QM, QN, QO, QP, QQ]
            exact ⟨(), h6, ⟨[], rfl, by simp, by simp [setsA, keepA, SWeak, AWeak], by simp [HWeak, BWeak, SWeak, AWeak]⟩⟩
        · rintro ⟨⟩ h5
          simp only [awK, Nat.reduceMod, Nat.reduceDiv, reduceIte]
          simp (config := { maxSteps := 1000000 }) (disch := ((try simp only [awL]); omega)) only [QR, QS, QT, QU, QV, QW, QX, QY, QZ, Q0, Q1, Q2, ↓awU, awV, awF, Qa, Qb, Qc, Qd, forall_const, ↓reduceIte, ↓reduceDIte, ↓Qe, Qf, Qg, Qh, Qi, Qj, Qk, Ql, Qm, Qn, Qo, Qp, Qq, Qr, Qs, implies_true, Qt, Qu, Qv, Qw, Qx, Qy, Qz, QA, QB, QC, QD, QE, QF, QG, QH, QI, QJ, QK, QL, QM, QN, QO, QP, QQ]
          rw [← w1, ← w2]
          exact ⟨i + 1, ⟨h, by rw [sOdd, h2]; simp [oddRw, hlen, h5]⟩, by simp only; omega, ⟨[], rfl, by simp, by simp [setsA, keepA, SWeak, AWeak], by simp [HWeak, BWeak, SWeak, AWeak]⟩⟩
      · rw [if_pos (hodd (by simp [oddRw, hlen]))] at hr
        simp (config := { maxSteps := 1000000 }) (disch := ((try simp only [awL]); omega)) only [QR, QS, QT, QU, QV, QW, QX, QY, QZ, Q0, Q1, Q2, Ns, gl, al, gg, rn, hlen, ↓awU, awV, awF, Qa, Qb, Qc, Qd, forall_const, ↓reduceIte, ↓reduceDIte, ↓Qe, Qf, Qg, Qh, Qi, Qj, Qk, Ql, Qm, Qn, Qo, Qp, Qq, Qr, Qs, implies_true, Qt, Qu, Qv, Qw, Qx, Qy, Qz, QA, QB, QC, QD, QE, QF, QG, QH, QI, QJ, QK, QL, QM, QN, QO, QP, QQ]
        all_goals rw [hr]
    · rw [List.take_of_length_le h] at h2 ⊢
      simp (config := { maxSteps := 1000000 }) (disch := ((try simp only [awL]); omega)) only [QR, QS, QT, QU, QV, QW, QX, QY, QZ, Q0, Q1, Q2, gl, ↓awU, awV, awF, Qa, Qb, Qc, Qd, forall_const, ↓reduceIte, ↓reduceDIte, ↓Qe, Qf, Qg, Qh, Qi, Qj, Qk, Ql, Qm, Qn, Qo, Qp, Qq, Qr, Qs, implies_true, Qt, Qu, Qv, Qw, Qx, Qy, Qz, QA, QB, QC, QD, QE, QF, QG, QH, QI, QJ, QK, QL, QM, QN, QO, QP, QQ]
      exact ⟨(), h2, ⟨[], rfl, by simp, by simp [setsA, keepA, SWeak, AWeak], by simp [HWeak, BWeak, SWeak, AWeak]⟩⟩
  · rintro ⟨⟩ h2
    rw [if_neg (by rw [h2]; decide)] at hr
    generalize (lim0 || g.any (fun r => r.any bigF)) = L at *
    generalize g.any (badRow lay) = F at *
    simp only [awK, Nat.reduceMod, Nat.reduceDiv, reduceIte]
    cases L
    · cases F
      · simp (config := { maxSteps := 1000000 }) (disch := ((try simp only [awL]); omega)) only [QR, QS, QT, QU, QV, QW, QX, QY, QZ, Q0, Q1, Q2, ↓awU, awV, awF, Qa, Qb, Qc, Qd, forall_const, ↓reduceIte, ↓reduceDIte, ↓Qe, Qf, Qg, Qh, Qi, Qj, Qk, Ql, Qm, Qn, Qo, Qp, Qq, Qr, Qs, implies_true, Qt, Qu, Qv, Qw, Qx, Qy, Qz, QA, QB, QC, QD, QE, QF, QG, QH, QI, QJ, QK, QL, QM, QN, QO, QP, QQ]
        first | done | (rw [hr]; done) | (rw [hr]; rfl)
      · simp (config := { maxSteps := 1000000 }) (disch := ((try simp only [awL]); omega)) only [QR, QS, QT, QU, QV, QW, QX, QY, QZ, Q0, Q1, Q2, ↓awU, awV, awF, Qa, Qb, Qc, Qd, forall_const, ↓reduceIte, ↓reduceDIte, ↓Qe, Qf, Qg, Qh, Qi, Qj, Qk, Ql, Qm, Qn, Qo, Qp, Qq, Qr, Qs, implies_true, Qt, Qu, Qv, Qw, Qx, Qy, Qz, QA, QB, QC, QD, QE, QF, QG, QH, QI, QJ, QK, QL, QM, QN, QO, QP, QQ]
        first | done | (rw [hr]; done) | (rw [hr]; rfl)
    · simp (config := { maxSteps := 1000000 }) (disch := ((try simp only [awL]); omega)) only [QR, QS, QT, QU, QV, QW, QX, QY, QZ, Q0, Q1, Q2, ↓awU, awV, awF, Qa, Qb, Qc, Qd, forall_const, ↓reduceIte, ↓reduceDIte, ↓Qe, Qf, Qg, Qh, Qi, Qj, Qk, Ql, Qm, Qn, Qo, Qp, Qq, Qr, Qs, implies_true, Qt, Qu, Qv, Qw, Qx, Qy, Qz, QA, QB, QC, QD, QE, QF, QG, QH, QI, QJ, QK, QL, QM, QN, QO, QP, QQ]
      first | done | (rw [hr]; done) | (rw [hr]; rfl)
end Go.Proofs.YtacepalmphbnfaaGreatDoor

namespace Go.Proofs.YtacepalmphbnfaaGreatDoor
open Go Go.Proofs Go.Abs
variable {G : Globals}
/-! Equal rows of numbers; whether a text is in a list. -/
set_option maxHeartbeats 4000000 in
set_option maxRecDepth 100000 in
theorem intsR_spec (a b : List Int) (fa fb : Bool) (ha : a.length ≤ 10000000000) (hb : b.length ≤ 10000000000) : Ctr Tryz.prog G 18 [.d (IsF a fa), .d (IsF b fb)] [] (.d (.bool (decide (a = b)))) [] := by
  obtain ⟨r, hr⟩ : ∃ r, r = decide (a = b) := ⟨_, rfl⟩
  rw [← hr]
  refine Ctr.pure (M := M0) hmix Tryz.func18 rfl go18 ?_
  have al := @ints_length .i64 a
  have bl := @ints_length .i64 b
  by_cases hl : a.length = b.length
  · simp (config := { maxSteps := 1000000 }) (disch := ((try simp only [awL]); omega)) only [QR, QS, QT, QU, QV, QW, QX, QY, QZ, Q0, Q1, Q2, al, bl, Tryz.f18, ↓awU, awV, awF, Qa, Qb, Qc, Qd, forall_const, ↓reduceIte, ↓reduceDIte, ↓Qe, Qf, Qg, Qh, Qi, Qj, Qk, Ql, Qm, Qn, Qo, Qp, Qq, Qr, Qs, implies_true, Qt, Qu, Qv, Qw, Qx, Qy, Qz, QA, QB, QC, QD, QE, QF, QG, QH, QI, QJ, QK, QL, QM, QN, QO, QP, QQ]
    refine LoopC.fr 4099 (α := Nat) (fun i => a.length - i) (fun i => [(13, .d (.int .i64 i))]) (fun _ => []) (fun i => i ≤ a.length ∧ a.take i = b.take i) 0 ⟨Nat.zero_le _, by simp⟩ ?_ ?_
    · exact ⟨[], rfl, by simp, by simp [setsA, keepA, SWeak, AWeak], by simp [HWeak, BWeak, SWeak, AWeak]⟩
    · rintro i ⟨h1, h2⟩
      simp only [awK, Nat.reduceMod, Nat.reduceDiv, reduceIte]
      rcases Nat.lt_or_ge i a.length with h | h
      · have ga := ints_getD (k := .i64) (d := .nilp) h
        have gb := ints_getD (k := .i64) (d := .nilp) (show i < b.length by omega)
        have st := take_eq_step (d := (0 : Int)) h hl h2
        by_cases he : a.getD i 0 = b.getD i 0
        · have st2 := st he
          rw [he] at ga
          simp (config := { maxSteps := 1000000 }) (disch := ((try simp only [awL]); omega)) only [QR, QS, QT, QU, QV, QW, QX, QY, QZ, Q0, Q1, Q2, al, bl, ga, gb, ↓awU, awV, awF, Qa, Qb, Qc, Qd, forall_const, ↓reduceIte, ↓reduceDIte, ↓Qe, Qf, Qg, Qh, Qi, Qj, Qk, Ql, Qm, Qn, Qo, Qp, Qq, Qr, Qs, implies_true, Qt, Qu, Qv, Qw, Qx, Qy, Qz, QA, QB, QC, QD, QE, QF, QG, QH, QI, QJ, QK, QL, QM, QN, QO, QP, QQ]
          exact ⟨by rfl, i + 1, ⟨h, st2⟩, by simp only; omega, ⟨[], rfl, by simp, by simp [setsA, keepA, SWeak, AWeak], by simp [HWeak, BWeak, SWeak, AWeak]⟩⟩
        · have : ¬ a = b := fun e => he (by rw [e])
          rw [decide_eq_false this] at hr
          generalize a.getD i 0 = x at ga he
          generalize b.getD i 0 = y at gb he
          simp (config := { maxSteps := 1000000 }) (disch := ((try simp only [awL]); omega)) only [QR, QS, QT, QU, QV, QW, QX, QY, QZ, Q0, Q1, Q2, al, bl, ga, gb, ↓awU, awV, awF, Qa, Qb, Qc, Qd, forall_const, ↓reduceIte, ↓reduceDIte, ↓Qe, Qf, Qg, Qh, Qi, Qj, Qk, Ql, Qm, Qn, Qo, Qp, Qq, Qr, Qs, implies_true, Qt, Qu, Qv, Qw, Qx, Qy, Qz, QA, QB, QC, QD, QE, QF, QG, QH, QI, QJ, QK, QL, QM, QN, QO, QP, QQ]
          refine ⟨by rfl, ?_⟩
          all_goals rw [hr]
      · rw [List.take_of_length_le h, List.take_of_length_le (by omega)] at h2
        rw [decide_eq_true h2] at hr
        simp (config := { maxSteps := 1000000 }) (disch := ((try simp only [awL]); omega)) only [QR, QS, QT, QU, QV, QW, QX, QY, QZ, Q0, Q1, Q2, ↓awU, awV, awF, Qa, Qb, Qc, Qd, forall_const, ↓reduceIte, ↓reduceDIte, ↓Qe, Qf, Qg, Qh, Qi, Qj, Qk, Ql, Qm, Qn, Qo, Qp, Qq, Qr, Qs, implies_true, Qt, Qu, Qv, Qw, Qx, Qy, Qz, QA, QB, QC, QD, QE, QF, QG, QH, QI, QJ, QK, QL, QM, QN, QO, QP, QQ]
        all_goals rw [hr]
  · have : ¬ a = b := fun e => hl (by rw [e])
    rw [decide_eq_false this] at hr
    simp (config := { maxSteps := 1000000 }) (disch := ((try simp only [awL]); omega)) only [QR, QS, QT, QU, QV, QW, QX, QY, QZ, Q0, Q1, Q2, al, bl, hl, Tryz.f18, ↓awU, awV, awF, Qa, Qb, Qc, Qd, forall_const, ↓reduceIte, ↓reduceDIte, ↓Qe, Qf, Qg, Qh, Qi, Qj, Qk, Ql, Qm, Qn, Qo, Qp, Qq, Qr, Qs, implies_true, Qt, Qu, Qv, Qw, Qx, Qy, Qz, QA, QB, QC, QD, QE, QF, QG, QH, QI, QJ, QK, QL, QM, QN, QO, QP, QQ]
    all_goals rw [hr]
set_option maxRecDepth 100000 in
theorem index_spec (l : Row) (full : Bool) (s : List UInt8) (hl : l.length ≤ 1000000) : Ctr Tryz.prog G 98 [.d (Ss l full), .d (S s)] [] (.d (.int .i64 (ixF (fun x => decide (x = s)) l 0))) [] := by
  obtain ⟨r, hr⟩ : ∃ r, r = ixF (fun x => decide (x = s)) l 0 := ⟨_, rfl⟩
  rw [← hr]
  refine Ctr.pure (M := M0) hmix Tryz.func98 rfl go98 ?_
  have sl := @strs_length l
  simp (config := { maxSteps := 1000000 }) (disch := ((try simp only [awL]); omega)) only [QR, QS, QT, QU, QV, QW, QX, QY, QZ, Q0, Q1, Q2, sl, Tryz.f98, ↓awU, awV, awF, Qa, Qb, Qc, Qd, forall_const, ↓reduceIte, ↓reduceDIte, ↓Qe, Qf, Qg, Qh, Qi, Qj, Qk, Ql, Qm, Qn, Qo, Qp, Qq, Qr, Qs, implies_true, Qt, Qu, Qv, Qw, Qx, Qy, Qz, QA, QB, QC, QD, QE, QF, QG, QH, QI, QJ, QK, QL, QM, QN, QO, QP, QQ]
  refine LoopC.fr 131 (α := Nat) (fun i => l.length - i) (fun i => [(8, .d (.int .i64 i))]) (fun _ => []) (fun i => i ≤ l.length ∧ r = ixF (fun x => decide (x = s)) (l.drop i) i) 0 ⟨Nat.zero_le _, hr⟩ ?_ ?_
  · exact ⟨[], rfl, by simp, by simp [setsA, keepA, SWeak, AWeak], by simp [HWeak, BWeak, SWeak, AWeak]⟩
  · rintro i ⟨h1, h2⟩
    simp only [awK, Nat.reduceMod, Nat.reduceDiv, reduceIte]
    rcases Nat.lt_or_ge i l.length with h | h
    · have g1 := strs_getD h
      rw [ixF_at (d := []) h] at h2
      by_cases he : l.getD i [] = s
      · rw [if_pos (by simpa using he)] at h2
        rw [he] at g1
        simp (config := { maxSteps := 1000000 }) (disch := ((try simp only [awL]); omega)) only [QR, QS, QT, QU, QV, QW, QX, QY, QZ, Q0, Q1, Q2, sl, g1, beq_self_eq_true, ↓awU, awV, awF, Qa, Qb, Qc, Qd, forall_const, ↓reduceIte, ↓reduceDIte, ↓Qe, Qf, Qg, Qh, Qi, Qj, Qk, Ql, Qm, Qn, Qo, Qp, Qq, Qr, Qs, implies_true, Qt, Qu, Qv, Qw, Qx, Qy, Qz, QA, QB, QC, QD, QE, QF, QG, QH, QI, QJ, QK, QL, QM, QN, QO, QP, QQ]
        all_goals rw [h2]
      · have hne : (l.getD i [] == s) = false := by simpa using he
        have hne2 : (s == l.getD i []) = false := by simpa using fun e => he e.symm
        rw [if_neg (by simpa using he)] at h2
        simp (config := { maxSteps := 1000000 }) (disch := ((try simp only [awL]); omega)) only [QR, QS, QT, QU, QV, QW, QX, QY, QZ, Q0, Q1, Q2, sl, g1, hne2, ↓awU, awV, awF, Qa, Qb, Qc, Qd, forall_const, ↓reduceIte, ↓reduceDIte, ↓Qe, Qf, Qg, Qh, Qi, Qj, Qk, Ql, Qm, Qn, Qo, Qp, Qq, Qr, Qs, implies_true, Qt, Qu, Qv, Qw, Qx, Qy, Qz, QA, QB, QC, QD, QE, QF, QG, QH, QI, QJ, QK, QL, QM, QN, QO, QP, QQ]
        exact ⟨i + 1, ⟨h, h2⟩, by simp only; omega, ⟨[], rfl, by simp, by simp [setsA, keepA, SWeak, AWeak], by simp [HWeak, BWeak, SWeak, AWeak]⟩⟩
    · rw [List.drop_eq_nil_of_le h] at h2
      simp (config := { maxSteps := 1000000 }) (disch := ((try simp only [awL]); omega)) only [QR, QS, QT, QU, QV, QW, QX, QY, QZ, Q0, Q1, Q2, sl, ↓awU, awV, awF, Qa, Qb, Qc, Qd, forall_const, ↓reduceIte, ↓reduceDIte, ↓Qe, Qf, Qg, Qh, Qi, Qj, Qk, Ql, Qm, Qn, Qo, Qp, Qq, Qr, Qs, implies_true, Qt, Qu, Qv, Qw, Qx, Qy, Qz, QA, QB, QC, QD, QE, QF, QG, QH, QI, QJ, QK, QL, QM, QN, QO, QP, QQ]
      all_goals (rw [h2]; rfl)
set_option maxRecDepth 100000 in
theorem containsL_spec (l : Row) (full : Bool) (s : List UInt8) (hl : l.length ≤ 1000000) : Ctr Tryz.prog G 59 [.d (Ss l full), .d (S s)] [] (.d (.bool (decide (s ∈ l)))) [] := by
  refine Ctr.pure (M := M0) hmix Tryz.func59 rfl go59 ?_
  simp (config := { maxSteps := 1000000 }) (disch := ((try simp only [awL]); omega)) only [QR, QS, QT, QU, QV, QW, QX, QY, QZ, Q0, Q1, Q2, Tryz.f59, ↓awU, awV, awF, Qa, Qb, Qc, Qd, forall_const, ↓reduceIte, ↓reduceDIte, ↓Qe, Qf, Qg, Qh, Qi, Qj, Qk, Ql, Qm, Qn, Qo, Qp, Qq, Qr, Qs, implies_true, Qt, Qu, Qv, Qw, Qx, Qy, Qz, QA, QB, QC, QD, QE, QF, QG, QH, QI, QJ, QK, QL, QM, QN, QO, QP, QQ]
  refine CallC.of (index_spec l false s hl) (by rfl) ?_
  have hi := ixF_any (p := fun x => decide (x = s)) l 0 (Int.le_refl _)
  have hm : l.any (fun x => decide (x = s)) = decide (s ∈ l) := by
    by_cases h : s ∈ l
    · rw [decide_eq_true h]; exact List.any_eq_true.2 ⟨s, h, by simp⟩
    · rw [decide_eq_false h]
      cases hx : l.any (fun x => decide (x = s)) with
      | false => rfl
      | true =>
        obtain ⟨x, h1, h2⟩ := List.any_eq_true.1 hx
        exact absurd ((of_decide_eq_true h2) ▸ h1) h
  rw [hm] at hi
  generalize ixF (fun x => decide (x = s)) l 0 = z at *
  rcases (by omega : 0 ≤ z ∨ z < 0) with h | h
  · rw [hi.1 h]
    simp (config := { maxSteps := 1000000 }) (disch := ((try simp only [awL]); omega)) only [↓awU, awV, awF, Qa, Qb, Qc, Qd, forall_const, ↓reduceIte, ↓reduceDIte, ↓Qe, Qf, Qg, Qh, Qi, Qj, Qk, Ql, Qm, Qn, Qo, Qp, Qq, Qr, Qs, implies_true, Qt, Qu, Qv, Qw, Qx, Qy, Qz, QA, QB, QC, QD, QE, QF, QG, QH, QI, QJ, QK, QL, QM, QN, QO, QP, QQ]
  · have : decide (s ∈ l) = false := by cases hx : decide (s ∈ l) with
      | false => rfl
      | true => have := hi.2 hx; omega
    rw [this]
    simp (config := { maxSteps := 1000000 }) (disch := ((try simp only [awL]); omega)) only [↓awU, awV, awF, Qa, Qb, Qc, Qd, forall_const, ↓reduceIte, ↓reduceDIte, ↓Qe, Qf, Qg, Qh, Qi, Qj, Qk, Ql, Qm, Qn, Qo, Qp, Qq, Qr, Qs, implies_true, Qt, Qu, Qv, Qw, Qx, Qy, Qz, QA, QB, QC, QD, QE, QF, QG, QH, QI, QJ, QK, QL, QM, QN, QO, QP, QQ]
end Go.Proofs.YtacepalmphbnfaaGreatDoor

namespace Go.Proofs.YtacepalmphbnfaaGreatDoor
open Go Go.Proofs Go.Abs
variable {G : Globals}
/-! The blank places of a file: fixed.blanks. -/
def bools (l : List Bool) : List D := l.map .bool
theorem bools_length {l : List Bool} : (bools l).length = l.length := by simp [bools]
theorem bools_getD {l : List Bool} {i : Nat} {d : D} (h : i < l.length) : (bools l).getD i d = .bool (l.getD i false) := by
  simp [bools, List.getD_eq_getElem?_getD, h]
theorem bools_set {l : List Bool} {i : Nat} {b : Bool} : (bools l).set i (.bool b) = bools (l.set i b) := by simp [bools, List.map_set]
theorem bools_push {l : List Bool} {b : Bool} : bools l ++ [D.bool b] = bools (l ++ [b]) := by simp [bools]
/-- One code point more, at the k-th place. -/
def stepB (o : List Bool) (k r : Nat) : List Bool :=
  let q := if k = o.length then o ++ [true] else o
  q.set k (q.getD k false && decide (r = 32))
theorem stepB_len {o : List Bool} {k r : Nat} (h : k ≤ o.length) : k + 1 ≤ (stepB o k r).length ∧ (stepB o k r).length ≤ max o.length (k + 1) := by
  unfold stepB
  simp only [List.length_set]
  split <;> (try simp only [List.length_append, List.length_cons, List.length_nil]) <;> omega
def mrgF (l : List UInt8) (p k : Nat) (o : List Bool) : List Bool :=
  if h : p < l.length then mrgF l (p + (dec l p).2) (k + 1) (stepB o k (dec l p).1) else o
termination_by l.length - p
decreasing_by have := dec_end l p h; omega
theorem mrgF_more {l : List UInt8} {p k : Nat} {o : List Bool} (h : p < l.length) : mrgF l p k o = mrgF l (p + (dec l p).2) (k + 1) (stepB o k (dec l p).1) := by rw [mrgF, dif_pos h]
theorem mrgF_end {l : List UInt8} {p k : Nat} {o : List Bool} (h : ¬ p < l.length) : mrgF l p k o = o := by rw [mrgF, dif_neg h]
def blanksL (ls : List (List UInt8)) : List Bool := ls.foldl (fun o l => mrgF l 0 0 o) []
set_option maxHeartbeats 8000000 in
set_option maxRecDepth 100000 in
theorem blanks_spec (ls : Row) (full : Bool) (h1 : ls.length ≤ 1000000000) (h2 : ∀ l ∈ ls, l.length ≤ 1000000000) :
    Ctr Tryz.prog G 57 [.d (Ss ls full)] [] (.d (.sl (blanksL ls).length false (bools (blanksL ls)))) [] := by
  obtain ⟨r, hr⟩ : ∃ r, r = blanksL ls := ⟨_, rfl⟩
  rw [← hr]
  refine Ctr.pure (M := M0) hmix Tryz.func57 rfl go57 ?_
  have sl := @strs_length ls
  simp (config := { maxSteps := 1000000 }) (disch := ((try simp only [awL]); omega)) only [QR, QS, QT, QU, QV, QW, QX, QY, QZ, Q0, Q1, Q2, sl, Tryz.f57, ↓awU, awV, awF, Qa, Qb, Qc, Qd, forall_const, ↓reduceIte, ↓reduceDIte, ↓Qe, Qf, Qg, Qh, Qi, Qj, Qk, Ql, Qm, Qn, Qo, Qp, Qq, Qr, Qs, implies_true, Qt, Qu, Qv, Qw, Qx, Qy, Qz, QA, QB, QC, QD, QE, QF, QG, QH, QI, QJ, QK, QL, QM, QN, QO, QP, QQ]
  refine LoopC.fr 1536 (α := Nat × List Bool) (fun x => ls.length - x.1) (fun x => [(3, .lsl 0 1 0 x.2.length), (11, .d (.int .i64 x.1))]) (fun x => [.row false (bools x.2)])
    (fun x => x.1 ≤ ls.length ∧ x.2.length ≤ 1000000000 ∧ r = (ls.drop x.1).foldl (fun o l => mrgF l 0 0 o) x.2) (0, []) ⟨Nat.zero_le _, Nat.zero_le _, hr⟩ ?_ ?_
  · exact ⟨[none], rfl, by simp, by simp [setsA, keepA, SWeak, AWeak], by simp [HWeak, BWeak, SWeak, AWeak, bools]⟩
  · rintro ⟨i, o⟩ ⟨h3, h4, h5⟩
    simp only at h3 h4 h5
    have ol := @bools_length o
    simp only [awK, Nat.reduceMod, Nat.reduceDiv, reduceIte]
    rcases Nat.lt_or_ge i ls.length with h | h
    · have g := strs_getD h
      have hl := h2 _ (memD (d := []) h)
      rw [List.drop_eq_getElem_cons h, List.foldl_cons, show ls[i] = ls.getD i [] by rw [List.getD_eq_getElem?_getD, List.getElem?_eq_getElem h]; rfl] at h5
      generalize ls.getD i [] = l at *
      simp (config := { maxSteps := 1000000 }) (disch := ((try simp only [awL]); omega)) only [QR, QS, QT, QU, QV, QW, QX, QY, QZ, Q0, Q1, Q2, sl, g, ↓awU, awV, awF, Qa, Qb, Qc, Qd, forall_const, ↓reduceIte, ↓reduceDIte, ↓Qe, Qf, Qg, Qh, Qi, Qj, Qk, Ql, Qm, Qn, Qo, Qp, Qq, Qr, Qs, implies_true, Qt, Qu, Qv, Qw, Qx, Qy, Qz, QA, QB, QC, QD, QE, QF, QG, QH, QI, QJ, QK, QL, QM, QN, QO, QP, QQ]
      refine LoopC.fx 69120 (α := Nat × Nat × List Bool) (β := List Bool) (fun x => l.length - x.1) (fun x => [(3, .lsl 0 1 0 x.2.2.length), (6, .d (.int .i64 x.2.1))]) (fun x => [.row false (bools x.2.2), .iter (bs l) x.1])
        (fun x => x.1 ≤ l.length ∧ x.2.1 ≤ x.1 ∧ x.2.1 ≤ x.2.2.length ∧ x.2.2.length ≤ 1000000000 ∧ mrgF l 0 0 o = mrgF l x.1 x.2.1 x.2.2) 3584 (fun y => [(3, .lsl 0 1 0 y.length)]) (fun y => [.row false (bools y)]) (fun y => y.length ≤ 1000000000 ∧ y = mrgF l 0 0 o) (0, 0, o) ⟨Nat.zero_le _, Nat.le_refl _, Nat.zero_le _, h4, rfl⟩ ?_ ?_ ?_
      · exact ⟨[some 0, some 1], rfl, by simp, by simp [setsA, keepA, SWeak, AWeak], by simp [HWeak, BWeak, SWeak, AWeak]⟩
      · rintro ⟨p, k, q⟩ ⟨k1, k2, k3, k4, k5⟩
        simp only at k1 k2 k3 k4 k5
        have ql := @bools_length q
        simp only [awK, Nat.reduceMod, Nat.reduceDiv, reduceIte]
        rcases Nat.lt_or_ge p l.length with h7 | h7
        · have hd := dec_end l p h7
          have hb := dec_bounds l p
          rw [mrgF_more (p := p) h7] at k5
          have sb := stepB_len (o := q) (k := k) (r := (dec l p).1) k3
          have hdc : p + (dec l p).2 ≤ l.length := hd.2
          have hw := hb.1
          have hc : decide (((dec l p).1 : Int) = 32) = decide ((dec l p).1 = 32) := by congr 1; apply propext; omega
          rcases Nat.lt_or_ge k q.length with h8 | h8
          · have gb := bools_getD (d := .nilp) h8
            have es : stepB q k (dec l p).1 = q.set k (q.getD k false && decide ((dec l p).1 = 32)) := by rw [stepB, if_neg (by omega)]
            rw [es] at k5 sb
            obtain ⟨v, hv⟩ : ∃ v, v = q.getD k false := ⟨_, rfl⟩
            rw [← hv] at gb k5 sb
            cases v
            · rw [Bool.false_and] at k5 sb
              simp (config := { maxSteps := 1000000 }) (disch := ((try simp only [awL]); omega)) only [QR, QS, QT, QU, QV, QW, QX, QY, QZ, Q0, Q1, Q2, ql, gb, bools_set, ↓awU, awV, awF, Qa, Qb, Qc, Qd, forall_const, ↓reduceIte, ↓reduceDIte, ↓Qe, Qf, Qg, Qh, Qi, Qj, Qk, Ql, Qm, Qn, Qo, Qp, Qq, Qr, Qs, implies_true, Qt, Qu, Qv, Qw, Qx, Qy, Qz, QA, QB, QC, QD, QE, QF, QG, QH, QI, QJ, QK, QL, QM, QN, QO, QP, QQ]
              exact ⟨(p + (dec l p).2, k + 1, q.set k false), ⟨hdc, by simp only; omega, sb.1, by have := sb.2; simp only; omega, k5⟩, by simp only; omega, ⟨[some 0, some 1], rfl, by simp, by simp [setsA, keepA, SWeak, AWeak], by simp [HWeak, BWeak, SWeak, AWeak]⟩⟩
            · rw [Bool.true_and] at k5 sb
              simp (config := { maxSteps := 1000000 }) (disch := ((try simp only [awL]); omega)) only [QR, QS, QT, QU, QV, QW, QX, QY, QZ, Q0, Q1, Q2, ql, gb, hc, bools_set, ↓awU, awV, awF, Qa, Qb, Qc, Qd, forall_const, ↓reduceIte, ↓reduceDIte, ↓Qe, Qf, Qg, Qh, Qi, Qj, Qk, Ql, Qm, Qn, Qo, Qp, Qq, Qr, Qs, implies_true, Qt, Qu, Qv, Qw, Qx, Qy, Qz, QA, QB, QC, QD, QE, QF, QG, QH, QI, QJ, QK, QL, QM, QN, QO, QP, QQ]
              exact ⟨(p + (dec l p).2, k + 1, q.set k (decide ((dec l p).1 = 32))), ⟨hdc, by simp only; omega, sb.1, by have := sb.2; simp only; omega, k5⟩, by simp only; omega, ⟨[some 0, some 1], rfl, by simp, by simp [setsA, keepA, SWeak, AWeak], by simp [HWeak, BWeak, SWeak, AWeak]⟩⟩
          · obtain rfl : k = q.length := by omega
            have es : stepB q q.length (dec l p).1 = (q ++ [true]).set q.length (decide ((dec l p).1 = 32)) := by
              rw [stepB, if_pos rfl]; simp
            rw [es] at k5 sb
            have gb : (bools (q ++ [true])).getD q.length .nilp = .bool true := by rw [bools_getD (by simp)]; simp
            have ql2 : (bools (q ++ [true])).length = q.length + 1 := by rw [bools_length]; simp
            simp (config := { maxSteps := 1000000 }) (disch := ((try simp only [awL]); omega)) only [QR, QS, QT, QU, QV, QW, QX, QY, QZ, Q0, Q1, Q2, ql, ql2, gb, hc, bools_push, bools_set, ↓awU, awV, awF, Qa, Qb, Qc, Qd, forall_const, ↓reduceIte, ↓reduceDIte, ↓Qe, Qf, Qg, Qh, Qi, Qj, Qk, Ql, Qm, Qn, Qo, Qp, Qq, Qr, Qs, implies_true, Qt, Qu, Qv, Qw, Qx, Qy, Qz, QA, QB, QC, QD, QE, QF, QG, QH, QI, QJ, QK, QL, QM, QN, QO, QP, QQ]
            exact ⟨(p + (dec l p).2, q.length + 1, (q ++ [true]).set q.length (decide ((dec l p).1 = 32))), ⟨hdc, by simp only; omega, sb.1, by have := sb.2; simp only; omega, k5⟩, by simp only; omega, ⟨[some 3, some 1], rfl, by simp, by simp [setsA, keepA, SWeak, AWeak], by simp [HWeak, BWeak, SWeak, AWeak]⟩⟩
        · rw [mrgF_end (p := p) (by omega)] at k5
          simp (config := { maxSteps := 1000000 }) (disch := ((try simp only [awL]); omega)) only [QR, QS, QT, QU, QV, QW, QX, QY, QZ, Q0, Q1, Q2, ql, ↓awU, awV, awF, Qa, Qb, Qc, Qd, forall_const, ↓reduceIte, ↓reduceDIte, ↓Qe, Qf, Qg, Qh, Qi, Qj, Qk, Ql, Qm, Qn, Qo, Qp, Qq, Qr, Qs, implies_true, Qt, Qu, Qv, Qw, Qx, Qy, Qz, QA, QB, QC, QD, QE, QF, QG, QH, QI, QJ, QK, QL, QM, QN, QO, QP, QQ]
          exact ⟨q, ⟨k4, k5.symm⟩, ⟨[some 0], rfl, by simp, by simp [setsA, keepA, SWeak, AWeak], by simp [HWeak, BWeak, SWeak, AWeak]⟩⟩
      · rintro y ⟨k1, k2⟩
        have yl := @bools_length y
        simp only [awK, Nat.reduceMod, Nat.reduceDiv, reduceIte]
        simp (config := { maxSteps := 1000000 }) (disch := ((try simp only [awL]); omega)) only [QR, QS, QT, QU, QV, QW, QX, QY, QZ, Q0, Q1, Q2, ↓awU, awV, awF, Qa, Qb, Qc, Qd, forall_const, ↓reduceIte, ↓reduceDIte, ↓Qe, Qf, Qg, Qh, Qi, Qj, Qk, Ql, Qm, Qn, Qo, Qp, Qq, Qr, Qs, implies_true, Qt, Qu, Qv, Qw, Qx, Qy, Qz, QA, QB, QC, QD, QE, QF, QG, QH, QI, QJ, QK, QL, QM, QN, QO, QP, QQ]
        exact ⟨(i + 1, y), ⟨h, k1, by rw [h5, k2]⟩, by simp only; omega, ⟨[some 0], rfl, by simp, by simp [setsA, keepA, SWeak, AWeak], by simp [HWeak, BWeak, SWeak, AWeak]⟩⟩
    · rw [List.drop_eq_nil_of_le h, List.foldl_nil] at h5
      simp (config := { maxSteps := 1000000 }) (disch := ((try simp only [awL]); omega)) only [QR, QS, QT, QU, QV, QW, QX, QY, QZ, Q0, Q1, Q2, sl, ol, ↓awU, awV, awF, Qa, Qb, Qc, Qd, forall_const, ↓reduceIte, ↓reduceDIte, ↓Qe, Qf, Qg, Qh, Qi, Qj, Qk, Ql, Qm, Qn, Qo, Qp, Qq, Qr, Qs, implies_true, Qt, Qu, Qv, Qw, Qx, Qy, Qz, QA, QB, QC, QD, QE, QF, QG, QH, QI, QJ, QK, QL, QM, QN, QO, QP, QQ]
      rw [cut_all (by rw [ol]), h5]
end Go.Proofs.YtacepalmphbnfaaGreatDoor

namespace Go.Proofs.YtacepalmphbnfaaGreatDoor
open Go Go.Proofs Go.Abs
variable {G : Globals}
/-! fixed.Infer. -/
def scanF (bl : List Bool) (gap : Int) (i run : Nat) (lead : Bool) : List Int :=
  if h : i < bl.length then
    if bl.getD i false = true then scanF bl gap (i + 1) (run + 1) lead
    else (if gap ≤ run ∧ lead = false then [(i : Int)] else []) ++ scanF bl gap (i + 1) 0 false
  else []
termination_by bl.length - i
theorem scanF_blank {bl : List Bool} {gap : Int} {i run : Nat} {lead : Bool} (h : i < bl.length) (hb : bl.getD i false = true) : scanF bl gap i run lead = scanF bl gap (i + 1) (run + 1) lead := by rw [scanF, dif_pos h, if_pos hb]
theorem scanF_ink {bl : List Bool} {gap : Int} {i run : Nat} {lead : Bool} (h : i < bl.length) (hb : bl.getD i false = false) : scanF bl gap i run lead = (if gap ≤ run ∧ lead = false then [(i : Int)] else []) ++ scanF bl gap (i + 1) 0 false := by rw [scanF, dif_pos h, if_neg (by rw [hb]; decide)]
theorem scanF_end {bl : List Bool} {gap : Int} {i run : Nat} {lead : Bool} (h : ¬ i < bl.length) : scanF bl gap i run lead = [] := by rw [scanF, dif_neg h]
def layL (data : List UInt8) (gap : Int) : List Int := 0 :: scanF (blanksL (linesL data)) gap 0 0 true
/-- The layout that is inferred, if there is one. -/
def inferL (data : List UInt8) (gap : Int) : Option (List Int) :=
  if Lib.validD data = false ∨ 1048576 < data.length ∨ gap < 1 then none else if linesL data = [] then none
  else if okLay (layL data gap) = true then some (layL data gap) else none
def inferD : Option (List Int) → D
  | some l => .tup [IsF l false, .bool true]
  | none => .tup [IsF [] false, .bool false]
theorem mrgF_len : ∀ (n : Nat) (l : List UInt8) (p k : Nat) (o : List Bool), l.length - p = n → k ≤ p → k ≤ o.length → (mrgF l p k o).length ≤ max o.length l.length := by
  intro n
  induction n using Nat.strongRecOn with
  | _ n ih =>
    intro l p k o hn hk ho
    by_cases h : p < l.length
    · have hd := dec_end l p h
      have sb := stepB_len (r := (dec l p).1) ho
      rw [mrgF_more h]
      have := ih _ (by omega) l (p + (dec l p).2) (k + 1) (stepB o k (dec l p).1) rfl (by omega) sb.1
      omega
    · rw [mrgF_end h]; omega
theorem blanksL_len {m : Nat} : ∀ (ls : List (List UInt8)) (o : List Bool), (∀ l ∈ ls, l.length ≤ m) → o.length ≤ m → (ls.foldl (fun o l => mrgF l 0 0 o) o).length ≤ m
  | [], o, _, ho => ho
  | l :: t, o, h, ho => by
    rw [List.foldl_cons]
    refine blanksL_len t _ (fun x hx => h x (List.mem_cons_of_mem _ hx)) ?_
    have := mrgF_len _ l 0 0 o rfl (Nat.le_refl _) (Nat.zero_le _)
    have := h l (List.mem_cons_self ..)
    omega
set_option maxHeartbeats 8000000 in
set_option maxRecDepth 100000 in
theorem infer_spec (hT : HT G) (l : List UInt8) (gap : Int) (hl : l.length ≤ 100000000) :
    Ctr Tryz.prog G 16 [.d (S l), .d (.int .i64 gap)] [] (.d (inferD (inferL l gap))) [] := by
  obtain ⟨r, hr⟩ : ∃ r, r = inferL l gap := ⟨_, rfl⟩
  rw [← hr]
  refine Ctr.pure (M := M0) hmix Tryz.func16 rfl go16 ?_
  unfold inferL layL at hr
  simp (config := { maxSteps := 1000000 }) (disch := ((try simp only [awL]); omega)) only [QR, QS, QT, QU, QV, QW, QX, QY, QZ, Q0, Q1, Q2, Tryz.f16, ↓awU, awV, awF, Qa, Qb, Qc, Qd, forall_const, ↓reduceIte, ↓reduceDIte, ↓Qe, Qf, Qg, Qh, Qi, Qj, Qk, Ql, Qm, Qn, Qo, Qp, Qq, Qr, Qs, implies_true, Qt, Qu, Qv, Qw, Qx, Qy, Qz, QA, QB, QC, QD, QE, QF, QG, QH, QI, QJ, QK, QL, QM, QN, QO, QP, QQ]
  refine CallC.pure (tvalid_spec hT l (by omega)) ?_
  cases hv : Lib.validD l
  · rw [if_pos (.inl hv)] at hr
    simp (config := { maxSteps := 1000000 }) (disch := ((try simp only [awL]); omega)) only [QR, QS, QT, QU, QV, QW, QX, QY, QZ, Q0, Q1, Q2, ↓awU, awV, awF, Qa, Qb, Qc, Qd, forall_const, ↓reduceIte, ↓reduceDIte, ↓Qe, Qf, Qg, Qh, Qi, Qj, Qk, Ql, Qm, Qn, Qo, Qp, Qq, Qr, Qs, implies_true, Qt, Qu, Qv, Qw, Qx, Qy, Qz, QA, QB, QC, QD, QE, QF, QG, QH, QI, QJ, QK, QL, QM, QN, QO, QP, QQ]
    rw [hr]; rfl
  · by_cases h1 : 1048576 < l.length
    · rw [if_pos (.inr (.inl h1))] at hr
      simp (config := { maxSteps := 1000000 }) (disch := ((try simp only [awL]); omega)) only [QR, QS, QT, QU, QV, QW, QX, QY, QZ, Q0, Q1, Q2, ↓awU, awV, awF, Qa, Qb, Qc, Qd, forall_const, ↓reduceIte, ↓reduceDIte, ↓Qe, Qf, Qg, Qh, Qi, Qj, Qk, Ql, Qm, Qn, Qo, Qp, Qq, Qr, Qs, implies_true, Qt, Qu, Qv, Qw, Qx, Qy, Qz, QA, QB, QC, QD, QE, QF, QG, QH, QI, QJ, QK, QL, QM, QN, QO, QP, QQ]
      rw [hr]; rfl
    · by_cases h2 : gap < 1
      · rw [if_pos (.inr (.inr h2))] at hr
        simp (config := { maxSteps := 1000000 }) (disch := ((try simp only [awL]); omega)) only [QR, QS, QT, QU, QV, QW, QX, QY, QZ, Q0, Q1, Q2, ↓awU, awV, awF, Qa, Qb, Qc, Qd, forall_const, ↓reduceIte, ↓reduceDIte, ↓Qe, Qf, Qg, Qh, Qi, Qj, Qk, Ql, Qm, Qn, Qo, Qp, Qq, Qr, Qs, implies_true, Qt, Qu, Qv, Qw, Qx, Qy, Qz, QA, QB, QC, QD, QE, QF, QG, QH, QI, QJ, QK, QL, QM, QN, QO, QP, QQ]
        rw [hr]; rfl
      · rw [if_neg (by rintro (x | x | x); · rw [hv] at x; cases x
                       · exact h1 x
                       · exact h2 x)] at hr
        simp (config := { maxSteps := 1000000 }) (disch := ((try simp only [awL]); omega)) only [QR, QS, QT, QU, QV, QW, QX, QY, QZ, Q0, Q1, Q2, ↓awU, awV, awF, Qa, Qb, Qc, Qd, forall_const, ↓reduceIte, ↓reduceDIte, ↓Qe, Qf, Qg, Qh, Qi, Qj, Qk, Ql, Qm, Qn, Qo, Qp, Qq, Qr, Qs, implies_true, Qt, Qu, Qv, Qw, Qx, Qy, Qz, QA, QB, QC, QD, QE, QF, QG, QH, QI, QJ, QK, QL, QM, QN, QO, QP, QQ]
        refine CallC.pure (lines_spec l (by omega)) ?_
        obtain ⟨j1, j2⟩ := linesL_in (s := l)
        generalize linesL l = ls at hr j1 j2
        have sl := @strs_length ls
        rcases Nat.eq_zero_or_pos ls.length with h3 | h3
        · rw [if_pos (List.length_eq_zero_iff.1 h3)] at hr
          simp (config := { maxSteps := 1000000 }) (disch := ((try simp only [awL]); omega)) only [QR, QS, QT, QU, QV, QW, QX, QY, QZ, Q0, Q1, Q2, sl, h3, ↓awU, awV, awF, Qa, Qb, Qc, Qd, forall_const, ↓reduceIte, ↓reduceDIte, ↓Qe, Qf, Qg, Qh, Qi, Qj, Qk, Ql, Qm, Qn, Qo, Qp, Qq, Qr, Qs, implies_true, Qt, Qu, Qv, Qw, Qx, Qy, Qz, QA, QB, QC, QD, QE, QF, QG, QH, QI, QJ, QK, QL, QM, QN, QO, QP, QQ]
          rw [hr]; rfl
        · rw [if_neg (by intro e; rw [e] at h3; cases h3)] at hr
          simp (config := { maxSteps := 1000000 }) (disch := ((try simp only [awL]); omega)) only [QR, QS, QT, QU, QV, QW, QX, QY, QZ, Q0, Q1, Q2, sl, ↓awU, awV, awF, Qa, Qb, Qc, Qd, forall_const, ↓reduceIte, ↓reduceDIte, ↓Qe, Qf, Qg, Qh, Qi, Qj, Qk, Ql, Qm, Qn, Qo, Qp, Qq, Qr, Qs, implies_true, Qt, Qu, Qv, Qw, Qx, Qy, Qz, QA, QB, QC, QD, QE, QF, QG, QH, QI, QJ, QK, QL, QM, QN, QO, QP, QQ]
          refine CallC.of (blanks_spec ls false (by omega) fun x hx => by have := j2 x hx; omega) (by rfl) ?_
          have hbl : (blanksL ls).length ≤ l.length := blanksL_len ls [] j2 (Nat.zero_le _)
          generalize blanksL ls = bl at *
          have bll := @bools_length bl
          simp (config := { maxSteps := 1000000 }) (disch := ((try simp only [awL]); omega)) only [QR, QS, QT, QU, QV, QW, QX, QY, QZ, Q0, Q1, Q2, bll, ↓awU, awV, awF, Qa, Qb, Qc, Qd, forall_const, ↓reduceIte, ↓reduceDIte, ↓Qe, Qf, Qg, Qh, Qi, Qj, Qk, Ql, Qm, Qn, Qo, Qp, Qq, Qr, Qs, implies_true, Qt, Qu, Qv, Qw, Qx, Qy, Qz, QA, QB, QC, QD, QE, QF, QG, QH, QI, QJ, QK, QL, QM, QN, QO, QP, QQ]
          refine LoopC.fx 6442450946 (α := Nat × Nat × Bool × List Int) (β := List Int) (fun x => bl.length - x.1) (fun x => [(7, .lsl 0 1 0 x.2.2.2.length), (8, .d (.int .i64 x.2.1)), (9, .d (.bool x.2.2.1)), (33, .d (.int .i64 x.1))]) (fun x => [.row false (ints .i64 x.2.2.2)])
            (fun x => x.1 ≤ bl.length ∧ x.2.1 ≤ x.1 ∧ x.2.2.2.length ≤ x.1 + 1 ∧ 0 :: scanF bl gap 0 0 true = x.2.2.2 ++ scanF bl gap x.1 x.2.1 x.2.2.1) 0 (fun y => [(7, .lsl 0 1 0 y.length)]) (fun y => [.row false (ints .i64 y)]) (fun y => y.length ≤ bl.length + 1 ∧ y = 0 :: scanF bl gap 0 0 true) (0, 0, true, [0]) ⟨Nat.zero_le _, Nat.le_refl _, Nat.le_refl _, rfl⟩ ?_ ?_ ?_
          · exact ⟨[some 0], rfl, by simp, by simp [setsA, keepA, SWeak, AWeak], by simp [HWeak, BWeak, SWeak, AWeak, ints]⟩
          · rintro ⟨i, run, lead, o⟩ ⟨k1, k2, k3, k4⟩
            simp only at k1 k2 k3 k4
            have ol := @ints_length .i64 o
            simp only [awK, Nat.reduceMod, Nat.reduceDiv, reduceIte]
            rcases Nat.lt_or_ge i bl.length with h | h
            · have gb := bools_getD (d := .nilp) h
              cases hb : bl.getD i false
              · rw [hb] at gb
                rw [scanF_ink h hb] at k4
                by_cases h5 : gap ≤ run
                · cases lead
                  · rw [if_pos ⟨h5, rfl⟩, ← List.append_assoc] at k4
                    simp (config := { maxSteps := 1000000 }) (disch := ((try simp only [awL]); omega)) only [QR, QS, QT, QU, QV, QW, QX, QY, QZ, Q0, Q1, Q2, bll, gb, ol, ints_snoc, ↓awU, awV, awF, Qa, Qb, Qc, Qd, forall_const, ↓reduceIte, ↓reduceDIte, ↓Qe, Qf, Qg, Qh, Qi, Qj, Qk, Ql, Qm, Qn, Qo, Qp, Qq, Qr, Qs, implies_true, Qt, Qu, Qv, Qw, Qx, Qy, Qz, QA, QB, QC, QD, QE, QF, QG, QH, QI, QJ, QK, QL, QM, QN, QO, QP, QQ]
                    exact ⟨(i + 1, 0, false, o ++ [(i : Int)]), ⟨h, Nat.zero_le _, by simp; omega, k4⟩, by simp only; omega, ⟨[some 2], rfl, by simp, by simp [setsA, keepA, SWeak, AWeak], by simp [HWeak, BWeak, SWeak, AWeak]⟩⟩
                  · rw [if_neg (by rintro ⟨_, x⟩; cases x), List.nil_append] at k4
                    simp (config := { maxSteps := 1000000 }) (disch := ((try simp only [awL]); omega)) only [QR, QS, QT, QU, QV, QW, QX, QY, QZ, Q0, Q1, Q2, bll, gb, ↓awU, awV, awF, Qa, Qb, Qc, Qd, forall_const, ↓reduceIte, ↓reduceDIte, ↓Qe, Qf, Qg, Qh, Qi, Qj, Qk, Ql, Qm, Qn, Qo, Qp, Qq, Qr, Qs, implies_true, Qt, Qu, Qv, Qw, Qx, Qy, Qz, QA, QB, QC, QD, QE, QF, QG, QH, QI, QJ, QK, QL, QM, QN, QO, QP, QQ]
                    exact ⟨(i + 1, 0, false, o), ⟨h, Nat.zero_le _, by simp only; omega, k4⟩, by simp only; omega, ⟨[some 0], rfl, by simp, by simp [setsA, keepA, SWeak, AWeak], by simp [HWeak, BWeak, SWeak, AWeak]⟩⟩
                · rw [if_neg (fun x => h5 x.1), List.nil_append] at k4
                  simp (config := { maxSteps := 1000000 }) (disch := ((try simp only [awL]); omega)) only [QR, QS, QT, QU, QV, QW, QX, QY, QZ, Q0, Q1, Q2, bll, gb, ↓awU, awV, awF, Qa, Qb, Qc, Qd, forall_const, ↓reduceIte, ↓reduceDIte, ↓Qe, Qf, Qg, Qh, Qi, Qj, Qk, Ql, Qm, Qn, Qo, Qp, Qq, Qr, Qs, implies_true, Qt, Qu, Qv, Qw, Qx, Qy, Qz, QA, QB, QC, QD, QE, QF, QG, QH, QI, QJ, QK, QL, QM, QN, QO, QP, QQ]
                  exact ⟨(i + 1, 0, false, o), ⟨h, Nat.zero_le _, by simp only; omega, k4⟩, by simp only; omega, ⟨[some 0], rfl, by simp, by simp [setsA, keepA, SWeak, AWeak], by simp [HWeak, BWeak, SWeak, AWeak]⟩⟩
              · rw [hb] at gb
                rw [scanF_blank h hb] at k4
                simp (config := { maxSteps := 1000000 }) (disch := ((try simp only [awL]); omega)) only [QR, QS, QT, QU, QV, QW, QX, QY, QZ, Q0, Q1, Q2, bll, gb, ↓awU, awV, awF, Qa, Qb, Qc, Qd, forall_const, ↓reduceIte, ↓reduceDIte, ↓Qe, Qf, Qg, Qh, Qi, Qj, Qk, Ql, Qm, Qn, Qo, Qp, Qq, Qr, Qs, implies_true, Qt, Qu, Qv, Qw, Qx, Qy, Qz, QA, QB, QC, QD, QE, QF, QG, QH, QI, QJ, QK, QL, QM, QN, QO, QP, QQ]
                exact ⟨(i + 1, run + 1, lead, o), ⟨h, by simp only; omega, by simp only; omega, k4⟩, by simp only; omega, ⟨[some 0], rfl, by simp, by simp [setsA, keepA, SWeak, AWeak], by simp [HWeak, BWeak, SWeak, AWeak]⟩⟩
            · rw [scanF_end (i := i) (by omega), List.append_nil] at k4
              simp (config := { maxSteps := 1000000 }) (disch := ((try simp only [awL]); omega)) only [QR, QS, QT, QU, QV, QW, QX, QY, QZ, Q0, Q1, Q2, bll, ↓awU, awV, awF, Qa, Qb, Qc, Qd, forall_const, ↓reduceIte, ↓reduceDIte, ↓Qe, Qf, Qg, Qh, Qi, Qj, Qk, Ql, Qm, Qn, Qo, Qp, Qq, Qr, Qs, implies_true, Qt, Qu, Qv, Qw, Qx, Qy, Qz, QA, QB, QC, QD, QE, QF, QG, QH, QI, QJ, QK, QL, QM, QN, QO, QP, QQ]
              exact ⟨o, ⟨by omega, k4.symm⟩, ⟨[some 0], rfl, by simp, by simp [setsA, keepA, SWeak, AWeak], by simp [HWeak, BWeak, SWeak, AWeak]⟩⟩
          · rintro y ⟨k1, k2⟩
            rw [← k2] at hr
            have yl := @ints_length .i64 y
            have cu : cut (ints .i64 y) 0 y.length = ints .i64 y := cut_all yl.symm
            simp only [awK, Nat.reduceMod, Nat.reduceDiv, reduceIte]
            simp (config := { maxSteps := 1000000 }) (disch := ((try simp only [awL]); omega)) only [QR, QS, QT, QU, QV, QW, QX, QY, QZ, Q0, Q1, Q2, yl, cu, ↓awU, awV, awF, Qa, Qb, Qc, Qd, forall_const, ↓reduceIte, ↓reduceDIte, ↓Qe, Qf, Qg, Qh, Qi, Qj, Qk, Ql, Qm, Qn, Qo, Qp, Qq, Qr, Qs, implies_true, Qt, Qu, Qv, Qw, Qx, Qy, Qz, QA, QB, QC, QD, QE, QF, QG, QH, QI, QJ, QK, QL, QM, QN, QO, QP, QQ]
            refine CallC.frozenE (fvalid_spec y false (by omega)) (by rfl) ?_
            cases hk : okLay y
            · rw [if_neg (by rw [hk]; decide)] at hr
              simp (config := { maxSteps := 1000000 }) (disch := ((try simp only [awL]); omega)) only [QR, QS, QT, QU, QV, QW, QX, QY, QZ, Q0, Q1, Q2, yl, cu, ↓awU, awV, awF, Qa, Qb, Qc, Qd, forall_const, ↓reduceIte, ↓reduceDIte, ↓Qe, Qf, Qg, Qh, Qi, Qj, Qk, Ql, Qm, Qn, Qo, Qp, Qq, Qr, Qs, implies_true, Qt, Qu, Qv, Qw, Qx, Qy, Qz, QA, QB, QC, QD, QE, QF, QG, QH, QI, QJ, QK, QL, QM, QN, QO, QP, QQ]
              rw [hr]; rfl
            · rw [if_pos hk] at hr
              simp (config := { maxSteps := 1000000 }) (disch := ((try simp only [awL]); omega)) only [QR, QS, QT, QU, QV, QW, QX, QY, QZ, Q0, Q1, Q2, yl, cu, ↓awU, awV, awF, Qa, Qb, Qc, Qd, forall_const, ↓reduceIte, ↓reduceDIte, ↓Qe, Qf, Qg, Qh, Qi, Qj, Qk, Ql, Qm, Qn, Qo, Qp, Qq, Qr, Qs, implies_true, Qt, Qu, Qv, Qw, Qx, Qy, Qz, QA, QB, QC, QD, QE, QF, QG, QH, QI, QJ, QK, QL, QM, QN, QO, QP, QQ]
              rw [hr]; rfl
end Go.Proofs.YtacepalmphbnfaaGreatDoor

namespace Go.Proofs.YtacepalmphbnfaaGreatDoor
open Go Go.Proofs Go.Abs Go.RowKit Go.Shelf
variable {G : Globals}
/-! strings.Join, out of the kit's contract. -/
def Tryz.laysJoin_ren : Go.Shelf.Ren := ⟨fun | 156 => 80 | 165 => 113 | 166 => 70 | 169 => 75 | 240 => 110 | 241 => 147 | 276 => 143 | 277 => 182 | n => n, fun | 31 => 35 | 9 => 9 | 3 => 3 | 4 => 4 | 0 => 0 | 20 => 20 | 72 => 98 | 76 => 101 | 70 => 96 | 37 => 22 | 75 => 100 | 127 => 137 | 164 => 167 | 5 => 5 | 80 => 107 | n => n, fun | n => n⟩
theorem Tryz.laysJoin : Go.Proofs.Lays.n156 Tryz.prog Tryz.laysJoin_ren where
  mixed := by kernel_rfl
  f156 := Tryz.func80.trans (congrArg some (by kernel_rfl))
  f165 := Tryz.func113.trans (congrArg some (by kernel_rfl))
  f166 := Tryz.func70.trans (congrArg some (by kernel_rfl))
  f169 := Tryz.func75.trans (congrArg some (by kernel_rfl))
  f240 := Tryz.func110.trans (congrArg some (by kernel_rfl))
  f241 := Tryz.func147.trans (congrArg some (by kernel_rfl))
  f276 := Tryz.func143.trans (congrArg some (by kernel_rfl))
  f277 := Tryz.func182.trans (congrArg some (by kernel_rfl))
  t0 := Tryz.underlying0
  a0 := Tryz.isAgg0
  z0 := Tryz.sizeOf0
  v0 := Tryz.zeroValue0
  t3 := Tryz.underlying3
  a3 := Tryz.isAgg3
  z3 := Tryz.sizeOf3
  v3 := Tryz.zeroValue3
  t4 := Tryz.underlying4
  a4 := Tryz.isAgg4
  z4 := Tryz.sizeOf4
  v4 := Tryz.zeroValue4
  t9 := Tryz.underlying9
  a9 := Tryz.isAgg9
  z9 := Tryz.sizeOf9
  v9 := Tryz.zeroValue9
  t20 := Tryz.underlying20
  a20 := Tryz.isAgg20
  z20 := Tryz.sizeOf20
  v20 := Tryz.zeroValue20
  t31 := Tryz.underlying35
  a31 := Tryz.isAgg35
  z31 := Tryz.sizeOf35
  v31 := Tryz.zeroValue35
  t37 := Tryz.underlying22
  a37 := Tryz.isAgg22
  z37 := Tryz.sizeOf22
  v37 := Tryz.zeroValue22
  t70 := Tryz.underlying96
  a70 := Tryz.isAgg96
  z70 := Tryz.sizeOf96
  v70 := Tryz.zeroValue96
  t72 := Tryz.underlying98
  a72 := Tryz.isAgg98
  z72 := Tryz.sizeOf98
  v72 := Tryz.zeroValue98
  t75 := Tryz.underlying100
  a75 := Tryz.isAgg100
  z75 := Tryz.sizeOf100
  v75 := Tryz.zeroValue100
  t76 := Tryz.underlying101
  a76 := Tryz.isAgg101
  z76 := Tryz.sizeOf101
  v76 := Tryz.zeroValue101
  t127 := Tryz.underlying137
  a127 := Tryz.isAgg137
  z127 := Tryz.sizeOf137
  v127 := Tryz.zeroValue137
  t164 := Tryz.underlying167
  a164 := Tryz.isAgg167
  z164 := Tryz.sizeOf167
  v164 := Tryz.zeroValue167

theorem extraJ : Builder.Extra Tryz.prog Tryz.laysJoin_ren where
  sizeBuilder := by kernel_rfl
  liesBuilder := by kernel_rfl
  t5 := Tryz.underlying5
  a5 := Tryz.isAgg5
  z5 := Tryz.sizeOf5
  v5 := Tryz.zeroValue5
  infoByte := by kernel_rfl
  cellsByte := by kernel_rfl
  sizeByte := by kernel_rfl
  neB5 := by decide
theorem sl_inv {h : Held} {v : Value} {n : Nat} {full : Bool} {cells : List D} (r : RD h v (.sl n full cells)) (h0 : 0 < n) :
    ∃ (g off cap : Nat) (vs : Nat → Value), v = .slice (some ⟨g, off, none⟩) n cap ∧ n ≤ cap ∧ (∀ (i : Nat) x, cells[i]? = some x → h g (off + i) = some (vs i)) ∧ (∀ (i : Nat) x, cells[i]? = some x → RD h (vs i) x) := by
  cases r with
  | sl0 base full => omega
  | sl g off n cap full cells vs k1 k2 k3 k4 k5 => exact ⟨g, off, cap, vs, rfl, k1, k3, k4⟩
theorem join_spec (l : Row) (full : Bool) (sep : List UInt8) (h0 : 0 < l.length) (hl : l.length ≤ 1000000) (hlen : (Lib.join l sep).length ≤ 1000000000) :
    Ctr Tryz.prog G 80 [.d (Ss l full), .d (S sep)] [] (.d (S (Lib.join l sep))) [] := by
  refine Ctr.of_calls go80 fun h ρ w vs q r => ?_
  obtain ⟨v, u, rfl, hv, hu⟩ := r.inv2
  rw [hu.str_inv]
  have hd : RD h v (.sl l.length full (strs l)) := by cases hv with | d _ _ hd => exact hd
  obtain ⟨g, off, cap, vs, rfl, k1, k2, k3⟩ := sl_inv hd h0
  have key : ∀ (j : Nat) x, (l.map bs)[j]? = some x → w.cell? ⟨g, off + j, none⟩ = some (.string x) := by
    intro j x hx
    rw [List.getElem?_map] at hx
    cases hy : l[j]? with
    | none => rw [hy] at hx; cases hx
    | some y =>
      rw [hy] at hx
      cases hx
      have hs : (strs l)[j]? = some (S y) := by simp [strs, hy]
      have c1 := q.prom _ _ _ (k2 j _ hs)
      have r1 := k3 j _ hs
      generalize vs j = z at c1 r1
      cases r1
      exact c1
  have hb : g < w.heap.size := by
    have := key 0 (bs (l.getD 0 [])) (by rw [List.getElem?_map, List.getD_eq_getElem?_getD, List.getElem?_eq_getElem h0]; rfl)
    rcases Nat.lt_or_ge g w.heap.size with h1 | h1
    · exact h1
    · simp [World.cell?, h1] at this
  have e1 : ((l.map bs).map (·.data.toList)) = l := by
    rw [List.map_map]
    conv => rhs; rw [← List.map_id l]
    rfl
  have e2 : (bs sep).data.toList = sep := rfl
  have := Any.strings_Join Tryz.laysJoin extraJ g off cap (l.map bs) (bs sep) w key hb (by rw [List.length_map]; omega) (by rw [List.length_map]; exact k1) (by rw [e1, e2]; omega)
  rw [List.length_map, e1, e2] at this
  refine this.mono ?_
  rintro e w' ⟨rfl, hb⟩
  exact ⟨_, rfl, .str _, hb⟩
end Go.Proofs.YtacepalmphbnfaaGreatDoor

namespace Go.Proofs.YtacepalmphbnfaaGreatDoor
open Go Go.Proofs Go.Abs
variable {G : Globals}
/-! The text of a layout (given what strconv.Itoa does on the numbers up to 2^20). -/
def HI (G : Globals) : Prop := ∀ n : Nat, n ≤ 1048576 → Ctr Tryz.prog G 79 [.d (.int .i64 n)] [] (.d (S (Lib.decDigits n))) []
def numT (l : List Nat) : Row := l.map Lib.decDigits
def textL (l : List Int) : Option (List UInt8) := if okLay l = true then some (Lib.join (numT (natsOf l)) [44]) else none
def textD : Option (List UInt8) → D
  | some s => .tup [S s, .bool true]
  | none => .tup [S [], .bool false]
theorem okLay_le {l : List Int} (h : okLay l = true) : (natsOf l).length = l.length ∧ ∀ n ∈ natsOf l, n ≤ 1048576 := by
  obtain ⟨_, _, _, k4⟩ := okLay_ok h
  refine ⟨by simp [natsOf], fun n hn => ?_⟩
  obtain ⟨c, hc, rfl⟩ := List.mem_map.1 hn
  have := k4 c hc
  omega
theorem dec_len {n : Nat} (h : n ≤ 1048576) : (Lib.decDigits n).length ≤ 21 := by
  have := Lib.itoa_length_le (n : Int) (by omega) (by omega)
  rwa [Lib.itoa_nonneg] at this
theorem join_len (sep : List UInt8) (m : Nat) (hs : sep.length ≤ 1) : ∀ l : Row, (∀ s ∈ l, s.length ≤ m) → (Lib.join l sep).length ≤ l.length * (m + 1)
  | [], _ => by simp [Lib.join_nil]
  | [x], h => by rw [Lib.join_one]; have := h x (by simp); simp; omega
  | x :: y :: t, h => by
    have e : Lib.join (x :: y :: t) sep = x ++ sep ++ Lib.join (y :: t) sep := by simp [Lib.join, List.intercalate]
    have i := join_len sep m hs (y :: t) (fun s hm => h s (List.mem_cons_of_mem _ hm))
    have := h x (by simp)
    rw [e]
    simp only [List.length_append, List.length_cons] at *
    rw [Nat.succ_mul]
    omega
set_option maxHeartbeats 4000000 in
set_option maxRecDepth 100000 in
theorem ftext_spec (hI : HI G) (l : List Int) (full : Bool) (hl : l.length ≤ 1000000) : Ctr Tryz.prog G 26 [.d (IsF l full)] [] (.d (textD (textL l))) [] := by
  obtain ⟨r, hr⟩ : ∃ r, r = textL l := ⟨_, rfl⟩
  rw [← hr]
  refine Ctr.pure (M := M0) hmix Tryz.func26 rfl go26 ?_
  unfold textL at hr
  simp (config := { maxSteps := 1000000 }) (disch := ((try simp only [awL]); omega)) only [QR, QS, QT, QU, QV, QW, QX, QY, QZ, Q0, Q1, Q2, Tryz.f26, ↓awU, awV, awF, Qa, Qb, Qc, Qd, forall_const, ↓reduceIte, ↓reduceDIte, ↓Qe, Qf, Qg, Qh, Qi, Qj, Qk, Ql, Qm, Qn, Qo, Qp, Qq, Qr, Qs, implies_true, Qt, Qu, Qv, Qw, Qx, Qy, Qz, QA, QB, QC, QD, QE, QF, QG, QH, QI, QJ, QK, QL, QM, QN, QO, QP, QQ]
  refine CallC.of (fvalid_spec l false (by omega)) (by rfl) ?_
  cases hv : okLay l
  · rw [if_neg (by rw [hv]; decide)] at hr
    simp (config := { maxSteps := 1000000 }) (disch := ((try simp only [awL]); omega)) only [QR, QS, QT, QU, QV, QW, QX, QY, QZ, Q0, Q1, Q2, ↓awU, awV, awF, Qa, Qb, Qc, Qd, forall_const, ↓reduceIte, ↓reduceDIte, ↓Qe, Qf, Qg, Qh, Qi, Qj, Qk, Ql, Qm, Qn, Qo, Qp, Qq, Qr, Qs, implies_true, Qt, Qu, Qv, Qw, Qx, Qy, Qz, QA, QB, QC, QD, QE, QF, QG, QH, QI, QJ, QK, QL, QM, QN, QO, QP, QQ]
    rw [hr]; rfl
  · rw [if_pos hv] at hr
    obtain ⟨k1, k2, k3, k4⟩ := okLay_ok hv
    obtain ⟨nl, hle⟩ := okLay_le hv
    simp (config := { maxSteps := 1000000 }) (disch := ((try simp only [awL]); omega)) only [QR, QS, QT, QU, QV, QW, QX, QY, QZ, Q0, Q1, Q2, ↓awU, awV, awF, Qa, Qb, Qc, Qd, forall_const, ↓reduceIte, ↓reduceDIte, ↓Qe, Qf, Qg, Qh, Qi, Qj, Qk, Ql, Qm, Qn, Qo, Qp, Qq, Qr, Qs, implies_true, Qt, Qu, Qv, Qw, Qx, Qy, Qz, QA, QB, QC, QD, QE, QF, QG, QH, QI, QJ, QK, QL, QM, QN, QO, QP, QQ]
    rw [show IsF l full = Ns (natsOf l) full by unfold IsF Ns; rw [nats_of k4, nl], ← nl]
    rw [← nl] at k1 k2
    generalize natsOf l = ns at *
    have al := @nats_length .i64 ns
    obtain ⟨t, ht⟩ : ∃ t, t = numT ns := ⟨_, rfl⟩
    have tl : t.length = ns.length := by rw [ht, numT, List.length_map]
    rw [← ht] at hr
    refine LoopC.fr 3072 (α := Nat) (fun i => ns.length - i) (fun i => [(4, .lsl 0 1 0 i), (12, .d (.int .i64 i))]) (fun i => [.row false (strs (t.take i))]) (fun i => i ≤ ns.length) 0 (Nat.zero_le _) ?_ ?_
    · exact ⟨[none], rfl, by simp, by simp [setsA, keepA, SWeak, AWeak], by simp [HWeak, BWeak, SWeak, AWeak, strs]⟩
    · intro i hi
      have tk0 : (t.take i).length = i := by simp; omega
      have st := @strs_length (t.take i)
      rw [tk0] at st
      simp only [awK, Nat.reduceMod, Nat.reduceDiv, reduceIte]
      rcases Nat.lt_or_ge i ns.length with h | h
      · have g := nats_getD (k := .i64) (d := .nilp) h
        have hn := hle _ (memD (d := 0) h)
        have tk : strs (t.take i) ++ [S (Lib.decDigits (ns.getD i 0))] = strs (t.take (i + 1)) := by
          rw [List.take_add_one, ht, numT, List.getElem?_map, getD_some (d := 0) h]; simp [strs]
        simp (config := { maxSteps := 1000000 }) (disch := ((try simp only [awL]); omega)) only [QR, QS, QT, QU, QV, QW, QX, QY, QZ, Q0, Q1, Q2, Ns, al, st, g, ↓awU, awV, awF, Qa, Qb, Qc, Qd, forall_const, ↓reduceIte, ↓reduceDIte, ↓Qe, Qf, Qg, Qh, Qi, Qj, Qk, Ql, Qm, Qn, Qo, Qp, Qq, Qr, Qs, implies_true, Qt, Qu, Qv, Qw, Qx, Qy, Qz, QA, QB, QC, QD, QE, QF, QG, QH, QI, QJ, QK, QL, QM, QN, QO, QP, QQ]
        refine CallC.pure (hI _ hn) ?_
        simp (config := { maxSteps := 1000000 }) (disch := ((try simp only [awL]); omega)) only [QR, QS, QT, QU, QV, QW, QX, QY, QZ, Q0, Q1, Q2, al, st, ↓awU, awV, awF, Qa, Qb, Qc, Qd, forall_const, ↓reduceIte, ↓reduceDIte, ↓Qe, Qf, Qg, Qh, Qi, Qj, Qk, Ql, Qm, Qn, Qo, Qp, Qq, Qr, Qs, implies_true, Qt, Qu, Qv, Qw, Qx, Qy, Qz, QA, QB, QC, QD, QE, QF, QG, QH, QI, QJ, QK, QL, QM, QN, QO, QP, QQ]
        rw [tk]
        exact ⟨i + 1, h, by simp only; omega, ⟨[some 2], rfl, by simp, by simp [setsA, keepA, SWeak, AWeak], by simp [HWeak, BWeak, SWeak, AWeak]⟩⟩
      · obtain rfl : i = ns.length := by omega
        have cu : cut (strs t) 0 ns.length = strs t := cut_all (by rw [strs_length, tl])
        rw [List.take_of_length_le (by omega)]
        simp (config := { maxSteps := 1000000 }) (disch := ((try simp only [awL]); omega)) only [QR, QS, QT, QU, QV, QW, QX, QY, QZ, Q0, Q1, Q2, al, cu, ↓awU, awV, awF, Qa, Qb, Qc, Qd, forall_const, ↓reduceIte, ↓reduceDIte, ↓Qe, Qf, Qg, Qh, Qi, Qj, Qk, Ql, Qm, Qn, Qo, Qp, Qq, Qr, Qs, implies_true, Qt, Qu, Qv, Qw, Qx, Qy, Qz, QA, QB, QC, QD, QE, QF, QG, QH, QI, QJ, QK, QL, QM, QN, QO, QP, QQ]
        have jl := join_len [44] 21 (Nat.le_refl _) t (fun s hs => by
          rw [ht] at hs
          obtain ⟨n, hn, rfl⟩ := List.mem_map.1 hs
          exact dec_len (hle n hn))
        refine CallC.frozenE (join_spec t false [44] (by omega) (by omega) (by omega)) (by rw [← tl]) ?_
        simp (config := { maxSteps := 1000000 }) (disch := ((try simp only [awL]); omega)) only [QR, QS, QT, QU, QV, QW, QX, QY, QZ, Q0, Q1, Q2, ↓awU, awV, awF, Qa, Qb, Qc, Qd, forall_const, ↓reduceIte, ↓reduceDIte, ↓Qe, Qf, Qg, Qh, Qi, Qj, Qk, Ql, Qm, Qn, Qo, Qp, Qq, Qr, Qs, implies_true, Qt, Qu, Qv, Qw, Qx, Qy, Qz, QA, QB, QC, QD, QE, QF, QG, QH, QI, QJ, QK, QL, QM, QN, QO, QP, QQ]
        all_goals (rw [hr]; rfl)
end Go.Proofs.YtacepalmphbnfaaGreatDoor

namespace Go.Proofs.YtacepalmphbnfaaGreatDoor
open Go Go.Proofs Go.Abs
variable {G : Globals}
/-! The reference's natural. -/
end Go.Proofs.YtacepalmphbnfaaGreatDoor

namespace Go.Proofs.YtacepalmphbnfaaGreatDoor
open Go Go.Proofs Go.Abs Go.RowKit Go.Shelf
variable {G : Globals}
/-! strconv.Atoi, out of the kit's contracts. -/
/-- The errors' variables hold some error. -/
def HE (G : Globals) : Prop := G 2 = some [.ifc] ∧ G 3 = some [.ifc]
end Go.Proofs.YtacepalmphbnfaaGreatDoor

namespace Go.Proofs.YtacepalmphbnfaaGreatDoor
open Go Go.Proofs Go.Abs
variable {G : Globals}
/-! strings.SplitSeq at a comma. -/
end Go.Proofs.YtacepalmphbnfaaGreatDoor

namespace Go.Proofs.YtacepalmphbnfaaGreatDoor
open Go Go.Proofs Go.Abs
variable {G : Globals}
/-! The reference's odd. -/
end Go.Proofs.YtacepalmphbnfaaGreatDoor

namespace Go.Proofs.YtacepalmphbnfaaGreatDoor
open Go Go.Proofs Go.Abs
variable {G : Globals}
/-! strconv.Itoa of the numbers below 10^7. -/
def prD (k : Nat) : List UInt8 := [UInt8.ofNat (48 + k / 10), UInt8.ofNat (48 + k % 10)]
theorem dd2 {n : Nat} (h : 100 ≤ n) : Lib.decDigits n = Lib.decDigits (n / 100) ++ prD (n % 100) := by
  rw [Lib.decDigits, dif_neg (by omega), Lib.decDigits, dif_neg (by omega), Nat.div_div_eq_div_mul, List.append_assoc, prD]
  rw [show n / 10 % 10 = n % 100 / 10 by omega, show n % 100 % 10 = n % 10 by omega]; rfl
theorem dd_one {n : Nat} (h : n < 10) : Lib.decDigits n = [UInt8.ofNat (48 + n)] := Lib.decDigits_one h
theorem dd_two {n : Nat} (h1 : 10 ≤ n) (h : n < 100) : Lib.decDigits n = prD n := Lib.decDigits_two (by omega) h
theorem dd3 {n : Nat} (h1 : 100 ≤ n) (h : n < 1000) : Lib.decDigits n = [UInt8.ofNat (48 + n / 100)] ++ prD (n % 100) := by rw [dd2 h1, dd_one (by omega)]
theorem dd4 {n : Nat} (h1 : 1000 ≤ n) (h : n < 10000) : Lib.decDigits n = prD (n / 100) ++ prD (n % 100) := by rw [dd2 (by omega), dd_two (by omega) (by omega)]
theorem dd5 {n : Nat} (h1 : 10000 ≤ n) (h : n < 100000) : Lib.decDigits n = [UInt8.ofNat (48 + n / 10000)] ++ prD (n % 10000 / 100) ++ prD (n % 10000 % 100) := by
  rw [dd2 (by omega), dd3 (by omega) (by omega), Nat.div_div_eq_div_mul, show n / 100 % 100 = n % 10000 / 100 by omega, show n % 10000 % 100 = n % 100 by omega]
theorem dd6 {n : Nat} (h1 : 100000 ≤ n) (h : n < 1000000) : Lib.decDigits n = prD (n / 10000) ++ prD (n % 10000 / 100) ++ prD (n % 10000 % 100) := by
  rw [dd2 (by omega), dd4 (by omega) (by omega), Nat.div_div_eq_div_mul, show n / 100 % 100 = n % 10000 / 100 by omega, show n % 10000 % 100 = n % 100 by omega]
theorem dd7 {n : Nat} (h1 : 1000000 ≤ n) (h : n < 10000000) : Lib.decDigits n = [UInt8.ofNat (48 + n / 10000 / 100)] ++ prD (n / 10000 % 100) ++ prD (n % 10000 / 100) ++ prD (n % 10000 % 100) := by
  rw [dd2 (by omega), dd5 (by omega) (by omega), show n % 10000 % 100 = n % 100 by omega, show n / 100 / 10000 = n / 10000 / 100 by omega, show n / 100 % 10000 / 100 = n / 10000 % 100 by omega, show n / 100 % 10000 % 100 = n % 10000 / 100 by omega]
theorem sm_at {k : Nat} (h : k < 100) : (smallsL.getD (k * 2) 0).toNat = 48 + k / 10 ∧ (smallsL.getD (k * 2 + 1) 0).toNat = 48 + k % 10 := by
  have : ∀ k : Fin 100, (smallsL.getD (k.val * 2) 0).toNat = 48 + k.val / 10 ∧ (smallsL.getD (k.val * 2 + 1) 0).toNat = 48 + k.val % 10 := by decide +kernel
  exact this ⟨k, h⟩
theorem td100 (a : Nat) : (a : Int).tdiv 100 = ((a / 100 : Nat) : Int) := (Int.ofNat_tdiv a 100).symm
theorem tm100 (a : Nat) : (a : Int).tmod 100 = ((a % 100 : Nat) : Int) := (Int.ofNat_tmod a 100).symm
theorem td10000 (a : Nat) : (a : Int).tdiv 10000 = ((a / 10000 : Nat) : Int) := (Int.ofNat_tdiv a 10000).symm
theorem tm10000 (a : Nat) : (a : Int).tmod 10000 = ((a % 10000 : Nat) : Int) := (Int.ofNat_tmod a 10000).symm
theorem tn2 (k : Nat) : ((k : Int) * 2).toNat = k * 2 := by omega
theorem tn3 (k : Nat) : ((k : Int) * 2 + 1).toNat = k * 2 + 1 := by omega
theorem smA {k : Nat} (h : k < 100) : (smallsL.getD (k * 2) 0).toNat = 48 + k / 10 := (sm_at h).1
theorem smB {k : Nat} (h : k < 100) : (smallsL.getD (k * 2 + 1) 0).toNat = 48 + k % 10 := (sm_at h).2
set_option maxHeartbeats 4000000 in
set_option maxRecDepth 100000 in
theorem fb3_spec (n : Nat) (h1 : 100 ≤ n) (h : n < 1000) : Ctr Tryz.prog G 185 [.lsl 0 1 1 3, .d (.int .u64 n)] [.row false (ints .u8 (List.replicate 24 0))] .undef
    [.row false (ints .u8 ([0, ((48 + n / 100 : Nat) : Int), ((48 + n % 100 / 10 : Nat) : Int), ((48 + n % 100 % 10 : Nat) : Int)] ++ List.replicate 20 0))] := by
  refine Ctr.body (M := M0) hmix Tryz.func185 rfl go185 ?_
  simp (config := { maxSteps := 1000000 }) (disch := ((try simp only [awL]); omega)) only [QR, QS, QT, QU, QV, QW, QX, QY, QZ, Q0, Q1, Q2, Tryz.f185, ↓awU, awV, awF, Qa, Qb, Qc, Qd, forall_const, ↓reduceIte, ↓reduceDIte, ↓Qe, Qf, Qg, Qh, Qi, Qj, Qk, Ql, Qm, Qn, Qo, Qp, Qq, Qr, Qs, implies_true, Qt, Qu, Qv, Qw, Qx, Qy, Qz, QA, QB, QC, QD, QE, QF, QG, QH, QI, QJ, QK, QL, QM, QN, QO, QP, QQ]
  refine LoopC.fx 1 (α := Unit) (β := Unit) (fun _ => 0) (fun _ => [(1, .d (.int .u64 n)), (4, .d (.int .i64 3))]) (fun _ => [.row false (ints .u8 (List.replicate 24 0))]) (fun _ => True) 1 (fun _ => [(1, .d (.int .u64 n)), (4, .d (.int .i64 3))]) (fun _ => [.row false (ints .u8 (List.replicate 24 0))]) (fun _ => True) () trivial ?_ ?_ ?_
  · exact ⟨[some 0], rfl, by simp, by simp [setsA, keepA, SWeak, AWeak], by simp [HWeak, BWeak, SWeak, AWeak]⟩
  · rintro ⟨⟩ -
    simp only [awK, Nat.reduceMod, Nat.reduceDiv, reduceIte]
    simp (config := { maxSteps := 1000000 }) (disch := ((try simp only [awL]); omega)) only [QR, QS, QT, QU, QV, QW, QX, QY, QZ, Q0, Q1, Q2, ↓awU, awV, awF, Qa, Qb, Qc, Qd, forall_const, ↓reduceIte, ↓reduceDIte, ↓Qe, Qf, Qg, Qh, Qi, Qj, Qk, Ql, Qm, Qn, Qo, Qp, Qq, Qr, Qs, implies_true, Qt, Qu, Qv, Qw, Qx, Qy, Qz, QA, QB, QC, QD, QE, QF, QG, QH, QI, QJ, QK, QL, QM, QN, QO, QP, QQ]
    exact ⟨(), trivial, ⟨[some 0], rfl, by simp, by simp [setsA, keepA, SWeak, AWeak], by simp [HWeak, BWeak, SWeak, AWeak]⟩⟩
  · rintro ⟨⟩ -
    simp only [awK, Nat.reduceMod, Nat.reduceDiv, reduceIte]
    simp (config := { maxSteps := 1000000 }) (disch := ((try simp only [awL]); omega)) only [QR, QS, QT, QU, QV, QW, QX, QY, QZ, Q0, Q1, Q2, smalls_eq, smallsL_len, td100, tm100, td10000, tm10000, tn2, tn3, smA, smB, ↓awU, awV, awF, Qa, Qb, Qc, Qd, forall_const, ↓reduceIte, ↓reduceDIte, ↓Qe, Qf, Qg, Qh, Qi, Qj, Qk, Ql, Qm, Qn, Qo, Qp, Qq, Qr, Qs, implies_true, Qt, Qu, Qv, Qw, Qx, Qy, Qz, QA, QB, QC, QD, QE, QF, QG, QH, QI, QJ, QK, QL, QM, QN, QO, QP, QQ]
    first | (exact ⟨[some 0], rfl, by simp, by simp [HWeak, BWeak, SWeak, AWeak], .inl (by simp [AWeak, SWeak])⟩) | (refine ⟨by rfl, ?_⟩; exact ⟨[some 0], rfl, by simp, by simp [HWeak, BWeak, SWeak, AWeak], .inl (by simp [AWeak, SWeak])⟩) | (refine ⟨by rfl, by rfl, ?_⟩; exact ⟨[some 0], rfl, by simp, by simp [HWeak, BWeak, SWeak, AWeak], .inl (by simp [AWeak, SWeak])⟩) | (refine ⟨by rfl, by rfl, by rfl, ?_⟩; exact ⟨[some 0], rfl, by simp, by simp [HWeak, BWeak, SWeak, AWeak], .inl (by simp [AWeak, SWeak])⟩)
set_option maxHeartbeats 4000000 in
set_option maxRecDepth 100000 in
theorem fb4_spec (n : Nat) (h1 : 1000 ≤ n) (h : n < 10000) : Ctr Tryz.prog G 185 [.lsl 0 1 1 4, .d (.int .u64 n)] [.row false (ints .u8 (List.replicate 24 0))] .undef
    [.row false (ints .u8 ([0, ((48 + n % 10000 / 100 / 10 : Nat) : Int), ((48 + n % 10000 / 100 % 10 : Nat) : Int), ((48 + n % 10000 % 100 / 10 : Nat) : Int), ((48 + n % 10000 % 100 % 10 : Nat) : Int)] ++ List.replicate 19 0))] := by
  refine Ctr.body (M := M0) hmix Tryz.func185 rfl go185 ?_
  simp (config := { maxSteps := 1000000 }) (disch := ((try simp only [awL]); omega)) only [QR, QS, QT, QU, QV, QW, QX, QY, QZ, Q0, Q1, Q2, Tryz.f185, ↓awU, awV, awF, Qa, Qb, Qc, Qd, forall_const, ↓reduceIte, ↓reduceDIte, ↓Qe, Qf, Qg, Qh, Qi, Qj, Qk, Ql, Qm, Qn, Qo, Qp, Qq, Qr, Qs, implies_true, Qt, Qu, Qv, Qw, Qx, Qy, Qz, QA, QB, QC, QD, QE, QF, QG, QH, QI, QJ, QK, QL, QM, QN, QO, QP, QQ]
  refine LoopC.fx 1 (α := Unit) (β := Unit) (fun _ => 0) (fun _ => [(1, .d (.int .u64 n)), (4, .d (.int .i64 4))]) (fun _ => [.row false (ints .u8 (List.replicate 24 0))]) (fun _ => True) 1 (fun _ => [(1, .d (.int .u64 n)), (4, .d (.int .i64 4))]) (fun _ => [.row false (ints .u8 (List.replicate 24 0))]) (fun _ => True) () trivial ?_ ?_ ?_
  · exact ⟨[some 0], rfl, by simp, by simp [setsA, keepA, SWeak, AWeak], by simp [HWeak, BWeak, SWeak, AWeak]⟩
  · rintro ⟨⟩ -
    simp only [awK, Nat.reduceMod, Nat.reduceDiv, reduceIte]
    simp (config := { maxSteps := 1000000 }) (disch := ((try simp only [awL]); omega)) only [QR, QS, QT, QU, QV, QW, QX, QY, QZ, Q0, Q1, Q2, ↓awU, awV, awF, Qa, Qb, Qc, Qd, forall_const, ↓reduceIte, ↓reduceDIte, ↓Qe, Qf, Qg, Qh, Qi, Qj, Qk, Ql, Qm, Qn, Qo, Qp, Qq, Qr, Qs, implies_true, Qt, Qu, Qv, Qw, Qx, Qy, Qz, QA, QB, QC, QD, QE, QF, QG, QH, QI, QJ, QK, QL, QM, QN, QO, QP, QQ]
    exact ⟨(), trivial, ⟨[some 0], rfl, by simp, by simp [setsA, keepA, SWeak, AWeak], by simp [HWeak, BWeak, SWeak, AWeak]⟩⟩
  · rintro ⟨⟩ -
    simp only [awK, Nat.reduceMod, Nat.reduceDiv, reduceIte]
    simp (config := { maxSteps := 1000000 }) (disch := ((try simp only [awL]); omega)) only [QR, QS, QT, QU, QV, QW, QX, QY, QZ, Q0, Q1, Q2, smalls_eq, smallsL_len, td100, tm100, td10000, tm10000, tn2, tn3, smA, smB, ↓awU, awV, awF, Qa, Qb, Qc, Qd, forall_const, ↓reduceIte, ↓reduceDIte, ↓Qe, Qf, Qg, Qh, Qi, Qj, Qk, Ql, Qm, Qn, Qo, Qp, Qq, Qr, Qs, implies_true, Qt, Qu, Qv, Qw, Qx, Qy, Qz, QA, QB, QC, QD, QE, QF, QG, QH, QI, QJ, QK, QL, QM, QN, QO, QP, QQ]
    first | (exact ⟨[some 0], rfl, by simp, by simp [HWeak, BWeak, SWeak, AWeak], .inl (by simp [AWeak, SWeak])⟩) | (refine ⟨by rfl, ?_⟩; exact ⟨[some 0], rfl, by simp, by simp [HWeak, BWeak, SWeak, AWeak], .inl (by simp [AWeak, SWeak])⟩) | (refine ⟨by rfl, by rfl, ?_⟩; exact ⟨[some 0], rfl, by simp, by simp [HWeak, BWeak, SWeak, AWeak], .inl (by simp [AWeak, SWeak])⟩) | (refine ⟨by rfl, by rfl, by rfl, ?_⟩; exact ⟨[some 0], rfl, by simp, by simp [HWeak, BWeak, SWeak, AWeak], .inl (by simp [AWeak, SWeak])⟩)
set_option maxHeartbeats 4000000 in
set_option maxRecDepth 100000 in
theorem fb5_spec (n : Nat) (h1 : 10000 ≤ n) (h : n < 100000) : Ctr Tryz.prog G 185 [.lsl 0 1 1 5, .d (.int .u64 n)] [.row false (ints .u8 (List.replicate 24 0))] .undef
    [.row false (ints .u8 ([0, ((48 + n / 10000 : Nat) : Int), ((48 + n % 10000 / 100 / 10 : Nat) : Int), ((48 + n % 10000 / 100 % 10 : Nat) : Int), ((48 + n % 10000 % 100 / 10 : Nat) : Int), ((48 + n % 10000 % 100 % 10 : Nat) : Int)] ++ List.replicate 18 0))] := by
  refine Ctr.body (M := M0) hmix Tryz.func185 rfl go185 ?_
  simp (config := { maxSteps := 1000000 }) (disch := ((try simp only [awL]); omega)) only [QR, QS, QT, QU, QV, QW, QX, QY, QZ, Q0, Q1, Q2, Tryz.f185, ↓awU, awV, awF, Qa, Qb, Qc, Qd, forall_const, ↓reduceIte, ↓reduceDIte, ↓Qe, Qf, Qg, Qh, Qi, Qj, Qk, Ql, Qm, Qn, Qo, Qp, Qq, Qr, Qs, implies_true, Qt, Qu, Qv, Qw, Qx, Qy, Qz, QA, QB, QC, QD, QE, QF, QG, QH, QI, QJ, QK, QL, QM, QN, QO, QP, QQ]
  refine LoopC.fx 1 (α := Unit) (β := Unit) (fun _ => 0) (fun _ => [(1, .d (.int .u64 n)), (4, .d (.int .i64 5))]) (fun _ => [.row false (ints .u8 (List.replicate 24 0))]) (fun _ => True) 1 (fun _ => [(1, .d (.int .u64 n)), (4, .d (.int .i64 5))]) (fun _ => [.row false (ints .u8 (List.replicate 24 0))]) (fun _ => True) () trivial ?_ ?_ ?_
  · exact ⟨[some 0], rfl, by simp, by simp [setsA, keepA, SWeak, AWeak], by simp [HWeak, BWeak, SWeak, AWeak]⟩
  · rintro ⟨⟩ -
    simp only [awK, Nat.reduceMod, Nat.reduceDiv, reduceIte]
    simp (config := { maxSteps := 1000000 }) (disch := ((try simp only [awL]); omega)) only [QR, QS, QT, QU, QV, QW, QX, QY, QZ, Q0, Q1, Q2, ↓awU, awV, awF, Qa, Qb, Qc, Qd, forall_const, ↓reduceIte, ↓reduceDIte, ↓Qe, Qf, Qg, Qh, Qi, Qj, Qk, Ql, Qm, Qn, Qo, Qp, Qq, Qr, Qs, implies_true, Qt, Qu, Qv, Qw, Qx, Qy, Qz, QA, QB, QC, QD, QE, QF, QG, QH, QI, QJ, QK, QL, QM, QN, QO, QP, QQ]
    exact ⟨(), trivial, ⟨[some 0], rfl, by simp, by simp [setsA, keepA, SWeak, AWeak], by simp [HWeak, BWeak, SWeak, AWeak]⟩⟩
  · rintro ⟨⟩ -
    simp only [awK, Nat.reduceMod, Nat.reduceDiv, reduceIte]
    simp (config := { maxSteps := 1000000 }) (disch := ((try simp only [awL]); omega)) only [QR, QS, QT, QU, QV, QW, QX, QY, QZ, Q0, Q1, Q2, smalls_eq, smallsL_len, td100, tm100, td10000, tm10000, tn2, tn3, smA, smB, ↓awU, awV, awF, Qa, Qb, Qc, Qd, forall_const, ↓reduceIte, ↓reduceDIte, ↓Qe, Qf, Qg, Qh, Qi, Qj, Qk, Ql, Qm, Qn, Qo, Qp, Qq, Qr, Qs, implies_true, Qt, Qu, Qv, Qw, Qx, Qy, Qz, QA, QB, QC, QD, QE, QF, QG, QH, QI, QJ, QK, QL, QM, QN, QO, QP, QQ]
    first | (exact ⟨[some 0], rfl, by simp, by simp [HWeak, BWeak, SWeak, AWeak], .inl (by simp [AWeak, SWeak])⟩) | (refine ⟨by rfl, ?_⟩; exact ⟨[some 0], rfl, by simp, by simp [HWeak, BWeak, SWeak, AWeak], .inl (by simp [AWeak, SWeak])⟩) | (refine ⟨by rfl, by rfl, ?_⟩; exact ⟨[some 0], rfl, by simp, by simp [HWeak, BWeak, SWeak, AWeak], .inl (by simp [AWeak, SWeak])⟩) | (refine ⟨by rfl, by rfl, by rfl, ?_⟩; exact ⟨[some 0], rfl, by simp, by simp [HWeak, BWeak, SWeak, AWeak], .inl (by simp [AWeak, SWeak])⟩)
set_option maxHeartbeats 4000000 in
set_option maxRecDepth 100000 in
theorem fb6_spec (n : Nat) (h1 : 100000 ≤ n) (h : n < 1000000) : Ctr Tryz.prog G 185 [.lsl 0 1 1 6, .d (.int .u64 n)] [.row false (ints .u8 (List.replicate 24 0))] .undef
    [.row false (ints .u8 ([0, ((48 + n / 10000 % 100 / 10 : Nat) : Int), ((48 + n / 10000 % 100 % 10 : Nat) : Int), ((48 + n % 10000 / 100 / 10 : Nat) : Int), ((48 + n % 10000 / 100 % 10 : Nat) : Int), ((48 + n % 10000 % 100 / 10 : Nat) : Int), ((48 + n % 10000 % 100 % 10 : Nat) : Int)] ++ List.replicate 17 0))] := by
  refine Ctr.body (M := M0) hmix Tryz.func185 rfl go185 ?_
  simp (config := { maxSteps := 1000000 }) (disch := ((try simp only [awL]); omega)) only [QR, QS, QT, QU, QV, QW, QX, QY, QZ, Q0, Q1, Q2, Tryz.f185, ↓awU, awV, awF, Qa, Qb, Qc, Qd, forall_const, ↓reduceIte, ↓reduceDIte, ↓Qe, Qf, Qg, Qh, Qi, Qj, Qk, Ql, Qm, Qn, Qo, Qp, Qq, Qr, Qs, implies_true, Qt, Qu, Qv, Qw, Qx, Qy, Qz, QA, QB, QC, QD, QE, QF, QG, QH, QI, QJ, QK, QL, QM, QN, QO, QP, QQ]
  refine LoopC.fx 1 (α := Unit) (β := Unit) (fun _ => 0) (fun _ => [(1, .d (.int .u64 n)), (4, .d (.int .i64 6))]) (fun _ => [.row false (ints .u8 (List.replicate 24 0))]) (fun _ => True) 1 (fun _ => [(1, .d (.int .u64 n)), (4, .d (.int .i64 6))]) (fun _ => [.row false (ints .u8 (List.replicate 24 0))]) (fun _ => True) () trivial ?_ ?_ ?_
  · exact ⟨[some 0], rfl, by simp, by simp [setsA, keepA, SWeak, AWeak], by simp [HWeak, BWeak, SWeak, AWeak]⟩
  · rintro ⟨⟩ -
    simp only [awK, Nat.reduceMod, Nat.reduceDiv, reduceIte]
    simp (config := { maxSteps := 1000000 }) (disch := ((try simp only [awL]); omega)) only [QR, QS, QT, QU, QV, QW, QX, QY, QZ, Q0, Q1, Q2, ↓awU, awV, awF, Qa, Qb, Qc, Qd, forall_const, ↓reduceIte, ↓reduceDIte, ↓Qe, Qf, Qg, Qh, Qi, Qj, Qk, Ql, Qm, Qn, Qo, Qp, Qq, Qr, Qs, implies_true, Qt, Qu, Qv, Qw, Qx, Qy, Qz, QA, QB, QC, QD, QE, QF, QG, QH, QI, QJ, QK, QL, QM, QN, QO, QP, QQ]
    exact ⟨(), trivial, ⟨[some 0], rfl, by simp, by simp [setsA, keepA, SWeak, AWeak], by simp [HWeak, BWeak, SWeak, AWeak]⟩⟩
  · rintro ⟨⟩ -
    simp only [awK, Nat.reduceMod, Nat.reduceDiv, reduceIte]
    simp (config := { maxSteps := 1000000 }) (disch := ((try simp only [awL]); omega)) only [QR, QS, QT, QU, QV, QW, QX, QY, QZ, Q0, Q1, Q2, smalls_eq, smallsL_len, td100, tm100, td10000, tm10000, tn2, tn3, smA, smB, ↓awU, awV, awF, Qa, Qb, Qc, Qd, forall_const, ↓reduceIte, ↓reduceDIte, ↓Qe, Qf, Qg, Qh, Qi, Qj, Qk, Ql, Qm, Qn, Qo, Qp, Qq, Qr, Qs, implies_true, Qt, Qu, Qv, Qw, Qx, Qy, Qz, QA, QB, QC, QD, QE, QF, QG, QH, QI, QJ, QK, QL, QM, QN, QO, QP, QQ]
    first | (exact ⟨[some 0], rfl, by simp, by simp [HWeak, BWeak, SWeak, AWeak], .inl (by simp [AWeak, SWeak])⟩) | (refine ⟨by rfl, ?_⟩; exact ⟨[some 0], rfl, by simp, by simp [HWeak, BWeak, SWeak, AWeak], .inl (by simp [AWeak, SWeak])⟩) | (refine ⟨by rfl, by rfl, ?_⟩; exact ⟨[some 0], rfl, by simp, by simp [HWeak, BWeak, SWeak, AWeak], .inl (by simp [AWeak, SWeak])⟩) | (refine ⟨by rfl, by rfl, by rfl, ?_⟩; exact ⟨[some 0], rfl, by simp, by simp [HWeak, BWeak, SWeak, AWeak], .inl (by simp [AWeak, SWeak])⟩)
set_option maxHeartbeats 4000000 in
set_option maxRecDepth 100000 in
theorem fb7_spec (n : Nat) (h1 : 1000000 ≤ n) (h : n < 10000000) : Ctr Tryz.prog G 185 [.lsl 0 1 1 7, .d (.int .u64 n)] [.row false (ints .u8 (List.replicate 24 0))] .undef
    [.row false (ints .u8 ([0, ((48 + n / 10000 / 100 : Nat) : Int), ((48 + n / 10000 % 100 / 10 : Nat) : Int), ((48 + n / 10000 % 100 % 10 : Nat) : Int), ((48 + n % 10000 / 100 / 10 : Nat) : Int), ((48 + n % 10000 / 100 % 10 : Nat) : Int), ((48 + n % 10000 % 100 / 10 : Nat) : Int), ((48 + n % 10000 % 100 % 10 : Nat) : Int)] ++ List.replicate 16 0))] := by
  refine Ctr.body (M := M0) hmix Tryz.func185 rfl go185 ?_
  simp (config := { maxSteps := 1000000 }) (disch := ((try simp only [awL]); omega)) only [QR, QS, QT, QU, QV, QW, QX, QY, QZ, Q0, Q1, Q2, Tryz.f185, ↓awU, awV, awF, Qa, Qb, Qc, Qd, forall_const, ↓reduceIte, ↓reduceDIte, ↓Qe, Qf, Qg, Qh, Qi, Qj, Qk, Ql, Qm, Qn, Qo, Qp, Qq, Qr, Qs, implies_true, Qt, Qu, Qv, Qw, Qx, Qy, Qz, QA, QB, QC, QD, QE, QF, QG, QH, QI, QJ, QK, QL, QM, QN, QO, QP, QQ]
  refine LoopC.fx 1 (α := Unit) (β := Unit) (fun _ => 0) (fun _ => [(1, .d (.int .u64 n)), (4, .d (.int .i64 7))]) (fun _ => [.row false (ints .u8 (List.replicate 24 0))]) (fun _ => True) 1 (fun _ => [(1, .d (.int .u64 n)), (4, .d (.int .i64 7))]) (fun _ => [.row false (ints .u8 (List.replicate 24 0))]) (fun _ => True) () trivial ?_ ?_ ?_
  · exact ⟨[some 0], rfl, by simp, by simp [setsA, keepA, SWeak, AWeak], by simp [HWeak, BWeak, SWeak, AWeak]⟩
  · rintro ⟨⟩ -
    simp only [awK, Nat.reduceMod, Nat.reduceDiv, reduceIte]
    simp (config := { maxSteps := 1000000 }) (disch := ((try simp only [awL]); omega)) only [QR, QS, QT, QU, QV, QW, QX, QY, QZ, Q0, Q1, Q2, ↓awU, awV, awF, Qa, Qb, Qc, Qd, forall_const, ↓reduceIte, ↓reduceDIte, ↓Qe, Qf, Qg, Qh, Qi, Qj, Qk, Ql, Qm, Qn, Qo, Qp, Qq, Qr, Qs, implies_true, Qt, Qu, Qv, Qw, Qx, Qy, Qz, QA, QB, QC, QD, QE, QF, QG, QH, QI, QJ, QK, QL, QM, QN, QO, QP, QQ]
    exact ⟨(), trivial, ⟨[some 0], rfl, by simp, by simp [setsA, keepA, SWeak, AWeak], by simp [HWeak, BWeak, SWeak, AWeak]⟩⟩
  · rintro ⟨⟩ -
    simp only [awK, Nat.reduceMod, Nat.reduceDiv, reduceIte]
    simp (config := { maxSteps := 1000000 }) (disch := ((try simp only [awL]); omega)) only [QR, QS, QT, QU, QV, QW, QX, QY, QZ, Q0, Q1, Q2, smalls_eq, smallsL_len, td100, tm100, td10000, tm10000, tn2, tn3, smA, smB, ↓awU, awV, awF, Qa, Qb, Qc, Qd, forall_const, ↓reduceIte, ↓reduceDIte, ↓Qe, Qf, Qg, Qh, Qi, Qj, Qk, Ql, Qm, Qn, Qo, Qp, Qq, Qr, Qs, implies_true, Qt, Qu, Qv, Qw, Qx, Qy, Qz, QA, QB, QC, QD, QE, QF, QG, QH, QI, QJ, QK, QL, QM, QN, QO, QP, QQ]
    first | (exact ⟨[some 0], rfl, by simp, by simp [HWeak, BWeak, SWeak, AWeak], .inl (by simp [AWeak, SWeak])⟩) | (refine ⟨by rfl, ?_⟩; exact ⟨[some 0], rfl, by simp, by simp [HWeak, BWeak, SWeak, AWeak], .inl (by simp [AWeak, SWeak])⟩) | (refine ⟨by rfl, by rfl, ?_⟩; exact ⟨[some 0], rfl, by simp, by simp [HWeak, BWeak, SWeak, AWeak], .inl (by simp [AWeak, SWeak])⟩) | (refine ⟨by rfl, by rfl, by rfl, ?_⟩; exact ⟨[some 0], rfl, by simp, by simp [HWeak, BWeak, SWeak, AWeak], .inl (by simp [AWeak, SWeak])⟩)
/-- The table of powers of ten. -/
def HP (G : Globals) : Prop := G 5 = some (ints .u64 Lib.pow10Tab)
def Tryz.laysLen64_ren : Go.Shelf.Ren := ⟨fun | 129 => 141 | n => n, fun | 53 => 165 | 3 => 3 | 4 => 4 | 46 => 129 | 5 => 5 | 9 => 9 | n => n, fun | n => n⟩
theorem Tryz.laysLen64 : Go.Proofs.Lays.n129 Tryz.prog Tryz.laysLen64_ren where
  mixed := by kernel_rfl
  f129 := Tryz.func141.trans (congrArg some (by kernel_rfl))
  t3 := Tryz.underlying3
  a3 := Tryz.isAgg3
  z3 := Tryz.sizeOf3
  v3 := Tryz.zeroValue3
  t4 := Tryz.underlying4
  a4 := Tryz.isAgg4
  z4 := Tryz.sizeOf4
  v4 := Tryz.zeroValue4
  t5 := Tryz.underlying5
  a5 := Tryz.isAgg5
  z5 := Tryz.sizeOf5
  v5 := Tryz.zeroValue5
  t9 := Tryz.underlying9
  a9 := Tryz.isAgg9
  z9 := Tryz.sizeOf9
  v9 := Tryz.zeroValue9
  t46 := Tryz.underlying129
  a46 := Tryz.isAgg129
  z46 := Tryz.sizeOf129
  v46 := Tryz.zeroValue129
  t53 := Tryz.underlying165
  a53 := Tryz.isAgg165
  z53 := Tryz.sizeOf165
  v53 := Tryz.zeroValue165

theorem len64_spec (n : Nat) (h : n < 18446744073709551616) : Ctr Tryz.prog G 141 [.d (.int .u64 n)] [] (.d (.int .i64 (Lib.bitLen n))) [] := by
  refine Ctr.of_calls go141 fun h ρ w vs q r => ?_
  obtain ⟨v, rfl, hv⟩ := r.inv1
  rw [hv.int_inv]
  refine (Any.bits_Len64 Tryz.laysLen64 n w (by omega) (by omega)).mono ?_
  rintro e w' ⟨rfl, rfl⟩
  exact ⟨_, rfl, .int _ _, .refl _ _⟩
theorem log10_spec (x : Nat) (h : x ≤ 64) : Ctr Tryz.prog G 202 [.d (.int .i64 x)] [] (.d (.int .i64 (Lib.l10 x))) [] := by
  refine Ctr.pure (M := M0) hmix Tryz.func202 rfl go202 ?_
  simp (config := { maxSteps := 1000000 }) (disch := ((try simp only [awL]); omega)) only [QR, QS, QT, QU, QV, QW, QX, QY, QZ, Q0, Q1, Q2, Tryz.f202, ↓awU, awV, awF, Qa, Qb, Qc, Qd, forall_const, ↓reduceIte, ↓reduceDIte, ↓Qe, Qf, Qg, Qh, Qi, Qj, Qk, Ql, Qm, Qn, Qo, Qp, Qq, Qr, Qs, implies_true, Qt, Qu, Qv, Qw, Qx, Qy, Qz, QA, QB, QC, QD, QE, QF, QG, QH, QI, QJ, QK, QL, QM, QN, QO, QP, QQ]
  unfold Lib.l10; omega
theorem bool2_spec (b : Bool) : Ctr Tryz.prog G 203 [.d (.bool b)] [] (.d (.int .i64 (if b = true then 1 else 0))) [] := by
  refine Ctr.pure (M := M0) hmix Tryz.func203 rfl go203 ?_
  cases b
  · simp (config := { maxSteps := 1000000 }) (disch := ((try simp only [awL]); omega)) only [QR, QS, QT, QU, QV, QW, QX, QY, QZ, Q0, Q1, Q2, Tryz.f203, ↓awU, awV, awF, Qa, Qb, Qc, Qd, forall_const, ↓reduceIte, ↓reduceDIte, ↓Qe, Qf, Qg, Qh, Qi, Qj, Qk, Ql, Qm, Qn, Qo, Qp, Qq, Qr, Qs, implies_true, Qt, Qu, Qv, Qw, Qx, Qy, Qz, QA, QB, QC, QD, QE, QF, QG, QH, QI, QJ, QK, QL, QM, QN, QO, QP, QQ]
    try rfl
  · simp (config := { maxSteps := 1000000 }) (disch := ((try simp only [awL]); omega)) only [QR, QS, QT, QU, QV, QW, QX, QY, QZ, Q0, Q1, Q2, Tryz.f203, ↓awU, awV, awF, Qa, Qb, Qc, Qd, forall_const, ↓reduceIte, ↓reduceDIte, ↓Qe, Qf, Qg, Qh, Qi, Qj, Qk, Ql, Qm, Qn, Qo, Qp, Qq, Qr, Qs, implies_true, Qt, Qu, Qv, Qw, Qx, Qy, Qz, QA, QB, QC, QD, QE, QF, QG, QH, QI, QJ, QK, QL, QM, QN, QO, QP, QQ]
    try rfl
theorem bitLen_10 {n : Nat} (h2 : n < 10000000) : Lib.bitLen n ≤ 24 := Lib.bitLen_le n 24 (by decide) (by omega)
set_option maxHeartbeats 4000000 in
set_option maxRecDepth 100000 in
theorem numDigits_spec (hP : HP G) (n : Nat) (h1 : 1 ≤ n) (h2 : n < 10000000) : Ctr Tryz.prog G 184 [.d (.int .u64 n)] [] (.d (.int .i64 (Lib.nDigits n))) [] := by
  refine Ctr.pure (M := M0) hmix Tryz.func184 rfl go184 ?_
  have hP' : G 5 = some (ints .u64 Lib.pow10Tab) := hP
  obtain ⟨e1, e2⟩ := Lib.numDigits_eq n h1 (by omega)
  have hb := bitLen_10 h2
  have g0 := ints_getD (k := .u64) (d := .nilp) (l := Lib.pow10Tab) (i := Lib.l10 (Lib.bitLen n)) (by rw [Lib.pow10Tab_length]; omega)
  rw [Lib.pow10Tab_at _ (by omega)] at g0
  have pl := @ints_length .u64 Lib.pow10Tab
  rw [Lib.pow10Tab_length] at pl
  simp (config := { maxSteps := 1000000 }) (disch := ((try simp only [awL]); omega)) only [QR, QS, QT, QU, QV, QW, QX, QY, QZ, Q0, Q1, Q2, Tryz.f184, ↓awU, awV, awF, Qa, Qb, Qc, Qd, forall_const, ↓reduceIte, ↓reduceDIte, ↓Qe, Qf, Qg, Qh, Qi, Qj, Qk, Ql, Qm, Qn, Qo, Qp, Qq, Qr, Qs, implies_true, Qt, Qu, Qv, Qw, Qx, Qy, Qz, QA, QB, QC, QD, QE, QF, QG, QH, QI, QJ, QK, QL, QM, QN, QO, QP, QQ]
  refine CallC.pure (len64_spec n (by omega)) ?_
  simp (config := { maxSteps := 1000000 }) (disch := ((try simp only [awL]); omega)) only [QR, QS, QT, QU, QV, QW, QX, QY, QZ, Q0, Q1, Q2, ↓awU, awV, awF, Qa, Qb, Qc, Qd, forall_const, ↓reduceIte, ↓reduceDIte, ↓Qe, Qf, Qg, Qh, Qi, Qj, Qk, Ql, Qm, Qn, Qo, Qp, Qq, Qr, Qs, implies_true, Qt, Qu, Qv, Qw, Qx, Qy, Qz, QA, QB, QC, QD, QE, QF, QG, QH, QI, QJ, QK, QL, QM, QN, QO, QP, QQ]
  refine CallC.pure (log10_spec (Lib.bitLen n) (by omega)) ?_
  generalize Lib.l10 (Lib.bitLen n) = q at *
  generalize (10 : Nat) ^ q = t at *
  simp (config := { maxSteps := 1000000 }) (disch := ((try simp only [awL]); omega)) only [QR, QS, QT, QU, QV, QW, QX, QY, QZ, Q0, Q1, Q2, hP', pl, g0, ↓awU, awV, awF, Qa, Qb, Qc, Qd, forall_const, ↓reduceIte, ↓reduceDIte, ↓Qe, Qf, Qg, Qh, Qi, Qj, Qk, Ql, Qm, Qn, Qo, Qp, Qq, Qr, Qs, implies_true, Qt, Qu, Qv, Qw, Qx, Qy, Qz, QA, QB, QC, QD, QE, QF, QG, QH, QI, QJ, QK, QL, QM, QN, QO, QP, QQ]
  refine CallC.pure (bool2_spec _) ?_
  rw [← e1]
  by_cases ht : t ≤ n
  · rw [show decide ((t : Int) ≤ (n : Int)) = true from decide_eq_true (by omega), if_pos rfl, if_pos ht]
    simp (config := { maxSteps := 1000000 }) (disch := ((try simp only [awL]); omega)) only [QR, QS, QT, QU, QV, QW, QX, QY, QZ, Q0, Q1, Q2, ↓awU, awV, awF, Qa, Qb, Qc, Qd, forall_const, ↓reduceIte, ↓reduceDIte, ↓Qe, Qf, Qg, Qh, Qi, Qj, Qk, Ql, Qm, Qn, Qo, Qp, Qq, Qr, Qs, implies_true, Qt, Qu, Qv, Qw, Qx, Qy, Qz, QA, QB, QC, QD, QE, QF, QG, QH, QI, QJ, QK, QL, QM, QN, QO, QP, QQ]
    try rfl
  · rw [show decide ((t : Int) ≤ (n : Int)) = false from decide_eq_false (by omega), if_neg ht, if_neg (show ¬ (false = true) by decide)]
    simp (config := { maxSteps := 1000000 }) (disch := ((try simp only [awL]); omega)) only [QR, QS, QT, QU, QV, QW, QX, QY, QZ, Q0, Q1, Q2, ↓awU, awV, awF, Qa, Qb, Qc, Qd, forall_const, ↓reduceIte, ↓reduceDIte, ↓Qe, Qf, Qg, Qh, Qi, Qj, Qk, Ql, Qm, Qn, Qo, Qp, Qq, Qr, Qs, implies_true, Qt, Qu, Qv, Qw, Qx, Qy, Qz, QA, QB, QC, QD, QE, QF, QG, QH, QI, QJ, QK, QL, QM, QN, QO, QP, QQ]
    try rfl
def MI : Muts := fun k => k == 185
theorem MI_t : MI 185 = true := rfl
theorem MI_n {k : Nat} (h : k ≠ 185) : MI k = false := by simpa only [MI, beq_eq_false_iff_ne] using h
theorem nd_of {n k m : Nat} (h1 : 10 ^ k ≤ n) (h2 : n < 10 ^ (k + 1)) (e : m = k + 1) : ((Lib.nDigits n : Nat) : Int) = m := by rw [Lib.nDigits_unique k n h1 h2, e]
theorem num8 {k : Nat} (h : k < 10) : ((UInt8.ofNat (48 + k)).toNat : Int) = ((48 + k : Nat) : Int) := by simp; omega
theorem cut_row (l z : List UInt8) : cut (ints .u8 ([0] ++ (nums l ++ nums z))) 1 l.length = ints .u8 (nums l) := by
  simp only [cut, ints, nums, List.map_append, List.map_cons, List.map_nil, List.map_map, List.singleton_append, List.drop_succ_cons, List.drop_zero]
  rw [List.take_append_of_le_length (by simp), List.take_of_length_le (by simp)]
theorem row3 {n : Nat} (h1 : 100 ≤ n) (h : n < 1000) : ints .u8 ([0, ((48 + n / 100 : Nat) : Int), ((48 + n % 100 / 10 : Nat) : Int), ((48 + n % 100 % 10 : Nat) : Int)] ++ List.replicate 20 0) = ints .u8 ([0] ++ (nums (Lib.decDigits n) ++ nums (List.replicate 20 0))) := by
  rw [dd3 h1 h, prD]; simp only [nums, List.map_append, List.map_cons, List.map_nil]; rw [num8 (by omega), num8 (by omega), num8 (by omega)]; rfl
theorem row4 {n : Nat} (h1 : 1000 ≤ n) (h : n < 10000) : ints .u8 ([0, ((48 + n % 10000 / 100 / 10 : Nat) : Int), ((48 + n % 10000 / 100 % 10 : Nat) : Int), ((48 + n % 10000 % 100 / 10 : Nat) : Int), ((48 + n % 10000 % 100 % 10 : Nat) : Int)] ++ List.replicate 19 0) = ints .u8 ([0] ++ (nums (Lib.decDigits n) ++ nums (List.replicate 19 0))) := by
  rw [dd4 h1 h, Nat.mod_eq_of_lt h, prD, prD]; simp only [nums, List.map_append, List.map_cons, List.map_nil]; rw [num8 (by omega), num8 (by omega), num8 (by omega), num8 (by omega)]; rfl
theorem row5 {n : Nat} (h1 : 10000 ≤ n) (h : n < 100000) : ints .u8 ([0, ((48 + n / 10000 : Nat) : Int), ((48 + n % 10000 / 100 / 10 : Nat) : Int), ((48 + n % 10000 / 100 % 10 : Nat) : Int), ((48 + n % 10000 % 100 / 10 : Nat) : Int), ((48 + n % 10000 % 100 % 10 : Nat) : Int)] ++ List.replicate 18 0) = ints .u8 ([0] ++ (nums (Lib.decDigits n) ++ nums (List.replicate 18 0))) := by
  rw [dd5 h1 h, prD, prD]; simp only [nums, List.map_append, List.map_cons, List.map_nil]; rw [num8 (by omega), num8 (by omega), num8 (by omega), num8 (by omega), num8 (by omega)]; rfl
theorem row6 {n : Nat} (h1 : 100000 ≤ n) (h : n < 1000000) : ints .u8 ([0, ((48 + n / 10000 % 100 / 10 : Nat) : Int), ((48 + n / 10000 % 100 % 10 : Nat) : Int), ((48 + n % 10000 / 100 / 10 : Nat) : Int), ((48 + n % 10000 / 100 % 10 : Nat) : Int), ((48 + n % 10000 % 100 / 10 : Nat) : Int), ((48 + n % 10000 % 100 % 10 : Nat) : Int)] ++ List.replicate 17 0) = ints .u8 ([0] ++ (nums (Lib.decDigits n) ++ nums (List.replicate 17 0))) := by
  rw [dd6 h1 h, Nat.mod_eq_of_lt (show n / 10000 < 100 by omega), prD, prD, prD]; simp only [nums, List.map_append, List.map_cons, List.map_nil]; rw [num8 (by omega), num8 (by omega), num8 (by omega), num8 (by omega), num8 (by omega), num8 (by omega)]; rfl
theorem row7 {n : Nat} (h1 : 1000000 ≤ n) (h : n < 10000000) : ints .u8 ([0, ((48 + n / 10000 / 100 : Nat) : Int), ((48 + n / 10000 % 100 / 10 : Nat) : Int), ((48 + n / 10000 % 100 % 10 : Nat) : Int), ((48 + n % 10000 / 100 / 10 : Nat) : Int), ((48 + n % 10000 / 100 % 10 : Nat) : Int), ((48 + n % 10000 % 100 / 10 : Nat) : Int), ((48 + n % 10000 % 100 % 10 : Nat) : Int)] ++ List.replicate 16 0) = ints .u8 ([0] ++ (nums (Lib.decDigits n) ++ nums (List.replicate 16 0))) := by
  rw [dd7 h1 h, prD, prD, prD]; simp only [nums, List.map_append, List.map_cons, List.map_nil]; rw [num8 (by omega), num8 (by omega), num8 (by omega), num8 (by omega), num8 (by omega), num8 (by omega), num8 (by omega)]; rfl
set_option maxHeartbeats 4000000 in
set_option maxRecDepth 100000 in
theorem formatIntN_spec (hP : HP G) (n : Nat) (h1 : 100 ≤ n) (h2 : n < 10000000) : Ctr Tryz.prog G 148 [.d (.int .i64 n), .d (.int .i64 10)] [] (.d (S (Lib.decDigits n))) [] := by
  refine Ctr.pure (M := MI) hmix Tryz.func148 rfl go148 ?_
  simp (config := { maxSteps := 1000000 }) (disch := ((try simp only [awL]); omega)) only [QR, QS, QT, QU, QV, QW, QX, QY, QZ, Q0, Q1, Q2, MI_t, MI_n, Tryz.f148, ↓awU, awV, awF, Qa, Qb, Qc, Qd, forall_const, ↓reduceIte, ↓reduceDIte, ↓Qe, Qf, Qg, Qh, Qi, Qj, Qk, Ql, Qm, Qn, Qo, Qp, Qq, Qr, Qs, implies_true, Qt, Qu, Qv, Qw, Qx, Qy, Qz, QA, QB, QC, QD, QE, QF, QG, QH, QI, QJ, QK, QL, QM, QN, QO, QP, QQ]
  refine CallC.pure (numDigits_spec hP n (by omega) h2) ?_
  have dl := Lib.decDigits_length n
  rcases (by omega : n < 1000 ∨ (1000 ≤ n ∧ n < 10000) ∨ (10000 ≤ n ∧ n < 100000) ∨ (100000 ≤ n ∧ n < 1000000) ∨ 1000000 ≤ n) with h | ⟨h3, h4⟩ | ⟨h3, h4⟩ | ⟨h3, h4⟩ | h
  · have en : ((Lib.nDigits n : Nat) : Int) = 3 := nd_of (k := 2) (by omega) (by omega) rfl
    have dl2 : (Lib.decDigits n).length = 3 := by omega
    have sp := fb3_spec (G := G) n h1 h
    rw [row3 h1 h] at sp
    rw [en]
    simp (config := { maxSteps := 1000000 }) (disch := ((try simp only [awL]); omega)) only [QR, QS, QT, QU, QV, QW, QX, QY, QZ, Q0, Q1, Q2, MI_t, MI_n, ↓awU, awV, awF, Qa, Qb, Qc, Qd, forall_const, ↓reduceIte, ↓reduceDIte, ↓Qe, Qf, Qg, Qh, Qi, Qj, Qk, Ql, Qm, Qn, Qo, Qp, Qq, Qr, Qs, implies_true, Qt, Qu, Qv, Qw, Qx, Qy, Qz, QA, QB, QC, QD, QE, QF, QG, QH, QI, QJ, QK, QL, QM, QN, QO, QP, QQ]
    generalize Lib.decDigits n = dg at *
    refine CallC.by sp (by rfl) (by rfl) (by simp) ?_
    have cr := cut_row dg (List.replicate 20 0)
    rw [dl2] at cr
    have rl : (ints .u8 ([0] ++ (nums dg ++ nums (List.replicate 20 0)))).length = 24 := by rw [ints_length]; simp only [List.length_append, nums_length, List.length_replicate, dl2, List.length_cons, List.length_nil]
    generalize ints .u8 ([0] ++ (nums dg ++ nums (List.replicate 20 0))) = rw at *
    simp (config := { maxSteps := 1000000 }) (disch := ((try simp only [awL]); omega)) only [QR, QS, QT, QU, QV, QW, QX, QY, QZ, Q0, Q1, Q2, MI_t, MI_n, rl, cr, numsOf_ints, strOfNums_nums, ↓awU, awV, awF, Qa, Qb, Qc, Qd, forall_const, ↓reduceIte, ↓reduceDIte, ↓Qe, Qf, Qg, Qh, Qi, Qj, Qk, Ql, Qm, Qn, Qo, Qp, Qq, Qr, Qs, implies_true, Qt, Qu, Qv, Qw, Qx, Qy, Qz, QA, QB, QC, QD, QE, QF, QG, QH, QI, QJ, QK, QL, QM, QN, QO, QP, QQ]
    try rfl
  · have en : ((Lib.nDigits n : Nat) : Int) = 4 := nd_of (k := 3) (by omega) (by omega) rfl
    have dl2 : (Lib.decDigits n).length = 4 := by omega
    have sp := fb4_spec (G := G) n h3 h4
    rw [row4 h3 h4] at sp
    rw [en]
    simp (config := { maxSteps := 1000000 }) (disch := ((try simp only [awL]); omega)) only [QR, QS, QT, QU, QV, QW, QX, QY, QZ, Q0, Q1, Q2, MI_t, MI_n, ↓awU, awV, awF, Qa, Qb, Qc, Qd, forall_const, ↓reduceIte, ↓reduceDIte, ↓Qe, Qf, Qg, Qh, Qi, Qj, Qk, Ql, Qm, Qn, Qo, Qp, Qq, Qr, Qs, implies_true, Qt, Qu, Qv, Qw, Qx, Qy, Qz, QA, QB, QC, QD, QE, QF, QG, QH, QI, QJ, QK, QL, QM, QN, QO, QP, QQ]
    generalize Lib.decDigits n = dg at *
    refine CallC.by sp (by rfl) (by rfl) (by simp) ?_
    have cr := cut_row dg (List.replicate 19 0)
    rw [dl2] at cr
    have rl : (ints .u8 ([0] ++ (nums dg ++ nums (List.replicate 19 0)))).length = 24 := by rw [ints_length]; simp only [List.length_append, nums_length, List.length_replicate, dl2, List.length_cons, List.length_nil]
    generalize ints .u8 ([0] ++ (nums dg ++ nums (List.replicate 19 0))) = rw at *
    simp (config := { maxSteps := 1000000 }) (disch := ((try simp only [awL]); omega)) only [QR, QS, QT, QU, QV, QW, QX, QY, QZ, Q0, Q1, Q2, MI_t, MI_n, rl, cr, numsOf_ints, strOfNums_nums, ↓awU, awV, awF, Qa, Qb, Qc, Qd, forall_const, ↓reduceIte, ↓reduceDIte, ↓Qe, Qf, Qg, Qh, Qi, Qj, Qk, Ql, Qm, Qn, Qo, Qp, Qq, Qr, Qs, implies_true, Qt, Qu, Qv, Qw, Qx, Qy, Qz, QA, QB, QC, QD, QE, QF, QG, QH, QI, QJ, QK, QL, QM, QN, QO, QP, QQ]
    try rfl
  · have en : ((Lib.nDigits n : Nat) : Int) = 5 := nd_of (k := 4) (by omega) (by omega) rfl
    have dl2 : (Lib.decDigits n).length = 5 := by omega
    have sp := fb5_spec (G := G) n h3 h4
    rw [row5 h3 h4] at sp
    rw [en]
    simp (config := { maxSteps := 1000000 }) (disch := ((try simp only [awL]); omega)) only [QR, QS, QT, QU, QV, QW, QX, QY, QZ, Q0, Q1, Q2, MI_t, MI_n, ↓awU, awV, awF, Qa, Qb, Qc, Qd, forall_const, ↓reduceIte, ↓reduceDIte, ↓Qe, Qf, Qg, Qh, Qi, Qj, Qk, Ql, Qm, Qn, Qo, Qp, Qq, Qr, Qs, implies_true, Qt, Qu, Qv, Qw, Qx, Qy, Qz, QA, QB, QC, QD, QE, QF, QG, QH, QI, QJ, QK, QL, QM, QN, QO, QP, QQ]
    generalize Lib.decDigits n = dg at *
    refine CallC.by sp (by rfl) (by rfl) (by simp) ?_
    have cr := cut_row dg (List.replicate 18 0)
    rw [dl2] at cr
    have rl : (ints .u8 ([0] ++ (nums dg ++ nums (List.replicate 18 0)))).length = 24 := by rw [ints_length]; simp only [List.length_append, nums_length, List.length_replicate, dl2, List.length_cons, List.length_nil]
    generalize ints .u8 ([0] ++ (nums dg ++ nums (List.replicate 18 0))) = rw at *
    simp (config := { maxSteps := 1000000 }) (disch := ((try simp only [awL]); omega)) only [QR, QS, QT, QU, QV, QW, QX, QY, QZ, Q0, Q1, Q2, MI_t, MI_n, rl, cr, numsOf_ints, strOfNums_nums, ↓awU, awV, awF, Qa, Qb, Qc, Qd, forall_const, ↓reduceIte, ↓reduceDIte, ↓Qe, Qf, Qg, Qh, Qi, Qj, Qk, Ql, Qm, Qn, Qo, Qp, Qq, Qr, Qs, implies_true, Qt, Qu, Qv, Qw, Qx, Qy, Qz, QA, QB, QC, QD, QE, QF, QG, QH, QI, QJ, QK, QL, QM, QN, QO, QP, QQ]
    try rfl
  · have en : ((Lib.nDigits n : Nat) : Int) = 6 := nd_of (k := 5) (by omega) (by omega) rfl
    have dl2 : (Lib.decDigits n).length = 6 := by omega
    have sp := fb6_spec (G := G) n h3 h4
    rw [row6 h3 h4] at sp
    rw [en]
    simp (config := { maxSteps := 1000000 }) (disch := ((try simp only [awL]); omega)) only [QR, QS, QT, QU, QV, QW, QX, QY, QZ, Q0, Q1, Q2, MI_t, MI_n, ↓awU, awV, awF, Qa, Qb, Qc, Qd, forall_const, ↓reduceIte, ↓reduceDIte, ↓Qe, Qf, Qg, Qh, Qi, Qj, Qk, Ql, Qm, Qn, Qo, Qp, Qq, Qr, Qs, implies_true, Qt, Qu, Qv, Qw, Qx, Qy, Qz, QA, QB, QC, QD, QE, QF, QG, QH, QI, QJ, QK, QL, QM, QN, QO, QP, QQ]
    generalize Lib.decDigits n = dg at *
    refine CallC.by sp (by rfl) (by rfl) (by simp) ?_
    have cr := cut_row dg (List.replicate 17 0)
    rw [dl2] at cr
    have rl : (ints .u8 ([0] ++ (nums dg ++ nums (List.replicate 17 0)))).length = 24 := by rw [ints_length]; simp only [List.length_append, nums_length, List.length_replicate, dl2, List.length_cons, List.length_nil]
    generalize ints .u8 ([0] ++ (nums dg ++ nums (List.replicate 17 0))) = rw at *
    simp (config := { maxSteps := 1000000 }) (disch := ((try simp only [awL]); omega)) only [QR, QS, QT, QU, QV, QW, QX, QY, QZ, Q0, Q1, Q2, MI_t, MI_n, rl, cr, numsOf_ints, strOfNums_nums, ↓awU, awV, awF, Qa, Qb, Qc, Qd, forall_const, ↓reduceIte, ↓reduceDIte, ↓Qe, Qf, Qg, Qh, Qi, Qj, Qk, Ql, Qm, Qn, Qo, Qp, Qq, Qr, Qs, implies_true, Qt, Qu, Qv, Qw, Qx, Qy, Qz, QA, QB, QC, QD, QE, QF, QG, QH, QI, QJ, QK, QL, QM, QN, QO, QP, QQ]
    try rfl
  · have en : ((Lib.nDigits n : Nat) : Int) = 7 := nd_of (k := 6) (by omega) (by omega) rfl
    have dl2 : (Lib.decDigits n).length = 7 := by omega
    have sp := fb7_spec (G := G) n h h2
    rw [row7 h h2] at sp
    rw [en]
    simp (config := { maxSteps := 1000000 }) (disch := ((try simp only [awL]); omega)) only [QR, QS, QT, QU, QV, QW, QX, QY, QZ, Q0, Q1, Q2, MI_t, MI_n, ↓awU, awV, awF, Qa, Qb, Qc, Qd, forall_const, ↓reduceIte, ↓reduceDIte, ↓Qe, Qf, Qg, Qh, Qi, Qj, Qk, Ql, Qm, Qn, Qo, Qp, Qq, Qr, Qs, implies_true, Qt, Qu, Qv, Qw, Qx, Qy, Qz, QA, QB, QC, QD, QE, QF, QG, QH, QI, QJ, QK, QL, QM, QN, QO, QP, QQ]
    generalize Lib.decDigits n = dg at *
    refine CallC.by sp (by rfl) (by rfl) (by simp) ?_
    have cr := cut_row dg (List.replicate 16 0)
    rw [dl2] at cr
    have rl : (ints .u8 ([0] ++ (nums dg ++ nums (List.replicate 16 0)))).length = 24 := by rw [ints_length]; simp only [List.length_append, nums_length, List.length_replicate, dl2, List.length_cons, List.length_nil]
    generalize ints .u8 ([0] ++ (nums dg ++ nums (List.replicate 16 0))) = rw at *
    simp (config := { maxSteps := 1000000 }) (disch := ((try simp only [awL]); omega)) only [QR, QS, QT, QU, QV, QW, QX, QY, QZ, Q0, Q1, Q2, MI_t, MI_n, rl, cr, numsOf_ints, strOfNums_nums, ↓awU, awV, awF, Qa, Qb, Qc, Qd, forall_const, ↓reduceIte, ↓reduceDIte, ↓Qe, Qf, Qg, Qh, Qi, Qj, Qk, Ql, Qm, Qn, Qo, Qp, Qq, Qr, Qs, implies_true, Qt, Qu, Qv, Qw, Qx, Qy, Qz, QA, QB, QC, QD, QE, QF, QG, QH, QI, QJ, QK, QL, QM, QN, QO, QP, QQ]
    try rfl
theorem itoaL_dec {n : Nat} (h : n < 100) : itoaL n = Lib.decDigits n := by
  unfold itoaL
  split
  · rw [dd_one (by omega)]
  · rw [dd_two (by omega) h]; rfl
theorem formatIntA_spec (hP : HP G) (n : Nat) (h2 : n < 10000000) : Ctr Tryz.prog G 148 [.d (.int .i64 n), .d (.int .i64 10)] [] (.d (S (Lib.decDigits n))) [] := by
  rcases Nat.lt_or_ge n 100 with h | h
  · rw [← itoaL_dec h]; exact formatInt_spec n h
  · exact formatIntN_spec hP n h h2
theorem itoaIA_spec (hP : HP G) (n : Nat) (h : n < 10000000) : Ctr Tryz.prog G 115 [.d (.int .i64 n)] [] (.d (S (Lib.decDigits n))) [] := by
  refine Ctr.pure (M := M0) hmix Tryz.func115 rfl go115 ?_
  simp (config := { maxSteps := 1000000 }) (disch := ((try simp only [awL]); omega)) only [QR, QS, QT, QU, QV, QW, QX, QY, QZ, Q0, Q1, Q2, Tryz.f115, ↓awU, awV, awF, Qa, Qb, Qc, Qd, forall_const, ↓reduceIte, ↓reduceDIte, ↓Qe, Qf, Qg, Qh, Qi, Qj, Qk, Ql, Qm, Qn, Qo, Qp, Qq, Qr, Qs, implies_true, Qt, Qu, Qv, Qw, Qx, Qy, Qz, QA, QB, QC, QD, QE, QF, QG, QH, QI, QJ, QK, QL, QM, QN, QO, QP, QQ]
  refine CallC.pure (formatIntA_spec hP n h) ?_
  simp (config := { maxSteps := 1000000 }) (disch := ((try simp only [awL]); omega)) only [QR, QS, QT, QU, QV, QW, QX, QY, QZ, Q0, Q1, Q2, ↓awU, awV, awF, Qa, Qb, Qc, Qd, forall_const, ↓reduceIte, ↓reduceDIte, ↓Qe, Qf, Qg, Qh, Qi, Qj, Qk, Ql, Qm, Qn, Qo, Qp, Qq, Qr, Qs, implies_true, Qt, Qu, Qv, Qw, Qx, Qy, Qz, QA, QB, QC, QD, QE, QF, QG, QH, QI, QJ, QK, QL, QM, QN, QO, QP, QQ]
  first | done | rfl
theorem itoaA_spec (hP : HP G) (n : Nat) (h : n < 10000000) : Ctr Tryz.prog G 79 [.d (.int .i64 n)] [] (.d (S (Lib.decDigits n))) [] := by
  refine Ctr.pure (M := M0) hmix Tryz.func79 rfl go79 ?_
  simp (config := { maxSteps := 1000000 }) (disch := ((try simp only [awL]); omega)) only [QR, QS, QT, QU, QV, QW, QX, QY, QZ, Q0, Q1, Q2, Tryz.f79, ↓awU, awV, awF, Qa, Qb, Qc, Qd, forall_const, ↓reduceIte, ↓reduceDIte, ↓Qe, Qf, Qg, Qh, Qi, Qj, Qk, Ql, Qm, Qn, Qo, Qp, Qq, Qr, Qs, implies_true, Qt, Qu, Qv, Qw, Qx, Qy, Qz, QA, QB, QC, QD, QE, QF, QG, QH, QI, QJ, QK, QL, QM, QN, QO, QP, QQ]
  refine CallC.pure (itoaIA_spec hP n h) ?_
  simp (config := { maxSteps := 1000000 }) (disch := ((try simp only [awL]); omega)) only [QR, QS, QT, QU, QV, QW, QX, QY, QZ, Q0, Q1, Q2, ↓awU, awV, awF, Qa, Qb, Qc, Qd, forall_const, ↓reduceIte, ↓reduceDIte, ↓Qe, Qf, Qg, Qh, Qi, Qj, Qk, Ql, Qm, Qn, Qo, Qp, Qq, Qr, Qs, implies_true, Qt, Qu, Qv, Qw, Qx, Qy, Qz, QA, QB, QC, QD, QE, QF, QG, QH, QI, QJ, QK, QL, QM, QN, QO, QP, QQ]
  first | done | rfl
theorem hi_of (hP : HP G) : HI G := fun n hn => itoaA_spec hP n (by omega)
end Go.Proofs.YtacepalmphbnfaaGreatDoor

/-
  What every law of this seat needs: what the listed tables and errors hold, and what the contracts are told of them.
-/
namespace Go.Proofs.YtacepalmphbnfaaGreatDoor
open Go Go.Proofs Go.Abs Go.RowKit Go.ChangeShapes Go.WideShapes Go.ChangeAt Go.Shelf Go.Joins Go.Deep
theorem mem_getD' {l : List Int} {i : Nat} {d : Int} (h : i < l.length) : l.getD i d ∈ l := by
  rw [List.getD_eq_getElem?_getD, List.getElem?_eq_getElem h]; exact List.getElem_mem h
theorem own : ownKnob Tryz.prog.godebug = none := by kernel_rfl
theorem laidOut : laidOutB Tryz.prog = true := by kernel_rfl
theorem cU8 : Tryz.prog.cellsOf 5 = 1 := by kernel_rfl
theorem cU64 : Tryz.prog.cellsOf 165 = 1 := by kernel_rfl
theorem list_u8 {l : List Int} (h : ∀ n ∈ l, (Lit.int .u8 n).wf = true) : ∀ i, 0 ≤ l.getD i 0 ∧ l.getD i 0 ≤ 255 := by
  intro i
  rcases Nat.lt_or_ge i l.length with hi | hi
  · have := h _ (mem_getD' (d := 0) hi)
    simp [Lit.wf, IntKind.min, IntKind.max, IntKind.bits, IntKind.signed] at this
    rw [List.getD_eq_getElem?_getD]
    omega
  · rw [List.getD_eq_getElem?_getD, List.getElem?_eq_none hi]; simp
/-- What the contracts are told of the variables; b: of the errors too. -/
def G1 (b : Bool) : Globals := fun g => if g = 0 then some firstDs else if g = 1 then some accDs else if g = 5 then some (ints .u64 Lib.pow10Tab)
  else if b = true ∧ (g = 2 ∨ g = 3) then some [.ifc] else none
theorem hT1 {b : Bool} : HT (G1 b) := ⟨rfl, rfl⟩
theorem hP1 {b : Bool} : HP (G1 b) := rfl
theorem hI1 {b : Bool} : HI (G1 b) := hi_of hP1
theorem u8types : U8Types Tryz.prog Tryz.laysValid_ren := U8Types.of196 Tryz.laysValid
theorem u8extra : U8Extra Tryz.prog Tryz.laysValid_ren where
  n3 := by kernel_rfl
  n4 := by kernel_rfl
  y3 := by kernel_rfl
  y4 := by kernel_rfl
  c5 := by kernel_rfl
  c119 := by kernel_rfl
  c138 := by kernel_rfl
theorem first_eq : Rows.laid_unicode_utf8_first = Lib.firstData := by kernel_rfl
theorem accept_eq : (Rows.laid_unicode_utf8_acceptRanges : DataW Unit) = Lib.acceptData := by kernel_rfl
theorem pow_eq : (Rows.laid_internal_strconv_uint64pow10 : DataW Unit) = Lib.tabData .u64 Lib.pow10Tab := by kernel_rfl
theorem gPow : Tryz.prog.globalNamed "internal/strconv.uint64pow10" = some 5 := by kernel_rfl
theorem tPow : (Tryz.prog.globals[5]?).map (·.type) = some 220 := by kernel_rfl
theorem cPow : Tryz.prog.cellsOf 220 = 20 := by kernel_rfl
theorem gSyn : Tryz.prog.globalNamed "strconv.ErrSyntax" = some 2 := by kernel_rfl
theorem tSyn : (Tryz.prog.globals[2]?).map (·.type) = some 100 := by kernel_rfl
theorem gRan : Tryz.prog.globalNamed "strconv.ErrRange" = some 3 := by kernel_rfl
theorem tRan : (Tryz.prog.globals[3]?).map (·.type) = some 100 := by kernel_rfl
theorem iface_cell {X : World} {g : Nat} {n nm : String} {d : DataW Unit} (hg0 : Tryz.prog.globalNamed n = some g) (ht0 : (Tryz.prog.globals[g]?).map (·.type) = some 100) (h : Lib.VarReads Tryz.prog X n (.iface nm d)) : ∃ u v, X.cell? ⟨g, 0, none⟩ = some (.iface u v) := by
  obtain ⟨g', t, cs, fuel, p, hg, ht, hv, hd⟩ := h
  obtain rfl := Option.some.inj (hg0.symm.trans hg)
  obtain rfl := Option.some.inj (ht0.symm.trans ht)
  obtain ⟨f2, u, v, hcs, _, _⟩ := iface_of_trod Tryz.underlying100 hd
  refine ⟨u, v, ?_⟩
  rw [World.var?_cell hg hv 0, ← Array.getElem?_toList, hcs]
  rfl
theorem globOK {X : World} {b : Bool} (h1 : Lib.VarReads Tryz.prog X "unicode/utf8.first" Rows.laid_unicode_utf8_first) (h2 : Lib.VarReads Tryz.prog X "unicode/utf8.acceptRanges" Rows.laid_unicode_utf8_acceptRanges)
    (h3 : Lib.VarReads Tryz.prog X "internal/strconv.uint64pow10" Rows.laid_internal_strconv_uint64pow10)
    (h4 : b = true → Lib.VarReads Tryz.prog X "strconv.ErrSyntax" Rows.laid_strconv_ErrSyntax ∧ Lib.VarReads Tryz.prog X "strconv.ErrRange" Rows.laid_strconv_ErrRange) : GlobOK (G1 b) X := by
  rw [first_eq] at h1
  rw [accept_eq] at h2
  rw [pow_eq] at h3
  obtain ⟨t1, t2⟩ : Lib.Utf8Tabs 0 1 X := utf8Tabs_of_readsT u8types u8extra h1 h2
  intro g ds hg
  unfold G1 at hg
  split at hg
  · rename_i e; subst e; cases hg
    refine ⟨fun i => .int .u8 (Lib.firstT i), fun i x hx => ?_, fun i x hx => ?_⟩
    · have hi : i < 256 := by have := (List.getElem?_eq_some_iff.1 hx).1; simpa [firstDs] using this
      exact t1 i hi
    · have hi : i < 256 := by have := (List.getElem?_eq_some_iff.1 hx).1; simpa [firstDs] using this
      simp [firstDs, hi] at hx
      subst hx; exact .int _ _
  · split at hg
    · rename_i e; subst e; cases hg
      refine ⟨fun i => .int .u8 ((if i % 2 = 0 then Lib.accLo (i / 2) else Lib.accHi (i / 2) : Nat) : Int), fun i x hx => ?_, fun i x hx => ?_⟩
      · have hi : i < 32 := by have := (List.getElem?_eq_some_iff.1 hx).1; simpa [accDs] using this
        obtain ⟨a, b⟩ := t2 (i / 2) (by omega)
        rcases (by omega : i % 2 = 0 ∨ i % 2 = 1) with h0 | h0
        · show X.cell? ⟨_, i, none⟩ = _
          simp only [if_pos h0]
          rw [← a, show 2 * (i / 2) = i by omega]
        · show X.cell? ⟨_, i, none⟩ = _
          simp only [if_neg (show ¬ i % 2 = 0 by omega)]
          rw [← b, show 2 * (i / 2) + 1 = i by omega]
      · have hi : i < 32 := by have := (List.getElem?_eq_some_iff.1 hx).1; simpa [accDs] using this
        simp only [accDs, List.getElem?_map, List.getElem?_range hi, Option.map_some, Option.some.injEq] at hx
        subst hx; exact .int _ _
    · split at hg
      · rename_i e; subst e; cases hg
        obtain ⟨g', t, cs, fuel, p, hg', ht', hvar, hd⟩ := h3
        obtain rfl := Option.some.inj (gPow.symm.trans hg')
        obtain rfl := Option.some.inj (tPow.symm.trans ht')
        have hcs := Lib.cells_of_tab Tryz.underlying220 Tryz.underlying165 cU64 cPow hd
        refine ⟨fun i => .int .u64 (Lib.pow10Tab.getD i 0), fun i x hx => ?_, fun i x hx => ?_⟩
        · have hi : i < Lib.pow10Tab.length := by have := (List.getElem?_eq_some_iff.1 hx).1; simpa [ints] using this
          show X.cell? ⟨_, i, none⟩ = _
          rw [World.var?_cell hg' hvar i, ← Array.getElem?_toList, hcs]
          simp [hi]
        · have hi : i < Lib.pow10Tab.length := by have := (List.getElem?_eq_some_iff.1 hx).1; simpa [ints] using this
          simp only [ints, List.getElem?_map, List.getElem?_eq_getElem hi, Option.map_some, Option.some.injEq] at hx
          subst hx
          show RD _ (Value.int .u64 (Lib.pow10Tab.getD i 0)) _
          rw [List.getD_eq_getElem?_getD, List.getElem?_eq_getElem hi]
          exact .int _ _
      · split at hg
        · rename_i e
          cases hg
          obtain ⟨q1, q2⟩ := h4 e.1
          have hc : ∃ u v, X.cell? ⟨g, 0, none⟩ = some (.iface u v) := by
            rcases e.2 with rfl | rfl
            · exact iface_cell gSyn tSyn q1
            · exact iface_cell gRan tRan q2
          obtain ⟨u, v, hc⟩ := hc
          refine ⟨fun _ => .iface u v, fun i x hx => ?_, fun i x hx => ?_⟩
          · rcases i with _ | i
            · exact hc
            · simp at hx
          · rcases i with _ | i
            · simp at hx; subst hx; exact .ifc _ _
            · simp at hx
        · cases hg
end Go.Proofs.YtacepalmphbnfaaGreatDoor
