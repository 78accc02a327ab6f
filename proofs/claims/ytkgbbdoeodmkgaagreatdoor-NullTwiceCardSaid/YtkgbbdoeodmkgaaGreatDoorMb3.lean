/-
  Contracts of the functions, one after another.
-/
import Derived.Test.YtkgbbdoeodmkgaaGreatDoorMb2
set_option linter.all false
open Go.Abs renaming ofVal → Qa, ofVal0 → Qb, isShift → Qc, aggK → Qd, purePost → Qe, combine → Qf, idsA → Qg, cellsA → Qh, numsOf → Qi, srcA → Qj, calleeA → Qk, refsA → Ql, isScalar → Qm, scalarD → Qn, scalar0 → Qo, putL → Qr, unfA → Qs, sidsB → QJ, keyKD → QL, isIntK → QM, aggD → QN, aggL → QO, eqKs → QP, boxRow → QQ, nextC_more → QT, nextC_over → QU, bs_size → QV, bs_extract → QW, bs_toList → QX, bs_append → QY, byteAt_bs → QZ, bs_cells → Q0, nums_length → Q1, nums_getD → Q2
open Go.Abs.AV renaming one → Qp
open Go.Abs.D renaming one → Qq
open Go.IntKind renaming signed → Qt
open Nat renaming reduceAdd → Qu, reduceSub → Qv, reduceMul → Qw, reducePow → Qx, reduceDiv → Qy, reduceMod → Qz, reduceEqDiff → QI, reduceBEq → QK
open Int renaming reduceAdd → QA, reduceSub → QB, reduceMul → QC, reducePow → QD, reduceNeg → QE, reduceToNat → QF, reduceLT → QG, reduceLE → QH
open Option renaming toList_some → QR, toList_none → QS
namespace Go.Proofs.YtkgbbdoeodmkgaaGreatDoor
open Go Go.Proofs Go.Abs
variable {G : Globals}
/-! Markers of null: the known ones; evidence, plain. -/
def knownL : Row := [[78, 65], [78, 47, 65], [110, 47, 97], [110, 117, 108, 108], [78, 85, 76, 76], [110, 111, 110, 101], [78, 111, 110, 101], [110, 97, 110], [78, 97, 78], [45], [45, 45], [63], [46], [35, 78, 47, 65]]
def HK (G : Globals) : Prop := G 0 = some (strs knownL)
theorem known_cut : cut (strs knownL) 0 14 = strs knownL := rfl
theorem known_one : (strs knownL).all D.one = true := rfl
theorem cloneS_spec (l : Row) (full : Bool) (hl : l.length < 2 ^ 40) : Ctr Tryz.prog G 36 [.d (Ss l full)] [] (.d (Ss l false)) [] := by
  refine Ctr.of_body Tryz.func36 rfl go36 rfl ?_
  have sl := @strs_length l
  refine Tri.seq (Tri.of_awp (M := M0) hmix _ _ _ _ ?_)
  simp (config := { maxSteps := 1000000 }) (disch := ((try simp only [awL]); omega)) only [QR, QS, QT, QU, QV, QW, QX, QY, QZ, Q0, Q1, Q2, aseq_normal, Tryz.f36, ↓awU, awV, awF, Qa, Qb, Qc, Qd, forall_const, ↓reduceIte, ↓reduceDIte, ↓Qe, Qf, Qg, Qh, Qi, Qj, Qk, Ql, Qm, Qn, Qo, Qp, Qq, Qr, Qs, implies_true, Qt, Qu, Qv, Qw, Qx, Qy, Qz, QA, QB, QC, QD, QE, QF, QG, QH, QI, QJ, QK, QL, QM, QN, QO, QP, QQ]
  refine Tri.seq (Tri.seq (Tri.nilRegion (e := 9) (by kernel_rfl) rfl ?_ ?_))
  · simp
  intro b hb
  simp only [aseq_normal]
  refine Tri.of_awp (M := M0) hmix _ _ _ _ ?_
  cases b
  · simp (config := { maxSteps := 1000000 }) (disch := ((try simp only [awL]); omega)) only [QR, QS, QT, QU, QV, QW, QX, QY, QZ, Q0, Q1, Q2, aseq_normal, Tryz.f36, aseq_ret, ↓awU, awV, awF, Qa, Qb, Qc, Qd, forall_const, ↓reduceIte, ↓reduceDIte, ↓Qe, Qf, Qg, Qh, Qi, Qj, Qk, Ql, Qm, Qn, Qo, Qp, Qq, Qr, Qs, implies_true, Qt, Qu, Qv, Qw, Qx, Qy, Qz, QA, QB, QC, QD, QE, QF, QG, QH, QI, QJ, QK, QL, QM, QN, QO, QP, QQ]
    refine Tri.of_awp (M := M0) hmix _ _ _ _ ?_
    simp (config := { maxSteps := 1000000 }) (disch := ((try simp only [awL]); omega)) only [QR, QS, QT, QU, QV, QW, QX, QY, QZ, Q0, Q1, Q2, aseq_normal, Tryz.f36, aseq_ret, ↓awU, awV, awF, Qa, Qb, Qc, Qd, forall_const, ↓reduceIte, ↓reduceDIte, ↓Qe, Qf, Qg, Qh, Qi, Qj, Qk, Ql, Qm, Qn, Qo, Qp, Qq, Qr, Qs, implies_true, Qt, Qu, Qv, Qw, Qx, Qy, Qz, QA, QB, QC, QD, QE, QF, QG, QH, QI, QJ, QK, QL, QM, QN, QO, QP, QQ]
    have cu : cut (strs l) 0 l.length = strs l := cut_all sl.symm
    refine ⟨[], rfl, List.nodup_nil, trivial, .inr ⟨Ss l false, ?_, ?_, rfl⟩⟩
    · simp [sealA, cu]
    · simp only [unf_sl, strs_unf]
  · simp (config := { maxSteps := 1000000 }) (disch := ((try simp only [awL]); omega)) only [QR, QS, QT, QU, QV, QW, QX, QY, QZ, Q0, Q1, Q2, aseq_normal, Tryz.f36, aseq_ret, ↓awU, awV, awF, Qa, Qb, Qc, Qd, forall_const, ↓reduceIte, ↓reduceDIte, ↓Qe, Qf, Qg, Qh, Qi, Qj, Qk, Ql, Qm, Qn, Qo, Qp, Qq, Qr, Qs, implies_true, Qt, Qu, Qv, Qw, Qx, Qy, Qz, QA, QB, QC, QD, QE, QF, QG, QH, QI, QJ, QK, QL, QM, QN, QO, QP, QQ]
    have h0 : l = [] := List.length_eq_zero_iff.1 (hb rfl)
    subst h0
    exact ⟨[], rfl, List.nodup_nil, trivial, .inr ⟨.sl 0 true [], rfl, rfl, rfl⟩⟩
theorem markers_spec (hK : HK G) : Ctr Tryz.prog G 15 [] [] (.d (Ss knownL false)) [] := by
  refine Ctr.pure (M := M0) hmix Tryz.func15 rfl go15 ?_
  have hK' : G 0 = some (strs knownL) := hK
  simp (config := { maxSteps := 1000000 }) (disch := ((try simp only [awL]); omega)) only [QR, QS, QT, QU, QV, QW, QX, QY, QZ, Q0, Q1, Q2, hK', known_cut, known_one, Tryz.f15, ↓awU, awV, awF, Qa, Qb, Qc, Qd, forall_const, ↓reduceIte, ↓reduceDIte, ↓Qe, Qf, Qg, Qh, Qi, Qj, Qk, Ql, Qm, Qn, Qo, Qp, Qq, Qr, Qs, implies_true, Qt, Qu, Qv, Qw, Qx, Qy, Qz, QA, QB, QC, QD, QE, QF, QG, QH, QI, QJ, QK, QL, QM, QN, QO, QP, QQ]
  refine CallC.of (cloneS_spec knownL false (by decide)) (by rfl) ?_
  simp (config := { maxSteps := 1000000 }) (disch := ((try simp only [awL]); omega)) only [QR, QS, QT, QU, QV, QW, QX, QY, QZ, Q0, Q1, Q2, ↓awU, awV, awF, Qa, Qb, Qc, Qd, forall_const, ↓reduceIte, ↓reduceDIte, ↓Qe, Qf, Qg, Qh, Qi, Qj, Qk, Ql, Qm, Qn, Qo, Qp, Qq, Qr, Qs, implies_true, Qt, Qu, Qv, Qw, Qx, Qy, Qz, QA, QB, QC, QD, QE, QF, QG, QH, QI, QJ, QK, QL, QM, QN, QO, QP, QQ]
  first | done | rfl
/-- A cell counts for a marker; for no marker, but is a text that isn't numeric. -/
def isMk (m : List UInt8) (x : Cel) : Bool := !x.2 && decide (Lib.trimB x.1 32 = m)
def isOt (x : Cel) : Bool := !x.2 && (!decide (Lib.trimB x.1 32 ∈ knownL) && (!decide (Lib.trimB x.1 32 = []) && !numB (Lib.trimB x.1 32)))
def nullO (l : List Cel) : List Opt := (knownL.filter fun m => decide (0 < l.countP (isMk m))).map fun m => ⟨m, l.countP (isMk m), l.countP isOt, 0⟩
/-- Its first markers alone. -/
def nullP (l : List Cel) (n : Nat) : List Opt := ((knownL.take n).filter fun m => decide (0 < l.countP (isMk m))).map fun m => ⟨m, l.countP (isMk m), l.countP isOt, 0⟩
theorem nullP_all (l : List Cel) : nullP l 14 = nullO l := rfl
theorem nullP_step (l : List Cel) {n : Nat} (h : n < 14) : nullP l (n + 1) = if 0 < l.countP (isMk (knownL.getD n [])) then nullP l n ++ [⟨knownL.getD n [], l.countP (isMk (knownL.getD n [])), l.countP isOt, 0⟩] else nullP l n := by
  unfold nullP
  rw [List.take_add_one, getD_some (d := []) (show n < knownL.length from h)]
  simp only [Option.toList_some, List.filter_append, List.map_append]
  by_cases e : 0 < l.countP (isMk (knownL.getD n []))
  · rw [if_pos e]
    have : ([knownL.getD n []].filter fun m => decide (0 < l.countP (isMk m))) = [knownL.getD n []] := by rw [List.filter_cons, if_pos (decide_eq_true e)]; rfl
    rw [this]; rfl
  · rw [if_neg e]
    have : ([knownL.getD n []].filter fun m => decide (0 < l.countP (isMk m))) = [] := by rw [List.filter_cons, if_neg (by rw [decide_eq_false e]; exact Bool.false_ne_true)]; rfl
    rw [this]; simp
theorem countP_step {l : List Cel} {i : Nat} (p : Cel → Bool) (h : i < l.length) : (l.take (i + 1)).countP p = (l.take i).countP p + (if p (l.getD i noC) = true then 1 else 0) := by
  rw [List.take_add_one, getD_some (d := noC) h, List.countP_append]
  simp only [Option.toList_some, List.countP_cons, List.countP_nil, Nat.zero_add]
theorem countP_le_n {l : List Cel} (p : Cel → Bool) {m : Nat} (h : l.length ≤ m) (i : Nat) : (l.take i).countP p ≤ m := Nat.le_trans List.countP_le_length (by rw [List.length_take]; omega)
end Go.Proofs.YtkgbbdoeodmkgaaGreatDoor

/-
  What the laws of null need: what the listed variables hold, and what the contracts are told of them.
-/
namespace Go.Proofs.YtkgbbdoeodmkgaaGreatDoor
open Go Go.Proofs Go.Abs Go.RowKit Go.ChangeShapes Go.WideShapes Go.ChangeAt Go.Shelf Go.Joins Go.Deep
theorem gKnown : Tryz.prog.globalNamed "tablefinder/null.known" = some 0 := by kernel_rfl
theorem tKnown : (Tryz.prog.globals[0]?).map (·.type) = some 63 := by kernel_rfl
theorem cStr1 : Tryz.prog.cellsOf 9 = 1 := by kernel_rfl
theorem known_data {H : Type} : (Rows.laid_tablefinder_null_known : DataW H) = .agg (knownL.map fun s => .lit (.string s)) := rfl
theorem known_cells {X : World} (h : Lib.VarReads Tryz.prog X "tablefinder/null.known" Rows.laid_tablefinder_null_known) : ∀ i, i < 14 → X.cell? ⟨0, i, none⟩ = some (.string (bs (knownL.getD i []))) := by
  obtain ⟨g, t, cs, fuel, p, hg, ht, hv, hd⟩ := h
  obtain rfl := Option.some.inj (gKnown.symm.trans hg)
  obtain rfl := Option.some.inj (tKnown.symm.trans ht)
  obtain ⟨xs, m, rfl, hx, hl, hn, he⟩ := DataW.trod_array Tryz.underlying63 hd
  rw [known_data, cStr1] at *
  simp only [Prod.mk.injEq, DataW.agg.injEq] at hx
  intro i hi
  have h1 := he i hi
  have hxi : xs[i]? = some xs[i] := List.getElem?_eq_getElem (by omega)
  rw [hxi] at h1
  obtain ⟨s, hcs, hy, _⟩ := DataW.trod_string Tryz.underlying9 h1
  have h2 : (xs.map (·.1))[i]? = some (.lit (.string s.data.toList)) := by rw [List.getElem?_map, hxi, hy]; rfl
  rw [← hx.1, List.getElem?_map, getD_some (d := []) (show i < knownL.length from hi)] at h2
  have h3 : knownL.getD i [] = s.data.toList := by simpa using h2
  rw [World.var?_cell hg hv i, h3, ← bs_of s]
  have := congrArg (·[0]?) hcs
  simpa [List.getElem?_take, List.getElem?_drop] using this
/-- What the contracts are told of the variables. -/
def G3 (b : Bool) : Globals := fun g => if g = 0 then some (strs knownL) else G2 b g
theorem hT3 {b : Bool} : HT (G3 b) := ⟨rfl, rfl⟩
theorem hK3 {b : Bool} : HK (G3 b) := rfl
theorem hG3 {b : Bool} : Num.HG (G3 b) := by simp [Num.HG, G3, G2]
theorem globOK3 {X : World} {b : Bool} (h0 : GlobOK (G2 b) X) (h : Lib.VarReads Tryz.prog X "tablefinder/null.known" Rows.laid_tablefinder_null_known) : GlobOK (G3 b) X := by
  have hc := known_cells h
  intro g ds hgd
  simp only [G3] at hgd
  split at hgd
  · rename_i hgg
    subst hgg
    cases hgd
    refine ⟨fun i => .string (bs (knownL.getD i [])), fun i x hx => ?_, fun i x hx => ?_⟩
    · have hi : i < 14 := by have := (List.getElem?_eq_some_iff.1 hx).1; simpa [strs, knownL] using this
      exact hc i hi
    · have hi : i < 14 := by have := (List.getElem?_eq_some_iff.1 hx).1; simpa [strs, knownL] using this
      have : (strs knownL)[i]? = some (S (knownL.getD i [])) := by
        rw [strs, List.getElem?_map, getD_some (d := []) (show i < knownL.length from hi)]; rfl
      rw [this] at hx
      cases hx
      exact .str _
  · exact h0 g ds hgd
end Go.Proofs.YtkgbbdoeodmkgaaGreatDoor
