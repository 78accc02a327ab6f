/-
  Contracts of the functions, one after another.
-/
import Derived.Test.YtkppgdialedoeaaDoorZbLf1
set_option linter.all false
namespace Go.Proofs.YtkppgdialedoeaaDoor
open Go Go.Proofs Go.Abs
variable {G : Globals}
/-! AssignmentBest: a weight is written. -/
abbrev MW : Muts := fun n => Nat.beq n 2000080
theorem rows_ok {w : List (List Rat)} (hl : w.length ≤ 500) (h : ∀ a ∈ w, a.length ≤ 500 ∧ ∀ x ∈ a, Sm 60 x) : Wok w := by
  refine ⟨by omega, fun i => ?_, fun row hrow x hx => ((h row hrow).2 x hx).mono (by decide)⟩
  rcases Nat.lt_or_ge i w.length with hi | hi
  · have := (h _ (mem_getD (d := []) hi)).1; omega
  · rw [List.getD_eq_getElem?_getD, List.getElem?_eq_none hi]; simp
theorem rowW_ok {t : List Int} {k c : Nat} (hc : c ≤ 500) : (rowW t k c).length ≤ 500 ∧ ∀ x ∈ rowW t k c, Sm 60 x := by
  refine ⟨by rw [rowW_length]; exact hc, fun x hx => ?_⟩
  simp only [rowW, List.mem_map] at hx
  obtain ⟨i, _, rfl⟩ := hx
  exact ent_Sm.1
theorem int_Sm {a : Int} (h : a.natAbs ≤ 1) : Sm 60 (a : Rat) := by
  rw [← divInt_1]
  exact (Sm.of (a := a) (b := 1) (by decide) (by decide)).mono (by omega)
theorem Fr_set0 {l : List Rat} {x : Rat} (h : 0 < l.length) : .bool (decide (x.num < 0)) :: W (toW x.num.natAbs) :: .bool false :: W (toW x.den) :: List.drop 4 (Fr l) = Fr (l.set 0 x) := by
  cases l with
  | nil => simp at h
  | cons y l => rfl
theorem set0_ok {l : List Rat} {x : Rat} (h : l.length ≤ 500 ∧ ∀ y ∈ l, Sm 60 y) (hx : Sm 60 x) : (l.set 0 x).length ≤ 500 ∧ ∀ y ∈ l.set 0 x, Sm 60 y := by
  refine ⟨by rw [List.length_set]; exact h.1, fun y hy => ?_⟩
  rcases List.mem_or_eq_of_mem_set hy with h1 | h1
  · exact h.2 y h1
  · rw [h1]; exact hx
set_option maxHeartbeats 16000000 in
set_option maxRecDepth 100000 in
theorem best_lawW1 (hG : HG G) (t : List Int) (hT : OkT t) (what pos by' : Int) (hw1 : -9223372036854775808 ≤ what) (hw2 : what ≤ 9223372036854775807) (hp1 : -9223372036854775808 ≤ pos) (hp2 : pos ≤ 9223372036854775807) (hb1 : -9223372036854775808 ≤ by') (hb2 : by' ≤ 9223372036854775807)
    (c : Nat) (hr : nx t 0 5 = (1 : Nat)) (hc : nx t 1 5 = c) (n3 : what % 8 = 3) (h0 : 0 < c) : Ctr Tryd.prog G 3 [.d (.sl t.length false (ints .i64 t)), .d (.int .i64 what), .d (.int .i64 pos), .d (.int .i64 by')] [] (.d (.bool true)) [] := by
  have n1 := @nx_range t 0 5 (by decide)
  have n2 := @nx_range t 1 5 (by decide)
  refine Ctr.pure (M := MW) hmix Tryd.func3 rfl go3 ?_
  simp (config := { maxSteps := 1000000 }) (disch := ((try simp only [awL]); omega)) only [MW, Nat.beq_eq, Tryd.f3, ↓awU, awV, awF, ofVal, ofVal0, isShift, aggK, forall_const, ↓reduceIte, ↓reduceDIte, ↓purePost, combine, idsA, cellsA, srcA, calleeA, refsA, isScalar, scalarD, scalar0, AV.one, putL, unfA, implies_true, IntKind.signed, Nat.reduceAdd, Nat.reduceSub, Nat.reduceMul, Nat.reducePow, Nat.reduceDiv, Nat.reduceMod, Int.reduceAdd, Int.reduceSub, Int.reduceMul, Int.reducePow, Int.reduceNeg, Int.reduceToNat, Int.reduceLT, Int.reduceLE, Nat.reduceEqDiff, sidsB, Nat.reduceBEq, keyKD, isIntK]
  refine CallC.pure (light_spec t) ?_
  rw [decide_eq_true hT.1]
  simp (config := { maxSteps := 1000000 }) (disch := ((try simp only [awL]); omega)) only [MW, Nat.beq_eq, ↓awU, awV, awF, ofVal, ofVal0, isShift, aggK, forall_const, ↓reduceIte, ↓reduceDIte, ↓purePost, combine, idsA, cellsA, srcA, calleeA, refsA, isScalar, scalarD, scalar0, AV.one, putL, unfA, implies_true, IntKind.signed, Nat.reduceAdd, Nat.reduceSub, Nat.reduceMul, Nat.reducePow, Nat.reduceDiv, Nat.reduceMod, Int.reduceAdd, Int.reduceSub, Int.reduceMul, Int.reducePow, Int.reduceNeg, Int.reduceToNat, Int.reduceLT, Int.reduceLE, Nat.reduceEqDiff, sidsB, Nat.reduceBEq, keyKD, isIntK]
  refine CallC.by (roll_spec t hT.1) rfl rfl (Nat.zero_le _) ?_
  simp (config := { maxSteps := 1000000 }) (disch := ((try simp only [awL]); omega)) only [MW, Nat.beq_eq, ↓awU, awV, awF, ofVal, ofVal0, isShift, aggK, forall_const, ↓reduceIte, ↓reduceDIte, ↓purePost, combine, idsA, cellsA, srcA, calleeA, refsA, isScalar, scalarD, scalar0, AV.one, putL, unfA, implies_true, IntKind.signed, Nat.reduceAdd, Nat.reduceSub, Nat.reduceMul, Nat.reducePow, Nat.reduceDiv, Nat.reduceMod, Int.reduceAdd, Int.reduceSub, Int.reduceMul, Int.reducePow, Int.reduceNeg, Int.reduceToNat, Int.reduceLT, Int.reduceLE, Nat.reduceEqDiff, sidsB, Nat.reduceBEq, keyKD, isIntK]
  refine CallC.by (next_spec t 0 5 hT (by decide) (by decide)) (by rfl) (by rfl) (Nat.le_refl _) ?_
  simp (config := { maxSteps := 1000000 }) (disch := ((try simp only [awL]); omega)) only [MW, Nat.beq_eq, ↓awU, awV, awF, ofVal, ofVal0, isShift, aggK, forall_const, ↓reduceIte, ↓reduceDIte, ↓purePost, combine, idsA, cellsA, srcA, calleeA, refsA, isScalar, scalarD, scalar0, AV.one, putL, unfA, implies_true, IntKind.signed, Nat.reduceAdd, Nat.reduceSub, Nat.reduceMul, Nat.reducePow, Nat.reduceDiv, Nat.reduceMod, Int.reduceAdd, Int.reduceSub, Int.reduceMul, Int.reducePow, Int.reduceNeg, Int.reduceToNat, Int.reduceLT, Int.reduceLE, Nat.reduceEqDiff, sidsB, Nat.reduceBEq, keyKD, isIntK]
  refine CallC.by (next_spec t 1 5 hT (by decide) (by decide)) (by rfl) (by rfl) (Nat.le_refl _) ?_
  simp (config := { maxSteps := 1000000 }) (disch := ((try simp only [awL]); omega)) only [MW, Nat.beq_eq, ↓awU, awV, awF, ofVal, ofVal0, isShift, aggK, forall_const, ↓reduceIte, ↓reduceDIte, ↓purePost, combine, idsA, cellsA, srcA, calleeA, refsA, isScalar, scalarD, scalar0, AV.one, putL, unfA, implies_true, IntKind.signed, Nat.reduceAdd, Nat.reduceSub, Nat.reduceMul, Nat.reducePow, Nat.reduceDiv, Nat.reduceMod, Int.reduceAdd, Int.reduceSub, Int.reduceMul, Int.reducePow, Int.reduceNeg, Int.reduceToNat, Int.reduceLT, Int.reduceLE, Nat.reduceEqDiff, sidsB, Nat.reduceBEq, keyKD, isIntK]
  rw [hr, hc]
  refine CallC.by (weightsB_spec t 2 1 c hT (by omega) (by omega)) (by rfl) (by rfl) (by simp) ?_
  simp only [boxB]
  have l0 := @rowW_length t (2 + 2 * c * 0) c
  have k0 := @rowW_ok t (2 + 2 * c * 0) c (by omega)
  generalize rowW t (2 + 2 * c * 0) c = a0 at *
  generalize 2 + 2 * c * 1 = K at *
  simp (config := { maxSteps := 1000000 }) (disch := ((try simp only [awL]); omega)) only [MW, Nat.beq_eq, ↓awU, awV, awF, ofVal, ofVal0, isShift, aggK, forall_const, ↓reduceIte, ↓reduceDIte, ↓purePost, combine, idsA, cellsA, srcA, calleeA, refsA, isScalar, scalarD, scalar0, AV.one, putL, unfA, implies_true, IntKind.signed, Nat.reduceAdd, Nat.reduceSub, Nat.reduceMul, Nat.reducePow, Nat.reduceDiv, Nat.reduceMod, Int.reduceAdd, Int.reduceSub, Int.reduceMul, Int.reducePow, Int.reduceNeg, Int.reduceToNat, Int.reduceLT, Int.reduceLE, Nat.reduceEqDiff, sidsB, Nat.reduceBEq, keyKD, isIntK]
  refine CallC.pure (mod_spec what 8 hw1 hw2 (by decide) (by decide)) ?_
  rw [n3]
  simp (config := { maxSteps := 1000000 }) (disch := ((try simp only [awL]); omega)) only [MW, Nat.beq_eq, ↓awU, awV, awF, ofVal, ofVal0, isShift, aggK, forall_const, ↓reduceIte, ↓reduceDIte, ↓purePost, combine, idsA, cellsA, srcA, calleeA, refsA, isScalar, scalarD, scalar0, AV.one, putL, unfA, implies_true, IntKind.signed, Nat.reduceAdd, Nat.reduceSub, Nat.reduceMul, Nat.reducePow, Nat.reduceDiv, Nat.reduceMod, Int.reduceAdd, Int.reduceSub, Int.reduceMul, Int.reducePow, Int.reduceNeg, Int.reduceToNat, Int.reduceLT, Int.reduceLE, Nat.reduceEqDiff, sidsB, Nat.reduceBEq, keyKD, isIntK]
  refine CallC.pure (mod_spec pos 1 hp1 hp2 (by decide) (by decide)) ?_
  have hz := Int.emod_nonneg pos (show (1 : Int) ≠ 0 by decide)
  have hz2 := Int.emod_lt_of_pos pos (show (0 : Int) < 1 by decide)
  generalize pos % 1 = z at *
  have hy := Int.emod_nonneg by' (show (2 : Int) ≠ 0 by decide)
  have hy2 := Int.emod_lt_of_pos by' (show (0 : Int) < 2 by decide)
  obtain rfl : z = 0 := by omega
  · simp (config := { maxSteps := 1000000 }) (disch := ((try simp only [awL]); omega)) only [MW, Nat.beq_eq, ↓awU, awV, awF, ofVal, ofVal0, isShift, aggK, forall_const, ↓reduceIte, ↓reduceDIte, ↓purePost, combine, idsA, cellsA, srcA, calleeA, refsA, isScalar, scalarD, scalar0, AV.one, putL, unfA, implies_true, IntKind.signed, Nat.reduceAdd, Nat.reduceSub, Nat.reduceMul, Nat.reducePow, Nat.reduceDiv, Nat.reduceMod, Int.reduceAdd, Int.reduceSub, Int.reduceMul, Int.reducePow, Int.reduceNeg, Int.reduceToNat, Int.reduceLT, Int.reduceLE, Nat.reduceEqDiff, sidsB, Nat.reduceBEq, keyKD, isIntK]
    refine CallC.pure (mod_spec by' 2 hb1 hb2 (by decide) (by decide)) ?_
    generalize by' % 2 = y at *
    simp (config := { maxSteps := 1000000 }) (disch := ((try simp only [awL]); omega)) only [MW, Nat.beq_eq, ↓awU, awV, awF, ofVal, ofVal0, isShift, aggK, forall_const, ↓reduceIte, ↓reduceDIte, ↓purePost, combine, idsA, cellsA, srcA, calleeA, refsA, isScalar, scalarD, scalar0, AV.one, putL, unfA, implies_true, IntKind.signed, Nat.reduceAdd, Nat.reduceSub, Nat.reduceMul, Nat.reducePow, Nat.reduceDiv, Nat.reduceMod, Int.reduceAdd, Int.reduceSub, Int.reduceMul, Int.reducePow, Int.reduceNeg, Int.reduceToNat, Int.reduceLT, Int.reduceLE, Nat.reduceEqDiff, sidsB, Nat.reduceBEq, keyKD, isIntK]
    refine CallC.pure (rint_spec (0 - y) (by omega) (by omega)) ?_
    have hv := @int_Sm (0 - y) (by omega)
    generalize ((0 - y : Int) : Rat) = v at *
    have fl := @Fr_length a0
    have hs : (a0.set 0 v).length = c := by rw [List.length_set]; exact l0
    simp (config := { maxSteps := 1000000 }) (disch := ((try simp only [awL]); omega)) only [MW, Nat.beq_eq, fl, l0, Fr_set0, cut_Fr, ↓awU, awV, awF, ofVal, ofVal0, isShift, aggK, forall_const, ↓reduceIte, ↓reduceDIte, ↓purePost, combine, idsA, cellsA, srcA, calleeA, refsA, isScalar, scalarD, scalar0, AV.one, putL, unfA, implies_true, IntKind.signed, Nat.reduceAdd, Nat.reduceSub, Nat.reduceMul, Nat.reducePow, Nat.reduceDiv, Nat.reduceMod, Int.reduceAdd, Int.reduceSub, Int.reduceMul, Int.reducePow, Int.reduceNeg, Int.reduceToNat, Int.reduceLT, Int.reduceLE, Nat.reduceEqDiff, sidsB, Nat.reduceBEq, keyKD, isIntK]
    refine ⟨by rfl, by decide, ?_⟩
    have hw : Wok [(a0.set 0 v)] := rows_ok (by simp) (by
      intro a ha
      simp only [List.mem_cons, List.not_mem_nil, or_false] at ha
      rcases ha with rfl
      · exact set0_ok k0 hv)
    have e0 : cut [D.sl c false (Fr (a0.set 0 v))] 0 1 = [D.sl c false (Fr (a0.set 0 v))] := rfl
    have e1 : ([.d (Mx [(a0.set 0 v)])] : List AV) = [.d (.sl 1 false [D.sl c false (Fr (a0.set 0 v))])] := by simp [Mx, MxL, hs, l0]
    skip
    generalize [(a0.set 0 v)] = w at hw e1
    refine CallC.frozenE (best_spec hG w hw) e1.symm ?_
    obtain ⟨l, x, d, e, hR, z0, z1, z2⟩ := bestR_shape hw
    rw [hR]
    simp (config := { maxSteps := 1000000 }) (disch := ((try simp only [awL]); omega)) only [MW, Nat.beq_eq, e0, ↓awU, awV, awF, ofVal, ofVal0, isShift, aggK, forall_const, ↓reduceIte, ↓reduceDIte, ↓purePost, combine, idsA, cellsA, srcA, calleeA, refsA, isScalar, scalarD, scalar0, AV.one, putL, unfA, implies_true, IntKind.signed, Nat.reduceAdd, Nat.reduceSub, Nat.reduceMul, Nat.reducePow, Nat.reduceDiv, Nat.reduceMod, Int.reduceAdd, Int.reduceSub, Int.reduceMul, Int.reducePow, Int.reduceNeg, Int.reduceToNat, Int.reduceLT, Int.reduceLE, Nat.reduceEqDiff, sidsB, Nat.reduceBEq, keyKD, isIntK]
    refine CallC.frozenE (rBest_spec hG w hw) e1.symm ?_
    rw [hR]
    simp (config := { maxSteps := 1000000 }) (disch := ((try simp only [awL]); omega)) only [MW, Nat.beq_eq, e0, ↓awU, awV, awF, ofVal, ofVal0, isShift, aggK, forall_const, ↓reduceIte, ↓reduceDIte, ↓purePost, combine, idsA, cellsA, srcA, calleeA, refsA, isScalar, scalarD, scalar0, AV.one, putL, unfA, implies_true, IntKind.signed, Nat.reduceAdd, Nat.reduceSub, Nat.reduceMul, Nat.reducePow, Nat.reduceDiv, Nat.reduceMod, Int.reduceAdd, Int.reduceSub, Int.reduceMul, Int.reducePow, Int.reduceNeg, Int.reduceToNat, Int.reduceLT, Int.reduceLE, Nat.reduceEqDiff, sidsB, Nat.reduceBEq, keyKD, isIntK]
    refine CallC.pure (sameInts_spec l l z0 z0) ?_
    rw [decide_eq_true rfl]
    simp (config := { maxSteps := 1000000 }) (disch := ((try simp only [awL]); omega)) only [MW, Nat.beq_eq, e0, ↓awU, awV, awF, ofVal, ofVal0, isShift, aggK, forall_const, ↓reduceIte, ↓reduceDIte, ↓purePost, combine, idsA, cellsA, srcA, calleeA, refsA, isScalar, scalarD, scalar0, AV.one, putL, unfA, implies_true, IntKind.signed, Nat.reduceAdd, Nat.reduceSub, Nat.reduceMul, Nat.reducePow, Nat.reduceDiv, Nat.reduceMod, Int.reduceAdd, Int.reduceSub, Int.reduceMul, Int.reducePow, Int.reduceNeg, Int.reduceToNat, Int.reduceLT, Int.reduceLE, Nat.reduceEqDiff, sidsB, Nat.reduceBEq, keyKD, isIntK]
    refine CallC.of (same_spec x d x d z1 z2 z1 z2) (by rfl) ?_
    have es : decide (x = x ∧ d = d) = true := decide_eq_true ⟨rfl, rfl⟩
    rw [es]
    simp (config := { maxSteps := 1000000 }) (disch := ((try simp only [awL]); omega)) only [MW, Nat.beq_eq, e0, ↓awU, awV, awF, ofVal, ofVal0, isShift, aggK, forall_const, ↓reduceIte, ↓reduceDIte, ↓purePost, combine, idsA, cellsA, srcA, calleeA, refsA, isScalar, scalarD, scalar0, AV.one, putL, unfA, implies_true, IntKind.signed, Nat.reduceAdd, Nat.reduceSub, Nat.reduceMul, Nat.reducePow, Nat.reduceDiv, Nat.reduceMod, Int.reduceAdd, Int.reduceSub, Int.reduceMul, Int.reducePow, Int.reduceNeg, Int.reduceToNat, Int.reduceLT, Int.reduceLE, Nat.reduceEqDiff, sidsB, Nat.reduceBEq, keyKD, isIntK]
    refine CallC.frozenE (valid27_spec hG w hw.fvs hw.len hw.row) e1.symm ?_
    simp (config := { maxSteps := 1000000 }) (disch := ((try simp only [awL]); omega)) only [MW, Nat.beq_eq, e0, ↓awU, awV, awF, ofVal, ofVal0, isShift, aggK, forall_const, ↓reduceIte, ↓reduceDIte, ↓purePost, combine, idsA, cellsA, srcA, calleeA, refsA, isScalar, scalarD, scalar0, AV.one, putL, unfA, implies_true, IntKind.signed, Nat.reduceAdd, Nat.reduceSub, Nat.reduceMul, Nat.reducePow, Nat.reduceDiv, Nat.reduceMod, Int.reduceAdd, Int.reduceSub, Int.reduceMul, Int.reducePow, Int.reduceNeg, Int.reduceToNat, Int.reduceLT, Int.reduceLE, Nat.reduceEqDiff, sidsB, Nat.reduceBEq, keyKD, isIntK]
    refine CallC.frozenE (rvalid27_spec w hw.fvs hw.len hw.row) e1.symm ?_
    simp (config := { maxSteps := 1000000 }) (disch := ((try simp only [awL]); omega)) only [MW, Nat.beq_eq, e0, ↓awU, awV, awF, ofVal, ofVal0, isShift, aggK, forall_const, ↓reduceIte, ↓reduceDIte, ↓purePost, combine, idsA, cellsA, srcA, calleeA, refsA, isScalar, scalarD, scalar0, AV.one, putL, unfA, implies_true, IntKind.signed, Nat.reduceAdd, Nat.reduceSub, Nat.reduceMul, Nat.reducePow, Nat.reduceDiv, Nat.reduceMod, Int.reduceAdd, Int.reduceSub, Int.reduceMul, Int.reducePow, Int.reduceNeg, Int.reduceToNat, Int.reduceLT, Int.reduceLE, Nat.reduceEqDiff, sidsB, Nat.reduceBEq, keyKD, isIntK]
    refine CallC.pure (awake_spec hG) ?_
    simp (config := { maxSteps := 1000000 }) (disch := ((try simp only [awL]); omega)) only [MW, Nat.beq_eq, e0, ↓awU, awV, awF, ofVal, ofVal0, isShift, aggK, forall_const, ↓reduceIte, ↓reduceDIte, ↓purePost, combine, idsA, cellsA, srcA, calleeA, refsA, isScalar, scalarD, scalar0, AV.one, putL, unfA, implies_true, IntKind.signed, Nat.reduceAdd, Nat.reduceSub, Nat.reduceMul, Nat.reducePow, Nat.reduceDiv, Nat.reduceMod, Int.reduceAdd, Int.reduceSub, Int.reduceMul, Int.reducePow, Int.reduceNeg, Int.reduceToNat, Int.reduceLT, Int.reduceLE, Nat.reduceEqDiff, sidsB, Nat.reduceBEq, keyKD, isIntK]
set_option maxHeartbeats 16000000 in
set_option maxRecDepth 100000 in
theorem best_lawW2 (hG : HG G) (t : List Int) (hT : OkT t) (what pos by' : Int) (hw1 : -9223372036854775808 ≤ what) (hw2 : what ≤ 9223372036854775807) (hp1 : -9223372036854775808 ≤ pos) (hp2 : pos ≤ 9223372036854775807) (hb1 : -9223372036854775808 ≤ by') (hb2 : by' ≤ 9223372036854775807)
    (c : Nat) (hr : nx t 0 5 = (2 : Nat)) (hc : nx t 1 5 = c) (n3 : what % 8 = 3) (h0 : 0 < c) : Ctr Tryd.prog G 3 [.d (.sl t.length false (ints .i64 t)), .d (.int .i64 what), .d (.int .i64 pos), .d (.int .i64 by')] [] (.d (.bool true)) [] := by
  have n1 := @nx_range t 0 5 (by decide)
  have n2 := @nx_range t 1 5 (by decide)
  refine Ctr.pure (M := MW) hmix Tryd.func3 rfl go3 ?_
  simp (config := { maxSteps := 1000000 }) (disch := ((try simp only [awL]); omega)) only [MW, Nat.beq_eq, Tryd.f3, ↓awU, awV, awF, ofVal, ofVal0, isShift, aggK, forall_const, ↓reduceIte, ↓reduceDIte, ↓purePost, combine, idsA, cellsA, srcA, calleeA, refsA, isScalar, scalarD, scalar0, AV.one, putL, unfA, implies_true, IntKind.signed, Nat.reduceAdd, Nat.reduceSub, Nat.reduceMul, Nat.reducePow, Nat.reduceDiv, Nat.reduceMod, Int.reduceAdd, Int.reduceSub, Int.reduceMul, Int.reducePow, Int.reduceNeg, Int.reduceToNat, Int.reduceLT, Int.reduceLE, Nat.reduceEqDiff, sidsB, Nat.reduceBEq, keyKD, isIntK]
  refine CallC.pure (light_spec t) ?_
  rw [decide_eq_true hT.1]
  simp (config := { maxSteps := 1000000 }) (disch := ((try simp only [awL]); omega)) only [MW, Nat.beq_eq, ↓awU, awV, awF, ofVal, ofVal0, isShift, aggK, forall_const, ↓reduceIte, ↓reduceDIte, ↓purePost, combine, idsA, cellsA, srcA, calleeA, refsA, isScalar, scalarD, scalar0, AV.one, putL, unfA, implies_true, IntKind.signed, Nat.reduceAdd, Nat.reduceSub, Nat.reduceMul, Nat.reducePow, Nat.reduceDiv, Nat.reduceMod, Int.reduceAdd, Int.reduceSub, Int.reduceMul, Int.reducePow, Int.reduceNeg, Int.reduceToNat, Int.reduceLT, Int.reduceLE, Nat.reduceEqDiff, sidsB, Nat.reduceBEq, keyKD, isIntK]
  refine CallC.by (roll_spec t hT.1) rfl rfl (Nat.zero_le _) ?_
  simp (config := { maxSteps := 1000000 }) (disch := ((try simp only [awL]); omega)) only [MW, Nat.beq_eq, ↓awU, awV, awF, ofVal, ofVal0, isShift, aggK, forall_const, ↓reduceIte, ↓reduceDIte, ↓purePost, combine, idsA, cellsA, srcA, calleeA, refsA, isScalar, scalarD, scalar0, AV.one, putL, unfA, implies_true, IntKind.signed, Nat.reduceAdd, Nat.reduceSub, Nat.reduceMul, Nat.reducePow, Nat.reduceDiv, Nat.reduceMod, Int.reduceAdd, Int.reduceSub, Int.reduceMul, Int.reducePow, Int.reduceNeg, Int.reduceToNat, Int.reduceLT, Int.reduceLE, Nat.reduceEqDiff, sidsB, Nat.reduceBEq, keyKD, isIntK]
  refine CallC.by (next_spec t 0 5 hT (by decide) (by decide)) (by rfl) (by rfl) (Nat.le_refl _) ?_
  simp (config := { maxSteps := 1000000 }) (disch := ((try simp only [awL]); omega)) only [MW, Nat.beq_eq, ↓awU, awV, awF, ofVal, ofVal0, isShift, aggK, forall_const, ↓reduceIte, ↓reduceDIte, ↓purePost, combine, idsA, cellsA, srcA, calleeA, refsA, isScalar, scalarD, scalar0, AV.one, putL, unfA, implies_true, IntKind.signed, Nat.reduceAdd, Nat.reduceSub, Nat.reduceMul, Nat.reducePow, Nat.reduceDiv, Nat.reduceMod, Int.reduceAdd, Int.reduceSub, Int.reduceMul, Int.reducePow, Int.reduceNeg, Int.reduceToNat, Int.reduceLT, Int.reduceLE, Nat.reduceEqDiff, sidsB, Nat.reduceBEq, keyKD, isIntK]
  refine CallC.by (next_spec t 1 5 hT (by decide) (by decide)) (by rfl) (by rfl) (Nat.le_refl _) ?_
  simp (config := { maxSteps := 1000000 }) (disch := ((try simp only [awL]); omega)) only [MW, Nat.beq_eq, ↓awU, awV, awF, ofVal, ofVal0, isShift, aggK, forall_const, ↓reduceIte, ↓reduceDIte, ↓purePost, combine, idsA, cellsA, srcA, calleeA, refsA, isScalar, scalarD, scalar0, AV.one, putL, unfA, implies_true, IntKind.signed, Nat.reduceAdd, Nat.reduceSub, Nat.reduceMul, Nat.reducePow, Nat.reduceDiv, Nat.reduceMod, Int.reduceAdd, Int.reduceSub, Int.reduceMul, Int.reducePow, Int.reduceNeg, Int.reduceToNat, Int.reduceLT, Int.reduceLE, Nat.reduceEqDiff, sidsB, Nat.reduceBEq, keyKD, isIntK]
  rw [hr, hc]
  refine CallC.by (weightsB_spec t 2 2 c hT (by omega) (by omega)) (by rfl) (by rfl) (by simp) ?_
  simp only [boxB]
  have l0 := @rowW_length t (2 + 2 * c * 0) c
  have k0 := @rowW_ok t (2 + 2 * c * 0) c (by omega)
  generalize rowW t (2 + 2 * c * 0) c = a0 at *
  have l1 := @rowW_length t (2 + 2 * c) c
  have k1 := @rowW_ok t (2 + 2 * c) c (by omega)
  generalize rowW t (2 + 2 * c) c = a1 at *
  generalize 2 + 2 * c * 2 = K at *
  simp (config := { maxSteps := 1000000 }) (disch := ((try simp only [awL]); omega)) only [MW, Nat.beq_eq, ↓awU, awV, awF, ofVal, ofVal0, isShift, aggK, forall_const, ↓reduceIte, ↓reduceDIte, ↓purePost, combine, idsA, cellsA, srcA, calleeA, refsA, isScalar, scalarD, scalar0, AV.one, putL, unfA, implies_true, IntKind.signed, Nat.reduceAdd, Nat.reduceSub, Nat.reduceMul, Nat.reducePow, Nat.reduceDiv, Nat.reduceMod, Int.reduceAdd, Int.reduceSub, Int.reduceMul, Int.reducePow, Int.reduceNeg, Int.reduceToNat, Int.reduceLT, Int.reduceLE, Nat.reduceEqDiff, sidsB, Nat.reduceBEq, keyKD, isIntK]
  refine CallC.pure (mod_spec what 8 hw1 hw2 (by decide) (by decide)) ?_
  rw [n3]
  simp (config := { maxSteps := 1000000 }) (disch := ((try simp only [awL]); omega)) only [MW, Nat.beq_eq, ↓awU, awV, awF, ofVal, ofVal0, isShift, aggK, forall_const, ↓reduceIte, ↓reduceDIte, ↓purePost, combine, idsA, cellsA, srcA, calleeA, refsA, isScalar, scalarD, scalar0, AV.one, putL, unfA, implies_true, IntKind.signed, Nat.reduceAdd, Nat.reduceSub, Nat.reduceMul, Nat.reducePow, Nat.reduceDiv, Nat.reduceMod, Int.reduceAdd, Int.reduceSub, Int.reduceMul, Int.reducePow, Int.reduceNeg, Int.reduceToNat, Int.reduceLT, Int.reduceLE, Nat.reduceEqDiff, sidsB, Nat.reduceBEq, keyKD, isIntK]
  refine CallC.pure (mod_spec pos 2 hp1 hp2 (by decide) (by decide)) ?_
  have hz := Int.emod_nonneg pos (show (2 : Int) ≠ 0 by decide)
  have hz2 := Int.emod_lt_of_pos pos (show (0 : Int) < 2 by decide)
  generalize pos % 2 = z at *
  have hy := Int.emod_nonneg by' (show (2 : Int) ≠ 0 by decide)
  have hy2 := Int.emod_lt_of_pos by' (show (0 : Int) < 2 by decide)
  obtain rfl | rfl : z = 0 ∨ z = 1 := by omega
  · simp (config := { maxSteps := 1000000 }) (disch := ((try simp only [awL]); omega)) only [MW, Nat.beq_eq, ↓awU, awV, awF, ofVal, ofVal0, isShift, aggK, forall_const, ↓reduceIte, ↓reduceDIte, ↓purePost, combine, idsA, cellsA, srcA, calleeA, refsA, isScalar, scalarD, scalar0, AV.one, putL, unfA, implies_true, IntKind.signed, Nat.reduceAdd, Nat.reduceSub, Nat.reduceMul, Nat.reducePow, Nat.reduceDiv, Nat.reduceMod, Int.reduceAdd, Int.reduceSub, Int.reduceMul, Int.reducePow, Int.reduceNeg, Int.reduceToNat, Int.reduceLT, Int.reduceLE, Nat.reduceEqDiff, sidsB, Nat.reduceBEq, keyKD, isIntK]
    refine CallC.pure (mod_spec by' 2 hb1 hb2 (by decide) (by decide)) ?_
    generalize by' % 2 = y at *
    simp (config := { maxSteps := 1000000 }) (disch := ((try simp only [awL]); omega)) only [MW, Nat.beq_eq, ↓awU, awV, awF, ofVal, ofVal0, isShift, aggK, forall_const, ↓reduceIte, ↓reduceDIte, ↓purePost, combine, idsA, cellsA, srcA, calleeA, refsA, isScalar, scalarD, scalar0, AV.one, putL, unfA, implies_true, IntKind.signed, Nat.reduceAdd, Nat.reduceSub, Nat.reduceMul, Nat.reducePow, Nat.reduceDiv, Nat.reduceMod, Int.reduceAdd, Int.reduceSub, Int.reduceMul, Int.reducePow, Int.reduceNeg, Int.reduceToNat, Int.reduceLT, Int.reduceLE, Nat.reduceEqDiff, sidsB, Nat.reduceBEq, keyKD, isIntK]
    refine CallC.pure (rint_spec (0 - y) (by omega) (by omega)) ?_
    have hv := @int_Sm (0 - y) (by omega)
    generalize ((0 - y : Int) : Rat) = v at *
    have fl := @Fr_length a0
    have hs : (a0.set 0 v).length = c := by rw [List.length_set]; exact l0
    simp (config := { maxSteps := 1000000 }) (disch := ((try simp only [awL]); omega)) only [MW, Nat.beq_eq, fl, l0, Fr_set0, cut_Fr, ↓awU, awV, awF, ofVal, ofVal0, isShift, aggK, forall_const, ↓reduceIte, ↓reduceDIte, ↓purePost, combine, idsA, cellsA, srcA, calleeA, refsA, isScalar, scalarD, scalar0, AV.one, putL, unfA, implies_true, IntKind.signed, Nat.reduceAdd, Nat.reduceSub, Nat.reduceMul, Nat.reducePow, Nat.reduceDiv, Nat.reduceMod, Int.reduceAdd, Int.reduceSub, Int.reduceMul, Int.reducePow, Int.reduceNeg, Int.reduceToNat, Int.reduceLT, Int.reduceLE, Nat.reduceEqDiff, sidsB, Nat.reduceBEq, keyKD, isIntK]
    refine ⟨by rfl, by decide, ?_⟩
    have hw : Wok [(a0.set 0 v), a1] := rows_ok (by simp) (by
      intro a ha
      simp only [List.mem_cons, List.not_mem_nil, or_false] at ha
      rcases ha with rfl | rfl
      · exact set0_ok k0 hv
      · exact k1)
    have e0 : cut [D.sl c false (Fr (a0.set 0 v)), D.sl c false (Fr a1)] 0 2 = [D.sl c false (Fr (a0.set 0 v)), D.sl c false (Fr a1)] := rfl
    have e1 : ([.d (Mx [(a0.set 0 v), a1])] : List AV) = [.d (.sl 2 false [D.sl c false (Fr (a0.set 0 v)), D.sl c false (Fr a1)])] := by simp [Mx, MxL, hs, l0, l1]
    rw [e0]
    generalize [(a0.set 0 v), a1] = w at hw e1
    refine CallC.frozenE (best_spec hG w hw) e1.symm ?_
    obtain ⟨l, x, d, e, hR, z0, z1, z2⟩ := bestR_shape hw
    rw [hR]
    simp (config := { maxSteps := 1000000 }) (disch := ((try simp only [awL]); omega)) only [MW, Nat.beq_eq, e0, ↓awU, awV, awF, ofVal, ofVal0, isShift, aggK, forall_const, ↓reduceIte, ↓reduceDIte, ↓purePost, combine, idsA, cellsA, srcA, calleeA, refsA, isScalar, scalarD, scalar0, AV.one, putL, unfA, implies_true, IntKind.signed, Nat.reduceAdd, Nat.reduceSub, Nat.reduceMul, Nat.reducePow, Nat.reduceDiv, Nat.reduceMod, Int.reduceAdd, Int.reduceSub, Int.reduceMul, Int.reducePow, Int.reduceNeg, Int.reduceToNat, Int.reduceLT, Int.reduceLE, Nat.reduceEqDiff, sidsB, Nat.reduceBEq, keyKD, isIntK]
    refine CallC.frozenE (rBest_spec hG w hw) e1.symm ?_
    rw [hR]
    simp (config := { maxSteps := 1000000 }) (disch := ((try simp only [awL]); omega)) only [MW, Nat.beq_eq, e0, ↓awU, awV, awF, ofVal, ofVal0, isShift, aggK, forall_const, ↓reduceIte, ↓reduceDIte, ↓purePost, combine, idsA, cellsA, srcA, calleeA, refsA, isScalar, scalarD, scalar0, AV.one, putL, unfA, implies_true, IntKind.signed, Nat.reduceAdd, Nat.reduceSub, Nat.reduceMul, Nat.reducePow, Nat.reduceDiv, Nat.reduceMod, Int.reduceAdd, Int.reduceSub, Int.reduceMul, Int.reducePow, Int.reduceNeg, Int.reduceToNat, Int.reduceLT, Int.reduceLE, Nat.reduceEqDiff, sidsB, Nat.reduceBEq, keyKD, isIntK]
    refine CallC.pure (sameInts_spec l l z0 z0) ?_
    rw [decide_eq_true rfl]
    simp (config := { maxSteps := 1000000 }) (disch := ((try simp only [awL]); omega)) only [MW, Nat.beq_eq, e0, ↓awU, awV, awF, ofVal, ofVal0, isShift, aggK, forall_const, ↓reduceIte, ↓reduceDIte, ↓purePost, combine, idsA, cellsA, srcA, calleeA, refsA, isScalar, scalarD, scalar0, AV.one, putL, unfA, implies_true, IntKind.signed, Nat.reduceAdd, Nat.reduceSub, Nat.reduceMul, Nat.reducePow, Nat.reduceDiv, Nat.reduceMod, Int.reduceAdd, Int.reduceSub, Int.reduceMul, Int.reducePow, Int.reduceNeg, Int.reduceToNat, Int.reduceLT, Int.reduceLE, Nat.reduceEqDiff, sidsB, Nat.reduceBEq, keyKD, isIntK]
    refine CallC.of (same_spec x d x d z1 z2 z1 z2) (by rfl) ?_
    have es : decide (x = x ∧ d = d) = true := decide_eq_true ⟨rfl, rfl⟩
    rw [es]
    simp (config := { maxSteps := 1000000 }) (disch := ((try simp only [awL]); omega)) only [MW, Nat.beq_eq, e0, ↓awU, awV, awF, ofVal, ofVal0, isShift, aggK, forall_const, ↓reduceIte, ↓reduceDIte, ↓purePost, combine, idsA, cellsA, srcA, calleeA, refsA, isScalar, scalarD, scalar0, AV.one, putL, unfA, implies_true, IntKind.signed, Nat.reduceAdd, Nat.reduceSub, Nat.reduceMul, Nat.reducePow, Nat.reduceDiv, Nat.reduceMod, Int.reduceAdd, Int.reduceSub, Int.reduceMul, Int.reducePow, Int.reduceNeg, Int.reduceToNat, Int.reduceLT, Int.reduceLE, Nat.reduceEqDiff, sidsB, Nat.reduceBEq, keyKD, isIntK]
    refine CallC.frozenE (valid27_spec hG w hw.fvs hw.len hw.row) e1.symm ?_
    simp (config := { maxSteps := 1000000 }) (disch := ((try simp only [awL]); omega)) only [MW, Nat.beq_eq, e0, ↓awU, awV, awF, ofVal, ofVal0, isShift, aggK, forall_const, ↓reduceIte, ↓reduceDIte, ↓purePost, combine, idsA, cellsA, srcA, calleeA, refsA, isScalar, scalarD, scalar0, AV.one, putL, unfA, implies_true, IntKind.signed, Nat.reduceAdd, Nat.reduceSub, Nat.reduceMul, Nat.reducePow, Nat.reduceDiv, Nat.reduceMod, Int.reduceAdd, Int.reduceSub, Int.reduceMul, Int.reducePow, Int.reduceNeg, Int.reduceToNat, Int.reduceLT, Int.reduceLE, Nat.reduceEqDiff, sidsB, Nat.reduceBEq, keyKD, isIntK]
    refine CallC.frozenE (rvalid27_spec w hw.fvs hw.len hw.row) e1.symm ?_
    simp (config := { maxSteps := 1000000 }) (disch := ((try simp only [awL]); omega)) only [MW, Nat.beq_eq, e0, ↓awU, awV, awF, ofVal, ofVal0, isShift, aggK, forall_const, ↓reduceIte, ↓reduceDIte, ↓purePost, combine, idsA, cellsA, srcA, calleeA, refsA, isScalar, scalarD, scalar0, AV.one, putL, unfA, implies_true, IntKind.signed, Nat.reduceAdd, Nat.reduceSub, Nat.reduceMul, Nat.reducePow, Nat.reduceDiv, Nat.reduceMod, Int.reduceAdd, Int.reduceSub, Int.reduceMul, Int.reducePow, Int.reduceNeg, Int.reduceToNat, Int.reduceLT, Int.reduceLE, Nat.reduceEqDiff, sidsB, Nat.reduceBEq, keyKD, isIntK]
    refine CallC.pure (awake_spec hG) ?_
    simp (config := { maxSteps := 1000000 }) (disch := ((try simp only [awL]); omega)) only [MW, Nat.beq_eq, e0, ↓awU, awV, awF, ofVal, ofVal0, isShift, aggK, forall_const, ↓reduceIte, ↓reduceDIte, ↓purePost, combine, idsA, cellsA, srcA, calleeA, refsA, isScalar, scalarD, scalar0, AV.one, putL, unfA, implies_true, IntKind.signed, Nat.reduceAdd, Nat.reduceSub, Nat.reduceMul, Nat.reducePow, Nat.reduceDiv, Nat.reduceMod, Int.reduceAdd, Int.reduceSub, Int.reduceMul, Int.reducePow, Int.reduceNeg, Int.reduceToNat, Int.reduceLT, Int.reduceLE, Nat.reduceEqDiff, sidsB, Nat.reduceBEq, keyKD, isIntK]
  · simp (config := { maxSteps := 1000000 }) (disch := ((try simp only [awL]); omega)) only [MW, Nat.beq_eq, ↓awU, awV, awF, ofVal, ofVal0, isShift, aggK, forall_const, ↓reduceIte, ↓reduceDIte, ↓purePost, combine, idsA, cellsA, srcA, calleeA, refsA, isScalar, scalarD, scalar0, AV.one, putL, unfA, implies_true, IntKind.signed, Nat.reduceAdd, Nat.reduceSub, Nat.reduceMul, Nat.reducePow, Nat.reduceDiv, Nat.reduceMod, Int.reduceAdd, Int.reduceSub, Int.reduceMul, Int.reducePow, Int.reduceNeg, Int.reduceToNat, Int.reduceLT, Int.reduceLE, Nat.reduceEqDiff, sidsB, Nat.reduceBEq, keyKD, isIntK]
    refine CallC.pure (mod_spec by' 2 hb1 hb2 (by decide) (by decide)) ?_
    generalize by' % 2 = y at *
    simp (config := { maxSteps := 1000000 }) (disch := ((try simp only [awL]); omega)) only [MW, Nat.beq_eq, ↓awU, awV, awF, ofVal, ofVal0, isShift, aggK, forall_const, ↓reduceIte, ↓reduceDIte, ↓purePost, combine, idsA, cellsA, srcA, calleeA, refsA, isScalar, scalarD, scalar0, AV.one, putL, unfA, implies_true, IntKind.signed, Nat.reduceAdd, Nat.reduceSub, Nat.reduceMul, Nat.reducePow, Nat.reduceDiv, Nat.reduceMod, Int.reduceAdd, Int.reduceSub, Int.reduceMul, Int.reducePow, Int.reduceNeg, Int.reduceToNat, Int.reduceLT, Int.reduceLE, Nat.reduceEqDiff, sidsB, Nat.reduceBEq, keyKD, isIntK]
    refine CallC.pure (rint_spec (0 - y) (by omega) (by omega)) ?_
    have hv := @int_Sm (0 - y) (by omega)
    generalize ((0 - y : Int) : Rat) = v at *
    have fl := @Fr_length a1
    have hs : (a1.set 0 v).length = c := by rw [List.length_set]; exact l1
    simp (config := { maxSteps := 1000000 }) (disch := ((try simp only [awL]); omega)) only [MW, Nat.beq_eq, fl, l1, Fr_set0, cut_Fr, ↓awU, awV, awF, ofVal, ofVal0, isShift, aggK, forall_const, ↓reduceIte, ↓reduceDIte, ↓purePost, combine, idsA, cellsA, srcA, calleeA, refsA, isScalar, scalarD, scalar0, AV.one, putL, unfA, implies_true, IntKind.signed, Nat.reduceAdd, Nat.reduceSub, Nat.reduceMul, Nat.reducePow, Nat.reduceDiv, Nat.reduceMod, Int.reduceAdd, Int.reduceSub, Int.reduceMul, Int.reducePow, Int.reduceNeg, Int.reduceToNat, Int.reduceLT, Int.reduceLE, Nat.reduceEqDiff, sidsB, Nat.reduceBEq, keyKD, isIntK]
    refine ⟨by rfl, by decide, ?_⟩
    have hw : Wok [a0, (a1.set 0 v)] := rows_ok (by simp) (by
      intro a ha
      simp only [List.mem_cons, List.not_mem_nil, or_false] at ha
      rcases ha with rfl | rfl
      · exact k0
      · exact set0_ok k1 hv)
    have e0 : cut [D.sl c false (Fr a0), D.sl c false (Fr (a1.set 0 v))] 0 2 = [D.sl c false (Fr a0), D.sl c false (Fr (a1.set 0 v))] := rfl
    have e1 : ([.d (Mx [a0, (a1.set 0 v)])] : List AV) = [.d (.sl 2 false [D.sl c false (Fr a0), D.sl c false (Fr (a1.set 0 v))])] := by simp [Mx, MxL, hs, l0, l1]
    rw [e0]
    generalize [a0, (a1.set 0 v)] = w at hw e1
    refine CallC.frozenE (best_spec hG w hw) e1.symm ?_
    obtain ⟨l, x, d, e, hR, z0, z1, z2⟩ := bestR_shape hw
    rw [hR]
    simp (config := { maxSteps := 1000000 }) (disch := ((try simp only [awL]); omega)) only [MW, Nat.beq_eq, e0, ↓awU, awV, awF, ofVal, ofVal0, isShift, aggK, forall_const, ↓reduceIte, ↓reduceDIte, ↓purePost, combine, idsA, cellsA, srcA, calleeA, refsA, isScalar, scalarD, scalar0, AV.one, putL, unfA, implies_true, IntKind.signed, Nat.reduceAdd, Nat.reduceSub, Nat.reduceMul, Nat.reducePow, Nat.reduceDiv, Nat.reduceMod, Int.reduceAdd, Int.reduceSub, Int.reduceMul, Int.reducePow, Int.reduceNeg, Int.reduceToNat, Int.reduceLT, Int.reduceLE, Nat.reduceEqDiff, sidsB, Nat.reduceBEq, keyKD, isIntK]
    refine CallC.frozenE (rBest_spec hG w hw) e1.symm ?_
    rw [hR]
    simp (config := { maxSteps := 1000000 }) (disch := ((try simp only [awL]); omega)) only [MW, Nat.beq_eq, e0, ↓awU, awV, awF, ofVal, ofVal0, isShift, aggK, forall_const, ↓reduceIte, ↓reduceDIte, ↓purePost, combine, idsA, cellsA, srcA, calleeA, refsA, isScalar, scalarD, scalar0, AV.one, putL, unfA, implies_true, IntKind.signed, Nat.reduceAdd, Nat.reduceSub, Nat.reduceMul, Nat.reducePow, Nat.reduceDiv, Nat.reduceMod, Int.reduceAdd, Int.reduceSub, Int.reduceMul, Int.reducePow, Int.reduceNeg, Int.reduceToNat, Int.reduceLT, Int.reduceLE, Nat.reduceEqDiff, sidsB, Nat.reduceBEq, keyKD, isIntK]
    refine CallC.pure (sameInts_spec l l z0 z0) ?_
    rw [decide_eq_true rfl]
    simp (config := { maxSteps := 1000000 }) (disch := ((try simp only [awL]); omega)) only [MW, Nat.beq_eq, e0, ↓awU, awV, awF, ofVal, ofVal0, isShift, aggK, forall_const, ↓reduceIte, ↓reduceDIte, ↓purePost, combine, idsA, cellsA, srcA, calleeA, refsA, isScalar, scalarD, scalar0, AV.one, putL, unfA, implies_true, IntKind.signed, Nat.reduceAdd, Nat.reduceSub, Nat.reduceMul, Nat.reducePow, Nat.reduceDiv, Nat.reduceMod, Int.reduceAdd, Int.reduceSub, Int.reduceMul, Int.reducePow, Int.reduceNeg, Int.reduceToNat, Int.reduceLT, Int.reduceLE, Nat.reduceEqDiff, sidsB, Nat.reduceBEq, keyKD, isIntK]
    refine CallC.of (same_spec x d x d z1 z2 z1 z2) (by rfl) ?_
    have es : decide (x = x ∧ d = d) = true := decide_eq_true ⟨rfl, rfl⟩
    rw [es]
    simp (config := { maxSteps := 1000000 }) (disch := ((try simp only [awL]); omega)) only [MW, Nat.beq_eq, e0, ↓awU, awV, awF, ofVal, ofVal0, isShift, aggK, forall_const, ↓reduceIte, ↓reduceDIte, ↓purePost, combine, idsA, cellsA, srcA, calleeA, refsA, isScalar, scalarD, scalar0, AV.one, putL, unfA, implies_true, IntKind.signed, Nat.reduceAdd, Nat.reduceSub, Nat.reduceMul, Nat.reducePow, Nat.reduceDiv, Nat.reduceMod, Int.reduceAdd, Int.reduceSub, Int.reduceMul, Int.reducePow, Int.reduceNeg, Int.reduceToNat, Int.reduceLT, Int.reduceLE, Nat.reduceEqDiff, sidsB, Nat.reduceBEq, keyKD, isIntK]
    refine CallC.frozenE (valid27_spec hG w hw.fvs hw.len hw.row) e1.symm ?_
    simp (config := { maxSteps := 1000000 }) (disch := ((try simp only [awL]); omega)) only [MW, Nat.beq_eq, e0, ↓awU, awV, awF, ofVal, ofVal0, isShift, aggK, forall_const, ↓reduceIte, ↓reduceDIte, ↓purePost, combine, idsA, cellsA, srcA, calleeA, refsA, isScalar, scalarD, scalar0, AV.one, putL, unfA, implies_true, IntKind.signed, Nat.reduceAdd, Nat.reduceSub, Nat.reduceMul, Nat.reducePow, Nat.reduceDiv, Nat.reduceMod, Int.reduceAdd, Int.reduceSub, Int.reduceMul, Int.reducePow, Int.reduceNeg, Int.reduceToNat, Int.reduceLT, Int.reduceLE, Nat.reduceEqDiff, sidsB, Nat.reduceBEq, keyKD, isIntK]
    refine CallC.frozenE (rvalid27_spec w hw.fvs hw.len hw.row) e1.symm ?_
    simp (config := { maxSteps := 1000000 }) (disch := ((try simp only [awL]); omega)) only [MW, Nat.beq_eq, e0, ↓awU, awV, awF, ofVal, ofVal0, isShift, aggK, forall_const, ↓reduceIte, ↓reduceDIte, ↓purePost, combine, idsA, cellsA, srcA, calleeA, refsA, isScalar, scalarD, scalar0, AV.one, putL, unfA, implies_true, IntKind.signed, Nat.reduceAdd, Nat.reduceSub, Nat.reduceMul, Nat.reducePow, Nat.reduceDiv, Nat.reduceMod, Int.reduceAdd, Int.reduceSub, Int.reduceMul, Int.reducePow, Int.reduceNeg, Int.reduceToNat, Int.reduceLT, Int.reduceLE, Nat.reduceEqDiff, sidsB, Nat.reduceBEq, keyKD, isIntK]
    refine CallC.pure (awake_spec hG) ?_
    simp (config := { maxSteps := 1000000 }) (disch := ((try simp only [awL]); omega)) only [MW, Nat.beq_eq, e0, ↓awU, awV, awF, ofVal, ofVal0, isShift, aggK, forall_const, ↓reduceIte, ↓reduceDIte, ↓purePost, combine, idsA, cellsA, srcA, calleeA, refsA, isScalar, scalarD, scalar0, AV.one, putL, unfA, implies_true, IntKind.signed, Nat.reduceAdd, Nat.reduceSub, Nat.reduceMul, Nat.reducePow, Nat.reduceDiv, Nat.reduceMod, Int.reduceAdd, Int.reduceSub, Int.reduceMul, Int.reducePow, Int.reduceNeg, Int.reduceToNat, Int.reduceLT, Int.reduceLE, Nat.reduceEqDiff, sidsB, Nat.reduceBEq, keyKD, isIntK]
set_option maxHeartbeats 16000000 in
set_option maxRecDepth 100000 in
theorem best_lawW3 (hG : HG G) (t : List Int) (hT : OkT t) (what pos by' : Int) (hw1 : -9223372036854775808 ≤ what) (hw2 : what ≤ 9223372036854775807) (hp1 : -9223372036854775808 ≤ pos) (hp2 : pos ≤ 9223372036854775807) (hb1 : -9223372036854775808 ≤ by') (hb2 : by' ≤ 9223372036854775807)
    (c : Nat) (hr : nx t 0 5 = (3 : Nat)) (hc : nx t 1 5 = c) (n3 : what % 8 = 3) (h0 : 0 < c) : Ctr Tryd.prog G 3 [.d (.sl t.length false (ints .i64 t)), .d (.int .i64 what), .d (.int .i64 pos), .d (.int .i64 by')] [] (.d (.bool true)) [] := by
  have n1 := @nx_range t 0 5 (by decide)
  have n2 := @nx_range t 1 5 (by decide)
  refine Ctr.pure (M := MW) hmix Tryd.func3 rfl go3 ?_
  simp (config := { maxSteps := 1000000 }) (disch := ((try simp only [awL]); omega)) only [MW, Nat.beq_eq, Tryd.f3, ↓awU, awV, awF, ofVal, ofVal0, isShift, aggK, forall_const, ↓reduceIte, ↓reduceDIte, ↓purePost, combine, idsA, cellsA, srcA, calleeA, refsA, isScalar, scalarD, scalar0, AV.one, putL, unfA, implies_true, IntKind.signed, Nat.reduceAdd, Nat.reduceSub, Nat.reduceMul, Nat.reducePow, Nat.reduceDiv, Nat.reduceMod, Int.reduceAdd, Int.reduceSub, Int.reduceMul, Int.reducePow, Int.reduceNeg, Int.reduceToNat, Int.reduceLT, Int.reduceLE, Nat.reduceEqDiff, sidsB, Nat.reduceBEq, keyKD, isIntK]
  refine CallC.pure (light_spec t) ?_
  rw [decide_eq_true hT.1]
  simp (config := { maxSteps := 1000000 }) (disch := ((try simp only [awL]); omega)) only [MW, Nat.beq_eq, ↓awU, awV, awF, ofVal, ofVal0, isShift, aggK, forall_const, ↓reduceIte, ↓reduceDIte, ↓purePost, combine, idsA, cellsA, srcA, calleeA, refsA, isScalar, scalarD, scalar0, AV.one, putL, unfA, implies_true, IntKind.signed, Nat.reduceAdd, Nat.reduceSub, Nat.reduceMul, Nat.reducePow, Nat.reduceDiv, Nat.reduceMod, Int.reduceAdd, Int.reduceSub, Int.reduceMul, Int.reducePow, Int.reduceNeg, Int.reduceToNat, Int.reduceLT, Int.reduceLE, Nat.reduceEqDiff, sidsB, Nat.reduceBEq, keyKD, isIntK]
  refine CallC.by (roll_spec t hT.1) rfl rfl (Nat.zero_le _) ?_
  simp (config := { maxSteps := 1000000 }) (disch := ((try simp only [awL]); omega)) only [MW, Nat.beq_eq, ↓awU, awV, awF, ofVal, ofVal0, isShift, aggK, forall_const, ↓reduceIte, ↓reduceDIte, ↓purePost, combine, idsA, cellsA, srcA, calleeA, refsA, isScalar, scalarD, scalar0, AV.one, putL, unfA, implies_true, IntKind.signed, Nat.reduceAdd, Nat.reduceSub, Nat.reduceMul, Nat.reducePow, Nat.reduceDiv, Nat.reduceMod, Int.reduceAdd, Int.reduceSub, Int.reduceMul, Int.reducePow, Int.reduceNeg, Int.reduceToNat, Int.reduceLT, Int.reduceLE, Nat.reduceEqDiff, sidsB, Nat.reduceBEq, keyKD, isIntK]
  refine CallC.by (next_spec t 0 5 hT (by decide) (by decide)) (by rfl) (by rfl) (Nat.le_refl _) ?_
  simp (config := { maxSteps := 1000000 }) (disch := ((try simp only [awL]); omega)) only [MW, Nat.beq_eq, ↓awU, awV, awF, ofVal, ofVal0, isShift, aggK, forall_const, ↓reduceIte, ↓reduceDIte, ↓purePost, combine, idsA, cellsA, srcA, calleeA, refsA, isScalar, scalarD, scalar0, AV.one, putL, unfA, implies_true, IntKind.signed, Nat.reduceAdd, Nat.reduceSub, Nat.reduceMul, Nat.reducePow, Nat.reduceDiv, Nat.reduceMod, Int.reduceAdd, Int.reduceSub, Int.reduceMul, Int.reducePow, Int.reduceNeg, Int.reduceToNat, Int.reduceLT, Int.reduceLE, Nat.reduceEqDiff, sidsB, Nat.reduceBEq, keyKD, isIntK]
  refine CallC.by (next_spec t 1 5 hT (by decide) (by decide)) (by rfl) (by rfl) (Nat.le_refl _) ?_
  simp (config := { maxSteps := 1000000 }) (disch := ((try simp only [awL]); omega)) only [MW, Nat.beq_eq, ↓awU, awV, awF, ofVal, ofVal0, isShift, aggK, forall_const, ↓reduceIte, ↓reduceDIte, ↓purePost, combine, idsA, cellsA, srcA, calleeA, refsA, isScalar, scalarD, scalar0, AV.one, putL, unfA, implies_true, IntKind.signed, Nat.reduceAdd, Nat.reduceSub, Nat.reduceMul, Nat.reducePow, Nat.reduceDiv, Nat.reduceMod, Int.reduceAdd, Int.reduceSub, Int.reduceMul, Int.reducePow, Int.reduceNeg, Int.reduceToNat, Int.reduceLT, Int.reduceLE, Nat.reduceEqDiff, sidsB, Nat.reduceBEq, keyKD, isIntK]
  rw [hr, hc]
  refine CallC.by (weightsB_spec t 2 3 c hT (by omega) (by omega)) (by rfl) (by rfl) (by simp) ?_
  simp only [boxB]
  have l0 := @rowW_length t (2 + 2 * c * 0) c
  have k0 := @rowW_ok t (2 + 2 * c * 0) c (by omega)
  generalize rowW t (2 + 2 * c * 0) c = a0 at *
  have l1 := @rowW_length t (2 + 2 * c) c
  have k1 := @rowW_ok t (2 + 2 * c) c (by omega)
  generalize rowW t (2 + 2 * c) c = a1 at *
  have l2 := @rowW_length t (2 + 2 * c * 2) c
  have k2 := @rowW_ok t (2 + 2 * c * 2) c (by omega)
  generalize rowW t (2 + 2 * c * 2) c = a2 at *
  generalize 2 + 2 * c * 3 = K at *
  simp (config := { maxSteps := 1000000 }) (disch := ((try simp only [awL]); omega)) only [MW, Nat.beq_eq, ↓awU, awV, awF, ofVal, ofVal0, isShift, aggK, forall_const, ↓reduceIte, ↓reduceDIte, ↓purePost, combine, idsA, cellsA, srcA, calleeA, refsA, isScalar, scalarD, scalar0, AV.one, putL, unfA, implies_true, IntKind.signed, Nat.reduceAdd, Nat.reduceSub, Nat.reduceMul, Nat.reducePow, Nat.reduceDiv, Nat.reduceMod, Int.reduceAdd, Int.reduceSub, Int.reduceMul, Int.reducePow, Int.reduceNeg, Int.reduceToNat, Int.reduceLT, Int.reduceLE, Nat.reduceEqDiff, sidsB, Nat.reduceBEq, keyKD, isIntK]
  refine CallC.pure (mod_spec what 8 hw1 hw2 (by decide) (by decide)) ?_
  rw [n3]
  simp (config := { maxSteps := 1000000 }) (disch := ((try simp only [awL]); omega)) only [MW, Nat.beq_eq, ↓awU, awV, awF, ofVal, ofVal0, isShift, aggK, forall_const, ↓reduceIte, ↓reduceDIte, ↓purePost, combine, idsA, cellsA, srcA, calleeA, refsA, isScalar, scalarD, scalar0, AV.one, putL, unfA, implies_true, IntKind.signed, Nat.reduceAdd, Nat.reduceSub, Nat.reduceMul, Nat.reducePow, Nat.reduceDiv, Nat.reduceMod, Int.reduceAdd, Int.reduceSub, Int.reduceMul, Int.reducePow, Int.reduceNeg, Int.reduceToNat, Int.reduceLT, Int.reduceLE, Nat.reduceEqDiff, sidsB, Nat.reduceBEq, keyKD, isIntK]
  refine CallC.pure (mod_spec pos 3 hp1 hp2 (by decide) (by decide)) ?_
  have hz := Int.emod_nonneg pos (show (3 : Int) ≠ 0 by decide)
  have hz2 := Int.emod_lt_of_pos pos (show (0 : Int) < 3 by decide)
  generalize pos % 3 = z at *
  have hy := Int.emod_nonneg by' (show (2 : Int) ≠ 0 by decide)
  have hy2 := Int.emod_lt_of_pos by' (show (0 : Int) < 2 by decide)
  obtain rfl | rfl | rfl : z = 0 ∨ z = 1 ∨ z = 2 := by omega
  · simp (config := { maxSteps := 1000000 }) (disch := ((try simp only [awL]); omega)) only [MW, Nat.beq_eq, ↓awU, awV, awF, ofVal, ofVal0, isShift, aggK, forall_const, ↓reduceIte, ↓reduceDIte, ↓purePost, combine, idsA, cellsA, srcA, calleeA, refsA, isScalar, scalarD, scalar0, AV.one, putL, unfA, implies_true, IntKind.signed, Nat.reduceAdd, Nat.reduceSub, Nat.reduceMul, Nat.reducePow, Nat.reduceDiv, Nat.reduceMod, Int.reduceAdd, Int.reduceSub, Int.reduceMul, Int.reducePow, Int.reduceNeg, Int.reduceToNat, Int.reduceLT, Int.reduceLE, Nat.reduceEqDiff, sidsB, Nat.reduceBEq, keyKD, isIntK]
    refine CallC.pure (mod_spec by' 2 hb1 hb2 (by decide) (by decide)) ?_
    generalize by' % 2 = y at *
    simp (config := { maxSteps := 1000000 }) (disch := ((try simp only [awL]); omega)) only [MW, Nat.beq_eq, ↓awU, awV, awF, ofVal, ofVal0, isShift, aggK, forall_const, ↓reduceIte, ↓reduceDIte, ↓purePost, combine, idsA, cellsA, srcA, calleeA, refsA, isScalar, scalarD, scalar0, AV.one, putL, unfA, implies_true, IntKind.signed, Nat.reduceAdd, Nat.reduceSub, Nat.reduceMul, Nat.reducePow, Nat.reduceDiv, Nat.reduceMod, Int.reduceAdd, Int.reduceSub, Int.reduceMul, Int.reducePow, Int.reduceNeg, Int.reduceToNat, Int.reduceLT, Int.reduceLE, Nat.reduceEqDiff, sidsB, Nat.reduceBEq, keyKD, isIntK]
    refine CallC.pure (rint_spec (0 - y) (by omega) (by omega)) ?_
    have hv := @int_Sm (0 - y) (by omega)
    generalize ((0 - y : Int) : Rat) = v at *
    have fl := @Fr_length a0
    have hs : (a0.set 0 v).length = c := by rw [List.length_set]; exact l0
    simp (config := { maxSteps := 1000000 }) (disch := ((try simp only [awL]); omega)) only [MW, Nat.beq_eq, fl, l0, Fr_set0, cut_Fr, ↓awU, awV, awF, ofVal, ofVal0, isShift, aggK, forall_const, ↓reduceIte, ↓reduceDIte, ↓purePost, combine, idsA, cellsA, srcA, calleeA, refsA, isScalar, scalarD, scalar0, AV.one, putL, unfA, implies_true, IntKind.signed, Nat.reduceAdd, Nat.reduceSub, Nat.reduceMul, Nat.reducePow, Nat.reduceDiv, Nat.reduceMod, Int.reduceAdd, Int.reduceSub, Int.reduceMul, Int.reducePow, Int.reduceNeg, Int.reduceToNat, Int.reduceLT, Int.reduceLE, Nat.reduceEqDiff, sidsB, Nat.reduceBEq, keyKD, isIntK]
    refine ⟨by rfl, by decide, ?_⟩
    have hw : Wok [(a0.set 0 v), a1, a2] := rows_ok (by simp) (by
      intro a ha
      simp only [List.mem_cons, List.not_mem_nil, or_false] at ha
      rcases ha with rfl | rfl | rfl
      · exact set0_ok k0 hv
      · exact k1
      · exact k2)
    have e0 : cut [D.sl c false (Fr (a0.set 0 v)), D.sl c false (Fr a1), D.sl c false (Fr a2)] 0 3 = [D.sl c false (Fr (a0.set 0 v)), D.sl c false (Fr a1), D.sl c false (Fr a2)] := rfl
    have e1 : ([.d (Mx [(a0.set 0 v), a1, a2])] : List AV) = [.d (.sl 3 false [D.sl c false (Fr (a0.set 0 v)), D.sl c false (Fr a1), D.sl c false (Fr a2)])] := by simp [Mx, MxL, hs, l0, l1, l2]
    rw [e0]
    generalize [(a0.set 0 v), a1, a2] = w at hw e1
    refine CallC.frozenE (best_spec hG w hw) e1.symm ?_
    obtain ⟨l, x, d, e, hR, z0, z1, z2⟩ := bestR_shape hw
    rw [hR]
    simp (config := { maxSteps := 1000000 }) (disch := ((try simp only [awL]); omega)) only [MW, Nat.beq_eq, e0, ↓awU, awV, awF, ofVal, ofVal0, isShift, aggK, forall_const, ↓reduceIte, ↓reduceDIte, ↓purePost, combine, idsA, cellsA, srcA, calleeA, refsA, isScalar, scalarD, scalar0, AV.one, putL, unfA, implies_true, IntKind.signed, Nat.reduceAdd, Nat.reduceSub, Nat.reduceMul, Nat.reducePow, Nat.reduceDiv, Nat.reduceMod, Int.reduceAdd, Int.reduceSub, Int.reduceMul, Int.reducePow, Int.reduceNeg, Int.reduceToNat, Int.reduceLT, Int.reduceLE, Nat.reduceEqDiff, sidsB, Nat.reduceBEq, keyKD, isIntK]
    refine CallC.frozenE (rBest_spec hG w hw) e1.symm ?_
    rw [hR]
    simp (config := { maxSteps := 1000000 }) (disch := ((try simp only [awL]); omega)) only [MW, Nat.beq_eq, e0, ↓awU, awV, awF, ofVal, ofVal0, isShift, aggK, forall_const, ↓reduceIte, ↓reduceDIte, ↓purePost, combine, idsA, cellsA, srcA, calleeA, refsA, isScalar, scalarD, scalar0, AV.one, putL, unfA, implies_true, IntKind.signed, Nat.reduceAdd, Nat.reduceSub, Nat.reduceMul, Nat.reducePow, Nat.reduceDiv, Nat.reduceMod, Int.reduceAdd, Int.reduceSub, Int.reduceMul, Int.reducePow, Int.reduceNeg, Int.reduceToNat, Int.reduceLT, Int.reduceLE, Nat.reduceEqDiff, sidsB, Nat.reduceBEq, keyKD, isIntK]
    refine CallC.pure (sameInts_spec l l z0 z0) ?_
    rw [decide_eq_true rfl]
    simp (config := { maxSteps := 1000000 }) (disch := ((try simp only [awL]); omega)) only [MW, Nat.beq_eq, e0, ↓awU, awV, awF, ofVal, ofVal0, isShift, aggK, forall_const, ↓reduceIte, ↓reduceDIte, ↓purePost, combine, idsA, cellsA, srcA, calleeA, refsA, isScalar, scalarD, scalar0, AV.one, putL, unfA, implies_true, IntKind.signed, Nat.reduceAdd, Nat.reduceSub, Nat.reduceMul, Nat.reducePow, Nat.reduceDiv, Nat.reduceMod, Int.reduceAdd, Int.reduceSub, Int.reduceMul, Int.reducePow, Int.reduceNeg, Int.reduceToNat, Int.reduceLT, Int.reduceLE, Nat.reduceEqDiff, sidsB, Nat.reduceBEq, keyKD, isIntK]
    refine CallC.of (same_spec x d x d z1 z2 z1 z2) (by rfl) ?_
    have es : decide (x = x ∧ d = d) = true := decide_eq_true ⟨rfl, rfl⟩
    rw [es]
    simp (config := { maxSteps := 1000000 }) (disch := ((try simp only [awL]); omega)) only [MW, Nat.beq_eq, e0, ↓awU, awV, awF, ofVal, ofVal0, isShift, aggK, forall_const, ↓reduceIte, ↓reduceDIte, ↓purePost, combine, idsA, cellsA, srcA, calleeA, refsA, isScalar, scalarD, scalar0, AV.one, putL, unfA, implies_true, IntKind.signed, Nat.reduceAdd, Nat.reduceSub, Nat.reduceMul, Nat.reducePow, Nat.reduceDiv, Nat.reduceMod, Int.reduceAdd, Int.reduceSub, Int.reduceMul, Int.reducePow, Int.reduceNeg, Int.reduceToNat, Int.reduceLT, Int.reduceLE, Nat.reduceEqDiff, sidsB, Nat.reduceBEq, keyKD, isIntK]
    refine CallC.frozenE (valid27_spec hG w hw.fvs hw.len hw.row) e1.symm ?_
    simp (config := { maxSteps := 1000000 }) (disch := ((try simp only [awL]); omega)) only [MW, Nat.beq_eq, e0, ↓awU, awV, awF, ofVal, ofVal0, isShift, aggK, forall_const, ↓reduceIte, ↓reduceDIte, ↓purePost, combine, idsA, cellsA, srcA, calleeA, refsA, isScalar, scalarD, scalar0, AV.one, putL, unfA, implies_true, IntKind.signed, Nat.reduceAdd, Nat.reduceSub, Nat.reduceMul, Nat.reducePow, Nat.reduceDiv, Nat.reduceMod, Int.reduceAdd, Int.reduceSub, Int.reduceMul, Int.reducePow, Int.reduceNeg, Int.reduceToNat, Int.reduceLT, Int.reduceLE, Nat.reduceEqDiff, sidsB, Nat.reduceBEq, keyKD, isIntK]
    refine CallC.frozenE (rvalid27_spec w hw.fvs hw.len hw.row) e1.symm ?_
    simp (config := { maxSteps := 1000000 }) (disch := ((try simp only [awL]); omega)) only [MW, Nat.beq_eq, e0, ↓awU, awV, awF, ofVal, ofVal0, isShift, aggK, forall_const, ↓reduceIte, ↓reduceDIte, ↓purePost, combine, idsA, cellsA, srcA, calleeA, refsA, isScalar, scalarD, scalar0, AV.one, putL, unfA, implies_true, IntKind.signed, Nat.reduceAdd, Nat.reduceSub, Nat.reduceMul, Nat.reducePow, Nat.reduceDiv, Nat.reduceMod, Int.reduceAdd, Int.reduceSub, Int.reduceMul, Int.reducePow, Int.reduceNeg, Int.reduceToNat, Int.reduceLT, Int.reduceLE, Nat.reduceEqDiff, sidsB, Nat.reduceBEq, keyKD, isIntK]
    refine CallC.pure (awake_spec hG) ?_
    simp (config := { maxSteps := 1000000 }) (disch := ((try simp only [awL]); omega)) only [MW, Nat.beq_eq, e0, ↓awU, awV, awF, ofVal, ofVal0, isShift, aggK, forall_const, ↓reduceIte, ↓reduceDIte, ↓purePost, combine, idsA, cellsA, srcA, calleeA, refsA, isScalar, scalarD, scalar0, AV.one, putL, unfA, implies_true, IntKind.signed, Nat.reduceAdd, Nat.reduceSub, Nat.reduceMul, Nat.reducePow, Nat.reduceDiv, Nat.reduceMod, Int.reduceAdd, Int.reduceSub, Int.reduceMul, Int.reducePow, Int.reduceNeg, Int.reduceToNat, Int.reduceLT, Int.reduceLE, Nat.reduceEqDiff, sidsB, Nat.reduceBEq, keyKD, isIntK]
  · simp (config := { maxSteps := 1000000 }) (disch := ((try simp only [awL]); omega)) only [MW, Nat.beq_eq, ↓awU, awV, awF, ofVal, ofVal0, isShift, aggK, forall_const, ↓reduceIte, ↓reduceDIte, ↓purePost, combine, idsA, cellsA, srcA, calleeA, refsA, isScalar, scalarD, scalar0, AV.one, putL, unfA, implies_true, IntKind.signed, Nat.reduceAdd, Nat.reduceSub, Nat.reduceMul, Nat.reducePow, Nat.reduceDiv, Nat.reduceMod, Int.reduceAdd, Int.reduceSub, Int.reduceMul, Int.reducePow, Int.reduceNeg, Int.reduceToNat, Int.reduceLT, Int.reduceLE, Nat.reduceEqDiff, sidsB, Nat.reduceBEq, keyKD, isIntK]
    refine CallC.pure (mod_spec by' 2 hb1 hb2 (by decide) (by decide)) ?_
    generalize by' % 2 = y at *
    simp (config := { maxSteps := 1000000 }) (disch := ((try simp only [awL]); omega)) only [MW, Nat.beq_eq, ↓awU, awV, awF, ofVal, ofVal0, isShift, aggK, forall_const, ↓reduceIte, ↓reduceDIte, ↓purePost, combine, idsA, cellsA, srcA, calleeA, refsA, isScalar, scalarD, scalar0, AV.one, putL, unfA, implies_true, IntKind.signed, Nat.reduceAdd, Nat.reduceSub, Nat.reduceMul, Nat.reducePow, Nat.reduceDiv, Nat.reduceMod, Int.reduceAdd, Int.reduceSub, Int.reduceMul, Int.reducePow, Int.reduceNeg, Int.reduceToNat, Int.reduceLT, Int.reduceLE, Nat.reduceEqDiff, sidsB, Nat.reduceBEq, keyKD, isIntK]
    refine CallC.pure (rint_spec (0 - y) (by omega) (by omega)) ?_
    have hv := @int_Sm (0 - y) (by omega)
    generalize ((0 - y : Int) : Rat) = v at *
    have fl := @Fr_length a1
    have hs : (a1.set 0 v).length = c := by rw [List.length_set]; exact l1
    simp (config := { maxSteps := 1000000 }) (disch := ((try simp only [awL]); omega)) only [MW, Nat.beq_eq, fl, l1, Fr_set0, cut_Fr, ↓awU, awV, awF, ofVal, ofVal0, isShift, aggK, forall_const, ↓reduceIte, ↓reduceDIte, ↓purePost, combine, idsA, cellsA, srcA, calleeA, refsA, isScalar, scalarD, scalar0, AV.one, putL, unfA, implies_true, IntKind.signed, Nat.reduceAdd, Nat.reduceSub, Nat.reduceMul, Nat.reducePow, Nat.reduceDiv, Nat.reduceMod, Int.reduceAdd, Int.reduceSub, Int.reduceMul, Int.reducePow, Int.reduceNeg, Int.reduceToNat, Int.reduceLT, Int.reduceLE, Nat.reduceEqDiff, sidsB, Nat.reduceBEq, keyKD, isIntK]
    refine ⟨by rfl, by decide, ?_⟩
    have hw : Wok [a0, (a1.set 0 v), a2] := rows_ok (by simp) (by
      intro a ha
      simp only [List.mem_cons, List.not_mem_nil, or_false] at ha
      rcases ha with rfl | rfl | rfl
      · exact k0
      · exact set0_ok k1 hv
      · exact k2)
    have e0 : cut [D.sl c false (Fr a0), D.sl c false (Fr (a1.set 0 v)), D.sl c false (Fr a2)] 0 3 = [D.sl c false (Fr a0), D.sl c false (Fr (a1.set 0 v)), D.sl c false (Fr a2)] := rfl
    have e1 : ([.d (Mx [a0, (a1.set 0 v), a2])] : List AV) = [.d (.sl 3 false [D.sl c false (Fr a0), D.sl c false (Fr (a1.set 0 v)), D.sl c false (Fr a2)])] := by simp [Mx, MxL, hs, l0, l1, l2]
    rw [e0]
    generalize [a0, (a1.set 0 v), a2] = w at hw e1
    refine CallC.frozenE (best_spec hG w hw) e1.symm ?_
    obtain ⟨l, x, d, e, hR, z0, z1, z2⟩ := bestR_shape hw
    rw [hR]
    simp (config := { maxSteps := 1000000 }) (disch := ((try simp only [awL]); omega)) only [MW, Nat.beq_eq, e0, ↓awU, awV, awF, ofVal, ofVal0, isShift, aggK, forall_const, ↓reduceIte, ↓reduceDIte, ↓purePost, combine, idsA, cellsA, srcA, calleeA, refsA, isScalar, scalarD, scalar0, AV.one, putL, unfA, implies_true, IntKind.signed, Nat.reduceAdd, Nat.reduceSub, Nat.reduceMul, Nat.reducePow, Nat.reduceDiv, Nat.reduceMod, Int.reduceAdd, Int.reduceSub, Int.reduceMul, Int.reducePow, Int.reduceNeg, Int.reduceToNat, Int.reduceLT, Int.reduceLE, Nat.reduceEqDiff, sidsB, Nat.reduceBEq, keyKD, isIntK]
    refine CallC.frozenE (rBest_spec hG w hw) e1.symm ?_
    rw [hR]
    simp (config := { maxSteps := 1000000 }) (disch := ((try simp only [awL]); omega)) only [MW, Nat.beq_eq, e0, ↓awU, awV, awF, ofVal, ofVal0, isShift, aggK, forall_const, ↓reduceIte, ↓reduceDIte, ↓purePost, combine, idsA, cellsA, srcA, calleeA, refsA, isScalar, scalarD, scalar0, AV.one, putL, unfA, implies_true, IntKind.signed, Nat.reduceAdd, Nat.reduceSub, Nat.reduceMul, Nat.reducePow, Nat.reduceDiv, Nat.reduceMod, Int.reduceAdd, Int.reduceSub, Int.reduceMul, Int.reducePow, Int.reduceNeg, Int.reduceToNat, Int.reduceLT, Int.reduceLE, Nat.reduceEqDiff, sidsB, Nat.reduceBEq, keyKD, isIntK]
    refine CallC.pure (sameInts_spec l l z0 z0) ?_
    rw [decide_eq_true rfl]
    simp (config := { maxSteps := 1000000 }) (disch := ((try simp only [awL]); omega)) only [MW, Nat.beq_eq, e0, ↓awU, awV, awF, ofVal, ofVal0, isShift, aggK, forall_const, ↓reduceIte, ↓reduceDIte, ↓purePost, combine, idsA, cellsA, srcA, calleeA, refsA, isScalar, scalarD, scalar0, AV.one, putL, unfA, implies_true, IntKind.signed, Nat.reduceAdd, Nat.reduceSub, Nat.reduceMul, Nat.reducePow, Nat.reduceDiv, Nat.reduceMod, Int.reduceAdd, Int.reduceSub, Int.reduceMul, Int.reducePow, Int.reduceNeg, Int.reduceToNat, Int.reduceLT, Int.reduceLE, Nat.reduceEqDiff, sidsB, Nat.reduceBEq, keyKD, isIntK]
    refine CallC.of (same_spec x d x d z1 z2 z1 z2) (by rfl) ?_
    have es : decide (x = x ∧ d = d) = true := decide_eq_true ⟨rfl, rfl⟩
    rw [es]
    simp (config := { maxSteps := 1000000 }) (disch := ((try simp only [awL]); omega)) only [MW, Nat.beq_eq, e0, ↓awU, awV, awF, ofVal, ofVal0, isShift, aggK, forall_const, ↓reduceIte, ↓reduceDIte, ↓purePost, combine, idsA, cellsA, srcA, calleeA, refsA, isScalar, scalarD, scalar0, AV.one, putL, unfA, implies_true, IntKind.signed, Nat.reduceAdd, Nat.reduceSub, Nat.reduceMul, Nat.reducePow, Nat.reduceDiv, Nat.reduceMod, Int.reduceAdd, Int.reduceSub, Int.reduceMul, Int.reducePow, Int.reduceNeg, Int.reduceToNat, Int.reduceLT, Int.reduceLE, Nat.reduceEqDiff, sidsB, Nat.reduceBEq, keyKD, isIntK]
    refine CallC.frozenE (valid27_spec hG w hw.fvs hw.len hw.row) e1.symm ?_
    simp (config := { maxSteps := 1000000 }) (disch := ((try simp only [awL]); omega)) only [MW, Nat.beq_eq, e0, ↓awU, awV, awF, ofVal, ofVal0, isShift, aggK, forall_const, ↓reduceIte, ↓reduceDIte, ↓purePost, combine, idsA, cellsA, srcA, calleeA, refsA, isScalar, scalarD, scalar0, AV.one, putL, unfA, implies_true, IntKind.signed, Nat.reduceAdd, Nat.reduceSub, Nat.reduceMul, Nat.reducePow, Nat.reduceDiv, Nat.reduceMod, Int.reduceAdd, Int.reduceSub, Int.reduceMul, Int.reducePow, Int.reduceNeg, Int.reduceToNat, Int.reduceLT, Int.reduceLE, Nat.reduceEqDiff, sidsB, Nat.reduceBEq, keyKD, isIntK]
    refine CallC.frozenE (rvalid27_spec w hw.fvs hw.len hw.row) e1.symm ?_
    simp (config := { maxSteps := 1000000 }) (disch := ((try simp only [awL]); omega)) only [MW, Nat.beq_eq, e0, ↓awU, awV, awF, ofVal, ofVal0, isShift, aggK, forall_const, ↓reduceIte, ↓reduceDIte, ↓purePost, combine, idsA, cellsA, srcA, calleeA, refsA, isScalar, scalarD, scalar0, AV.one, putL, unfA, implies_true, IntKind.signed, Nat.reduceAdd, Nat.reduceSub, Nat.reduceMul, Nat.reducePow, Nat.reduceDiv, Nat.reduceMod, Int.reduceAdd, Int.reduceSub, Int.reduceMul, Int.reducePow, Int.reduceNeg, Int.reduceToNat, Int.reduceLT, Int.reduceLE, Nat.reduceEqDiff, sidsB, Nat.reduceBEq, keyKD, isIntK]
    refine CallC.pure (awake_spec hG) ?_
    simp (config := { maxSteps := 1000000 }) (disch := ((try simp only [awL]); omega)) only [MW, Nat.beq_eq, e0, ↓awU, awV, awF, ofVal, ofVal0, isShift, aggK, forall_const, ↓reduceIte, ↓reduceDIte, ↓purePost, combine, idsA, cellsA, srcA, calleeA, refsA, isScalar, scalarD, scalar0, AV.one, putL, unfA, implies_true, IntKind.signed, Nat.reduceAdd, Nat.reduceSub, Nat.reduceMul, Nat.reducePow, Nat.reduceDiv, Nat.reduceMod, Int.reduceAdd, Int.reduceSub, Int.reduceMul, Int.reducePow, Int.reduceNeg, Int.reduceToNat, Int.reduceLT, Int.reduceLE, Nat.reduceEqDiff, sidsB, Nat.reduceBEq, keyKD, isIntK]
  · simp (config := { maxSteps := 1000000 }) (disch := ((try simp only [awL]); omega)) only [MW, Nat.beq_eq, ↓awU, awV, awF, ofVal, ofVal0, isShift, aggK, forall_const, ↓reduceIte, ↓reduceDIte, ↓purePost, combine, idsA, cellsA, srcA, calleeA, refsA, isScalar, scalarD, scalar0, AV.one, putL, unfA, implies_true, IntKind.signed, Nat.reduceAdd, Nat.reduceSub, Nat.reduceMul, Nat.reducePow, Nat.reduceDiv, Nat.reduceMod, Int.reduceAdd, Int.reduceSub, Int.reduceMul, Int.reducePow, Int.reduceNeg, Int.reduceToNat, Int.reduceLT, Int.reduceLE, Nat.reduceEqDiff, sidsB, Nat.reduceBEq, keyKD, isIntK]
    refine CallC.pure (mod_spec by' 2 hb1 hb2 (by decide) (by decide)) ?_
    generalize by' % 2 = y at *
    simp (config := { maxSteps := 1000000 }) (disch := ((try simp only [awL]); omega)) only [MW, Nat.beq_eq, ↓awU, awV, awF, ofVal, ofVal0, isShift, aggK, forall_const, ↓reduceIte, ↓reduceDIte, ↓purePost, combine, idsA, cellsA, srcA, calleeA, refsA, isScalar, scalarD, scalar0, AV.one, putL, unfA, implies_true, IntKind.signed, Nat.reduceAdd, Nat.reduceSub, Nat.reduceMul, Nat.reducePow, Nat.reduceDiv, Nat.reduceMod, Int.reduceAdd, Int.reduceSub, Int.reduceMul, Int.reducePow, Int.reduceNeg, Int.reduceToNat, Int.reduceLT, Int.reduceLE, Nat.reduceEqDiff, sidsB, Nat.reduceBEq, keyKD, isIntK]
    refine CallC.pure (rint_spec (0 - y) (by omega) (by omega)) ?_
    have hv := @int_Sm (0 - y) (by omega)
    generalize ((0 - y : Int) : Rat) = v at *
    have fl := @Fr_length a2
    have hs : (a2.set 0 v).length = c := by rw [List.length_set]; exact l2
    simp (config := { maxSteps := 1000000 }) (disch := ((try simp only [awL]); omega)) only [MW, Nat.beq_eq, fl, l2, Fr_set0, cut_Fr, ↓awU, awV, awF, ofVal, ofVal0, isShift, aggK, forall_const, ↓reduceIte, ↓reduceDIte, ↓purePost, combine, idsA, cellsA, srcA, calleeA, refsA, isScalar, scalarD, scalar0, AV.one, putL, unfA, implies_true, IntKind.signed, Nat.reduceAdd, Nat.reduceSub, Nat.reduceMul, Nat.reducePow, Nat.reduceDiv, Nat.reduceMod, Int.reduceAdd, Int.reduceSub, Int.reduceMul, Int.reducePow, Int.reduceNeg, Int.reduceToNat, Int.reduceLT, Int.reduceLE, Nat.reduceEqDiff, sidsB, Nat.reduceBEq, keyKD, isIntK]
    refine ⟨by rfl, by decide, ?_⟩
    have hw : Wok [a0, a1, (a2.set 0 v)] := rows_ok (by simp) (by
      intro a ha
      simp only [List.mem_cons, List.not_mem_nil, or_false] at ha
      rcases ha with rfl | rfl | rfl
      · exact k0
      · exact k1
      · exact set0_ok k2 hv)
    have e0 : cut [D.sl c false (Fr a0), D.sl c false (Fr a1), D.sl c false (Fr (a2.set 0 v))] 0 3 = [D.sl c false (Fr a0), D.sl c false (Fr a1), D.sl c false (Fr (a2.set 0 v))] := rfl
    have e1 : ([.d (Mx [a0, a1, (a2.set 0 v)])] : List AV) = [.d (.sl 3 false [D.sl c false (Fr a0), D.sl c false (Fr a1), D.sl c false (Fr (a2.set 0 v))])] := by simp [Mx, MxL, hs, l0, l1, l2]
    rw [e0]
    generalize [a0, a1, (a2.set 0 v)] = w at hw e1
    refine CallC.frozenE (best_spec hG w hw) e1.symm ?_
    obtain ⟨l, x, d, e, hR, z0, z1, z2⟩ := bestR_shape hw
    rw [hR]
    simp (config := { maxSteps := 1000000 }) (disch := ((try simp only [awL]); omega)) only [MW, Nat.beq_eq, e0, ↓awU, awV, awF, ofVal, ofVal0, isShift, aggK, forall_const, ↓reduceIte, ↓reduceDIte, ↓purePost, combine, idsA, cellsA, srcA, calleeA, refsA, isScalar, scalarD, scalar0, AV.one, putL, unfA, implies_true, IntKind.signed, Nat.reduceAdd, Nat.reduceSub, Nat.reduceMul, Nat.reducePow, Nat.reduceDiv, Nat.reduceMod, Int.reduceAdd, Int.reduceSub, Int.reduceMul, Int.reducePow, Int.reduceNeg, Int.reduceToNat, Int.reduceLT, Int.reduceLE, Nat.reduceEqDiff, sidsB, Nat.reduceBEq, keyKD, isIntK]
    refine CallC.frozenE (rBest_spec hG w hw) e1.symm ?_
    rw [hR]
    simp (config := { maxSteps := 1000000 }) (disch := ((try simp only [awL]); omega)) only [MW, Nat.beq_eq, e0, ↓awU, awV, awF, ofVal, ofVal0, isShift, aggK, forall_const, ↓reduceIte, ↓reduceDIte, ↓purePost, combine, idsA, cellsA, srcA, calleeA, refsA, isScalar, scalarD, scalar0, AV.one, putL, unfA, implies_true, IntKind.signed, Nat.reduceAdd, Nat.reduceSub, Nat.reduceMul, Nat.reducePow, Nat.reduceDiv, Nat.reduceMod, Int.reduceAdd, Int.reduceSub, Int.reduceMul, Int.reducePow, Int.reduceNeg, Int.reduceToNat, Int.reduceLT, Int.reduceLE, Nat.reduceEqDiff, sidsB, Nat.reduceBEq, keyKD, isIntK]
    refine CallC.pure (sameInts_spec l l z0 z0) ?_
    rw [decide_eq_true rfl]
    simp (config := { maxSteps := 1000000 }) (disch := ((try simp only [awL]); omega)) only [MW, Nat.beq_eq, e0, ↓awU, awV, awF, ofVal, ofVal0, isShift, aggK, forall_const, ↓reduceIte, ↓reduceDIte, ↓purePost, combine, idsA, cellsA, srcA, calleeA, refsA, isScalar, scalarD, scalar0, AV.one, putL, unfA, implies_true, IntKind.signed, Nat.reduceAdd, Nat.reduceSub, Nat.reduceMul, Nat.reducePow, Nat.reduceDiv, Nat.reduceMod, Int.reduceAdd, Int.reduceSub, Int.reduceMul, Int.reducePow, Int.reduceNeg, Int.reduceToNat, Int.reduceLT, Int.reduceLE, Nat.reduceEqDiff, sidsB, Nat.reduceBEq, keyKD, isIntK]
    refine CallC.of (same_spec x d x d z1 z2 z1 z2) (by rfl) ?_
    have es : decide (x = x ∧ d = d) = true := decide_eq_true ⟨rfl, rfl⟩
    rw [es]
    simp (config := { maxSteps := 1000000 }) (disch := ((try simp only [awL]); omega)) only [MW, Nat.beq_eq, e0, ↓awU, awV, awF, ofVal, ofVal0, isShift, aggK, forall_const, ↓reduceIte, ↓reduceDIte, ↓purePost, combine, idsA, cellsA, srcA, calleeA, refsA, isScalar, scalarD, scalar0, AV.one, putL, unfA, implies_true, IntKind.signed, Nat.reduceAdd, Nat.reduceSub, Nat.reduceMul, Nat.reducePow, Nat.reduceDiv, Nat.reduceMod, Int.reduceAdd, Int.reduceSub, Int.reduceMul, Int.reducePow, Int.reduceNeg, Int.reduceToNat, Int.reduceLT, Int.reduceLE, Nat.reduceEqDiff, sidsB, Nat.reduceBEq, keyKD, isIntK]
    refine CallC.frozenE (valid27_spec hG w hw.fvs hw.len hw.row) e1.symm ?_
    simp (config := { maxSteps := 1000000 }) (disch := ((try simp only [awL]); omega)) only [MW, Nat.beq_eq, e0, ↓awU, awV, awF, ofVal, ofVal0, isShift, aggK, forall_const, ↓reduceIte, ↓reduceDIte, ↓purePost, combine, idsA, cellsA, srcA, calleeA, refsA, isScalar, scalarD, scalar0, AV.one, putL, unfA, implies_true, IntKind.signed, Nat.reduceAdd, Nat.reduceSub, Nat.reduceMul, Nat.reducePow, Nat.reduceDiv, Nat.reduceMod, Int.reduceAdd, Int.reduceSub, Int.reduceMul, Int.reducePow, Int.reduceNeg, Int.reduceToNat, Int.reduceLT, Int.reduceLE, Nat.reduceEqDiff, sidsB, Nat.reduceBEq, keyKD, isIntK]
    refine CallC.frozenE (rvalid27_spec w hw.fvs hw.len hw.row) e1.symm ?_
    simp (config := { maxSteps := 1000000 }) (disch := ((try simp only [awL]); omega)) only [MW, Nat.beq_eq, e0, ↓awU, awV, awF, ofVal, ofVal0, isShift, aggK, forall_const, ↓reduceIte, ↓reduceDIte, ↓purePost, combine, idsA, cellsA, srcA, calleeA, refsA, isScalar, scalarD, scalar0, AV.one, putL, unfA, implies_true, IntKind.signed, Nat.reduceAdd, Nat.reduceSub, Nat.reduceMul, Nat.reducePow, Nat.reduceDiv, Nat.reduceMod, Int.reduceAdd, Int.reduceSub, Int.reduceMul, Int.reducePow, Int.reduceNeg, Int.reduceToNat, Int.reduceLT, Int.reduceLE, Nat.reduceEqDiff, sidsB, Nat.reduceBEq, keyKD, isIntK]
    refine CallC.pure (awake_spec hG) ?_
    simp (config := { maxSteps := 1000000 }) (disch := ((try simp only [awL]); omega)) only [MW, Nat.beq_eq, e0, ↓awU, awV, awF, ofVal, ofVal0, isShift, aggK, forall_const, ↓reduceIte, ↓reduceDIte, ↓purePost, combine, idsA, cellsA, srcA, calleeA, refsA, isScalar, scalarD, scalar0, AV.one, putL, unfA, implies_true, IntKind.signed, Nat.reduceAdd, Nat.reduceSub, Nat.reduceMul, Nat.reducePow, Nat.reduceDiv, Nat.reduceMod, Int.reduceAdd, Int.reduceSub, Int.reduceMul, Int.reducePow, Int.reduceNeg, Int.reduceToNat, Int.reduceLT, Int.reduceLE, Nat.reduceEqDiff, sidsB, Nat.reduceBEq, keyKD, isIntK]
set_option maxHeartbeats 16000000 in
set_option maxRecDepth 100000 in
theorem best_lawW4 (hG : HG G) (t : List Int) (hT : OkT t) (what pos by' : Int) (hw1 : -9223372036854775808 ≤ what) (hw2 : what ≤ 9223372036854775807) (hp1 : -9223372036854775808 ≤ pos) (hp2 : pos ≤ 9223372036854775807) (hb1 : -9223372036854775808 ≤ by') (hb2 : by' ≤ 9223372036854775807)
    (c : Nat) (hr : nx t 0 5 = (4 : Nat)) (hc : nx t 1 5 = c) (n3 : what % 8 = 3) (h0 : 0 < c) : Ctr Tryd.prog G 3 [.d (.sl t.length false (ints .i64 t)), .d (.int .i64 what), .d (.int .i64 pos), .d (.int .i64 by')] [] (.d (.bool true)) [] := by
  have n1 := @nx_range t 0 5 (by decide)
  have n2 := @nx_range t 1 5 (by decide)
  refine Ctr.pure (M := MW) hmix Tryd.func3 rfl go3 ?_
  simp (config := { maxSteps := 1000000 }) (disch := ((try simp only [awL]); omega)) only [MW, Nat.beq_eq, Tryd.f3, ↓awU, awV, awF, ofVal, ofVal0, isShift, aggK, forall_const, ↓reduceIte, ↓reduceDIte, ↓purePost, combine, idsA, cellsA, srcA, calleeA, refsA, isScalar, scalarD, scalar0, AV.one, putL, unfA, implies_true, IntKind.signed, Nat.reduceAdd, Nat.reduceSub, Nat.reduceMul, Nat.reducePow, Nat.reduceDiv, Nat.reduceMod, Int.reduceAdd, Int.reduceSub, Int.reduceMul, Int.reducePow, Int.reduceNeg, Int.reduceToNat, Int.reduceLT, Int.reduceLE, Nat.reduceEqDiff, sidsB, Nat.reduceBEq, keyKD, isIntK]
  refine CallC.pure (light_spec t) ?_
  rw [decide_eq_true hT.1]
  simp (config := { maxSteps := 1000000 }) (disch := ((try simp only [awL]); omega)) only [MW, Nat.beq_eq, ↓awU, awV, awF, ofVal, ofVal0, isShift, aggK, forall_const, ↓reduceIte, ↓reduceDIte, ↓purePost, combine, idsA, cellsA, srcA, calleeA, refsA, isScalar, scalarD, scalar0, AV.one, putL, unfA, implies_true, IntKind.signed, Nat.reduceAdd, Nat.reduceSub, Nat.reduceMul, Nat.reducePow, Nat.reduceDiv, Nat.reduceMod, Int.reduceAdd, Int.reduceSub, Int.reduceMul, Int.reducePow, Int.reduceNeg, Int.reduceToNat, Int.reduceLT, Int.reduceLE, Nat.reduceEqDiff, sidsB, Nat.reduceBEq, keyKD, isIntK]
  refine CallC.by (roll_spec t hT.1) rfl rfl (Nat.zero_le _) ?_
  simp (config := { maxSteps := 1000000 }) (disch := ((try simp only [awL]); omega)) only [MW, Nat.beq_eq, ↓awU, awV, awF, ofVal, ofVal0, isShift, aggK, forall_const, ↓reduceIte, ↓reduceDIte, ↓purePost, combine, idsA, cellsA, srcA, calleeA, refsA, isScalar, scalarD, scalar0, AV.one, putL, unfA, implies_true, IntKind.signed, Nat.reduceAdd, Nat.reduceSub, Nat.reduceMul, Nat.reducePow, Nat.reduceDiv, Nat.reduceMod, Int.reduceAdd, Int.reduceSub, Int.reduceMul, Int.reducePow, Int.reduceNeg, Int.reduceToNat, Int.reduceLT, Int.reduceLE, Nat.reduceEqDiff, sidsB, Nat.reduceBEq, keyKD, isIntK]
  refine CallC.by (next_spec t 0 5 hT (by decide) (by decide)) (by rfl) (by rfl) (Nat.le_refl _) ?_
  simp (config := { maxSteps := 1000000 }) (disch := ((try simp only [awL]); omega)) only [MW, Nat.beq_eq, ↓awU, awV, awF, ofVal, ofVal0, isShift, aggK, forall_const, ↓reduceIte, ↓reduceDIte, ↓purePost, combine, idsA, cellsA, srcA, calleeA, refsA, isScalar, scalarD, scalar0, AV.one, putL, unfA, implies_true, IntKind.signed, Nat.reduceAdd, Nat.reduceSub, Nat.reduceMul, Nat.reducePow, Nat.reduceDiv, Nat.reduceMod, Int.reduceAdd, Int.reduceSub, Int.reduceMul, Int.reducePow, Int.reduceNeg, Int.reduceToNat, Int.reduceLT, Int.reduceLE, Nat.reduceEqDiff, sidsB, Nat.reduceBEq, keyKD, isIntK]
  refine CallC.by (next_spec t 1 5 hT (by decide) (by decide)) (by rfl) (by rfl) (Nat.le_refl _) ?_
  simp (config := { maxSteps := 1000000 }) (disch := ((try simp only [awL]); omega)) only [MW, Nat.beq_eq, ↓awU, awV, awF, ofVal, ofVal0, isShift, aggK, forall_const, ↓reduceIte, ↓reduceDIte, ↓purePost, combine, idsA, cellsA, srcA, calleeA, refsA, isScalar, scalarD, scalar0, AV.one, putL, unfA, implies_true, IntKind.signed, Nat.reduceAdd, Nat.reduceSub, Nat.reduceMul, Nat.reducePow, Nat.reduceDiv, Nat.reduceMod, Int.reduceAdd, Int.reduceSub, Int.reduceMul, Int.reducePow, Int.reduceNeg, Int.reduceToNat, Int.reduceLT, Int.reduceLE, Nat.reduceEqDiff, sidsB, Nat.reduceBEq, keyKD, isIntK]
  rw [hr, hc]
  refine CallC.by (weightsB_spec t 2 4 c hT (by omega) (by omega)) (by rfl) (by rfl) (by simp) ?_
  simp only [boxB]
  have l0 := @rowW_length t (2 + 2 * c * 0) c
  have k0 := @rowW_ok t (2 + 2 * c * 0) c (by omega)
  generalize rowW t (2 + 2 * c * 0) c = a0 at *
  have l1 := @rowW_length t (2 + 2 * c) c
  have k1 := @rowW_ok t (2 + 2 * c) c (by omega)
  generalize rowW t (2 + 2 * c) c = a1 at *
  have l2 := @rowW_length t (2 + 2 * c * 2) c
  have k2 := @rowW_ok t (2 + 2 * c * 2) c (by omega)
  generalize rowW t (2 + 2 * c * 2) c = a2 at *
  have l3 := @rowW_length t (2 + 2 * c * 3) c
  have k3 := @rowW_ok t (2 + 2 * c * 3) c (by omega)
  generalize rowW t (2 + 2 * c * 3) c = a3 at *
  generalize 2 + 2 * c * 4 = K at *
  simp (config := { maxSteps := 1000000 }) (disch := ((try simp only [awL]); omega)) only [MW, Nat.beq_eq, ↓awU, awV, awF, ofVal, ofVal0, isShift, aggK, forall_const, ↓reduceIte, ↓reduceDIte, ↓purePost, combine, idsA, cellsA, srcA, calleeA, refsA, isScalar, scalarD, scalar0, AV.one, putL, unfA, implies_true, IntKind.signed, Nat.reduceAdd, Nat.reduceSub, Nat.reduceMul, Nat.reducePow, Nat.reduceDiv, Nat.reduceMod, Int.reduceAdd, Int.reduceSub, Int.reduceMul, Int.reducePow, Int.reduceNeg, Int.reduceToNat, Int.reduceLT, Int.reduceLE, Nat.reduceEqDiff, sidsB, Nat.reduceBEq, keyKD, isIntK]
  refine CallC.pure (mod_spec what 8 hw1 hw2 (by decide) (by decide)) ?_
  rw [n3]
  simp (config := { maxSteps := 1000000 }) (disch := ((try simp only [awL]); omega)) only [MW, Nat.beq_eq, ↓awU, awV, awF, ofVal, ofVal0, isShift, aggK, forall_const, ↓reduceIte, ↓reduceDIte, ↓purePost, combine, idsA, cellsA, srcA, calleeA, refsA, isScalar, scalarD, scalar0, AV.one, putL, unfA, implies_true, IntKind.signed, Nat.reduceAdd, Nat.reduceSub, Nat.reduceMul, Nat.reducePow, Nat.reduceDiv, Nat.reduceMod, Int.reduceAdd, Int.reduceSub, Int.reduceMul, Int.reducePow, Int.reduceNeg, Int.reduceToNat, Int.reduceLT, Int.reduceLE, Nat.reduceEqDiff, sidsB, Nat.reduceBEq, keyKD, isIntK]
  refine CallC.pure (mod_spec pos 4 hp1 hp2 (by decide) (by decide)) ?_
  have hz := Int.emod_nonneg pos (show (4 : Int) ≠ 0 by decide)
  have hz2 := Int.emod_lt_of_pos pos (show (0 : Int) < 4 by decide)
  generalize pos % 4 = z at *
  have hy := Int.emod_nonneg by' (show (2 : Int) ≠ 0 by decide)
  have hy2 := Int.emod_lt_of_pos by' (show (0 : Int) < 2 by decide)
  obtain rfl | rfl | rfl | rfl : z = 0 ∨ z = 1 ∨ z = 2 ∨ z = 3 := by omega
  · simp (config := { maxSteps := 1000000 }) (disch := ((try simp only [awL]); omega)) only [MW, Nat.beq_eq, ↓awU, awV, awF, ofVal, ofVal0, isShift, aggK, forall_const, ↓reduceIte, ↓reduceDIte, ↓purePost, combine, idsA, cellsA, srcA, calleeA, refsA, isScalar, scalarD, scalar0, AV.one, putL, unfA, implies_true, IntKind.signed, Nat.reduceAdd, Nat.reduceSub, Nat.reduceMul, Nat.reducePow, Nat.reduceDiv, Nat.reduceMod, Int.reduceAdd, Int.reduceSub, Int.reduceMul, Int.reducePow, Int.reduceNeg, Int.reduceToNat, Int.reduceLT, Int.reduceLE, Nat.reduceEqDiff, sidsB, Nat.reduceBEq, keyKD, isIntK]
    refine CallC.pure (mod_spec by' 2 hb1 hb2 (by decide) (by decide)) ?_
    generalize by' % 2 = y at *
    simp (config := { maxSteps := 1000000 }) (disch := ((try simp only [awL]); omega)) only [MW, Nat.beq_eq, ↓awU, awV, awF, ofVal, ofVal0, isShift, aggK, forall_const, ↓reduceIte, ↓reduceDIte, ↓purePost, combine, idsA, cellsA, srcA, calleeA, refsA, isScalar, scalarD, scalar0, AV.one, putL, unfA, implies_true, IntKind.signed, Nat.reduceAdd, Nat.reduceSub, Nat.reduceMul, Nat.reducePow, Nat.reduceDiv, Nat.reduceMod, Int.reduceAdd, Int.reduceSub, Int.reduceMul, Int.reducePow, Int.reduceNeg, Int.reduceToNat, Int.reduceLT, Int.reduceLE, Nat.reduceEqDiff, sidsB, Nat.reduceBEq, keyKD, isIntK]
    refine CallC.pure (rint_spec (0 - y) (by omega) (by omega)) ?_
    have hv := @int_Sm (0 - y) (by omega)
    generalize ((0 - y : Int) : Rat) = v at *
    have fl := @Fr_length a0
    have hs : (a0.set 0 v).length = c := by rw [List.length_set]; exact l0
    simp (config := { maxSteps := 1000000 }) (disch := ((try simp only [awL]); omega)) only [MW, Nat.beq_eq, fl, l0, Fr_set0, cut_Fr, ↓awU, awV, awF, ofVal, ofVal0, isShift, aggK, forall_const, ↓reduceIte, ↓reduceDIte, ↓purePost, combine, idsA, cellsA, srcA, calleeA, refsA, isScalar, scalarD, scalar0, AV.one, putL, unfA, implies_true, IntKind.signed, Nat.reduceAdd, Nat.reduceSub, Nat.reduceMul, Nat.reducePow, Nat.reduceDiv, Nat.reduceMod, Int.reduceAdd, Int.reduceSub, Int.reduceMul, Int.reducePow, Int.reduceNeg, Int.reduceToNat, Int.reduceLT, Int.reduceLE, Nat.reduceEqDiff, sidsB, Nat.reduceBEq, keyKD, isIntK]
    refine ⟨by rfl, by decide, ?_⟩
    have hw : Wok [(a0.set 0 v), a1, a2, a3] := rows_ok (by simp) (by
      intro a ha
      simp only [List.mem_cons, List.not_mem_nil, or_false] at ha
      rcases ha with rfl | rfl | rfl | rfl
      · exact set0_ok k0 hv
      · exact k1
      · exact k2
      · exact k3)
    have e0 : cut [D.sl c false (Fr (a0.set 0 v)), D.sl c false (Fr a1), D.sl c false (Fr a2), D.sl c false (Fr a3)] 0 4 = [D.sl c false (Fr (a0.set 0 v)), D.sl c false (Fr a1), D.sl c false (Fr a2), D.sl c false (Fr a3)] := rfl
    have e1 : ([.d (Mx [(a0.set 0 v), a1, a2, a3])] : List AV) = [.d (.sl 4 false [D.sl c false (Fr (a0.set 0 v)), D.sl c false (Fr a1), D.sl c false (Fr a2), D.sl c false (Fr a3)])] := by simp [Mx, MxL, hs, l0, l1, l2, l3]
    rw [e0]
    generalize [(a0.set 0 v), a1, a2, a3] = w at hw e1
    refine CallC.frozenE (best_spec hG w hw) e1.symm ?_
    obtain ⟨l, x, d, e, hR, z0, z1, z2⟩ := bestR_shape hw
    rw [hR]
    simp (config := { maxSteps := 1000000 }) (disch := ((try simp only [awL]); omega)) only [MW, Nat.beq_eq, e0, ↓awU, awV, awF, ofVal, ofVal0, isShift, aggK, forall_const, ↓reduceIte, ↓reduceDIte, ↓purePost, combine, idsA, cellsA, srcA, calleeA, refsA, isScalar, scalarD, scalar0, AV.one, putL, unfA, implies_true, IntKind.signed, Nat.reduceAdd, Nat.reduceSub, Nat.reduceMul, Nat.reducePow, Nat.reduceDiv, Nat.reduceMod, Int.reduceAdd, Int.reduceSub, Int.reduceMul, Int.reducePow, Int.reduceNeg, Int.reduceToNat, Int.reduceLT, Int.reduceLE, Nat.reduceEqDiff, sidsB, Nat.reduceBEq, keyKD, isIntK]
    refine CallC.frozenE (rBest_spec hG w hw) e1.symm ?_
    rw [hR]
    simp (config := { maxSteps := 1000000 }) (disch := ((try simp only [awL]); omega)) only [MW, Nat.beq_eq, e0, ↓awU, awV, awF, ofVal, ofVal0, isShift, aggK, forall_const, ↓reduceIte, ↓reduceDIte, ↓purePost, combine, idsA, cellsA, srcA, calleeA, refsA, isScalar, scalarD, scalar0, AV.one, putL, unfA, implies_true, IntKind.signed, Nat.reduceAdd, Nat.reduceSub, Nat.reduceMul, Nat.reducePow, Nat.reduceDiv, Nat.reduceMod, Int.reduceAdd, Int.reduceSub, Int.reduceMul, Int.reducePow, Int.reduceNeg, Int.reduceToNat, Int.reduceLT, Int.reduceLE, Nat.reduceEqDiff, sidsB, Nat.reduceBEq, keyKD, isIntK]
    refine CallC.pure (sameInts_spec l l z0 z0) ?_
    rw [decide_eq_true rfl]
    simp (config := { maxSteps := 1000000 }) (disch := ((try simp only [awL]); omega)) only [MW, Nat.beq_eq, e0, ↓awU, awV, awF, ofVal, ofVal0, isShift, aggK, forall_const, ↓reduceIte, ↓reduceDIte, ↓purePost, combine, idsA, cellsA, srcA, calleeA, refsA, isScalar, scalarD, scalar0, AV.one, putL, unfA, implies_true, IntKind.signed, Nat.reduceAdd, Nat.reduceSub, Nat.reduceMul, Nat.reducePow, Nat.reduceDiv, Nat.reduceMod, Int.reduceAdd, Int.reduceSub, Int.reduceMul, Int.reducePow, Int.reduceNeg, Int.reduceToNat, Int.reduceLT, Int.reduceLE, Nat.reduceEqDiff, sidsB, Nat.reduceBEq, keyKD, isIntK]
    refine CallC.of (same_spec x d x d z1 z2 z1 z2) (by rfl) ?_
    have es : decide (x = x ∧ d = d) = true := decide_eq_true ⟨rfl, rfl⟩
    rw [es]
    simp (config := { maxSteps := 1000000 }) (disch := ((try simp only [awL]); omega)) only [MW, Nat.beq_eq, e0, ↓awU, awV, awF, ofVal, ofVal0, isShift, aggK, forall_const, ↓reduceIte, ↓reduceDIte, ↓purePost, combine, idsA, cellsA, srcA, calleeA, refsA, isScalar, scalarD, scalar0, AV.one, putL, unfA, implies_true, IntKind.signed, Nat.reduceAdd, Nat.reduceSub, Nat.reduceMul, Nat.reducePow, Nat.reduceDiv, Nat.reduceMod, Int.reduceAdd, Int.reduceSub, Int.reduceMul, Int.reducePow, Int.reduceNeg, Int.reduceToNat, Int.reduceLT, Int.reduceLE, Nat.reduceEqDiff, sidsB, Nat.reduceBEq, keyKD, isIntK]
    refine CallC.frozenE (valid27_spec hG w hw.fvs hw.len hw.row) e1.symm ?_
    simp (config := { maxSteps := 1000000 }) (disch := ((try simp only [awL]); omega)) only [MW, Nat.beq_eq, e0, ↓awU, awV, awF, ofVal, ofVal0, isShift, aggK, forall_const, ↓reduceIte, ↓reduceDIte, ↓purePost, combine, idsA, cellsA, srcA, calleeA, refsA, isScalar, scalarD, scalar0, AV.one, putL, unfA, implies_true, IntKind.signed, Nat.reduceAdd, Nat.reduceSub, Nat.reduceMul, Nat.reducePow, Nat.reduceDiv, Nat.reduceMod, Int.reduceAdd, Int.reduceSub, Int.reduceMul, Int.reducePow, Int.reduceNeg, Int.reduceToNat, Int.reduceLT, Int.reduceLE, Nat.reduceEqDiff, sidsB, Nat.reduceBEq, keyKD, isIntK]
    refine CallC.frozenE (rvalid27_spec w hw.fvs hw.len hw.row) e1.symm ?_
    simp (config := { maxSteps := 1000000 }) (disch := ((try simp only [awL]); omega)) only [MW, Nat.beq_eq, e0, ↓awU, awV, awF, ofVal, ofVal0, isShift, aggK, forall_const, ↓reduceIte, ↓reduceDIte, ↓purePost, combine, idsA, cellsA, srcA, calleeA, refsA, isScalar, scalarD, scalar0, AV.one, putL, unfA, implies_true, IntKind.signed, Nat.reduceAdd, Nat.reduceSub, Nat.reduceMul, Nat.reducePow, Nat.reduceDiv, Nat.reduceMod, Int.reduceAdd, Int.reduceSub, Int.reduceMul, Int.reducePow, Int.reduceNeg, Int.reduceToNat, Int.reduceLT, Int.reduceLE, Nat.reduceEqDiff, sidsB, Nat.reduceBEq, keyKD, isIntK]
    refine CallC.pure (awake_spec hG) ?_
    simp (config := { maxSteps := 1000000 }) (disch := ((try simp only [awL]); omega)) only [MW, Nat.beq_eq, e0, ↓awU, awV, awF, ofVal, ofVal0, isShift, aggK, forall_const, ↓reduceIte, ↓reduceDIte, ↓purePost, combine, idsA, cellsA, srcA, calleeA, refsA, isScalar, scalarD, scalar0, AV.one, putL, unfA, implies_true, IntKind.signed, Nat.reduceAdd, Nat.reduceSub, Nat.reduceMul, Nat.reducePow, Nat.reduceDiv, Nat.reduceMod, Int.reduceAdd, Int.reduceSub, Int.reduceMul, Int.reducePow, Int.reduceNeg, Int.reduceToNat, Int.reduceLT, Int.reduceLE, Nat.reduceEqDiff, sidsB, Nat.reduceBEq, keyKD, isIntK]
  · simp (config := { maxSteps := 1000000 }) (disch := ((try simp only [awL]); omega)) only [MW, Nat.beq_eq, ↓awU, awV, awF, ofVal, ofVal0, isShift, aggK, forall_const, ↓reduceIte, ↓reduceDIte, ↓purePost, combine, idsA, cellsA, srcA, calleeA, refsA, isScalar, scalarD, scalar0, AV.one, putL, unfA, implies_true, IntKind.signed, Nat.reduceAdd, Nat.reduceSub, Nat.reduceMul, Nat.reducePow, Nat.reduceDiv, Nat.reduceMod, Int.reduceAdd, Int.reduceSub, Int.reduceMul, Int.reducePow, Int.reduceNeg, Int.reduceToNat, Int.reduceLT, Int.reduceLE, Nat.reduceEqDiff, sidsB, Nat.reduceBEq, keyKD, isIntK]
    refine CallC.pure (mod_spec by' 2 hb1 hb2 (by decide) (by decide)) ?_
    generalize by' % 2 = y at *
    simp (config := { maxSteps := 1000000 }) (disch := ((try simp only [awL]); omega)) only [MW, Nat.beq_eq, ↓awU, awV, awF, ofVal, ofVal0, isShift, aggK, forall_const, ↓reduceIte, ↓reduceDIte, ↓purePost, combine, idsA, cellsA, srcA, calleeA, refsA, isScalar, scalarD, scalar0, AV.one, putL, unfA, implies_true, IntKind.signed, Nat.reduceAdd, Nat.reduceSub, Nat.reduceMul, Nat.reducePow, Nat.reduceDiv, Nat.reduceMod, Int.reduceAdd, Int.reduceSub, Int.reduceMul, Int.reducePow, Int.reduceNeg, Int.reduceToNat, Int.reduceLT, Int.reduceLE, Nat.reduceEqDiff, sidsB, Nat.reduceBEq, keyKD, isIntK]
    refine CallC.pure (rint_spec (0 - y) (by omega) (by omega)) ?_
    have hv := @int_Sm (0 - y) (by omega)
    generalize ((0 - y : Int) : Rat) = v at *
    have fl := @Fr_length a1
    have hs : (a1.set 0 v).length = c := by rw [List.length_set]; exact l1
    simp (config := { maxSteps := 1000000 }) (disch := ((try simp only [awL]); omega)) only [MW, Nat.beq_eq, fl, l1, Fr_set0, cut_Fr, ↓awU, awV, awF, ofVal, ofVal0, isShift, aggK, forall_const, ↓reduceIte, ↓reduceDIte, ↓purePost, combine, idsA, cellsA, srcA, calleeA, refsA, isScalar, scalarD, scalar0, AV.one, putL, unfA, implies_true, IntKind.signed, Nat.reduceAdd, Nat.reduceSub, Nat.reduceMul, Nat.reducePow, Nat.reduceDiv, Nat.reduceMod, Int.reduceAdd, Int.reduceSub, Int.reduceMul, Int.reducePow, Int.reduceNeg, Int.reduceToNat, Int.reduceLT, Int.reduceLE, Nat.reduceEqDiff, sidsB, Nat.reduceBEq, keyKD, isIntK]
    refine ⟨by rfl, by decide, ?_⟩
    have hw : Wok [a0, (a1.set 0 v), a2, a3] := rows_ok (by simp) (by
      intro a ha
      simp only [List.mem_cons, List.not_mem_nil, or_false] at ha
      rcases ha with rfl | rfl | rfl | rfl
      · exact k0
      · exact set0_ok k1 hv
      · exact k2
      · exact k3)
    have e0 : cut [D.sl c false (Fr a0), D.sl c false (Fr (a1.set 0 v)), D.sl c false (Fr a2), D.sl c false (Fr a3)] 0 4 = [D.sl c false (Fr a0), D.sl c false (Fr (a1.set 0 v)), D.sl c false (Fr a2), D.sl c false (Fr a3)] := rfl
    have e1 : ([.d (Mx [a0, (a1.set 0 v), a2, a3])] : List AV) = [.d (.sl 4 false [D.sl c false (Fr a0), D.sl c false (Fr (a1.set 0 v)), D.sl c false (Fr a2), D.sl c false (Fr a3)])] := by simp [Mx, MxL, hs, l0, l1, l2, l3]
    rw [e0]
    generalize [a0, (a1.set 0 v), a2, a3] = w at hw e1
    refine CallC.frozenE (best_spec hG w hw) e1.symm ?_
    obtain ⟨l, x, d, e, hR, z0, z1, z2⟩ := bestR_shape hw
    rw [hR]
    simp (config := { maxSteps := 1000000 }) (disch := ((try simp only [awL]); omega)) only [MW, Nat.beq_eq, e0, ↓awU, awV, awF, ofVal, ofVal0, isShift, aggK, forall_const, ↓reduceIte, ↓reduceDIte, ↓purePost, combine, idsA, cellsA, srcA, calleeA, refsA, isScalar, scalarD, scalar0, AV.one, putL, unfA, implies_true, IntKind.signed, Nat.reduceAdd, Nat.reduceSub, Nat.reduceMul, Nat.reducePow, Nat.reduceDiv, Nat.reduceMod, Int.reduceAdd, Int.reduceSub, Int.reduceMul, Int.reducePow, Int.reduceNeg, Int.reduceToNat, Int.reduceLT, Int.reduceLE, Nat.reduceEqDiff, sidsB, Nat.reduceBEq, keyKD, isIntK]
    refine CallC.frozenE (rBest_spec hG w hw) e1.symm ?_
    rw [hR]
    simp (config := { maxSteps := 1000000 }) (disch := ((try simp only [awL]); omega)) only [MW, Nat.beq_eq, e0, ↓awU, awV, awF, ofVal, ofVal0, isShift, aggK, forall_const, ↓reduceIte, ↓reduceDIte, ↓purePost, combine, idsA, cellsA, srcA, calleeA, refsA, isScalar, scalarD, scalar0, AV.one, putL, unfA, implies_true, IntKind.signed, Nat.reduceAdd, Nat.reduceSub, Nat.reduceMul, Nat.reducePow, Nat.reduceDiv, Nat.reduceMod, Int.reduceAdd, Int.reduceSub, Int.reduceMul, Int.reducePow, Int.reduceNeg, Int.reduceToNat, Int.reduceLT, Int.reduceLE, Nat.reduceEqDiff, sidsB, Nat.reduceBEq, keyKD, isIntK]
    refine CallC.pure (sameInts_spec l l z0 z0) ?_
    rw [decide_eq_true rfl]
    simp (config := { maxSteps := 1000000 }) (disch := ((try simp only [awL]); omega)) only [MW, Nat.beq_eq, e0, ↓awU, awV, awF, ofVal, ofVal0, isShift, aggK, forall_const, ↓reduceIte, ↓reduceDIte, ↓purePost, combine, idsA, cellsA, srcA, calleeA, refsA, isScalar, scalarD, scalar0, AV.one, putL, unfA, implies_true, IntKind.signed, Nat.reduceAdd, Nat.reduceSub, Nat.reduceMul, Nat.reducePow, Nat.reduceDiv, Nat.reduceMod, Int.reduceAdd, Int.reduceSub, Int.reduceMul, Int.reducePow, Int.reduceNeg, Int.reduceToNat, Int.reduceLT, Int.reduceLE, Nat.reduceEqDiff, sidsB, Nat.reduceBEq, keyKD, isIntK]
    refine CallC.of (same_spec x d x d z1 z2 z1 z2) (by rfl) ?_
    have es : decide (x = x ∧ d = d) = true := decide_eq_true ⟨rfl, rfl⟩
    rw [es]
    simp (config := { maxSteps := 1000000 }) (disch := ((try simp only [awL]); omega)) only [MW, Nat.beq_eq, e0, ↓awU, awV, awF, ofVal, ofVal0, isShift, aggK, forall_const, ↓reduceIte, ↓reduceDIte, ↓purePost, combine, idsA, cellsA, srcA, calleeA, refsA, isScalar, scalarD, scalar0, AV.one, putL, unfA, implies_true, IntKind.signed, Nat.reduceAdd, Nat.reduceSub, Nat.reduceMul, Nat.reducePow, Nat.reduceDiv, Nat.reduceMod, Int.reduceAdd, Int.reduceSub, Int.reduceMul, Int.reducePow, Int.reduceNeg, Int.reduceToNat, Int.reduceLT, Int.reduceLE, Nat.reduceEqDiff, sidsB, Nat.reduceBEq, keyKD, isIntK]
    refine CallC.frozenE (valid27_spec hG w hw.fvs hw.len hw.row) e1.symm ?_
    simp (config := { maxSteps := 1000000 }) (disch := ((try simp only [awL]); omega)) only [MW, Nat.beq_eq, e0, ↓awU, awV, awF, ofVal, ofVal0, isShift, aggK, forall_const, ↓reduceIte, ↓reduceDIte, ↓purePost, combine, idsA, cellsA, srcA, calleeA, refsA, isScalar, scalarD, scalar0, AV.one, putL, unfA, implies_true, IntKind.signed, Nat.reduceAdd, Nat.reduceSub, Nat.reduceMul, Nat.reducePow, Nat.reduceDiv, Nat.reduceMod, Int.reduceAdd, Int.reduceSub, Int.reduceMul, Int.reducePow, Int.reduceNeg, Int.reduceToNat, Int.reduceLT, Int.reduceLE, Nat.reduceEqDiff, sidsB, Nat.reduceBEq, keyKD, isIntK]
    refine CallC.frozenE (rvalid27_spec w hw.fvs hw.len hw.row) e1.symm ?_
    simp (config := { maxSteps := 1000000 }) (disch := ((try simp only [awL]); omega)) only [MW, Nat.beq_eq, e0, ↓awU, awV, awF, ofVal, ofVal0, isShift, aggK, forall_const, ↓reduceIte, ↓reduceDIte, ↓purePost, combine, idsA, cellsA, srcA, calleeA, refsA, isScalar, scalarD, scalar0, AV.one, putL, unfA, implies_true, IntKind.signed, Nat.reduceAdd, Nat.reduceSub, Nat.reduceMul, Nat.reducePow, Nat.reduceDiv, Nat.reduceMod, Int.reduceAdd, Int.reduceSub, Int.reduceMul, Int.reducePow, Int.reduceNeg, Int.reduceToNat, Int.reduceLT, Int.reduceLE, Nat.reduceEqDiff, sidsB, Nat.reduceBEq, keyKD, isIntK]
    refine CallC.pure (awake_spec hG) ?_
    simp (config := { maxSteps := 1000000 }) (disch := ((try simp only [awL]); omega)) only [MW, Nat.beq_eq, e0, ↓awU, awV, awF, ofVal, ofVal0, isShift, aggK, forall_const, ↓reduceIte, ↓reduceDIte, ↓purePost, combine, idsA, cellsA, srcA, calleeA, refsA, isScalar, scalarD, scalar0, AV.one, putL, unfA, implies_true, IntKind.signed, Nat.reduceAdd, Nat.reduceSub, Nat.reduceMul, Nat.reducePow, Nat.reduceDiv, Nat.reduceMod, Int.reduceAdd, Int.reduceSub, Int.reduceMul, Int.reducePow, Int.reduceNeg, Int.reduceToNat, Int.reduceLT, Int.reduceLE, Nat.reduceEqDiff, sidsB, Nat.reduceBEq, keyKD, isIntK]
  · simp (config := { maxSteps := 1000000 }) (disch := ((try simp only [awL]); omega)) only [MW, Nat.beq_eq, ↓awU, awV, awF, ofVal, ofVal0, isShift, aggK, forall_const, ↓reduceIte, ↓reduceDIte, ↓purePost, combine, idsA, cellsA, srcA, calleeA, refsA, isScalar, scalarD, scalar0, AV.one, putL, unfA, implies_true, IntKind.signed, Nat.reduceAdd, Nat.reduceSub, Nat.reduceMul, Nat.reducePow, Nat.reduceDiv, Nat.reduceMod, Int.reduceAdd, Int.reduceSub, Int.reduceMul, Int.reducePow, Int.reduceNeg, Int.reduceToNat, Int.reduceLT, Int.reduceLE, Nat.reduceEqDiff, sidsB, Nat.reduceBEq, keyKD, isIntK]
    refine CallC.pure (mod_spec by' 2 hb1 hb2 (by decide) (by decide)) ?_
    generalize by' % 2 = y at *
    simp (config := { maxSteps := 1000000 }) (disch := ((try simp only [awL]); omega)) only [MW, Nat.beq_eq, ↓awU, awV, awF, ofVal, ofVal0, isShift, aggK, forall_const, ↓reduceIte, ↓reduceDIte, ↓purePost, combine, idsA, cellsA, srcA, calleeA, refsA, isScalar, scalarD, scalar0, AV.one, putL, unfA, implies_true, IntKind.signed, Nat.reduceAdd, Nat.reduceSub, Nat.reduceMul, Nat.reducePow, Nat.reduceDiv, Nat.reduceMod, Int.reduceAdd, Int.reduceSub, Int.reduceMul, Int.reducePow, Int.reduceNeg, Int.reduceToNat, Int.reduceLT, Int.reduceLE, Nat.reduceEqDiff, sidsB, Nat.reduceBEq, keyKD, isIntK]
    refine CallC.pure (rint_spec (0 - y) (by omega) (by omega)) ?_
    have hv := @int_Sm (0 - y) (by omega)
    generalize ((0 - y : Int) : Rat) = v at *
    have fl := @Fr_length a2
    have hs : (a2.set 0 v).length = c := by rw [List.length_set]; exact l2
    simp (config := { maxSteps := 1000000 }) (disch := ((try simp only [awL]); omega)) only [MW, Nat.beq_eq, fl, l2, Fr_set0, cut_Fr, ↓awU, awV, awF, ofVal, ofVal0, isShift, aggK, forall_const, ↓reduceIte, ↓reduceDIte, ↓purePost, combine, idsA, cellsA, srcA, calleeA, refsA, isScalar, scalarD, scalar0, AV.one, putL, unfA, implies_true, IntKind.signed, Nat.reduceAdd, Nat.reduceSub, Nat.reduceMul, Nat.reducePow, Nat.reduceDiv, Nat.reduceMod, Int.reduceAdd, Int.reduceSub, Int.reduceMul, Int.reducePow, Int.reduceNeg, Int.reduceToNat, Int.reduceLT, Int.reduceLE, Nat.reduceEqDiff, sidsB, Nat.reduceBEq, keyKD, isIntK]
    refine ⟨by rfl, by decide, ?_⟩
    have hw : Wok [a0, a1, (a2.set 0 v), a3] := rows_ok (by simp) (by
      intro a ha
      simp only [List.mem_cons, List.not_mem_nil, or_false] at ha
      rcases ha with rfl | rfl | rfl | rfl
      · exact k0
      · exact k1
      · exact set0_ok k2 hv
      · exact k3)
    have e0 : cut [D.sl c false (Fr a0), D.sl c false (Fr a1), D.sl c false (Fr (a2.set 0 v)), D.sl c false (Fr a3)] 0 4 = [D.sl c false (Fr a0), D.sl c false (Fr a1), D.sl c false (Fr (a2.set 0 v)), D.sl c false (Fr a3)] := rfl
    have e1 : ([.d (Mx [a0, a1, (a2.set 0 v), a3])] : List AV) = [.d (.sl 4 false [D.sl c false (Fr a0), D.sl c false (Fr a1), D.sl c false (Fr (a2.set 0 v)), D.sl c false (Fr a3)])] := by simp [Mx, MxL, hs, l0, l1, l2, l3]
    rw [e0]
    generalize [a0, a1, (a2.set 0 v), a3] = w at hw e1
    refine CallC.frozenE (best_spec hG w hw) e1.symm ?_
    obtain ⟨l, x, d, e, hR, z0, z1, z2⟩ := bestR_shape hw
    rw [hR]
    simp (config := { maxSteps := 1000000 }) (disch := ((try simp only [awL]); omega)) only [MW, Nat.beq_eq, e0, ↓awU, awV, awF, ofVal, ofVal0, isShift, aggK, forall_const, ↓reduceIte, ↓reduceDIte, ↓purePost, combine, idsA, cellsA, srcA, calleeA, refsA, isScalar, scalarD, scalar0, AV.one, putL, unfA, implies_true, IntKind.signed, Nat.reduceAdd, Nat.reduceSub, Nat.reduceMul, Nat.reducePow, Nat.reduceDiv, Nat.reduceMod, Int.reduceAdd, Int.reduceSub, Int.reduceMul, Int.reducePow, Int.reduceNeg, Int.reduceToNat, Int.reduceLT, Int.reduceLE, Nat.reduceEqDiff, sidsB, Nat.reduceBEq, keyKD, isIntK]
    refine CallC.frozenE (rBest_spec hG w hw) e1.symm ?_
    rw [hR]
    simp (config := { maxSteps := 1000000 }) (disch := ((try simp only [awL]); omega)) only [MW, Nat.beq_eq, e0, ↓awU, awV, awF, ofVal, ofVal0, isShift, aggK, forall_const, ↓reduceIte, ↓reduceDIte, ↓purePost, combine, idsA, cellsA, srcA, calleeA, refsA, isScalar, scalarD, scalar0, AV.one, putL, unfA, implies_true, IntKind.signed, Nat.reduceAdd, Nat.reduceSub, Nat.reduceMul, Nat.reducePow, Nat.reduceDiv, Nat.reduceMod, Int.reduceAdd, Int.reduceSub, Int.reduceMul, Int.reducePow, Int.reduceNeg, Int.reduceToNat, Int.reduceLT, Int.reduceLE, Nat.reduceEqDiff, sidsB, Nat.reduceBEq, keyKD, isIntK]
    refine CallC.pure (sameInts_spec l l z0 z0) ?_
    rw [decide_eq_true rfl]
    simp (config := { maxSteps := 1000000 }) (disch := ((try simp only [awL]); omega)) only [MW, Nat.beq_eq, e0, ↓awU, awV, awF, ofVal, ofVal0, isShift, aggK, forall_const, ↓reduceIte, ↓reduceDIte, ↓purePost, combine, idsA, cellsA, srcA, calleeA, refsA, isScalar, scalarD, scalar0, AV.one, putL, unfA, implies_true, IntKind.signed, Nat.reduceAdd, Nat.reduceSub, Nat.reduceMul, Nat.reducePow, Nat.reduceDiv, Nat.reduceMod, Int.reduceAdd, Int.reduceSub, Int.reduceMul, Int.reducePow, Int.reduceNeg, Int.reduceToNat, Int.reduceLT, Int.reduceLE, Nat.reduceEqDiff, sidsB, Nat.reduceBEq, keyKD, isIntK]
    refine CallC.of (same_spec x d x d z1 z2 z1 z2) (by rfl) ?_
    have es : decide (x = x ∧ d = d) = true := decide_eq_true ⟨rfl, rfl⟩
    rw [es]
    simp (config := { maxSteps := 1000000 }) (disch := ((try simp only [awL]); omega)) only [MW, Nat.beq_eq, e0, ↓awU, awV, awF, ofVal, ofVal0, isShift, aggK, forall_const, ↓reduceIte, ↓reduceDIte, ↓purePost, combine, idsA, cellsA, srcA, calleeA, refsA, isScalar, scalarD, scalar0, AV.one, putL, unfA, implies_true, IntKind.signed, Nat.reduceAdd, Nat.reduceSub, Nat.reduceMul, Nat.reducePow, Nat.reduceDiv, Nat.reduceMod, Int.reduceAdd, Int.reduceSub, Int.reduceMul, Int.reducePow, Int.reduceNeg, Int.reduceToNat, Int.reduceLT, Int.reduceLE, Nat.reduceEqDiff, sidsB, Nat.reduceBEq, keyKD, isIntK]
    refine CallC.frozenE (valid27_spec hG w hw.fvs hw.len hw.row) e1.symm ?_
    simp (config := { maxSteps := 1000000 }) (disch := ((try simp only [awL]); omega)) only [MW, Nat.beq_eq, e0, ↓awU, awV, awF, ofVal, ofVal0, isShift, aggK, forall_const, ↓reduceIte, ↓reduceDIte, ↓purePost, combine, idsA, cellsA, srcA, calleeA, refsA, isScalar, scalarD, scalar0, AV.one, putL, unfA, implies_true, IntKind.signed, Nat.reduceAdd, Nat.reduceSub, Nat.reduceMul, Nat.reducePow, Nat.reduceDiv, Nat.reduceMod, Int.reduceAdd, Int.reduceSub, Int.reduceMul, Int.reducePow, Int.reduceNeg, Int.reduceToNat, Int.reduceLT, Int.reduceLE, Nat.reduceEqDiff, sidsB, Nat.reduceBEq, keyKD, isIntK]
    refine CallC.frozenE (rvalid27_spec w hw.fvs hw.len hw.row) e1.symm ?_
    simp (config := { maxSteps := 1000000 }) (disch := ((try simp only [awL]); omega)) only [MW, Nat.beq_eq, e0, ↓awU, awV, awF, ofVal, ofVal0, isShift, aggK, forall_const, ↓reduceIte, ↓reduceDIte, ↓purePost, combine, idsA, cellsA, srcA, calleeA, refsA, isScalar, scalarD, scalar0, AV.one, putL, unfA, implies_true, IntKind.signed, Nat.reduceAdd, Nat.reduceSub, Nat.reduceMul, Nat.reducePow, Nat.reduceDiv, Nat.reduceMod, Int.reduceAdd, Int.reduceSub, Int.reduceMul, Int.reducePow, Int.reduceNeg, Int.reduceToNat, Int.reduceLT, Int.reduceLE, Nat.reduceEqDiff, sidsB, Nat.reduceBEq, keyKD, isIntK]
    refine CallC.pure (awake_spec hG) ?_
    simp (config := { maxSteps := 1000000 }) (disch := ((try simp only [awL]); omega)) only [MW, Nat.beq_eq, e0, ↓awU, awV, awF, ofVal, ofVal0, isShift, aggK, forall_const, ↓reduceIte, ↓reduceDIte, ↓purePost, combine, idsA, cellsA, srcA, calleeA, refsA, isScalar, scalarD, scalar0, AV.one, putL, unfA, implies_true, IntKind.signed, Nat.reduceAdd, Nat.reduceSub, Nat.reduceMul, Nat.reducePow, Nat.reduceDiv, Nat.reduceMod, Int.reduceAdd, Int.reduceSub, Int.reduceMul, Int.reducePow, Int.reduceNeg, Int.reduceToNat, Int.reduceLT, Int.reduceLE, Nat.reduceEqDiff, sidsB, Nat.reduceBEq, keyKD, isIntK]
  · simp (config := { maxSteps := 1000000 }) (disch := ((try simp only [awL]); omega)) only [MW, Nat.beq_eq, ↓awU, awV, awF, ofVal, ofVal0, isShift, aggK, forall_const, ↓reduceIte, ↓reduceDIte, ↓purePost, combine, idsA, cellsA, srcA, calleeA, refsA, isScalar, scalarD, scalar0, AV.one, putL, unfA, implies_true, IntKind.signed, Nat.reduceAdd, Nat.reduceSub, Nat.reduceMul, Nat.reducePow, Nat.reduceDiv, Nat.reduceMod, Int.reduceAdd, Int.reduceSub, Int.reduceMul, Int.reducePow, Int.reduceNeg, Int.reduceToNat, Int.reduceLT, Int.reduceLE, Nat.reduceEqDiff, sidsB, Nat.reduceBEq, keyKD, isIntK]
    refine CallC.pure (mod_spec by' 2 hb1 hb2 (by decide) (by decide)) ?_
    generalize by' % 2 = y at *
    simp (config := { maxSteps := 1000000 }) (disch := ((try simp only [awL]); omega)) only [MW, Nat.beq_eq, ↓awU, awV, awF, ofVal, ofVal0, isShift, aggK, forall_const, ↓reduceIte, ↓reduceDIte, ↓purePost, combine, idsA, cellsA, srcA, calleeA, refsA, isScalar, scalarD, scalar0, AV.one, putL, unfA, implies_true, IntKind.signed, Nat.reduceAdd, Nat.reduceSub, Nat.reduceMul, Nat.reducePow, Nat.reduceDiv, Nat.reduceMod, Int.reduceAdd, Int.reduceSub, Int.reduceMul, Int.reducePow, Int.reduceNeg, Int.reduceToNat, Int.reduceLT, Int.reduceLE, Nat.reduceEqDiff, sidsB, Nat.reduceBEq, keyKD, isIntK]
    refine CallC.pure (rint_spec (0 - y) (by omega) (by omega)) ?_
    have hv := @int_Sm (0 - y) (by omega)
    generalize ((0 - y : Int) : Rat) = v at *
    have fl := @Fr_length a3
    have hs : (a3.set 0 v).length = c := by rw [List.length_set]; exact l3
    simp (config := { maxSteps := 1000000 }) (disch := ((try simp only [awL]); omega)) only [MW, Nat.beq_eq, fl, l3, Fr_set0, cut_Fr, ↓awU, awV, awF, ofVal, ofVal0, isShift, aggK, forall_const, ↓reduceIte, ↓reduceDIte, ↓purePost, combine, idsA, cellsA, srcA, calleeA, refsA, isScalar, scalarD, scalar0, AV.one, putL, unfA, implies_true, IntKind.signed, Nat.reduceAdd, Nat.reduceSub, Nat.reduceMul, Nat.reducePow, Nat.reduceDiv, Nat.reduceMod, Int.reduceAdd, Int.reduceSub, Int.reduceMul, Int.reducePow, Int.reduceNeg, Int.reduceToNat, Int.reduceLT, Int.reduceLE, Nat.reduceEqDiff, sidsB, Nat.reduceBEq, keyKD, isIntK]
    refine ⟨by rfl, by decide, ?_⟩
    have hw : Wok [a0, a1, a2, (a3.set 0 v)] := rows_ok (by simp) (by
      intro a ha
      simp only [List.mem_cons, List.not_mem_nil, or_false] at ha
      rcases ha with rfl | rfl | rfl | rfl
      · exact k0
      · exact k1
      · exact k2
      · exact set0_ok k3 hv)
    have e0 : cut [D.sl c false (Fr a0), D.sl c false (Fr a1), D.sl c false (Fr a2), D.sl c false (Fr (a3.set 0 v))] 0 4 = [D.sl c false (Fr a0), D.sl c false (Fr a1), D.sl c false (Fr a2), D.sl c false (Fr (a3.set 0 v))] := rfl
    have e1 : ([.d (Mx [a0, a1, a2, (a3.set 0 v)])] : List AV) = [.d (.sl 4 false [D.sl c false (Fr a0), D.sl c false (Fr a1), D.sl c false (Fr a2), D.sl c false (Fr (a3.set 0 v))])] := by simp [Mx, MxL, hs, l0, l1, l2, l3]
    rw [e0]
    generalize [a0, a1, a2, (a3.set 0 v)] = w at hw e1
    refine CallC.frozenE (best_spec hG w hw) e1.symm ?_
    obtain ⟨l, x, d, e, hR, z0, z1, z2⟩ := bestR_shape hw
    rw [hR]
    simp (config := { maxSteps := 1000000 }) (disch := ((try simp only [awL]); omega)) only [MW, Nat.beq_eq, e0, ↓awU, awV, awF, ofVal, ofVal0, isShift, aggK, forall_const, ↓reduceIte, ↓reduceDIte, ↓purePost, combine, idsA, cellsA, srcA, calleeA, refsA, isScalar, scalarD, scalar0, AV.one, putL, unfA, implies_true, IntKind.signed, Nat.reduceAdd, Nat.reduceSub, Nat.reduceMul, Nat.reducePow, Nat.reduceDiv, Nat.reduceMod, Int.reduceAdd, Int.reduceSub, Int.reduceMul, Int.reducePow, Int.reduceNeg, Int.reduceToNat, Int.reduceLT, Int.reduceLE, Nat.reduceEqDiff, sidsB, Nat.reduceBEq, keyKD, isIntK]
    refine CallC.frozenE (rBest_spec hG w hw) e1.symm ?_
    rw [hR]
    simp (config := { maxSteps := 1000000 }) (disch := ((try simp only [awL]); omega)) only [MW, Nat.beq_eq, e0, ↓awU, awV, awF, ofVal, ofVal0, isShift, aggK, forall_const, ↓reduceIte, ↓reduceDIte, ↓purePost, combine, idsA, cellsA, srcA, calleeA, refsA, isScalar, scalarD, scalar0, AV.one, putL, unfA, implies_true, IntKind.signed, Nat.reduceAdd, Nat.reduceSub, Nat.reduceMul, Nat.reducePow, Nat.reduceDiv, Nat.reduceMod, Int.reduceAdd, Int.reduceSub, Int.reduceMul, Int.reducePow, Int.reduceNeg, Int.reduceToNat, Int.reduceLT, Int.reduceLE, Nat.reduceEqDiff, sidsB, Nat.reduceBEq, keyKD, isIntK]
    refine CallC.pure (sameInts_spec l l z0 z0) ?_
    rw [decide_eq_true rfl]
    simp (config := { maxSteps := 1000000 }) (disch := ((try simp only [awL]); omega)) only [MW, Nat.beq_eq, e0, ↓awU, awV, awF, ofVal, ofVal0, isShift, aggK, forall_const, ↓reduceIte, ↓reduceDIte, ↓purePost, combine, idsA, cellsA, srcA, calleeA, refsA, isScalar, scalarD, scalar0, AV.one, putL, unfA, implies_true, IntKind.signed, Nat.reduceAdd, Nat.reduceSub, Nat.reduceMul, Nat.reducePow, Nat.reduceDiv, Nat.reduceMod, Int.reduceAdd, Int.reduceSub, Int.reduceMul, Int.reducePow, Int.reduceNeg, Int.reduceToNat, Int.reduceLT, Int.reduceLE, Nat.reduceEqDiff, sidsB, Nat.reduceBEq, keyKD, isIntK]
    refine CallC.of (same_spec x d x d z1 z2 z1 z2) (by rfl) ?_
    have es : decide (x = x ∧ d = d) = true := decide_eq_true ⟨rfl, rfl⟩
    rw [es]
    simp (config := { maxSteps := 1000000 }) (disch := ((try simp only [awL]); omega)) only [MW, Nat.beq_eq, e0, ↓awU, awV, awF, ofVal, ofVal0, isShift, aggK, forall_const, ↓reduceIte, ↓reduceDIte, ↓purePost, combine, idsA, cellsA, srcA, calleeA, refsA, isScalar, scalarD, scalar0, AV.one, putL, unfA, implies_true, IntKind.signed, Nat.reduceAdd, Nat.reduceSub, Nat.reduceMul, Nat.reducePow, Nat.reduceDiv, Nat.reduceMod, Int.reduceAdd, Int.reduceSub, Int.reduceMul, Int.reducePow, Int.reduceNeg, Int.reduceToNat, Int.reduceLT, Int.reduceLE, Nat.reduceEqDiff, sidsB, Nat.reduceBEq, keyKD, isIntK]
    refine CallC.frozenE (valid27_spec hG w hw.fvs hw.len hw.row) e1.symm ?_
    simp (config := { maxSteps := 1000000 }) (disch := ((try simp only [awL]); omega)) only [MW, Nat.beq_eq, e0, ↓awU, awV, awF, ofVal, ofVal0, isShift, aggK, forall_const, ↓reduceIte, ↓reduceDIte, ↓purePost, combine, idsA, cellsA, srcA, calleeA, refsA, isScalar, scalarD, scalar0, AV.one, putL, unfA, implies_true, IntKind.signed, Nat.reduceAdd, Nat.reduceSub, Nat.reduceMul, Nat.reducePow, Nat.reduceDiv, Nat.reduceMod, Int.reduceAdd, Int.reduceSub, Int.reduceMul, Int.reducePow, Int.reduceNeg, Int.reduceToNat, Int.reduceLT, Int.reduceLE, Nat.reduceEqDiff, sidsB, Nat.reduceBEq, keyKD, isIntK]
    refine CallC.frozenE (rvalid27_spec w hw.fvs hw.len hw.row) e1.symm ?_
    simp (config := { maxSteps := 1000000 }) (disch := ((try simp only [awL]); omega)) only [MW, Nat.beq_eq, e0, ↓awU, awV, awF, ofVal, ofVal0, isShift, aggK, forall_const, ↓reduceIte, ↓reduceDIte, ↓purePost, combine, idsA, cellsA, srcA, calleeA, refsA, isScalar, scalarD, scalar0, AV.one, putL, unfA, implies_true, IntKind.signed, Nat.reduceAdd, Nat.reduceSub, Nat.reduceMul, Nat.reducePow, Nat.reduceDiv, Nat.reduceMod, Int.reduceAdd, Int.reduceSub, Int.reduceMul, Int.reducePow, Int.reduceNeg, Int.reduceToNat, Int.reduceLT, Int.reduceLE, Nat.reduceEqDiff, sidsB, Nat.reduceBEq, keyKD, isIntK]
    refine CallC.pure (awake_spec hG) ?_
    simp (config := { maxSteps := 1000000 }) (disch := ((try simp only [awL]); omega)) only [MW, Nat.beq_eq, e0, ↓awU, awV, awF, ofVal, ofVal0, isShift, aggK, forall_const, ↓reduceIte, ↓reduceDIte, ↓purePost, combine, idsA, cellsA, srcA, calleeA, refsA, isScalar, scalarD, scalar0, AV.one, putL, unfA, implies_true, IntKind.signed, Nat.reduceAdd, Nat.reduceSub, Nat.reduceMul, Nat.reducePow, Nat.reduceDiv, Nat.reduceMod, Int.reduceAdd, Int.reduceSub, Int.reduceMul, Int.reducePow, Int.reduceNeg, Int.reduceToNat, Int.reduceLT, Int.reduceLE, Nat.reduceEqDiff, sidsB, Nat.reduceBEq, keyKD, isIntK]
end Go.Proofs.YtkppgdialedoeaaDoor

namespace Go.Proofs.YtkppgdialedoeaaDoor
open Go Go.Proofs Go.Abs
variable {G : Globals}
set_option maxHeartbeats 8000000 in
set_option maxRecDepth 100000 in
theorem best_law (hG : HG G) (t : List Int) (ht : OkI t) (what pos by' : Int) (hw1 : -9223372036854775808 ≤ what) (hw2 : what ≤ 9223372036854775807) (hp1 : -9223372036854775808 ≤ pos) (hp2 : pos ≤ 9223372036854775807) (hb1 : -9223372036854775808 ≤ by') (hb2 : by' ≤ 9223372036854775807) :
    Ctr Tryd.prog G 3 [.d (.sl t.length false (ints .i64 t)), .d (.int .i64 what), .d (.int .i64 pos), .d (.int .i64 by')] [] (.d (.bool true)) [] := by
  by_cases hl : t.length ≤ 500
  · have hT : OkT t := ⟨hl, ht⟩
    have n1 := @nx_range t 0 5 (by decide)
    have n2 := @nx_range t 1 5 (by decide)
    obtain ⟨r, hr⟩ : ∃ r : Nat, nx t 0 5 = r := ⟨(nx t 0 5).toNat, by omega⟩
    obtain ⟨c, hc⟩ : ∃ c : Nat, nx t 1 5 = c := ⟨(nx t 1 5).toNat, by omega⟩
    by_cases h3 : what % 8 = 3
    · by_cases h0 : r = 0 ∨ c = 0
      · exact best_law3 hG t hT what pos by' hw1 hw2 r c hr hc h3 h0
      · have hc0 : 0 < c := by omega
        obtain rfl | rfl | rfl | rfl : r = 1 ∨ r = 2 ∨ r = 3 ∨ r = 4 := by omega
        · exact best_lawW1 hG t hT what pos by' hw1 hw2 hp1 hp2 hb1 hb2 c hr hc h3 hc0
        · exact best_lawW2 hG t hT what pos by' hw1 hw2 hp1 hp2 hb1 hb2 c hr hc h3 hc0
        · exact best_lawW3 hG t hT what pos by' hw1 hw2 hp1 hp2 hb1 hb2 c hr hc h3 hc0
        · exact best_lawW4 hG t hT what pos by' hw1 hw2 hp1 hp2 hb1 hb2 c hr hc h3 hc0
    · by_cases h2 : what % 8 = 2
      · exact best_law2 hG t hT what pos by' hw1 hw2 r c hr hc h2
      · exact best_law0 hG t hT what pos by' hw1 hw2 hb1 hb2 r c hr hc h2 h3
  · refine Ctr.pure (M := M0) hmix Tryd.func3 rfl go3 ?_
    simp (config := { maxSteps := 1000000 }) (disch := ((try simp only [awL]); omega)) only [Tryd.f3, ↓awU, awV, awF, ofVal, ofVal0, isShift, aggK, forall_const, ↓reduceIte, ↓reduceDIte, ↓purePost, combine, idsA, cellsA, srcA, calleeA, refsA, isScalar, scalarD, scalar0, AV.one, putL, unfA, implies_true, IntKind.signed, Nat.reduceAdd, Nat.reduceSub, Nat.reduceMul, Nat.reducePow, Nat.reduceDiv, Nat.reduceMod, Int.reduceAdd, Int.reduceSub, Int.reduceMul, Int.reducePow, Int.reduceNeg, Int.reduceToNat, Int.reduceLT, Int.reduceLE, Nat.reduceEqDiff, sidsB, Nat.reduceBEq, keyKD, isIntK]
    refine CallC.pure (light_spec t) ?_
    rw [decide_eq_false hl]
    simp (config := { maxSteps := 1000000 }) (disch := ((try simp only [awL]); omega)) only [↓awU, awV, awF, ofVal, ofVal0, isShift, aggK, forall_const, ↓reduceIte, ↓reduceDIte, ↓purePost, combine, idsA, cellsA, srcA, calleeA, refsA, isScalar, scalarD, scalar0, AV.one, putL, unfA, implies_true, IntKind.signed, Nat.reduceAdd, Nat.reduceSub, Nat.reduceMul, Nat.reducePow, Nat.reduceDiv, Nat.reduceMod, Int.reduceAdd, Int.reduceSub, Int.reduceMul, Int.reducePow, Int.reduceNeg, Int.reduceToNat, Int.reduceLT, Int.reduceLE, Nat.reduceEqDiff, sidsB, Nat.reduceBEq, keyKD, isIntK]
    refine CallC.pure (awake_spec hG) ?_
    simp (config := { maxSteps := 1000000 }) (disch := ((try simp only [awL]); omega)) only [↓awU, awV, awF, ofVal, ofVal0, isShift, aggK, forall_const, ↓reduceIte, ↓reduceDIte, ↓purePost, combine, idsA, cellsA, srcA, calleeA, refsA, isScalar, scalarD, scalar0, AV.one, putL, unfA, implies_true, IntKind.signed, Nat.reduceAdd, Nat.reduceSub, Nat.reduceMul, Nat.reducePow, Nat.reduceDiv, Nat.reduceMod, Int.reduceAdd, Int.reduceSub, Int.reduceMul, Int.reducePow, Int.reduceNeg, Int.reduceToNat, Int.reduceLT, Int.reduceLE, Nat.reduceEqDiff, sidsB, Nat.reduceBEq, keyKD, isIntK]
end Go.Proofs.YtkppgdialedoeaaDoor
