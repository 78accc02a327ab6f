/-
  Contracts of the functions, one after another.
-/
import Derived.Test.YtpnhbjabnnibcaaMb1
import Derived.Shelf.SortM.Plain
import Derived.Shelf.SortM.SortNone
import Derived.Ground.SlgmProg
set_option linter.all false
namespace Go.Proofs.Ytpnhbjabnnibcaa
open Go Go.Proofs Go.Abs
variable {G : Globals}
/-! The reference: similarity of tokens, rules. -/
theorem tokG_length : ∀ (l cur : List UInt8), (tokG cur l).length ≤ l.length + 1
  | [], cur => by unfold tokG; split <;> simp
  | c :: l, cur => by
    have h1 := tokG_length l []
    have h2 := tokG_length l (cur ++ [c])
    unfold tokG
    split
    · split
      · simp only [List.length_cons]; omega
      · simp only [List.length_cons]; omega
    · simp only [List.length_cons]; omega
theorem tokL_length (s : List UInt8) : (tokL s).length ≤ s.length + 1 := by
  have := tokG_length (s.map foldB) []
  rw [List.length_map] at this
  exact this
abbrev tokS (s : List UInt8) : List (List UInt8) := setL (tokL s)
theorem tokS_length (s : List UInt8) : (tokS s).length ≤ s.length + 1 := Nat.le_trans (setL_length _ _ rfl) (tokL_length s)
set_option maxRecDepth 100000 in
theorem rtoks_spec (a b : List UInt8) (ha : a.length ≤ 10000) (hb : b.length ≤ 10000) : Ctr Try.prog G 20 [.d (S a), .d (S b)] [] (.d (.tup [.int .i64 (comB (tokS a) (tokS b) : Nat), .int .i64 (uniB (tokS a) (tokS b))])) [] := by
  have la := tokL_length a
  have lb := tokL_length b
  have sa := tokS_length a
  have sb := tokS_length b
  refine Ctr.pure (M := M0) hmix Try.func20 rfl go20 ?_
  simp (config := { maxSteps := 1000000 }) (disch := ((try simp only [awL]); omega)) only [nextC_more, nextC_over, bs_size, bs_extract, bs_toList, bs_append, byteAt_bs, bs_cells, nums_length, nums_getD, Try.f20, ↓awU, awV, awF, ofVal, ofVal0, isShift, aggK, forall_const, ↓reduceIte, ↓reduceDIte, ↓purePost, combine, idsA, cellsA, numsOf, srcA, calleeA, refsA, isScalar, scalarD, scalar0, AV.one, putL, unfA, implies_true, IntKind.signed, Nat.reduceAdd, Nat.reduceSub, Nat.reduceMul, Nat.reducePow, Nat.reduceDiv, Nat.reduceMod, Int.reduceAdd, Int.reduceSub, Int.reduceMul, Int.reducePow, Int.reduceNeg, Int.reduceToNat, Int.reduceLT, Int.reduceLE, Nat.reduceEqDiff, sidsB, Nat.reduceBEq, keyKD, isIntK, aggD, aggL, eqKs]
  refine CallC.pure (rtokens_spec a (by omega)) ?_
  simp (config := { maxSteps := 1000000 }) (disch := ((try simp only [awL]); omega)) only [nextC_more, nextC_over, bs_size, bs_extract, bs_toList, bs_append, byteAt_bs, bs_cells, nums_length, nums_getD, ↓awU, awV, awF, ofVal, ofVal0, isShift, aggK, forall_const, ↓reduceIte, ↓reduceDIte, ↓purePost, combine, idsA, cellsA, numsOf, srcA, calleeA, refsA, isScalar, scalarD, scalar0, AV.one, putL, unfA, implies_true, IntKind.signed, Nat.reduceAdd, Nat.reduceSub, Nat.reduceMul, Nat.reducePow, Nat.reduceDiv, Nat.reduceMod, Int.reduceAdd, Int.reduceSub, Int.reduceMul, Int.reducePow, Int.reduceNeg, Int.reduceToNat, Int.reduceLT, Int.reduceLE, Nat.reduceEqDiff, sidsB, Nat.reduceBEq, keyKD, isIntK, aggD, aggL, eqKs]
  refine CallC.of (rset_spec (tokL a) false (by omega)) (by rfl) ?_
  simp (config := { maxSteps := 1000000 }) (disch := ((try simp only [awL]); omega)) only [nextC_more, nextC_over, bs_size, bs_extract, bs_toList, bs_append, byteAt_bs, bs_cells, nums_length, nums_getD, ↓awU, awV, awF, ofVal, ofVal0, isShift, aggK, forall_const, ↓reduceIte, ↓reduceDIte, ↓purePost, combine, idsA, cellsA, numsOf, srcA, calleeA, refsA, isScalar, scalarD, scalar0, AV.one, putL, unfA, implies_true, IntKind.signed, Nat.reduceAdd, Nat.reduceSub, Nat.reduceMul, Nat.reducePow, Nat.reduceDiv, Nat.reduceMod, Int.reduceAdd, Int.reduceSub, Int.reduceMul, Int.reducePow, Int.reduceNeg, Int.reduceToNat, Int.reduceLT, Int.reduceLE, Nat.reduceEqDiff, sidsB, Nat.reduceBEq, keyKD, isIntK, aggD, aggL, eqKs]
  refine CallC.pure (rtokens_spec b (by omega)) ?_
  simp (config := { maxSteps := 1000000 }) (disch := ((try simp only [awL]); omega)) only [nextC_more, nextC_over, bs_size, bs_extract, bs_toList, bs_append, byteAt_bs, bs_cells, nums_length, nums_getD, ↓awU, awV, awF, ofVal, ofVal0, isShift, aggK, forall_const, ↓reduceIte, ↓reduceDIte, ↓purePost, combine, idsA, cellsA, numsOf, srcA, calleeA, refsA, isScalar, scalarD, scalar0, AV.one, putL, unfA, implies_true, IntKind.signed, Nat.reduceAdd, Nat.reduceSub, Nat.reduceMul, Nat.reducePow, Nat.reduceDiv, Nat.reduceMod, Int.reduceAdd, Int.reduceSub, Int.reduceMul, Int.reducePow, Int.reduceNeg, Int.reduceToNat, Int.reduceLT, Int.reduceLE, Nat.reduceEqDiff, sidsB, Nat.reduceBEq, keyKD, isIntK, aggD, aggL, eqKs]
  refine CallC.of (rset_spec (tokL b) false (by omega)) (by rfl) ?_
  simp (config := { maxSteps := 1000000 }) (disch := ((try simp only [awL]); omega)) only [nextC_more, nextC_over, bs_size, bs_extract, bs_toList, bs_append, byteAt_bs, bs_cells, nums_length, nums_getD, ↓awU, awV, awF, ofVal, ofVal0, isShift, aggK, forall_const, ↓reduceIte, ↓reduceDIte, ↓purePost, combine, idsA, cellsA, numsOf, srcA, calleeA, refsA, isScalar, scalarD, scalar0, AV.one, putL, unfA, implies_true, IntKind.signed, Nat.reduceAdd, Nat.reduceSub, Nat.reduceMul, Nat.reducePow, Nat.reduceDiv, Nat.reduceMod, Int.reduceAdd, Int.reduceSub, Int.reduceMul, Int.reducePow, Int.reduceNeg, Int.reduceToNat, Int.reduceLT, Int.reduceLE, Nat.reduceEqDiff, sidsB, Nat.reduceBEq, keyKD, isIntK, aggD, aggL, eqKs]
  refine CallC.of (rcommon_spec (tokS a) (tokS b) false false (by omega) (by omega)) (by rfl) ?_
  simp (config := { maxSteps := 1000000 }) (disch := ((try simp only [awL]); omega)) only [nextC_more, nextC_over, bs_size, bs_extract, bs_toList, bs_append, byteAt_bs, bs_cells, nums_length, nums_getD, ↓awU, awV, awF, ofVal, ofVal0, isShift, aggK, forall_const, ↓reduceIte, ↓reduceDIte, ↓purePost, combine, idsA, cellsA, numsOf, srcA, calleeA, refsA, isScalar, scalarD, scalar0, AV.one, putL, unfA, implies_true, IntKind.signed, Nat.reduceAdd, Nat.reduceSub, Nat.reduceMul, Nat.reducePow, Nat.reduceDiv, Nat.reduceMod, Int.reduceAdd, Int.reduceSub, Int.reduceMul, Int.reducePow, Int.reduceNeg, Int.reduceToNat, Int.reduceLT, Int.reduceLE, Nat.reduceEqDiff, sidsB, Nat.reduceBEq, keyKD, isIntK, aggD, aggL, eqKs]
  refine CallC.of (runion_spec (tokS a) (tokS b) false false (by omega) (by omega)) (by rfl) ?_
  simp (config := { maxSteps := 1000000 }) (disch := ((try simp only [awL]); omega)) only [nextC_more, nextC_over, bs_size, bs_extract, bs_toList, bs_append, byteAt_bs, bs_cells, nums_length, nums_getD, ↓awU, awV, awF, ofVal, ofVal0, isShift, aggK, forall_const, ↓reduceIte, ↓reduceDIte, ↓purePost, combine, idsA, cellsA, numsOf, srcA, calleeA, refsA, isScalar, scalarD, scalar0, AV.one, putL, unfA, implies_true, IntKind.signed, Nat.reduceAdd, Nat.reduceSub, Nat.reduceMul, Nat.reducePow, Nat.reduceDiv, Nat.reduceMod, Int.reduceAdd, Int.reduceSub, Int.reduceMul, Int.reducePow, Int.reduceNeg, Int.reduceToNat, Int.reduceLT, Int.reduceLE, Nat.reduceEqDiff, sidsB, Nat.reduceBEq, keyKD, isIntK, aggD, aggL, eqKs]
  try rfl
abbrev Ru (kind lim num den : Int) : D := .agg [.int .i64 kind, .int .i64 lim, .int .i64 num, .int .i64 den]
def okR (kind lim num den : Int) : Bool := decide ((kind = 1 ∧ lim = 0 ∧ num = 0 ∧ den = 0) ∨ (kind = 2 ∧ 0 ≤ lim ∧ lim ≤ 8 ∧ num = 0 ∧ den = 0) ∨ (kind = 3 ∧ lim = 0 ∧ 1 ≤ num ∧ num ≤ den ∧ den ≤ 1000))
set_option maxHeartbeats 4000000 in
set_option maxRecDepth 100000 in
theorem rvalid_spec (kind lim num den : Int) : Ctr Try.prog G 24 [.d (Ru kind lim num den)] [] (.d (.bool (okR kind lim num den))) [] := by
  refine Ctr.pure (M := M0) hmix Try.func24 rfl go24 ?_
  rcases (by omega : kind = 1 ∨ kind = 2 ∨ kind = 3 ∨ (kind ≠ 1 ∧ kind ≠ 2 ∧ kind ≠ 3)) with rfl | rfl | rfl | ⟨h1, h2, h3⟩
  · by_cases e1 : lim = 0
    · by_cases e2 : num = 0
      · by_cases e3 : den = 0
        · have e : okR 1 lim num den = true := decide_eq_true (by omega)
          rw [e]
          simp (config := { maxSteps := 1000000 }) (disch := ((try simp only [awL]); omega)) only [Try.f24, ↓awU, awV, awF, ofVal, ofVal0, isShift, aggK, forall_const, ↓reduceIte, ↓reduceDIte, ↓purePost, combine, idsA, cellsA, numsOf, srcA, calleeA, refsA, isScalar, scalarD, scalar0, AV.one, putL, unfA, implies_true, IntKind.signed, Nat.reduceAdd, Nat.reduceSub, Nat.reduceMul, Nat.reducePow, Nat.reduceDiv, Nat.reduceMod, Int.reduceAdd, Int.reduceSub, Int.reduceMul, Int.reducePow, Int.reduceNeg, Int.reduceToNat, Int.reduceLT, Int.reduceLE, Nat.reduceEqDiff, sidsB, Nat.reduceBEq, keyKD, isIntK, aggD, aggL, eqKs]
          try rfl
        · have e : okR 1 lim num den = false := decide_eq_false (by omega)
          rw [e]
          simp (config := { maxSteps := 1000000 }) (disch := ((try simp only [awL]); omega)) only [Try.f24, ↓awU, awV, awF, ofVal, ofVal0, isShift, aggK, forall_const, ↓reduceIte, ↓reduceDIte, ↓purePost, combine, idsA, cellsA, numsOf, srcA, calleeA, refsA, isScalar, scalarD, scalar0, AV.one, putL, unfA, implies_true, IntKind.signed, Nat.reduceAdd, Nat.reduceSub, Nat.reduceMul, Nat.reducePow, Nat.reduceDiv, Nat.reduceMod, Int.reduceAdd, Int.reduceSub, Int.reduceMul, Int.reducePow, Int.reduceNeg, Int.reduceToNat, Int.reduceLT, Int.reduceLE, Nat.reduceEqDiff, sidsB, Nat.reduceBEq, keyKD, isIntK, aggD, aggL, eqKs]
          try rfl
      · have e : okR 1 lim num den = false := decide_eq_false (by omega)
        rw [e]
        simp (config := { maxSteps := 1000000 }) (disch := ((try simp only [awL]); omega)) only [Try.f24, ↓awU, awV, awF, ofVal, ofVal0, isShift, aggK, forall_const, ↓reduceIte, ↓reduceDIte, ↓purePost, combine, idsA, cellsA, numsOf, srcA, calleeA, refsA, isScalar, scalarD, scalar0, AV.one, putL, unfA, implies_true, IntKind.signed, Nat.reduceAdd, Nat.reduceSub, Nat.reduceMul, Nat.reducePow, Nat.reduceDiv, Nat.reduceMod, Int.reduceAdd, Int.reduceSub, Int.reduceMul, Int.reducePow, Int.reduceNeg, Int.reduceToNat, Int.reduceLT, Int.reduceLE, Nat.reduceEqDiff, sidsB, Nat.reduceBEq, keyKD, isIntK, aggD, aggL, eqKs]
        try rfl
    · have e : okR 1 lim num den = false := decide_eq_false (by omega)
      rw [e]
      simp (config := { maxSteps := 1000000 }) (disch := ((try simp only [awL]); omega)) only [Try.f24, ↓awU, awV, awF, ofVal, ofVal0, isShift, aggK, forall_const, ↓reduceIte, ↓reduceDIte, ↓purePost, combine, idsA, cellsA, numsOf, srcA, calleeA, refsA, isScalar, scalarD, scalar0, AV.one, putL, unfA, implies_true, IntKind.signed, Nat.reduceAdd, Nat.reduceSub, Nat.reduceMul, Nat.reducePow, Nat.reduceDiv, Nat.reduceMod, Int.reduceAdd, Int.reduceSub, Int.reduceMul, Int.reducePow, Int.reduceNeg, Int.reduceToNat, Int.reduceLT, Int.reduceLE, Nat.reduceEqDiff, sidsB, Nat.reduceBEq, keyKD, isIntK, aggD, aggL, eqKs]
      try rfl
  · rcases (by omega : (lim < 0) ∨ (0 ≤ lim ∧ 8 < lim) ∨ ((0 ≤ lim ∧ lim ≤ 8) ∧ num ≠ 0) ∨ ((0 ≤ lim ∧ lim ≤ 8) ∧ num = 0 ∧ den ≠ 0) ∨ ((0 ≤ lim ∧ lim ≤ 8) ∧ num = 0 ∧ den = 0)) with q | q | q | q | q
    · have e : okR 2 lim num den = false := decide_eq_false (by omega)
      rw [e]
      simp (config := { maxSteps := 1000000 }) (disch := ((try simp only [awL]); omega)) only [Try.f24, ↓awU, awV, awF, ofVal, ofVal0, isShift, aggK, forall_const, ↓reduceIte, ↓reduceDIte, ↓purePost, combine, idsA, cellsA, numsOf, srcA, calleeA, refsA, isScalar, scalarD, scalar0, AV.one, putL, unfA, implies_true, IntKind.signed, Nat.reduceAdd, Nat.reduceSub, Nat.reduceMul, Nat.reducePow, Nat.reduceDiv, Nat.reduceMod, Int.reduceAdd, Int.reduceSub, Int.reduceMul, Int.reducePow, Int.reduceNeg, Int.reduceToNat, Int.reduceLT, Int.reduceLE, Nat.reduceEqDiff, sidsB, Nat.reduceBEq, keyKD, isIntK, aggD, aggL, eqKs]
      try rfl
    · have e : okR 2 lim num den = false := decide_eq_false (by omega)
      rw [e]
      simp (config := { maxSteps := 1000000 }) (disch := ((try simp only [awL]); omega)) only [Try.f24, ↓awU, awV, awF, ofVal, ofVal0, isShift, aggK, forall_const, ↓reduceIte, ↓reduceDIte, ↓purePost, combine, idsA, cellsA, numsOf, srcA, calleeA, refsA, isScalar, scalarD, scalar0, AV.one, putL, unfA, implies_true, IntKind.signed, Nat.reduceAdd, Nat.reduceSub, Nat.reduceMul, Nat.reducePow, Nat.reduceDiv, Nat.reduceMod, Int.reduceAdd, Int.reduceSub, Int.reduceMul, Int.reducePow, Int.reduceNeg, Int.reduceToNat, Int.reduceLT, Int.reduceLE, Nat.reduceEqDiff, sidsB, Nat.reduceBEq, keyKD, isIntK, aggD, aggL, eqKs]
      try rfl
    · have e : okR 2 lim num den = false := decide_eq_false (by omega)
      rw [e]
      simp (config := { maxSteps := 1000000 }) (disch := ((try simp only [awL]); omega)) only [Try.f24, ↓awU, awV, awF, ofVal, ofVal0, isShift, aggK, forall_const, ↓reduceIte, ↓reduceDIte, ↓purePost, combine, idsA, cellsA, numsOf, srcA, calleeA, refsA, isScalar, scalarD, scalar0, AV.one, putL, unfA, implies_true, IntKind.signed, Nat.reduceAdd, Nat.reduceSub, Nat.reduceMul, Nat.reducePow, Nat.reduceDiv, Nat.reduceMod, Int.reduceAdd, Int.reduceSub, Int.reduceMul, Int.reducePow, Int.reduceNeg, Int.reduceToNat, Int.reduceLT, Int.reduceLE, Nat.reduceEqDiff, sidsB, Nat.reduceBEq, keyKD, isIntK, aggD, aggL, eqKs]
      try rfl
    · have e : okR 2 lim num den = false := decide_eq_false (by omega)
      rw [e]
      simp (config := { maxSteps := 1000000 }) (disch := ((try simp only [awL]); omega)) only [Try.f24, ↓awU, awV, awF, ofVal, ofVal0, isShift, aggK, forall_const, ↓reduceIte, ↓reduceDIte, ↓purePost, combine, idsA, cellsA, numsOf, srcA, calleeA, refsA, isScalar, scalarD, scalar0, AV.one, putL, unfA, implies_true, IntKind.signed, Nat.reduceAdd, Nat.reduceSub, Nat.reduceMul, Nat.reducePow, Nat.reduceDiv, Nat.reduceMod, Int.reduceAdd, Int.reduceSub, Int.reduceMul, Int.reducePow, Int.reduceNeg, Int.reduceToNat, Int.reduceLT, Int.reduceLE, Nat.reduceEqDiff, sidsB, Nat.reduceBEq, keyKD, isIntK, aggD, aggL, eqKs]
      try rfl
    · have e : okR 2 lim num den = true := decide_eq_true (by omega)
      rw [e]
      simp (config := { maxSteps := 1000000 }) (disch := ((try simp only [awL]); omega)) only [Try.f24, ↓awU, awV, awF, ofVal, ofVal0, isShift, aggK, forall_const, ↓reduceIte, ↓reduceDIte, ↓purePost, combine, idsA, cellsA, numsOf, srcA, calleeA, refsA, isScalar, scalarD, scalar0, AV.one, putL, unfA, implies_true, IntKind.signed, Nat.reduceAdd, Nat.reduceSub, Nat.reduceMul, Nat.reducePow, Nat.reduceDiv, Nat.reduceMod, Int.reduceAdd, Int.reduceSub, Int.reduceMul, Int.reducePow, Int.reduceNeg, Int.reduceToNat, Int.reduceLT, Int.reduceLE, Nat.reduceEqDiff, sidsB, Nat.reduceBEq, keyKD, isIntK, aggD, aggL, eqKs]
      try rfl
  · rcases (by omega : (lim ≠ 0) ∨ (lim = 0 ∧ num < 1) ∨ (lim = 0 ∧ 1 ≤ num ∧ den < num) ∨ (lim = 0 ∧ 1 ≤ num ∧ num ≤ den ∧ 1000 < den) ∨ (lim = 0 ∧ 1 ≤ num ∧ num ≤ den ∧ den ≤ 1000)) with q | q | q | q | q
    · have e : okR 3 lim num den = false := decide_eq_false (by omega)
      rw [e]
      simp (config := { maxSteps := 1000000 }) (disch := ((try simp only [awL]); omega)) only [Try.f24, ↓awU, awV, awF, ofVal, ofVal0, isShift, aggK, forall_const, ↓reduceIte, ↓reduceDIte, ↓purePost, combine, idsA, cellsA, numsOf, srcA, calleeA, refsA, isScalar, scalarD, scalar0, AV.one, putL, unfA, implies_true, IntKind.signed, Nat.reduceAdd, Nat.reduceSub, Nat.reduceMul, Nat.reducePow, Nat.reduceDiv, Nat.reduceMod, Int.reduceAdd, Int.reduceSub, Int.reduceMul, Int.reducePow, Int.reduceNeg, Int.reduceToNat, Int.reduceLT, Int.reduceLE, Nat.reduceEqDiff, sidsB, Nat.reduceBEq, keyKD, isIntK, aggD, aggL, eqKs]
      try rfl
    · have e : okR 3 lim num den = false := decide_eq_false (by omega)
      rw [e]
      simp (config := { maxSteps := 1000000 }) (disch := ((try simp only [awL]); omega)) only [Try.f24, ↓awU, awV, awF, ofVal, ofVal0, isShift, aggK, forall_const, ↓reduceIte, ↓reduceDIte, ↓purePost, combine, idsA, cellsA, numsOf, srcA, calleeA, refsA, isScalar, scalarD, scalar0, AV.one, putL, unfA, implies_true, IntKind.signed, Nat.reduceAdd, Nat.reduceSub, Nat.reduceMul, Nat.reducePow, Nat.reduceDiv, Nat.reduceMod, Int.reduceAdd, Int.reduceSub, Int.reduceMul, Int.reducePow, Int.reduceNeg, Int.reduceToNat, Int.reduceLT, Int.reduceLE, Nat.reduceEqDiff, sidsB, Nat.reduceBEq, keyKD, isIntK, aggD, aggL, eqKs]
      try rfl
    · have e : okR 3 lim num den = false := decide_eq_false (by omega)
      rw [e]
      simp (config := { maxSteps := 1000000 }) (disch := ((try simp only [awL]); omega)) only [Try.f24, ↓awU, awV, awF, ofVal, ofVal0, isShift, aggK, forall_const, ↓reduceIte, ↓reduceDIte, ↓purePost, combine, idsA, cellsA, numsOf, srcA, calleeA, refsA, isScalar, scalarD, scalar0, AV.one, putL, unfA, implies_true, IntKind.signed, Nat.reduceAdd, Nat.reduceSub, Nat.reduceMul, Nat.reducePow, Nat.reduceDiv, Nat.reduceMod, Int.reduceAdd, Int.reduceSub, Int.reduceMul, Int.reducePow, Int.reduceNeg, Int.reduceToNat, Int.reduceLT, Int.reduceLE, Nat.reduceEqDiff, sidsB, Nat.reduceBEq, keyKD, isIntK, aggD, aggL, eqKs]
      try rfl
    · have e : okR 3 lim num den = false := decide_eq_false (by omega)
      rw [e]
      simp (config := { maxSteps := 1000000 }) (disch := ((try simp only [awL]); omega)) only [Try.f24, ↓awU, awV, awF, ofVal, ofVal0, isShift, aggK, forall_const, ↓reduceIte, ↓reduceDIte, ↓purePost, combine, idsA, cellsA, numsOf, srcA, calleeA, refsA, isScalar, scalarD, scalar0, AV.one, putL, unfA, implies_true, IntKind.signed, Nat.reduceAdd, Nat.reduceSub, Nat.reduceMul, Nat.reducePow, Nat.reduceDiv, Nat.reduceMod, Int.reduceAdd, Int.reduceSub, Int.reduceMul, Int.reducePow, Int.reduceNeg, Int.reduceToNat, Int.reduceLT, Int.reduceLE, Nat.reduceEqDiff, sidsB, Nat.reduceBEq, keyKD, isIntK, aggD, aggL, eqKs]
      try rfl
    · have e : okR 3 lim num den = true := decide_eq_true (by omega)
      rw [e]
      simp (config := { maxSteps := 1000000 }) (disch := ((try simp only [awL]); omega)) only [Try.f24, ↓awU, awV, awF, ofVal, ofVal0, isShift, aggK, forall_const, ↓reduceIte, ↓reduceDIte, ↓purePost, combine, idsA, cellsA, numsOf, srcA, calleeA, refsA, isScalar, scalarD, scalar0, AV.one, putL, unfA, implies_true, IntKind.signed, Nat.reduceAdd, Nat.reduceSub, Nat.reduceMul, Nat.reducePow, Nat.reduceDiv, Nat.reduceMod, Int.reduceAdd, Int.reduceSub, Int.reduceMul, Int.reducePow, Int.reduceNeg, Int.reduceToNat, Int.reduceLT, Int.reduceLE, Nat.reduceEqDiff, sidsB, Nat.reduceBEq, keyKD, isIntK, aggD, aggL, eqKs]
      try rfl
  · have e : okR kind lim num den = false := decide_eq_false (by omega)
    rw [e]
    simp (config := { maxSteps := 1000000 }) (disch := ((try simp only [awL]); omega)) only [Try.f24, ↓awU, awV, awF, ofVal, ofVal0, isShift, aggK, forall_const, ↓reduceIte, ↓reduceDIte, ↓purePost, combine, idsA, cellsA, numsOf, srcA, calleeA, refsA, isScalar, scalarD, scalar0, AV.one, putL, unfA, implies_true, IntKind.signed, Nat.reduceAdd, Nat.reduceSub, Nat.reduceMul, Nat.reducePow, Nat.reduceDiv, Nat.reduceMod, Int.reduceAdd, Int.reduceSub, Int.reduceMul, Int.reducePow, Int.reduceNeg, Int.reduceToNat, Int.reduceLT, Int.reduceLE, Nat.reduceEqDiff, sidsB, Nat.reduceBEq, keyKD, isIntK, aggD, aggL, eqKs]
    try rfl
end Go.Proofs.Ytpnhbjabnnibcaa

namespace Go.Proofs.Ytpnhbjabnnibcaa
open Go Go.Proofs Go.Abs
variable {G : Globals}
/-! The reference: lengths, similar texts. -/
def lenR (kind lim num den n : Int) : D := if okR kind lim num den = true ∧ kind ≠ 3 ∧ 0 ≤ n then .tup [.int .i64 (max 0 (n - lim)), .int .i64 (n + lim), .bool true] else .tup [.int .i64 0, .int .i64 0, .bool false]
theorem okR_cases {kind lim num den : Int} (h : okR kind lim num den = true) : (kind = 1 ∧ lim = 0 ∧ num = 0 ∧ den = 0) ∨ (kind = 2 ∧ 0 ≤ lim ∧ lim ≤ 8 ∧ num = 0 ∧ den = 0) ∨ (kind = 3 ∧ lim = 0 ∧ 1 ≤ num ∧ num ≤ den ∧ den ≤ 1000) := of_decide_eq_true h
theorem mm_max {a b : Int} : (if b > a then b else a) = max a b := by split <;> omega
set_option maxRecDepth 100000 in
theorem rlengths_spec (kind lim num den n : Int) (hn1 : -100 ≤ n) (hn2 : n ≤ 1000000) : Ctr Try.prog G 27 [.d (Ru kind lim num den), .d (.int .i64 n)] [] (.d (lenR kind lim num den n)) [] := by
  refine Ctr.pure (M := M0) hmix Try.func27 rfl go27 ?_
  simp (config := { maxSteps := 1000000 }) (disch := ((try simp only [awL]); omega)) only [Try.f27, ↓awU, awV, awF, ofVal, ofVal0, isShift, aggK, forall_const, ↓reduceIte, ↓reduceDIte, ↓purePost, combine, idsA, cellsA, numsOf, srcA, calleeA, refsA, isScalar, scalarD, scalar0, AV.one, putL, unfA, implies_true, IntKind.signed, Nat.reduceAdd, Nat.reduceSub, Nat.reduceMul, Nat.reducePow, Nat.reduceDiv, Nat.reduceMod, Int.reduceAdd, Int.reduceSub, Int.reduceMul, Int.reducePow, Int.reduceNeg, Int.reduceToNat, Int.reduceLT, Int.reduceLE, Nat.reduceEqDiff, sidsB, Nat.reduceBEq, keyKD, isIntK, aggD, aggL, eqKs]
  refine CallC.of (rvalid_spec kind lim num den) (by rfl) ?_
  unfold lenR
  cases ho : okR kind lim num den
  · rw [if_neg (by rintro ⟨h, _⟩; cases h)]
    simp (config := { maxSteps := 1000000 }) (disch := ((try simp only [awL]); omega)) only [↓awU, awV, awF, ofVal, ofVal0, isShift, aggK, forall_const, ↓reduceIte, ↓reduceDIte, ↓purePost, combine, idsA, cellsA, numsOf, srcA, calleeA, refsA, isScalar, scalarD, scalar0, AV.one, putL, unfA, implies_true, IntKind.signed, Nat.reduceAdd, Nat.reduceSub, Nat.reduceMul, Nat.reducePow, Nat.reduceDiv, Nat.reduceMod, Int.reduceAdd, Int.reduceSub, Int.reduceMul, Int.reducePow, Int.reduceNeg, Int.reduceToNat, Int.reduceLT, Int.reduceLE, Nat.reduceEqDiff, sidsB, Nat.reduceBEq, keyKD, isIntK, aggD, aggL, eqKs]
    try rfl
  · have hc := okR_cases ho
    clear ho
    by_cases h3 : kind = 3
    · rw [if_neg (by rintro ⟨_, h, _⟩; exact h h3)]
      simp (config := { maxSteps := 1000000 }) (disch := ((try simp only [awL]); omega)) only [↓awU, awV, awF, ofVal, ofVal0, isShift, aggK, forall_const, ↓reduceIte, ↓reduceDIte, ↓purePost, combine, idsA, cellsA, numsOf, srcA, calleeA, refsA, isScalar, scalarD, scalar0, AV.one, putL, unfA, implies_true, IntKind.signed, Nat.reduceAdd, Nat.reduceSub, Nat.reduceMul, Nat.reducePow, Nat.reduceDiv, Nat.reduceMod, Int.reduceAdd, Int.reduceSub, Int.reduceMul, Int.reducePow, Int.reduceNeg, Int.reduceToNat, Int.reduceLT, Int.reduceLE, Nat.reduceEqDiff, sidsB, Nat.reduceBEq, keyKD, isIntK, aggD, aggL, eqKs]
      try rfl
    · rcases (by omega : n < 0 ∨ 0 ≤ n) with hn | hn
      · rw [if_neg (by rintro ⟨_, _, h⟩; omega)]
        simp (config := { maxSteps := 1000000 }) (disch := ((try simp only [awL]); omega)) only [↓awU, awV, awF, ofVal, ofVal0, isShift, aggK, forall_const, ↓reduceIte, ↓reduceDIte, ↓purePost, combine, idsA, cellsA, numsOf, srcA, calleeA, refsA, isScalar, scalarD, scalar0, AV.one, putL, unfA, implies_true, IntKind.signed, Nat.reduceAdd, Nat.reduceSub, Nat.reduceMul, Nat.reducePow, Nat.reduceDiv, Nat.reduceMod, Int.reduceAdd, Int.reduceSub, Int.reduceMul, Int.reducePow, Int.reduceNeg, Int.reduceToNat, Int.reduceLT, Int.reduceLE, Nat.reduceEqDiff, sidsB, Nat.reduceBEq, keyKD, isIntK, aggD, aggL, eqKs]
        try rfl
      · rw [if_pos ⟨rfl, h3, hn⟩]
        have hl1 : 0 ≤ lim := by omega
        have hl2 : lim ≤ 8 := by omega
        simp (config := { maxSteps := 1000000 }) (disch := ((try simp only [awL]); omega)) only [mm_max, ↓awU, awV, awF, ofVal, ofVal0, isShift, aggK, forall_const, ↓reduceIte, ↓reduceDIte, ↓purePost, combine, idsA, cellsA, numsOf, srcA, calleeA, refsA, isScalar, scalarD, scalar0, AV.one, putL, unfA, implies_true, IntKind.signed, Nat.reduceAdd, Nat.reduceSub, Nat.reduceMul, Nat.reducePow, Nat.reduceDiv, Nat.reduceMod, Int.reduceAdd, Int.reduceSub, Int.reduceMul, Int.reducePow, Int.reduceNeg, Int.reduceToNat, Int.reduceLT, Int.reduceLE, Nat.reduceEqDiff, sidsB, Nat.reduceBEq, keyKD, isIntK, aggD, aggL, eqKs]
        try rfl
def simR (kind lim num den : Int) (a b : List UInt8) : Bool :=
  okR kind lim num den && (if kind = 2 then decide ((lev (pts a) (pts b) : Int) ≤ lim) else if kind = 3 ∧ uniB (tokS a) (tokS b) ≠ 0 then decide (num * uniB (tokS a) (tokS b) ≤ den * (comB (tokS a) (tokS b) : Nat)) else decide (a = b))
theorem asc_tokS (s : List UInt8) : ascB (tokS s) = true := ascB_iff.2 (asc_setL _)
theorem uni_bounds (a b : List UInt8) (ha : a.length ≤ 10000) (hb : b.length ≤ 10000) : 0 ≤ uniB (tokS a) (tokS b) ∧ uniB (tokS a) (tokS b) ≤ 20002 ∧ comB (tokS a) (tokS b) ≤ 10001 := by
  have h1 := tokS_length a
  have h2 := tokS_length b
  have h3 := comL_le (tokS a) (tokS b)
  unfold uniB comB
  rw [asc_tokS, asc_tokS, Bool.true_and, if_pos rfl, if_pos rfl]
  omega
set_option maxHeartbeats 4000000 in
set_option maxRecDepth 100000 in
theorem rsimilar_spec (kind lim num den : Int) (a b : List UInt8) (ha : a.length ≤ 10000) (hb : b.length ≤ 10000) : Ctr Try.prog G 25 [.d (Ru kind lim num den), .d (S a), .d (S b)] [] (.d (.bool (simR kind lim num den a b))) [] := by
  refine Ctr.pure (M := M0) hmix Try.func25 rfl go25 ?_
  simp (config := { maxSteps := 1000000 }) (disch := ((try simp only [awL]); omega)) only [nextC_more, nextC_over, bs_size, bs_extract, bs_toList, bs_append, byteAt_bs, bs_cells, nums_length, nums_getD, Try.f25, ↓awU, awV, awF, ofVal, ofVal0, isShift, aggK, forall_const, ↓reduceIte, ↓reduceDIte, ↓purePost, combine, idsA, cellsA, numsOf, srcA, calleeA, refsA, isScalar, scalarD, scalar0, AV.one, putL, unfA, implies_true, IntKind.signed, Nat.reduceAdd, Nat.reduceSub, Nat.reduceMul, Nat.reducePow, Nat.reduceDiv, Nat.reduceMod, Int.reduceAdd, Int.reduceSub, Int.reduceMul, Int.reducePow, Int.reduceNeg, Int.reduceToNat, Int.reduceLT, Int.reduceLE, Nat.reduceEqDiff, sidsB, Nat.reduceBEq, keyKD, isIntK, aggD, aggL, eqKs]
  refine CallC.of (rvalid_spec kind lim num den) (by rfl) ?_
  unfold simR
  cases ho : okR kind lim num den
  · rw [Bool.false_and]
    simp (config := { maxSteps := 1000000 }) (disch := ((try simp only [awL]); omega)) only [nextC_more, nextC_over, bs_size, bs_extract, bs_toList, bs_append, byteAt_bs, bs_cells, nums_length, nums_getD, ↓awU, awV, awF, ofVal, ofVal0, isShift, aggK, forall_const, ↓reduceIte, ↓reduceDIte, ↓purePost, combine, idsA, cellsA, numsOf, srcA, calleeA, refsA, isScalar, scalarD, scalar0, AV.one, putL, unfA, implies_true, IntKind.signed, Nat.reduceAdd, Nat.reduceSub, Nat.reduceMul, Nat.reducePow, Nat.reduceDiv, Nat.reduceMod, Int.reduceAdd, Int.reduceSub, Int.reduceMul, Int.reducePow, Int.reduceNeg, Int.reduceToNat, Int.reduceLT, Int.reduceLE, Nat.reduceEqDiff, sidsB, Nat.reduceBEq, keyKD, isIntK, aggD, aggL, eqKs]
    try rfl
  · rw [Bool.true_and]
    have hc := okR_cases ho
    clear ho
    obtain ⟨u1, u2, u3⟩ := uni_bounds a b ha hb
    have hl := lev_max (pts a) (pts b)
    have pa := pts_len a
    have pb := pts_len b
    have ht := rtoks_spec (G := G) a b ha hb
    have he := redit_spec (G := G) a b (by omega) (by omega)
    generalize uniB (tokS a) (tokS b) = U at *
    generalize comB (tokS a) (tokS b) = C at *
    generalize lev (pts a) (pts b) = L at *
    rcases hc with ⟨rfl, hc⟩ | ⟨rfl, hc⟩ | ⟨rfl, h0, h1, h2, h3⟩
    · rw [if_neg (show ¬ (1 : Int) = 2 by decide), if_neg (by rintro ⟨h, _⟩; cases h)]
      simp (config := { maxSteps := 1000000 }) (disch := ((try simp only [awL]); omega)) only [nextC_more, nextC_over, bs_size, bs_extract, bs_toList, bs_append, byteAt_bs, bs_cells, nums_length, nums_getD, bs_eq, ↓awU, awV, awF, ofVal, ofVal0, isShift, aggK, forall_const, ↓reduceIte, ↓reduceDIte, ↓purePost, combine, idsA, cellsA, numsOf, srcA, calleeA, refsA, isScalar, scalarD, scalar0, AV.one, putL, unfA, implies_true, IntKind.signed, Nat.reduceAdd, Nat.reduceSub, Nat.reduceMul, Nat.reducePow, Nat.reduceDiv, Nat.reduceMod, Int.reduceAdd, Int.reduceSub, Int.reduceMul, Int.reducePow, Int.reduceNeg, Int.reduceToNat, Int.reduceLT, Int.reduceLE, Nat.reduceEqDiff, sidsB, Nat.reduceBEq, keyKD, isIntK, aggD, aggL, eqKs]
      try rfl
    · rw [if_pos rfl]
      simp (config := { maxSteps := 1000000 }) (disch := ((try simp only [awL]); omega)) only [nextC_more, nextC_over, bs_size, bs_extract, bs_toList, bs_append, byteAt_bs, bs_cells, nums_length, nums_getD, ↓awU, awV, awF, ofVal, ofVal0, isShift, aggK, forall_const, ↓reduceIte, ↓reduceDIte, ↓purePost, combine, idsA, cellsA, numsOf, srcA, calleeA, refsA, isScalar, scalarD, scalar0, AV.one, putL, unfA, implies_true, IntKind.signed, Nat.reduceAdd, Nat.reduceSub, Nat.reduceMul, Nat.reducePow, Nat.reduceDiv, Nat.reduceMod, Int.reduceAdd, Int.reduceSub, Int.reduceMul, Int.reducePow, Int.reduceNeg, Int.reduceToNat, Int.reduceLT, Int.reduceLE, Nat.reduceEqDiff, sidsB, Nat.reduceBEq, keyKD, isIntK, aggD, aggL, eqKs]
      refine CallC.of he (by rfl) ?_
      simp (config := { maxSteps := 1000000 }) (disch := ((try simp only [awL]); omega)) only [nextC_more, nextC_over, bs_size, bs_extract, bs_toList, bs_append, byteAt_bs, bs_cells, nums_length, nums_getD, ↓awU, awV, awF, ofVal, ofVal0, isShift, aggK, forall_const, ↓reduceIte, ↓reduceDIte, ↓purePost, combine, idsA, cellsA, numsOf, srcA, calleeA, refsA, isScalar, scalarD, scalar0, AV.one, putL, unfA, implies_true, IntKind.signed, Nat.reduceAdd, Nat.reduceSub, Nat.reduceMul, Nat.reducePow, Nat.reduceDiv, Nat.reduceMod, Int.reduceAdd, Int.reduceSub, Int.reduceMul, Int.reducePow, Int.reduceNeg, Int.reduceToNat, Int.reduceLT, Int.reduceLE, Nat.reduceEqDiff, sidsB, Nat.reduceBEq, keyKD, isIntK, aggD, aggL, eqKs]
      try rfl
    · rw [if_neg (show ¬ (3 : Int) = 2 by decide)]
      by_cases hU : U = 0
      · rw [if_neg (by rintro ⟨_, h⟩; exact h hU)]
        subst hU
        simp (config := { maxSteps := 1000000 }) (disch := ((try simp only [awL]); omega)) only [nextC_more, nextC_over, bs_size, bs_extract, bs_toList, bs_append, byteAt_bs, bs_cells, nums_length, nums_getD, ↓awU, awV, awF, ofVal, ofVal0, isShift, aggK, forall_const, ↓reduceIte, ↓reduceDIte, ↓purePost, combine, idsA, cellsA, numsOf, srcA, calleeA, refsA, isScalar, scalarD, scalar0, AV.one, putL, unfA, implies_true, IntKind.signed, Nat.reduceAdd, Nat.reduceSub, Nat.reduceMul, Nat.reducePow, Nat.reduceDiv, Nat.reduceMod, Int.reduceAdd, Int.reduceSub, Int.reduceMul, Int.reducePow, Int.reduceNeg, Int.reduceToNat, Int.reduceLT, Int.reduceLE, Nat.reduceEqDiff, sidsB, Nat.reduceBEq, keyKD, isIntK, aggD, aggL, eqKs]
        refine CallC.of ht (by rfl) ?_
        simp (config := { maxSteps := 1000000 }) (disch := ((try simp only [awL]); omega)) only [nextC_more, nextC_over, bs_size, bs_extract, bs_toList, bs_append, byteAt_bs, bs_cells, nums_length, nums_getD, bs_eq, ↓awU, awV, awF, ofVal, ofVal0, isShift, aggK, forall_const, ↓reduceIte, ↓reduceDIte, ↓purePost, combine, idsA, cellsA, numsOf, srcA, calleeA, refsA, isScalar, scalarD, scalar0, AV.one, putL, unfA, implies_true, IntKind.signed, Nat.reduceAdd, Nat.reduceSub, Nat.reduceMul, Nat.reducePow, Nat.reduceDiv, Nat.reduceMod, Int.reduceAdd, Int.reduceSub, Int.reduceMul, Int.reducePow, Int.reduceNeg, Int.reduceToNat, Int.reduceLT, Int.reduceLE, Nat.reduceEqDiff, sidsB, Nat.reduceBEq, keyKD, isIntK, aggD, aggL, eqKs]
        try rfl
      · rw [if_pos ⟨rfl, hU⟩]
        have b1 : 0 ≤ num * U := Int.mul_nonneg (by omega) (by omega)
        have b2 : num * U ≤ 1000 * 20002 := Int.mul_le_mul (by omega) u2 u1 (by omega)
        have b3 : 0 ≤ den * (C : Int) := Int.mul_nonneg (by omega) (by omega)
        have b4 : den * (C : Int) ≤ 1000 * 10001 := Int.mul_le_mul h3 (by omega) (by omega) (by omega)
        simp (config := { maxSteps := 1000000 }) (disch := ((try simp only [awL]); omega)) only [nextC_more, nextC_over, bs_size, bs_extract, bs_toList, bs_append, byteAt_bs, bs_cells, nums_length, nums_getD, ↓awU, awV, awF, ofVal, ofVal0, isShift, aggK, forall_const, ↓reduceIte, ↓reduceDIte, ↓purePost, combine, idsA, cellsA, numsOf, srcA, calleeA, refsA, isScalar, scalarD, scalar0, AV.one, putL, unfA, implies_true, IntKind.signed, Nat.reduceAdd, Nat.reduceSub, Nat.reduceMul, Nat.reducePow, Nat.reduceDiv, Nat.reduceMod, Int.reduceAdd, Int.reduceSub, Int.reduceMul, Int.reducePow, Int.reduceNeg, Int.reduceToNat, Int.reduceLT, Int.reduceLE, Nat.reduceEqDiff, sidsB, Nat.reduceBEq, keyKD, isIntK, aggD, aggL, eqKs]
        refine CallC.of ht (by rfl) ?_
        simp (config := { maxSteps := 1000000 }) (disch := ((try simp only [awL]); omega)) only [nextC_more, nextC_over, bs_size, bs_extract, bs_toList, bs_append, byteAt_bs, bs_cells, nums_length, nums_getD, ↓awU, awV, awF, ofVal, ofVal0, isShift, aggK, forall_const, ↓reduceIte, ↓reduceDIte, ↓purePost, combine, idsA, cellsA, numsOf, srcA, calleeA, refsA, isScalar, scalarD, scalar0, AV.one, putL, unfA, implies_true, IntKind.signed, Nat.reduceAdd, Nat.reduceSub, Nat.reduceMul, Nat.reducePow, Nat.reduceDiv, Nat.reduceMod, Int.reduceAdd, Int.reduceSub, Int.reduceMul, Int.reducePow, Int.reduceNeg, Int.reduceToNat, Int.reduceLT, Int.reduceLE, Nat.reduceEqDiff, sidsB, Nat.reduceBEq, keyKD, isIntK, aggD, aggL, eqKs]
        try rfl
end Go.Proofs.Ytpnhbjabnnibcaa

namespace Go.Proofs.Ytpnhbjabnnibcaa
open Go Go.Proofs Go.Abs
variable {G : Globals}
/-! The dice; the words. -/
abbrev DiceM (t : List Int) (k : Nat) : ABlk := .box [.d (.sl t.length false (ints .u8 t)), .d (.int .i64 (min k t.length : Nat))]
def OkM (t : List Int) : Prop := t.length ≤ 300 ∧ ∀ i, 0 ≤ t.getD i 0 ∧ t.getD i 0 ≤ 255
theorem new_spec (t : List Int) (ht : t.length ≤ 9223372036854775807) : Ctr Try.prog G 9 [.d (.sl t.length false (ints .u8 t))] [] (.ptr 0 0) [DiceM (t.take 300) 0] := by
  refine Ctr.body (M := M0) hmix Try.func9 rfl go9 ?_
  rcases Nat.lt_or_ge 300 t.length with h | h
  · have e : (t.take 300).length = 300 := by rw [List.length_take]; omega
    simp (config := { maxSteps := 1000000 }) (disch := ((try simp only [awL]); omega)) only [Try.f9, e, ↓awU, awV, awF, ofVal, ofVal0, isShift, aggK, forall_const, ↓reduceIte, ↓reduceDIte, ↓purePost, combine, idsA, cellsA, numsOf, srcA, calleeA, refsA, isScalar, scalarD, scalar0, AV.one, putL, unfA, implies_true, IntKind.signed, Nat.reduceAdd, Nat.reduceSub, Nat.reduceMul, Nat.reducePow, Nat.reduceDiv, Nat.reduceMod, Int.reduceAdd, Int.reduceSub, Int.reduceMul, Int.reducePow, Int.reduceNeg, Int.reduceToNat, Int.reduceLT, Int.reduceLE, Nat.reduceEqDiff, sidsB, Nat.reduceBEq, keyKD, isIntK, aggD, aggL, eqKs]
    exact ⟨[some 0], rfl, by simp, by simp [HWeak, BWeak, SWeak, AWeak]; omega, .inl (by simp [AWeak])⟩
  · have e : t.take 300 = t := List.take_of_length_le h
    simp (config := { maxSteps := 1000000 }) (disch := ((try simp only [awL]); omega)) only [Try.f9, e, ↓awU, awV, awF, ofVal, ofVal0, isShift, aggK, forall_const, ↓reduceIte, ↓reduceDIte, ↓purePost, combine, idsA, cellsA, numsOf, srcA, calleeA, refsA, isScalar, scalarD, scalar0, AV.one, putL, unfA, implies_true, IntKind.signed, Nat.reduceAdd, Nat.reduceSub, Nat.reduceMul, Nat.reducePow, Nat.reduceDiv, Nat.reduceMod, Int.reduceAdd, Int.reduceSub, Int.reduceMul, Int.reducePow, Int.reduceNeg, Int.reduceToNat, Int.reduceLT, Int.reduceLE, Nat.reduceEqDiff, sidsB, Nat.reduceBEq, keyKD, isIntK, aggD, aggL, eqKs]
    exact ⟨[some 0], rfl, by simp, by simp [HWeak, BWeak, SWeak, AWeak], .inl (by simp [AWeak])⟩
def pk (t : List Int) (k : Nat) (n : Int) : Int := t.getD k 0 % n
theorem pk_range {t : List Int} {k : Nat} {n : Int} (h : 0 < n) : 0 ≤ pk t k n ∧ pk t k n < n := ⟨Int.emod_nonneg _ (by omega), Int.emod_lt_of_pos _ h⟩
theorem pk_nat (t : List Int) (k : Nat) (n : Int) (h : 0 < n) : ∃ c : Nat, pk t k n = c ∧ (c : Int) < n := ⟨(pk t k n).toNat, by have := @pk_range t k n h; omega, by have := @pk_range t k n h; omega⟩
set_option maxHeartbeats 4000000 in
set_option maxRecDepth 100000 in
theorem pick_spec (t : List Int) (k : Nat) (n : Int) (ht : OkM t) (h0 : 0 < n) (h1 : n ≤ 1000) :
    Ctr Try.prog G 13 [.ptr 0 0, .d (.int .i64 n)] [DiceM t k] (.d (.int .i64 (pk t k n))) [DiceM t (k + 1)] := by
  obtain ⟨ht, htt⟩ := ht
  refine Ctr.body (M := M0) hmix Try.func13 rfl go13 ?_
  rcases Nat.lt_or_ge k t.length with h | h
  · have e1 : min k t.length = k := by omega
    have e2 : min (k + 1) t.length = k + 1 := by omega
    obtain ⟨b1, b2⟩ := htt k
    have e3 : (t.getD k 0).tmod n = pk t k n := Int.tmod_eq_emod_of_nonneg b1
    simp only [e1, e2, DiceM]
    simp (config := { maxSteps := 1000000 }) (disch := ((try simp only [awL]); omega)) only [Try.f13, e3, ↓awU, awV, awF, ofVal, ofVal0, isShift, aggK, forall_const, ↓reduceIte, ↓reduceDIte, ↓purePost, combine, idsA, cellsA, numsOf, srcA, calleeA, refsA, isScalar, scalarD, scalar0, AV.one, putL, unfA, implies_true, IntKind.signed, Nat.reduceAdd, Nat.reduceSub, Nat.reduceMul, Nat.reducePow, Nat.reduceDiv, Nat.reduceMod, Int.reduceAdd, Int.reduceSub, Int.reduceMul, Int.reducePow, Int.reduceNeg, Int.reduceToNat, Int.reduceLT, Int.reduceLE, Nat.reduceEqDiff, sidsB, Nat.reduceBEq, keyKD, isIntK, aggD, aggL, eqKs]
    refine ⟨by rfl, by rfl, ?_⟩
    exact ⟨[some 0], rfl, by simp, by simp [HWeak, BWeak, SWeak, AWeak], .inl (by simp [AWeak])⟩
  · have e1 : min k t.length = t.length := by omega
    have e2 : min (k + 1) t.length = t.length := by omega
    have e3 : pk t k n = 0 := by rw [pk, List.getD_eq_getElem?_getD, List.getElem?_eq_none h]; simp
    simp only [e1, e2, e3, DiceM]
    simp (config := { maxSteps := 1000000 }) (disch := ((try simp only [awL]); omega)) only [Try.f13, ↓awU, awV, awF, ofVal, ofVal0, isShift, aggK, forall_const, ↓reduceIte, ↓reduceDIte, ↓purePost, combine, idsA, cellsA, numsOf, srcA, calleeA, refsA, isScalar, scalarD, scalar0, AV.one, putL, unfA, implies_true, IntKind.signed, Nat.reduceAdd, Nat.reduceSub, Nat.reduceMul, Nat.reducePow, Nat.reduceDiv, Nat.reduceMod, Int.reduceAdd, Int.reduceSub, Int.reduceMul, Int.reducePow, Int.reduceNeg, Int.reduceToNat, Int.reduceLT, Int.reduceLE, Nat.reduceEqDiff, sidsB, Nat.reduceBEq, keyKD, isIntK, aggD, aggL, eqKs]
    refine ⟨by rfl, ?_⟩
    exact ⟨[some 0], rfl, by simp, by simp [HWeak, BWeak, SWeak, AWeak], .inl (by simp [AWeak])⟩
theorem words_row : strs wordsL = [S [97, 110, 110], S [98, 111, 98], S [99, 121], S [66, 101, 114, 110], S [85, 108, 109], S [78, 101, 119, 32, 89, 111, 114, 107], S [121, 111, 114, 107, 32, 110, 101, 119], S [97, 45, 49], S [98, 45, 50, 50], S [120], S [122, 195, 188, 114, 105, 99, 104], S [65, 110, 110], S [98, 111], S [99, 97, 116], S [98, 97, 116], S [114, 97, 116]] := rfl
set_option maxRecDepth 100000 in
theorem words_spec : Ctr Try.prog G 33 [] [] (.d (Ss wordsL false)) [] := by
  refine Ctr.pure (M := M0) hmix Try.func33 rfl go33 ?_
  simp (config := { maxSteps := 1000000 }) (disch := ((try simp only [awL]); omega)) only [nextC_more, nextC_over, bs_size, bs_extract, bs_toList, bs_append, byteAt_bs, bs_cells, nums_length, nums_getD, Try.f33, ↓awU, awV, awF, ofVal, ofVal0, isShift, aggK, forall_const, ↓reduceIte, ↓reduceDIte, ↓purePost, combine, idsA, cellsA, numsOf, srcA, calleeA, refsA, isScalar, scalarD, scalar0, AV.one, putL, unfA, implies_true, IntKind.signed, Nat.reduceAdd, Nat.reduceSub, Nat.reduceMul, Nat.reducePow, Nat.reduceDiv, Nat.reduceMod, Int.reduceAdd, Int.reduceSub, Int.reduceMul, Int.reducePow, Int.reduceNeg, Int.reduceToNat, Int.reduceLT, Int.reduceLE, Nat.reduceEqDiff, sidsB, Nat.reduceBEq, keyKD, isIntK, aggD, aggL, eqKs]
  try rfl
end Go.Proofs.Ytpnhbjabnnibcaa

namespace Go.Proofs.Ytpnhbjabnnibcaa
open Go Go.Proofs Go.Abs
variable {G : Globals}
/-! The dice's texts. -/
def wordM (t : List Int) (k : Nat) : List UInt8 := wordsL.getD (pk t k 16).toNat []
theorem wordM_mem (t : List Int) (k : Nat) : wordM t k ∈ wordsL := by
  have h := @pk_range t k 16 (by decide)
  have hl : wordsL.length = 16 := rfl
  unfold wordM
  rw [List.getD_eq_getElem?_getD, List.getElem?_eq_getElem (show (pk t k 16).toNat < wordsL.length by omega)]
  exact List.getElem_mem _
def textsM (t : List Int) (k n : Nat) : List (List UInt8) := (List.range n).map fun i => wordM t (k + i)
theorem textsM_length {t : List Int} {k n : Nat} : (textsM t k n).length = n := by simp [textsM]
theorem textsM_push {t : List Int} {k n : Nat} : textsM t k (n + 1) = textsM t k n ++ [wordM t (k + n)] := by simp [textsM, List.range_succ]
set_option maxHeartbeats 4000000 in
set_option maxRecDepth 100000 in
theorem texts_spec (t : List Int) (k : Nat) (n : Int) (ht : OkM t) (h0 : 0 ≤ n) (h1 : n ≤ 100) :
    Ctr Try.prog G 15 [.ptr 0 0, .d (.int .i64 n)] [DiceM t k] (.d (Ss (textsM t (k + 1) (pk t k (n + 1)).toNat) false)) [DiceM t (k + 1 + (pk t k (n + 1)).toNat)] := by
  refine Ctr.body (M := M0) hmix Try.func15 rfl go15 ?_
  obtain ⟨c, hc, hc2⟩ := pk_nat t k (n + 1) (by omega)
  have hwl : wordsL.length = 16 := rfl
  have swl := @strs_length wordsL
  rw [hc, Int.toNat_natCast]
  simp (config := { maxSteps := 1000000 }) (disch := ((try simp only [awL]); omega)) only [nextC_more, nextC_over, bs_size, bs_extract, bs_toList, bs_append, byteAt_bs, bs_cells, nums_length, nums_getD, Try.f15, ↓awU, awV, awF, ofVal, ofVal0, isShift, aggK, forall_const, ↓reduceIte, ↓reduceDIte, ↓purePost, combine, idsA, cellsA, numsOf, srcA, calleeA, refsA, isScalar, scalarD, scalar0, AV.one, putL, unfA, implies_true, IntKind.signed, Nat.reduceAdd, Nat.reduceSub, Nat.reduceMul, Nat.reducePow, Nat.reduceDiv, Nat.reduceMod, Int.reduceAdd, Int.reduceSub, Int.reduceMul, Int.reducePow, Int.reduceNeg, Int.reduceToNat, Int.reduceLT, Int.reduceLE, Nat.reduceEqDiff, sidsB, Nat.reduceBEq, keyKD, isIntK, aggD, aggL, eqKs]
  refine CallC.by (pick_spec t k (n + 1) ht (by omega) (by omega)) (by rfl) (by rfl) (Nat.le_refl _) ?_
  rw [hc]
  simp (config := { maxSteps := 1000000 }) (disch := ((try simp only [awL]); omega)) only [nextC_more, nextC_over, bs_size, bs_extract, bs_toList, bs_append, byteAt_bs, bs_cells, nums_length, nums_getD, ↓awU, awV, awF, ofVal, ofVal0, isShift, aggK, forall_const, ↓reduceIte, ↓reduceDIte, ↓purePost, combine, idsA, cellsA, numsOf, srcA, calleeA, refsA, isScalar, scalarD, scalar0, AV.one, putL, unfA, implies_true, IntKind.signed, Nat.reduceAdd, Nat.reduceSub, Nat.reduceMul, Nat.reducePow, Nat.reduceDiv, Nat.reduceMod, Int.reduceAdd, Int.reduceSub, Int.reduceMul, Int.reducePow, Int.reduceNeg, Int.reduceToNat, Int.reduceLT, Int.reduceLE, Nat.reduceEqDiff, sidsB, Nat.reduceBEq, keyKD, isIntK, aggD, aggL, eqKs]
  refine LoopC.fr 1 (α := Nat) (fun i => c - i) (fun i => [(5, .lsl 1 1 0 i), (6, .d (.int .i64 ((c : Int) - i)))]) (fun i => [DiceM t (k + 1 + i), .row false (strs (textsM t (k + 1) i))]) (fun i => i ≤ c) 0 (Nat.zero_le _) ?_ ?_
  · exact ⟨[some 0, none], rfl, by simp, by simp [setsA, keepA, SWeak, AWeak], by simp [HWeak, BWeak, SWeak, AWeak, strs, textsM]⟩
  · intro i hi
    have tl := @textsM_length t (k + 1) i
    have sl := @strs_length (textsM t (k + 1) i)
    simp only [awK, Nat.reduceMod, Nat.reduceDiv, reduceIte]
    rcases Nat.lt_or_ge i c with h | h
    · obtain ⟨d, hd, hd2⟩ := pk_nat t (k + 1 + i) 16 (by decide)
      have g1 := strs_getD (l := wordsL) (i := d) (by omega)
      have ew : wordsL.getD d [] = wordM t (k + 1 + i) := by rw [wordM, hd]; rfl
      have hp := @textsM_push t (k + 1) i
      simp (config := { maxSteps := 1000000 }) (disch := ((try simp only [awL]); omega)) only [nextC_more, nextC_over, bs_size, bs_extract, bs_toList, bs_append, byteAt_bs, bs_cells, nums_length, nums_getD, tl, sl, ↓awU, awV, awF, ofVal, ofVal0, isShift, aggK, forall_const, ↓reduceIte, ↓reduceDIte, ↓purePost, combine, idsA, cellsA, numsOf, srcA, calleeA, refsA, isScalar, scalarD, scalar0, AV.one, putL, unfA, implies_true, IntKind.signed, Nat.reduceAdd, Nat.reduceSub, Nat.reduceMul, Nat.reducePow, Nat.reduceDiv, Nat.reduceMod, Int.reduceAdd, Int.reduceSub, Int.reduceMul, Int.reducePow, Int.reduceNeg, Int.reduceToNat, Int.reduceLT, Int.reduceLE, Nat.reduceEqDiff, sidsB, Nat.reduceBEq, keyKD, isIntK, aggD, aggL, eqKs]
      refine CallC.of words_spec (by rfl) ?_
      simp (config := { maxSteps := 1000000 }) (disch := ((try simp only [awL]); omega)) only [nextC_more, nextC_over, bs_size, bs_extract, bs_toList, bs_append, byteAt_bs, bs_cells, nums_length, nums_getD, tl, sl, hwl, swl, ↓awU, awV, awF, ofVal, ofVal0, isShift, aggK, forall_const, ↓reduceIte, ↓reduceDIte, ↓purePost, combine, idsA, cellsA, numsOf, srcA, calleeA, refsA, isScalar, scalarD, scalar0, AV.one, putL, unfA, implies_true, IntKind.signed, Nat.reduceAdd, Nat.reduceSub, Nat.reduceMul, Nat.reducePow, Nat.reduceDiv, Nat.reduceMod, Int.reduceAdd, Int.reduceSub, Int.reduceMul, Int.reducePow, Int.reduceNeg, Int.reduceToNat, Int.reduceLT, Int.reduceLE, Nat.reduceEqDiff, sidsB, Nat.reduceBEq, keyKD, isIntK, aggD, aggL, eqKs]
      refine CallC.of words_spec (by rfl) ?_
      simp (config := { maxSteps := 1000000 }) (disch := ((try simp only [awL]); omega)) only [nextC_more, nextC_over, bs_size, bs_extract, bs_toList, bs_append, byteAt_bs, bs_cells, nums_length, nums_getD, tl, sl, hwl, swl, ↓awU, awV, awF, ofVal, ofVal0, isShift, aggK, forall_const, ↓reduceIte, ↓reduceDIte, ↓purePost, combine, idsA, cellsA, numsOf, srcA, calleeA, refsA, isScalar, scalarD, scalar0, AV.one, putL, unfA, implies_true, IntKind.signed, Nat.reduceAdd, Nat.reduceSub, Nat.reduceMul, Nat.reducePow, Nat.reduceDiv, Nat.reduceMod, Int.reduceAdd, Int.reduceSub, Int.reduceMul, Int.reducePow, Int.reduceNeg, Int.reduceToNat, Int.reduceLT, Int.reduceLE, Nat.reduceEqDiff, sidsB, Nat.reduceBEq, keyKD, isIntK, aggD, aggL, eqKs]
      refine CallC.by (pick_spec t (k + 1 + i) 16 ht (by decide) (by decide)) (by rfl) (by rfl) (Nat.le_refl _) ?_
      rw [hd]
      simp (config := { maxSteps := 1000000 }) (disch := ((try simp only [awL]); omega)) only [nextC_more, nextC_over, bs_size, bs_extract, bs_toList, bs_append, byteAt_bs, bs_cells, nums_length, nums_getD, tl, sl, hwl, swl, g1, ew, ↓awU, awV, awF, ofVal, ofVal0, isShift, aggK, forall_const, ↓reduceIte, ↓reduceDIte, ↓purePost, combine, idsA, cellsA, numsOf, srcA, calleeA, refsA, isScalar, scalarD, scalar0, AV.one, putL, unfA, implies_true, IntKind.signed, Nat.reduceAdd, Nat.reduceSub, Nat.reduceMul, Nat.reducePow, Nat.reduceDiv, Nat.reduceMod, Int.reduceAdd, Int.reduceSub, Int.reduceMul, Int.reducePow, Int.reduceNeg, Int.reduceToNat, Int.reduceLT, Int.reduceLE, Nat.reduceEqDiff, sidsB, Nat.reduceBEq, keyKD, isIntK, aggD, aggL, eqKs]
      have e3 : (c : Int) - i - 1 = c - ((i + 1 : Nat) : Int) := by omega
      rw [e3]
      have e4 : k + 1 + i + 1 = k + 1 + (i + 1) := by omega
      have e5 : textsM t (k + 1) (i + 1) = textsM t (k + 1) i ++ [wordM t (k + 1 + i)] := hp
      rw [e4]
      exact ⟨i + 1, h, by simp only; omega, ⟨[some 0, some 3], rfl, by simp, by simp [setsA, keepA, SWeak, AWeak], by simp [HWeak, BWeak, SWeak, AWeak, e5, strs_push]⟩⟩
    · obtain rfl : i = c := by omega
      simp (config := { maxSteps := 1000000 }) (disch := ((try simp only [awL]); omega)) only [nextC_more, nextC_over, bs_size, bs_extract, bs_toList, bs_append, byteAt_bs, bs_cells, nums_length, nums_getD, tl, sl, ↓awU, awV, awF, ofVal, ofVal0, isShift, aggK, forall_const, ↓reduceIte, ↓reduceDIte, ↓purePost, combine, idsA, cellsA, numsOf, srcA, calleeA, refsA, isScalar, scalarD, scalar0, AV.one, putL, unfA, implies_true, IntKind.signed, Nat.reduceAdd, Nat.reduceSub, Nat.reduceMul, Nat.reducePow, Nat.reduceDiv, Nat.reduceMod, Int.reduceAdd, Int.reduceSub, Int.reduceMul, Int.reducePow, Int.reduceNeg, Int.reduceToNat, Int.reduceLT, Int.reduceLE, Nat.reduceEqDiff, sidsB, Nat.reduceBEq, keyKD, isIntK, aggD, aggL, eqKs]
      refine ⟨[some 0], rfl, by simp, by simp [HWeak, BWeak, SWeak, AWeak], .inr ⟨_, rfl, ?_, rfl⟩⟩
      have hcut : cut (strs (textsM t (k + 1) i)) 0 i = strs (textsM t (k + 1) i) := cut_full (by omega)
      simp (config := { maxSteps := 1000000 }) (disch := ((try simp only [awL]); omega)) only [nextC_more, nextC_over, bs_size, bs_extract, bs_toList, bs_append, byteAt_bs, bs_cells, nums_length, nums_getD, tl, sl, hcut, strs_unf, ↓awU, awV, awF, ofVal, ofVal0, isShift, aggK, forall_const, ↓reduceIte, ↓reduceDIte, ↓purePost, combine, idsA, cellsA, numsOf, srcA, calleeA, refsA, isScalar, scalarD, scalar0, AV.one, putL, unfA, implies_true, IntKind.signed, Nat.reduceAdd, Nat.reduceSub, Nat.reduceMul, Nat.reducePow, Nat.reduceDiv, Nat.reduceMod, Int.reduceAdd, Int.reduceSub, Int.reduceMul, Int.reducePow, Int.reduceNeg, Int.reduceToNat, Int.reduceLT, Int.reduceLE, Nat.reduceEqDiff, sidsB, Nat.reduceBEq, keyKD, isIntK, aggD, aggL, eqKs]
      first
      | done
      | rfl
      | simp only [Ss, tl]
end Go.Proofs.Ytpnhbjabnnibcaa

namespace Go.Proofs.Ytpnhbjabnnibcaa
open Go Go.Proofs Go.Abs
variable {G : Globals}
/-! The dice's rules and queries. -/
structure RuV where
  kind : Int
  lim : Int
  num : Int
  den : Int
abbrev RuV.D (r : RuV) : D := Ru r.kind r.lim r.num r.den
def ruleM (t : List Int) (k : Nat) : RuV := if pk t k 3 = 0 then ⟨1, 0, 0, 0⟩ else if pk t k 3 = 1 then ⟨2, pk t (k + 1) 4, 0, 0⟩ else ⟨3, 0, 1 + pk t (k + 2) (1 + pk t (k + 1) 4), 1 + pk t (k + 1) 4⟩
def ruleK (t : List Int) (k : Nat) : Nat := if pk t k 3 = 0 then k + 1 else if pk t k 3 = 1 then k + 2 else k + 3
theorem ruleM_ok (t : List Int) (k : Nat) : okR (ruleM t k).kind (ruleM t k).lim (ruleM t k).num (ruleM t k).den = true := by
  have h1 := @pk_range t (k + 1) 4 (by decide)
  have h2 := @pk_range t (k + 2) (1 + pk t (k + 1) 4) (by omega)
  unfold ruleM
  split
  · rfl
  · split
    · exact decide_eq_true (.inr (.inl ⟨rfl, h1.1, by show pk t (k + 1) 4 ≤ 8; omega, rfl, rfl⟩))
    · exact decide_eq_true (.inr (.inr ⟨rfl, rfl, by show 1 ≤ 1 + pk t (k + 2) (1 + pk t (k + 1) 4); omega, by show 1 + pk t (k + 2) (1 + pk t (k + 1) 4) ≤ 1 + pk t (k + 1) 4; omega, by show 1 + pk t (k + 1) 4 ≤ 1000; omega⟩))
set_option maxHeartbeats 4000000 in
set_option maxRecDepth 100000 in
theorem rule_spec (t : List Int) (k : Nat) (ht : OkM t) : Ctr Try.prog G 21 [.ptr 0 0] [DiceM t k] (.d (ruleM t k).D) [DiceM t (ruleK t k)] := by
  refine Ctr.body (M := M0) hmix Try.func21 rfl go21 ?_
  have h1 := @pk_range t (k + 1) 4 (by decide)
  have h0 := @pk_range t k 3 (by decide)
  simp (config := { maxSteps := 1000000 }) (disch := ((try simp only [awL]); omega)) only [nextC_more, nextC_over, bs_size, bs_extract, bs_toList, bs_append, byteAt_bs, bs_cells, nums_length, nums_getD, Try.f21, ↓awU, awV, awF, ofVal, ofVal0, isShift, aggK, forall_const, ↓reduceIte, ↓reduceDIte, ↓purePost, combine, idsA, cellsA, numsOf, srcA, calleeA, refsA, isScalar, scalarD, scalar0, AV.one, putL, unfA, implies_true, IntKind.signed, Nat.reduceAdd, Nat.reduceSub, Nat.reduceMul, Nat.reducePow, Nat.reduceDiv, Nat.reduceMod, Int.reduceAdd, Int.reduceSub, Int.reduceMul, Int.reducePow, Int.reduceNeg, Int.reduceToNat, Int.reduceLT, Int.reduceLE, Nat.reduceEqDiff, sidsB, Nat.reduceBEq, keyKD, isIntK, aggD, aggL, eqKs]
  refine CallC.by (pick_spec t k 3 ht (by decide) (by decide)) (by rfl) (by rfl) (Nat.le_refl _) ?_
  unfold ruleM ruleK
  rcases (by omega : pk t k 3 = 0 ∨ pk t k 3 = 1 ∨ pk t k 3 = 2) with e | e | e
  · rw [if_pos e, if_pos e, e]
    simp (config := { maxSteps := 1000000 }) (disch := ((try simp only [awL]); omega)) only [nextC_more, nextC_over, bs_size, bs_extract, bs_toList, bs_append, byteAt_bs, bs_cells, nums_length, nums_getD, ↓awU, awV, awF, ofVal, ofVal0, isShift, aggK, forall_const, ↓reduceIte, ↓reduceDIte, ↓purePost, combine, idsA, cellsA, numsOf, srcA, calleeA, refsA, isScalar, scalarD, scalar0, AV.one, putL, unfA, implies_true, IntKind.signed, Nat.reduceAdd, Nat.reduceSub, Nat.reduceMul, Nat.reducePow, Nat.reduceDiv, Nat.reduceMod, Int.reduceAdd, Int.reduceSub, Int.reduceMul, Int.reducePow, Int.reduceNeg, Int.reduceToNat, Int.reduceLT, Int.reduceLE, Nat.reduceEqDiff, sidsB, Nat.reduceBEq, keyKD, isIntK, aggD, aggL, eqKs]
    refine ⟨[some 0], rfl, by simp, by simp [HWeak, BWeak, SWeak, AWeak], .inr ⟨_, rfl, ?_, rfl⟩⟩
    simp (config := { maxSteps := 1000000 }) (disch := ((try simp only [awL]); omega)) only [nextC_more, nextC_over, bs_size, bs_extract, bs_toList, bs_append, byteAt_bs, bs_cells, nums_length, nums_getD, ↓awU, awV, awF, ofVal, ofVal0, isShift, aggK, forall_const, ↓reduceIte, ↓reduceDIte, ↓purePost, combine, idsA, cellsA, numsOf, srcA, calleeA, refsA, isScalar, scalarD, scalar0, AV.one, putL, unfA, implies_true, IntKind.signed, Nat.reduceAdd, Nat.reduceSub, Nat.reduceMul, Nat.reducePow, Nat.reduceDiv, Nat.reduceMod, Int.reduceAdd, Int.reduceSub, Int.reduceMul, Int.reducePow, Int.reduceNeg, Int.reduceToNat, Int.reduceLT, Int.reduceLE, Nat.reduceEqDiff, sidsB, Nat.reduceBEq, keyKD, isIntK, aggD, aggL, eqKs]
    try rfl
  · rw [if_neg (show ¬ pk t k 3 = 0 by omega), if_neg (show ¬ pk t k 3 = 0 by omega), if_pos e, if_pos e, e]
    simp (config := { maxSteps := 1000000 }) (disch := ((try simp only [awL]); omega)) only [nextC_more, nextC_over, bs_size, bs_extract, bs_toList, bs_append, byteAt_bs, bs_cells, nums_length, nums_getD, ↓awU, awV, awF, ofVal, ofVal0, isShift, aggK, forall_const, ↓reduceIte, ↓reduceDIte, ↓purePost, combine, idsA, cellsA, numsOf, srcA, calleeA, refsA, isScalar, scalarD, scalar0, AV.one, putL, unfA, implies_true, IntKind.signed, Nat.reduceAdd, Nat.reduceSub, Nat.reduceMul, Nat.reducePow, Nat.reduceDiv, Nat.reduceMod, Int.reduceAdd, Int.reduceSub, Int.reduceMul, Int.reducePow, Int.reduceNeg, Int.reduceToNat, Int.reduceLT, Int.reduceLE, Nat.reduceEqDiff, sidsB, Nat.reduceBEq, keyKD, isIntK, aggD, aggL, eqKs]
    refine CallC.by (pick_spec t (k + 1) 4 ht (by decide) (by decide)) (by rfl) (by rfl) (Nat.le_refl _) ?_
    generalize pk t (k + 1) 4 = z at *
    simp (config := { maxSteps := 1000000 }) (disch := ((try simp only [awL]); omega)) only [nextC_more, nextC_over, bs_size, bs_extract, bs_toList, bs_append, byteAt_bs, bs_cells, nums_length, nums_getD, ↓awU, awV, awF, ofVal, ofVal0, isShift, aggK, forall_const, ↓reduceIte, ↓reduceDIte, ↓purePost, combine, idsA, cellsA, numsOf, srcA, calleeA, refsA, isScalar, scalarD, scalar0, AV.one, putL, unfA, implies_true, IntKind.signed, Nat.reduceAdd, Nat.reduceSub, Nat.reduceMul, Nat.reducePow, Nat.reduceDiv, Nat.reduceMod, Int.reduceAdd, Int.reduceSub, Int.reduceMul, Int.reducePow, Int.reduceNeg, Int.reduceToNat, Int.reduceLT, Int.reduceLE, Nat.reduceEqDiff, sidsB, Nat.reduceBEq, keyKD, isIntK, aggD, aggL, eqKs]
    refine ⟨[some 0], rfl, by simp, by simp [HWeak, BWeak, SWeak, AWeak], .inr ⟨_, rfl, ?_, rfl⟩⟩
    simp (config := { maxSteps := 1000000 }) (disch := ((try simp only [awL]); omega)) only [nextC_more, nextC_over, bs_size, bs_extract, bs_toList, bs_append, byteAt_bs, bs_cells, nums_length, nums_getD, ↓awU, awV, awF, ofVal, ofVal0, isShift, aggK, forall_const, ↓reduceIte, ↓reduceDIte, ↓purePost, combine, idsA, cellsA, numsOf, srcA, calleeA, refsA, isScalar, scalarD, scalar0, AV.one, putL, unfA, implies_true, IntKind.signed, Nat.reduceAdd, Nat.reduceSub, Nat.reduceMul, Nat.reducePow, Nat.reduceDiv, Nat.reduceMod, Int.reduceAdd, Int.reduceSub, Int.reduceMul, Int.reducePow, Int.reduceNeg, Int.reduceToNat, Int.reduceLT, Int.reduceLE, Nat.reduceEqDiff, sidsB, Nat.reduceBEq, keyKD, isIntK, aggD, aggL, eqKs]
    try rfl
  · rw [if_neg (show ¬ pk t k 3 = 0 by omega), if_neg (show ¬ pk t k 3 = 0 by omega), if_neg (show ¬ pk t k 3 = 1 by omega), if_neg (show ¬ pk t k 3 = 1 by omega), e]
    have h2 := @pk_range t (k + 2) (1 + pk t (k + 1) 4) (by omega)
    simp (config := { maxSteps := 1000000 }) (disch := ((try simp only [awL]); omega)) only [nextC_more, nextC_over, bs_size, bs_extract, bs_toList, bs_append, byteAt_bs, bs_cells, nums_length, nums_getD, ↓awU, awV, awF, ofVal, ofVal0, isShift, aggK, forall_const, ↓reduceIte, ↓reduceDIte, ↓purePost, combine, idsA, cellsA, numsOf, srcA, calleeA, refsA, isScalar, scalarD, scalar0, AV.one, putL, unfA, implies_true, IntKind.signed, Nat.reduceAdd, Nat.reduceSub, Nat.reduceMul, Nat.reducePow, Nat.reduceDiv, Nat.reduceMod, Int.reduceAdd, Int.reduceSub, Int.reduceMul, Int.reducePow, Int.reduceNeg, Int.reduceToNat, Int.reduceLT, Int.reduceLE, Nat.reduceEqDiff, sidsB, Nat.reduceBEq, keyKD, isIntK, aggD, aggL, eqKs]
    refine CallC.by (pick_spec t (k + 1) 4 ht (by decide) (by decide)) (by rfl) (by rfl) (Nat.le_refl _) ?_
    generalize pk t (k + 1) 4 = z at *
    simp (config := { maxSteps := 1000000 }) (disch := ((try simp only [awL]); omega)) only [nextC_more, nextC_over, bs_size, bs_extract, bs_toList, bs_append, byteAt_bs, bs_cells, nums_length, nums_getD, ↓awU, awV, awF, ofVal, ofVal0, isShift, aggK, forall_const, ↓reduceIte, ↓reduceDIte, ↓purePost, combine, idsA, cellsA, numsOf, srcA, calleeA, refsA, isScalar, scalarD, scalar0, AV.one, putL, unfA, implies_true, IntKind.signed, Nat.reduceAdd, Nat.reduceSub, Nat.reduceMul, Nat.reducePow, Nat.reduceDiv, Nat.reduceMod, Int.reduceAdd, Int.reduceSub, Int.reduceMul, Int.reducePow, Int.reduceNeg, Int.reduceToNat, Int.reduceLT, Int.reduceLE, Nat.reduceEqDiff, sidsB, Nat.reduceBEq, keyKD, isIntK, aggD, aggL, eqKs]
    refine CallC.by (pick_spec t (k + 1 + 1) (1 + z) ht (by omega) (by omega)) (by rfl) (by rfl) (Nat.le_refl _) ?_
    change _ at h2
    rw [show k + 1 + 1 = k + 2 from rfl]
    generalize pk t (k + 2) (1 + z) = y at *
    simp (config := { maxSteps := 1000000 }) (disch := ((try simp only [awL]); omega)) only [nextC_more, nextC_over, bs_size, bs_extract, bs_toList, bs_append, byteAt_bs, bs_cells, nums_length, nums_getD, ↓awU, awV, awF, ofVal, ofVal0, isShift, aggK, forall_const, ↓reduceIte, ↓reduceDIte, ↓purePost, combine, idsA, cellsA, numsOf, srcA, calleeA, refsA, isScalar, scalarD, scalar0, AV.one, putL, unfA, implies_true, IntKind.signed, Nat.reduceAdd, Nat.reduceSub, Nat.reduceMul, Nat.reducePow, Nat.reduceDiv, Nat.reduceMod, Int.reduceAdd, Int.reduceSub, Int.reduceMul, Int.reducePow, Int.reduceNeg, Int.reduceToNat, Int.reduceLT, Int.reduceLE, Nat.reduceEqDiff, sidsB, Nat.reduceBEq, keyKD, isIntK, aggD, aggL, eqKs]
    refine ⟨[some 0], rfl, by simp, by simp [HWeak, BWeak, SWeak, AWeak], .inr ⟨_, rfl, ?_, rfl⟩⟩
    simp (config := { maxSteps := 1000000 }) (disch := ((try simp only [awL]); omega)) only [nextC_more, nextC_over, bs_size, bs_extract, bs_toList, bs_append, byteAt_bs, bs_cells, nums_length, nums_getD, ↓awU, awV, awF, ofVal, ofVal0, isShift, aggK, forall_const, ↓reduceIte, ↓reduceDIte, ↓purePost, combine, idsA, cellsA, numsOf, srcA, calleeA, refsA, isScalar, scalarD, scalar0, AV.one, putL, unfA, implies_true, IntKind.signed, Nat.reduceAdd, Nat.reduceSub, Nat.reduceMul, Nat.reducePow, Nat.reduceDiv, Nat.reduceMod, Int.reduceAdd, Int.reduceSub, Int.reduceMul, Int.reducePow, Int.reduceNeg, Int.reduceToNat, Int.reduceLT, Int.reduceLE, Nat.reduceEqDiff, sidsB, Nat.reduceBEq, keyKD, isIntK, aggD, aggL, eqKs]
    try rfl
set_option maxRecDepth 100000 in
theorem query_spec (t : List Int) (k : Nat) (n : Int) (ht : OkM t) (h0 : 0 ≤ n) (h1 : n ≤ 100) :
    Ctr Try.prog G 28 [.ptr 0 0, .d (.int .i64 n)] [DiceM t k] (.d (Ss (setL (textsM t (k + 1) (pk t k (n + 1)).toNat)) false)) [DiceM t (k + 1 + (pk t k (n + 1)).toNat)] := by
  have hr := @pk_range t k (n + 1) (by omega)
  have hl := @textsM_length t (k + 1) (pk t k (n + 1)).toNat
  refine Ctr.body (M := M0) hmix Try.func28 rfl go28 ?_
  simp (config := { maxSteps := 1000000 }) (disch := ((try simp only [awL]); omega)) only [nextC_more, nextC_over, bs_size, bs_extract, bs_toList, bs_append, byteAt_bs, bs_cells, nums_length, nums_getD, Try.f28, ↓awU, awV, awF, ofVal, ofVal0, isShift, aggK, forall_const, ↓reduceIte, ↓reduceDIte, ↓purePost, combine, idsA, cellsA, numsOf, srcA, calleeA, refsA, isScalar, scalarD, scalar0, AV.one, putL, unfA, implies_true, IntKind.signed, Nat.reduceAdd, Nat.reduceSub, Nat.reduceMul, Nat.reducePow, Nat.reduceDiv, Nat.reduceMod, Int.reduceAdd, Int.reduceSub, Int.reduceMul, Int.reducePow, Int.reduceNeg, Int.reduceToNat, Int.reduceLT, Int.reduceLE, Nat.reduceEqDiff, sidsB, Nat.reduceBEq, keyKD, isIntK, aggD, aggL, eqKs]
  refine CallC.by (texts_spec t k n ht h0 h1) (by rfl) (by rfl) (Nat.le_refl _) ?_
  generalize textsM t (k + 1) (pk t k (n + 1)).toNat = l at *
  simp (config := { maxSteps := 1000000 }) (disch := ((try simp only [awL]); omega)) only [nextC_more, nextC_over, bs_size, bs_extract, bs_toList, bs_append, byteAt_bs, bs_cells, nums_length, nums_getD, ↓awU, awV, awF, ofVal, ofVal0, isShift, aggK, forall_const, ↓reduceIte, ↓reduceDIte, ↓purePost, combine, idsA, cellsA, numsOf, srcA, calleeA, refsA, isScalar, scalarD, scalar0, AV.one, putL, unfA, implies_true, IntKind.signed, Nat.reduceAdd, Nat.reduceSub, Nat.reduceMul, Nat.reducePow, Nat.reduceDiv, Nat.reduceMod, Int.reduceAdd, Int.reduceSub, Int.reduceMul, Int.reducePow, Int.reduceNeg, Int.reduceToNat, Int.reduceLT, Int.reduceLE, Nat.reduceEqDiff, sidsB, Nat.reduceBEq, keyKD, isIntK, aggD, aggL, eqKs]
  refine CallC.of (rset_spec l false (by omega)) (by rfl) ?_
  simp (config := { maxSteps := 1000000 }) (disch := ((try simp only [awL]); omega)) only [nextC_more, nextC_over, bs_size, bs_extract, bs_toList, bs_append, byteAt_bs, bs_cells, nums_length, nums_getD, ↓awU, awV, awF, ofVal, ofVal0, isShift, aggK, forall_const, ↓reduceIte, ↓reduceDIte, ↓purePost, combine, idsA, cellsA, numsOf, srcA, calleeA, refsA, isScalar, scalarD, scalar0, AV.one, putL, unfA, implies_true, IntKind.signed, Nat.reduceAdd, Nat.reduceSub, Nat.reduceMul, Nat.reducePow, Nat.reduceDiv, Nat.reduceMod, Int.reduceAdd, Int.reduceSub, Int.reduceMul, Int.reducePow, Int.reduceNeg, Int.reduceToNat, Int.reduceLT, Int.reduceLE, Nat.reduceEqDiff, sidsB, Nat.reduceBEq, keyKD, isIntK, aggD, aggL, eqKs]
  exact ⟨[some 0], rfl, by simp, by simp [HWeak, BWeak, SWeak, AWeak], .inl (by simp [AWeak])⟩
end Go.Proofs.Ytpnhbjabnnibcaa

namespace Go.Proofs.Ytpnhbjabnnibcaa
open Go Go.Proofs Go.Abs
variable {G : Globals}
/-! Remainders. -/
set_option maxRecDepth 100000 in
theorem mmod_spec (n m : Int) (hn1 : -9223372036854775808 ≤ n) (hn2 : n ≤ 9223372036854775807) (h0 : 0 < m) (h1 : m < 4611686018427387904) :
    Ctr Try.prog G 22 [.d (.int .i64 n), .d (.int .i64 m)] [] (.d (.int .i64 (n % m))) [] := by
  have e := Int.tmod_eq_emod (a := n) (b := m)
  have p1 := Int.emod_nonneg n (show m ≠ 0 by omega)
  have p2 := Int.emod_lt_of_pos n h0
  have c0 : -m < n.tmod m ∧ n.tmod m < m := ⟨Int.lt_tmod_of_pos n h0, Int.tmod_lt_of_pos n h0⟩
  have hh : (n.tmod m < 0 → n.tmod m + m = n % m) ∧ (¬ n.tmod m < 0 → n.tmod m = n % m) := by
    rw [e]
    split
    · exact ⟨fun h => by omega, fun _ => by omega⟩
    · exact ⟨fun h => by omega, fun h => by omega⟩
  clear e
  refine Ctr.pure (M := M0) hmix Try.func22 rfl go22 ?_
  simp (config := { maxSteps := 1000000 }) (disch := ((try simp only [awL]); omega)) only [Try.f22, ↓awU, awV, awF, ofVal, ofVal0, isShift, aggK, forall_const, ↓reduceIte, ↓reduceDIte, ↓purePost, combine, idsA, cellsA, numsOf, srcA, calleeA, refsA, isScalar, scalarD, scalar0, AV.one, putL, unfA, implies_true, IntKind.signed, Nat.reduceAdd, Nat.reduceSub, Nat.reduceMul, Nat.reducePow, Nat.reduceDiv, Nat.reduceMod, Int.reduceAdd, Int.reduceSub, Int.reduceMul, Int.reducePow, Int.reduceNeg, Int.reduceToNat, Int.reduceLT, Int.reduceLE, Nat.reduceEqDiff, sidsB, Nat.reduceBEq, keyKD, isIntK, aggD, aggL, eqKs]
end Go.Proofs.Ytpnhbjabnnibcaa

namespace Go.Proofs.Ytpnhbjabnnibcaa
open Go Go.Proofs Go.Abs Go.RowKit Go.Sort Go.Shelf
/-! slices.Sort, in place, out of the kit's contract. -/
theorem rd_enc {h : Held} {v : Value} {x : List UInt8} (r : RD h v (S x)) : v = encStr x := by
  cases r with
  | str s => rfl
theorem strs_get {l : List (List UInt8)} {i : Nat} {x : D} (h : (strs l)[i]? = some x) : ∃ y, l[i]? = some y ∧ x = S y := by
  simp only [strs, List.getElem?_map] at h
  cases hl : l[i]? with
  | none => simp [hl] at h
  | some y => simp [hl] at h; exact ⟨y, rfl, h.symm⟩
theorem strs_get' {l : List (List UInt8)} {i : Nat} (h : i < l.length) : (strs l)[i]? = some (S l[i]) := by simp [strs, List.getElem?_eq_getElem h]
theorem sort_ctr {P : Program} {G : Globals} {f : FuncId} (hg : goFn P f = true)
    (hs : ∀ (blk off cap : Nat) (ss : List (List UInt8)) (w : World), Holds encStr w blk off ss.toArray → blk < w.heap.size → ss.length < 4611686018427387904 →
      Calls P f #[.slice (some ⟨blk, off, none⟩) ss.length cap] w fun e w' => e = .returned (.tuple #[]) ∧ ∃ n os, w' = grow (putRow encStr (Sort.ahead w n) blk off (ss.mergeSort fun x y => decide (x ≤ y)).toArray) os)
    (hn : ∀ (p : Option Addr) (cap : Nat) (w : World), Calls P f #[.slice p 0 cap] w fun e w' => e = .returned (.tuple #[]) ∧ w' = w)
    (l : List (List UInt8)) (hl : l.length ≤ 100000) : Ctr P G f [.lsl 0 1 0 l.length] [.row false (strs l)] .undef [.row false (strs (l.mergeSort fun x y => decide (x ≤ y)))] := by
  refine ⟨hg, fun h ρ w vs s r => ?_⟩
  obtain ⟨v, rfl, hv⟩ := r.inv1
  have hb := s.blk 0 _ rfl
  rcases Nat.eq_zero_or_pos l.length with h0 | h0
  · obtain rfl : l = [] := List.eq_nil_of_length_eq_zero h0
    have key : ∃ p cap, v = .slice p 0 cap := by
      cases hv with
      | lsl0 base => exact ⟨_, _, rfl⟩
      | lsl b sz off n cap g S h1 h2 h3 => exact ⟨_, _, rfl⟩
    obtain ⟨p, cap, rfl⟩ := key
    refine (hn p cap w).mono ?_
    rintro e w' ⟨rfl, rfl⟩
    exact ⟨_, h, ρ, rfl, by simpa using s, .undef _, Step.refl _ _ _⟩
  · have key : ∃ g S cap, v = .slice (some ⟨g, 0, none⟩) l.length cap ∧ ρ 0 = some (g, S) ∧ l.length ≤ cap ∧ 0 + cap * 1 ≤ S := by
      generalize hk : l.length = k at hv h0
      cases hv with
      | lsl0 base => omega
      | lsl b sz off n cap g S h1 h2 h3 => exact ⟨g, S, cap, rfl, h1, h2, h3⟩
    obtain ⟨g, S, cap, rfl, hρ, hcap, hS⟩ := key
    obtain ⟨hone, hb⟩ := hb
    rcases hb with ⟨hno, _⟩ | ⟨g', S', c, E, fr, b1, b2, b3, b4, b5, b6, b7, b8⟩
    · rw [hρ] at hno; cases hno
    rw [hρ] at b1; cases b1
    have hlen : (strs l).length = l.length := strs_length
    have hcs : l.length ≤ c.size := by omega
    have hval : ∀ (j : Nat) (hj : j < l.length), c[j]? = some (encStr l[j]) := fun j hj => by
      have h1 : c[j]? = some c[j] := Array.getElem?_eq_getElem (by omega)
      rw [h1, rd_enc (b6 j _ _ (strs_get' hj) h1)]
    have hH : Holds encStr w g 0 l.toArray := by
      intro j hj
      have hj' : j < l.length := by simpa using hj
      refine ⟨?_, ?_⟩
      · simp only [World.cell?, b2, Nat.zero_add]
        rw [hval j hj']
        simp [hj']
      · simp only [World.frozen?, b2, Nat.zero_add]
        have := b4 j (by omega)
        simp only [Bool.and_eq_false_iff, decide_eq_false_iff_not]
        omega
    have hgl : g < w.heap.size := (Array.getElem?_eq_some_iff.1 b2).1
    refine (hs g 0 cap l w hH hgl (by omega)).mono ?_
    rintro e w' ⟨rfl, n, os, rfl⟩
    generalize hm : l.mergeSort (fun x y => decide (x ≤ y)) = m
    have hml : m.length = l.length := by rw [← hm]; exact List.length_mergeSort l
    have other : ∀ k, k ≠ g → k < w.heap.size → (grow (putRow encStr (Sort.ahead w n) g 0 m.toArray) os).heap[k]? = w.heap[k]? := fun k hk hlt => by
      rw [heap_grow_old _ _ (by simpa using hlt)]
      show (w.heap.modify g _)[k]? = _
      rw [Array.getElem?_modify, if_neg (Ne.symm hk)]
    have same : (grow (putRow encStr (Sort.ahead w n) g 0 m.toArray) os).heap[g]? = some (.cells (putCells encStr 0 m.toArray c) E fr) := by
      rw [heap_grow_old _ _ (by simpa using hgl)]
      show (w.heap.modify g _)[g]? = _
      rw [Array.getElem?_modify, if_pos rfl, b2]
      rfl
    have hsz : (putCells encStr 0 m.toArray c).size = c.size := by simp [putCells]
    have hcell : ∀ (j : Nat) (hj : j < m.length), (putCells encStr 0 m.toArray c)[j]? = some (encStr m[j]) := fun j hj => by
      have : j < c.size := by omega
      simp [putCells, Array.getElem?_mapIdx, Array.getElem?_eq_getElem this, hj]
    have hprom : ∀ b o u, h b o = some u → (grow (putRow encStr (Sort.ahead w n) g 0 m.toArray) os).cell? ⟨b, o, none⟩ = some u := by
      intro b o u e
      have hlt := s.held_lt e
      have hne : b ≠ g := fun e' => by subst e'; rw [b8 o (fun e => by cases e)] at e; cases e
      have := s.prom b o u e
      rw [← this]
      simp only [World.cell?, other b hne hlt]
    refine ⟨_, h, ρ, rfl, ⟨hprom, s.glob, fun i b e => ?_, fun i k S2 e => ?_, fun i j k S1 S2 e1 e2 l1 l2 => ?_⟩, .undef _, ⟨rfl, rfl, rfl, by simp, fun k hk hnk => other k (fun e => hnk 0 S (e ▸ hρ)) hk, Held.le_refl _, fun _ _ _ _ => rfl, Place.le_refl _, fun i k S2 e => .inl ⟨i, S2, e⟩⟩⟩
    · cases i with
      | zero =>
        simp [hp] at e; subst e
        refine ⟨fun j x hx => ?_, .inr ⟨g, S, _, E, fr, hρ, same, by rw [hsz]; exact b3, b4, by rw [strs_length, hml]; omega, fun j x u hx hu => ?_, (fun e => by cases e), fun j _ => b8 j (fun e => by cases e)⟩⟩
        · obtain ⟨y, _, rfl⟩ := strs_get hx; rfl
        · obtain ⟨y, hy, rfl⟩ := strs_get hx
          have hj := (List.getElem?_eq_some_iff.1 hy).1
          rw [hcell j hj] at hu
          cases hu
          have : m[j] = y := by rw [List.getElem?_eq_getElem hj] at hy; exact Option.some.inj hy
          rw [this]
          exact .str _
      | succ i => simp [hp] at e
    · obtain ⟨q1, b, q2⟩ := s.dom i k S2 e
      refine ⟨by simp; omega, ?_⟩
      cases i with
      | zero => exact ⟨_, rfl⟩
      | succ i => simp [hp] at q2
    · have z : ∀ i, live (hp [.row false (strs m)]) i → i = 0 := by
        rintro i ⟨b, q, _⟩
        cases i with
        | zero => rfl
        | succ i => simp [hp] at q
      rw [z i l1, z j l2]
def Try.sortL_ren : Go.Shelf.Ren := ⟨fun | 6 => 53 | 8 => 58 | 9 => 57 | 19 => 67 | 20 => 68 | 21 => 59 | 22 => 60 | 23 => 61 | 24 => 62 | 25 => 63 | 26 => 64 | 27 => 50 | 28 => 65 | 29 => 66 | 36 => 69 | 31 => 70 | 32 => 71 | 37 => 72 | 38 => 73 | 39 => 55 | 41 => 74 | n => n, fun | 27 => 35 | 29 => 9 | 3 => 3 | 32 => 69 | 26 => 35 | 0 => 0 | 44 => 87 | 46 => 89 | 4 => 4 | 36 => 81 | 35 => 80 | 41 => 32 | 5 => 5 | 9 => 9 | 53 => 90 | 57 => 94 | 63 => 96 | 64 => 37 | n => n, fun | n => n⟩
theorem Try.sortL : Go.Proofs.SlLaysM.n6 Try.prog Try.sortL_ren where
  mixed := by kernel_rfl
  f6 := ⟨Try.f53.name, by kernel_rfl, Try.func53.trans (congrArg some (by kernel_rfl))⟩
  f8 := Try.func58.trans (congrArg some (by kernel_rfl))
  f9 := ⟨Try.f57.name, by kernel_rfl, Try.func57.trans (congrArg some (by kernel_rfl))⟩
  f19 := Try.func67.trans (congrArg some (by kernel_rfl))
  f20 := Try.func68.trans (congrArg some (by kernel_rfl))
  f21 := ⟨Try.f59.name, by kernel_rfl, Try.func59.trans (congrArg some (by kernel_rfl))⟩
  f22 := ⟨Try.f60.name, by kernel_rfl, Try.func60.trans (congrArg some (by kernel_rfl))⟩
  f23 := ⟨Try.f61.name, by kernel_rfl, Try.func61.trans (congrArg some (by kernel_rfl))⟩
  f24 := ⟨Try.f62.name, by kernel_rfl, Try.func62.trans (congrArg some (by kernel_rfl))⟩
  f25 := ⟨Try.f63.name, by kernel_rfl, Try.func63.trans (congrArg some (by kernel_rfl))⟩
  f26 := ⟨Try.f64.name, by kernel_rfl, Try.func64.trans (congrArg some (by kernel_rfl))⟩
  f27 := ⟨Try.f50.name, by kernel_rfl, Try.func50.trans (congrArg some (by kernel_rfl))⟩
  f28 := ⟨Try.f65.name, by kernel_rfl, Try.func65.trans (congrArg some (by kernel_rfl))⟩
  f29 := ⟨Try.f66.name, by kernel_rfl, Try.func66.trans (congrArg some (by kernel_rfl))⟩
  f31 := Try.func70.trans (congrArg some (by kernel_rfl))
  f32 := Try.func71.trans (congrArg some (by kernel_rfl))
  f36 := ⟨Try.f69.name, by kernel_rfl, Try.func69.trans (congrArg some (by kernel_rfl))⟩
  f37 := ⟨Try.f72.name, by kernel_rfl, Try.func72.trans (congrArg some (by kernel_rfl))⟩
  f38 := ⟨Try.f73.name, by kernel_rfl, Try.func73.trans (congrArg some (by kernel_rfl))⟩
  f39 := ⟨Try.f55.name, by kernel_rfl, Try.func55.trans (congrArg some (by kernel_rfl))⟩
  f41 := ⟨Try.f74.name, by kernel_rfl, Try.func74.trans (congrArg some (by kernel_rfl))⟩
  t0 := Try.underlying0
  a0 := Try.isAgg0
  z0 := Try.sizeOf0
  v0 := Try.zeroValue0
  t3 := Try.underlying3
  a3 := Try.isAgg3
  z3 := Try.sizeOf3
  v3 := Try.zeroValue3
  t4 := Try.underlying4
  a4 := Try.isAgg4
  z4 := Try.sizeOf4
  v4 := Try.zeroValue4
  t5 := Try.underlying5
  a5 := Try.isAgg5
  z5 := Try.sizeOf5
  v5 := Try.zeroValue5
  t9 := Try.underlying9
  a9 := Try.isAgg9
  z9 := Try.sizeOf9
  v9 := Try.zeroValue9
  t26 := Try.underlying35
  a26 := Try.isAgg35
  z26 := Try.sizeOf35
  v26 := Try.zeroValue35
  t27 := Try.underlying35
  a27 := Try.isAgg35
  z27 := Try.sizeOf35
  v27 := Try.zeroValue35
  t29 := Try.underlying9
  a29 := Try.isAgg9
  z29 := Try.sizeOf9
  v29 := Try.zeroValue9
  t32 := Try.underlying69
  a32 := Try.isAgg69
  z32 := Try.sizeOf69
  v32 := Try.zeroValue69
  t35 := Try.underlying80
  a35 := Try.isAgg80
  z35 := Try.sizeOf80
  v35 := Try.zeroValue80
  t36 := Try.underlying81
  a36 := Try.isAgg81
  z36 := Try.sizeOf81
  v36 := Try.zeroValue81
  t41 := Try.underlying32
  a41 := Try.isAgg32
  z41 := Try.sizeOf32
  v41 := Try.zeroValue32
  t44 := Try.underlying87
  a44 := Try.isAgg87
  z44 := Try.sizeOf87
  v44 := Try.zeroValue87
  t46 := Try.underlying89
  a46 := Try.isAgg89
  z46 := Try.sizeOf89
  v46 := Try.zeroValue89
  t53 := Try.underlying90
  a53 := Try.isAgg90
  z53 := Try.sizeOf90
  v53 := Try.zeroValue90
  t57 := Try.underlying94
  a57 := Try.isAgg94
  z57 := Try.sizeOf94
  v57 := Try.zeroValue94
  t63 := Try.underlying96
  a63 := Try.isAgg96
  z63 := Try.sizeOf96
  v63 := Try.zeroValue96
  t64 := Try.underlying37
  a64 := Try.isAgg37
  z64 := Try.sizeOf37
  v64 := Try.zeroValue37

def srt (l : List (List UInt8)) : List (List UInt8) := l.mergeSort fun x y => decide (x ≤ y)
theorem srt_length {l : List (List UInt8)} : (srt l).length = l.length := List.length_mergeSort l
theorem sort_spec {G : Globals} (l : List (List UInt8)) (hl : l.length ≤ 100000) : Ctr Try.prog G 53 [.lsl 0 1 0 l.length] [.row false (strs l)] .undef [.row false (strs (srt l))] :=
  sort_ctr go53 (fun blk off cap ss w h1 h2 h3 => AnyM.slices_Sort_string Try.sortL blk off cap ss w h1 h2 h3) (fun p cap w => AnyM.slices_Sort_string_none Try.sortL p cap w) l hl
end Go.Proofs.Ytpnhbjabnnibcaa

namespace Go.Proofs.Ytpnhbjabnnibcaa
/-! Compacting, from the left. -/
theorem dedup_snoc (x : List UInt8) : ∀ l : List (List UInt8), dedup (l ++ [x]) = if l.getLast? = some x then dedup l else dedup l ++ [x]
  | [] => by simp [dedup]
  | [y] => by
    by_cases h : y = x
    · subst h; simp [dedup]
    · simp [dedup, h]
  | y :: z :: l => by
    have ih := dedup_snoc x (z :: l)
    have hl : (y :: z :: l).getLast? = (z :: l).getLast? := by simp [List.getLast?_cons_cons]
    rw [hl]
    show dedup (y :: z :: (l ++ [x])) = _
    rw [dedup, dedup]
    have ih' : dedup (z :: (l ++ [x])) = if (z :: l).getLast? = some x then dedup (z :: l) else dedup (z :: l) ++ [x] := ih
    rw [ih']
    split
    · split <;> rfl
    · split
      · rfl
      · rfl
theorem dedup_take {l : List (List UInt8)} {i : Nat} (h0 : 1 ≤ i) (h : i < l.length) : dedup (l.take (i + 1)) = if l.getD (i - 1) [] = l.getD i [] then dedup (l.take i) else dedup (l.take i) ++ [l.getD i []] := by
  have e : l.take (i + 1) = l.take i ++ [l.getD i []] := by
    rw [List.take_add_one, List.getElem?_eq_getElem h, List.getD_eq_getElem?_getD, List.getElem?_eq_getElem h]; rfl
  have hl : (l.take i).getLast? = some (l.getD (i - 1) []) := by
    rw [List.getLast?_eq_getElem?, List.length_take, List.getElem?_take, if_pos (by omega), show min i l.length - 1 = i - 1 by omega, List.getD_eq_getElem?_getD, List.getElem?_eq_getElem (by omega)]
    rfl
  rw [e, dedup_snoc, hl]
  simp only [Option.some.injEq]
theorem dedup_length : ∀ l : List (List UInt8), (dedup l).length ≤ l.length
  | [] => Nat.le_refl _
  | [_] => Nat.le_refl _
  | x :: y :: l => by
    have := dedup_length (y :: l)
    rw [dedup]
    split
    · simp only [List.length_cons] at *; omega
    · simp only [List.length_cons] at *; omega
end Go.Proofs.Ytpnhbjabnnibcaa

namespace Go.Proofs.Ytpnhbjabnnibcaa
open Go Go.Proofs Go.Abs
variable {G : Globals}
/-! slices.Compact, in place. -/
def cpt (l : List (List UInt8)) : List (List UInt8) := dedup l ++ List.replicate (l.length - (dedup l).length) []
set_option maxHeartbeats 4000000 in
set_option maxRecDepth 100000 in
theorem compact_spec (l : List (List UInt8)) (hl : l.length ≤ 100000) : Ctr Try.prog G 43 [.lsl 0 1 0 l.length] [.row false (strs l)] (.lsl 0 1 0 (dedup l).length) [.row false (strs (cpt l))] := by
  refine Ctr.body (M := M0) hmix Try.func43 rfl go43 ?_
  have sl := @strs_length l
  rcases Nat.lt_or_ge l.length 2 with h2 | h2
  · have e : dedup l = l ∧ cpt l = l := by
      match l, h2 with
      | [], _ => exact ⟨rfl, rfl⟩
      | [x], _ => exact ⟨rfl, rfl⟩
    rw [e.1, e.2]
    simp (config := { maxSteps := 1000000 }) (disch := ((try simp only [awL]); omega)) only [nextC_more, nextC_over, bs_size, bs_extract, bs_toList, bs_append, byteAt_bs, bs_cells, nums_length, nums_getD, sl, Try.f43, ↓awU, awV, awF, ofVal, ofVal0, isShift, aggK, forall_const, ↓reduceIte, ↓reduceDIte, ↓purePost, combine, idsA, cellsA, numsOf, srcA, calleeA, refsA, isScalar, scalarD, scalar0, AV.one, putL, unfA, implies_true, IntKind.signed, Nat.reduceAdd, Nat.reduceSub, Nat.reduceMul, Nat.reducePow, Nat.reduceDiv, Nat.reduceMod, Int.reduceAdd, Int.reduceSub, Int.reduceMul, Int.reducePow, Int.reduceNeg, Int.reduceToNat, Int.reduceLT, Int.reduceLE, Nat.reduceEqDiff, sidsB, Nat.reduceBEq, keyKD, isIntK, aggD, aggL, eqKs]
    exact ⟨[some 0], rfl, by simp, by simp [HWeak, BWeak, SWeak, AWeak], .inl (by simp [AWeak])⟩
  · simp (config := { maxSteps := 1000000 }) (disch := ((try simp only [awL]); omega)) only [nextC_more, nextC_over, bs_size, bs_extract, bs_toList, bs_append, byteAt_bs, bs_cells, nums_length, nums_getD, sl, Try.f43, ↓awU, awV, awF, ofVal, ofVal0, isShift, aggK, forall_const, ↓reduceIte, ↓reduceDIte, ↓purePost, combine, idsA, cellsA, numsOf, srcA, calleeA, refsA, isScalar, scalarD, scalar0, AV.one, putL, unfA, implies_true, IntKind.signed, Nat.reduceAdd, Nat.reduceSub, Nat.reduceMul, Nat.reducePow, Nat.reduceDiv, Nat.reduceMod, Int.reduceAdd, Int.reduceSub, Int.reduceMul, Int.reducePow, Int.reduceNeg, Int.reduceToNat, Int.reduceLT, Int.reduceLE, Nat.reduceEqDiff, sidsB, Nat.reduceBEq, keyKD, isIntK, aggD, aggL, eqKs]
    refine LoopC.fr 1 (α := Nat) (fun i => l.length - i) (fun i => [(3, .d (.int .i64 i))]) (fun _ => [.row false (strs l)]) (fun i => 1 ≤ i ∧ i ≤ l.length ∧ dedup (l.take i) = l.take i) 1 ⟨Nat.le_refl _, by omega, by
      match l, h2 with
      | x :: r, _ => rfl⟩ ?_ ?_
    · exact ⟨[some 0], rfl, by simp, by simp [setsA, keepA, SWeak, AWeak], by simp [HWeak, BWeak, SWeak, AWeak]⟩
    · rintro i ⟨h1, h3, h4⟩
      simp only [awK, Nat.reduceMod, Nat.reduceDiv, reduceIte]
      rcases Nat.lt_or_ge i l.length with h | h
      · have e1 : ((i : Int) - 1) = ((i - 1 : Nat) : Int) := by omega
        have g1 := strs_getD (l := l) (i := i - 1) (by omega)
        have g2 := strs_getD h
        have hd := dedup_take h1 h
        by_cases he : l.getD (i - 1) [] = l.getD i []
        · rw [if_pos he] at hd
          rw [he] at g1
          simp (config := { maxSteps := 1000000 }) (disch := ((try simp only [awL]); omega)) only [nextC_more, nextC_over, bs_size, bs_extract, bs_toList, bs_append, byteAt_bs, bs_cells, nums_length, nums_getD, sl, e1, g1, g2, beq_self_eq_true, ↓awU, awV, awF, ofVal, ofVal0, isShift, aggK, forall_const, ↓reduceIte, ↓reduceDIte, ↓purePost, combine, idsA, cellsA, numsOf, srcA, calleeA, refsA, isScalar, scalarD, scalar0, AV.one, putL, unfA, implies_true, IntKind.signed, Nat.reduceAdd, Nat.reduceSub, Nat.reduceMul, Nat.reducePow, Nat.reduceDiv, Nat.reduceMod, Int.reduceAdd, Int.reduceSub, Int.reduceMul, Int.reducePow, Int.reduceNeg, Int.reduceToNat, Int.reduceLT, Int.reduceLE, Nat.reduceEqDiff, sidsB, Nat.reduceBEq, keyKD, isIntK, aggD, aggL, eqKs]
          refine ⟨by rfl, ?_⟩
          have hlt : (l.take i).length = i := by rw [List.length_take]; omega
          refine LoopC.fr 17 (α := Nat × Nat × List (List UInt8)) (fun x => l.length - (i + x.1)) (fun x => [(3, .d (.int .i64 x.2.1)), (5, .d (.int .i64 x.1))]) (fun x => [.row false (strs x.2.2)])
            (fun x => 1 ≤ x.1 ∧ i + x.1 ≤ l.length ∧ x.2.2.length = l.length ∧ x.2.1 = (dedup (l.take (i + x.1))).length ∧ x.2.2.take x.2.1 = dedup (l.take (i + x.1)) ∧ x.2.1 + 1 ≤ i + x.1 ∧ ∀ q, i + x.1 ≤ q + 1 → q < l.length → x.2.2.getD q [] = l.getD q [])
            (1, i, l) ⟨Nat.le_refl _, h, rfl, by simp only; rw [hd, h4, hlt], by simp only; rw [hd, h4], Nat.le_refl _, fun q _ _ => rfl⟩ ?_ ?_
          · exact ⟨[some 0], rfl, by simp, by simp [setsA, keepA, SWeak, AWeak], by simp [HWeak, BWeak, SWeak, AWeak]⟩
          · rintro ⟨j, k, R⟩ ⟨j1, j2, j3, j4, j5, j6, j7⟩
            simp only at j1 j2 j3 j4 j5 j6 j7
            have sR := @strs_length R
            simp only [awK, Nat.reduceMod, Nat.reduceDiv, reduceIte]
            rcases Nat.lt_or_ge (i + j) l.length with hj | hj
            · have e2 : ((j : Int) - 1) = ((j - 1 : Nat) : Int) := by omega
              have r1 := strs_getD (l := R) (i := i + j) (by omega)
              have r2 := strs_getD (l := R) (i := i + (j - 1)) (by omega)
              rw [j7 (i + j) (by omega) hj] at r1
              rw [j7 (i + (j - 1)) (by omega) (by omega)] at r2
              have hd2 := dedup_take (l := l) (i := i + j) (by omega) hj
              rw [show i + j - 1 = i + (j - 1) by omega] at hd2
              by_cases hq : l.getD (i + (j - 1)) [] = l.getD (i + j) []
              · rw [if_pos hq] at hd2
                rw [hq] at r2
                simp (config := { maxSteps := 1000000 }) (disch := ((try simp only [awL]); omega)) only [nextC_more, nextC_over, bs_size, bs_extract, bs_toList, bs_append, byteAt_bs, bs_cells, nums_length, nums_getD, sR, j3, e2, r1, r2, beq_self_eq_true, ↓awU, awV, awF, ofVal, ofVal0, isShift, aggK, forall_const, ↓reduceIte, ↓reduceDIte, ↓purePost, combine, idsA, cellsA, numsOf, srcA, calleeA, refsA, isScalar, scalarD, scalar0, AV.one, putL, unfA, implies_true, IntKind.signed, Nat.reduceAdd, Nat.reduceSub, Nat.reduceMul, Nat.reducePow, Nat.reduceDiv, Nat.reduceMod, Int.reduceAdd, Int.reduceSub, Int.reduceMul, Int.reducePow, Int.reduceNeg, Int.reduceToNat, Int.reduceLT, Int.reduceLE, Nat.reduceEqDiff, sidsB, Nat.reduceBEq, keyKD, isIntK, aggD, aggL, eqKs]
                exact ⟨by rfl, (j + 1, k, R), ⟨by simp only; omega, hj, j3, by simp only; rw [← Nat.add_assoc, hd2]; exact j4, by simp only; rw [← Nat.add_assoc, hd2]; exact j5, by simp only; omega, fun q a b => j7 q (by simp only at a; omega) b⟩, by simp only; omega, ⟨[some 0], rfl, by simp, by simp [setsA, keepA, SWeak, AWeak], by simp [HWeak, BWeak, SWeak, AWeak]⟩⟩
              · rw [if_neg hq] at hd2
                have hne : (l.getD (i + j) [] == l.getD (i + (j - 1)) []) = false := by simpa using fun q => hq q.symm
                have hk : k < R.length := by omega
                have ht : (R.set k (l.getD (i + j) [])).take (k + 1) = R.take k ++ [l.getD (i + j) []] := by
                  rw [List.take_add_one, List.getElem?_set_self hk, List.take_set_of_le (Nat.le_refl _)]; rfl
                simp (config := { maxSteps := 1000000 }) (disch := ((try simp only [awL]); omega)) only [nextC_more, nextC_over, bs_size, bs_extract, bs_toList, bs_append, byteAt_bs, bs_cells, nums_length, nums_getD, sR, j3, e2, r1, r2, hne, strs_set, ↓awU, awV, awF, ofVal, ofVal0, isShift, aggK, forall_const, ↓reduceIte, ↓reduceDIte, ↓purePost, combine, idsA, cellsA, numsOf, srcA, calleeA, refsA, isScalar, scalarD, scalar0, AV.one, putL, unfA, implies_true, IntKind.signed, Nat.reduceAdd, Nat.reduceSub, Nat.reduceMul, Nat.reducePow, Nat.reduceDiv, Nat.reduceMod, Int.reduceAdd, Int.reduceSub, Int.reduceMul, Int.reducePow, Int.reduceNeg, Int.reduceToNat, Int.reduceLT, Int.reduceLE, Nat.reduceEqDiff, sidsB, Nat.reduceBEq, keyKD, isIntK, aggD, aggL, eqKs]
                exact ⟨by rfl, (j + 1, k + 1, R.set k (l.getD (i + j) [])), ⟨by simp only; omega, hj, by simp only [List.length_set]; exact j3, by simp only; rw [← Nat.add_assoc, hd2, List.length_append, ← j4]; rfl, by simp only; rw [← Nat.add_assoc, hd2, ht, j5], by simp only; omega, fun q a b => by
                  simp only at a
                  rw [List.getD_eq_getElem?_getD, List.getElem?_set_ne (by omega), ← List.getD_eq_getElem?_getD]
                  exact j7 q (by omega) b⟩, by simp only; omega, ⟨[some 0], rfl, by simp, by simp [setsA, keepA, SWeak, AWeak], by simp [HWeak, BWeak, SWeak, AWeak]⟩⟩
            · have hjl : i + j = l.length := by omega
              rw [hjl, List.take_length] at j4 j5
              have hrow : (strs R).take k ++ zerosD [.str .empty] (l.length - k) ++ (strs R).drop l.length = strs (cpt l) := by
                rw [List.drop_of_length_le (by omega), List.append_nil, zeros_strs, strs_app, j5]
                unfold cpt
                rw [← j4]
              have hkl : k + (l.length - k) = l.length := by omega
              rw [← j4]
              simp (config := { maxSteps := 1000000 }) (disch := ((try simp only [awL]); omega)) only [nextC_more, nextC_over, bs_size, bs_extract, bs_toList, bs_append, byteAt_bs, bs_cells, nums_length, nums_getD, sR, j3, hkl, Nat.mul_one, hrow, ↓awU, awV, awF, ofVal, ofVal0, isShift, aggK, forall_const, ↓reduceIte, ↓reduceDIte, ↓purePost, combine, idsA, cellsA, numsOf, srcA, calleeA, refsA, isScalar, scalarD, scalar0, AV.one, putL, unfA, implies_true, IntKind.signed, Nat.reduceAdd, Nat.reduceSub, Nat.reduceMul, Nat.reducePow, Nat.reduceDiv, Nat.reduceMod, Int.reduceAdd, Int.reduceSub, Int.reduceMul, Int.reducePow, Int.reduceNeg, Int.reduceToNat, Int.reduceLT, Int.reduceLE, Nat.reduceEqDiff, sidsB, Nat.reduceBEq, keyKD, isIntK, aggD, aggL, eqKs]
              first
              | exact ⟨[some 0], rfl, by simp, by simp [HWeak, BWeak, SWeak, AWeak], .inl (by simp [AWeak])⟩
              | trace_state
        · rw [if_neg he, h4] at hd
          have hne : (l.getD i [] == l.getD (i - 1) []) = false := by simpa using fun q => he q.symm
          have hd2 : dedup (l.take (i + 1)) = l.take (i + 1) := by
            rw [hd, List.take_add_one, List.getElem?_eq_getElem h, List.getD_eq_getElem?_getD, List.getElem?_eq_getElem h]; rfl
          simp (config := { maxSteps := 1000000 }) (disch := ((try simp only [awL]); omega)) only [nextC_more, nextC_over, bs_size, bs_extract, bs_toList, bs_append, byteAt_bs, bs_cells, nums_length, nums_getD, sl, e1, g1, g2, hne, ↓awU, awV, awF, ofVal, ofVal0, isShift, aggK, forall_const, ↓reduceIte, ↓reduceDIte, ↓purePost, combine, idsA, cellsA, numsOf, srcA, calleeA, refsA, isScalar, scalarD, scalar0, AV.one, putL, unfA, implies_true, IntKind.signed, Nat.reduceAdd, Nat.reduceSub, Nat.reduceMul, Nat.reducePow, Nat.reduceDiv, Nat.reduceMod, Int.reduceAdd, Int.reduceSub, Int.reduceMul, Int.reducePow, Int.reduceNeg, Int.reduceToNat, Int.reduceLT, Int.reduceLE, Nat.reduceEqDiff, sidsB, Nat.reduceBEq, keyKD, isIntK, aggD, aggL, eqKs]
          exact ⟨by rfl, i + 1, ⟨by omega, h, hd2⟩, by simp only; omega, ⟨[some 0], rfl, by simp, by simp [setsA, keepA, SWeak, AWeak], by simp [HWeak, BWeak, SWeak, AWeak]⟩⟩
      · obtain rfl : i = l.length := by omega
        rw [List.take_length] at h4
        have e : cpt l = l := by unfold cpt; rw [h4]; simp
        rw [h4, e]
        simp (config := { maxSteps := 1000000 }) (disch := ((try simp only [awL]); omega)) only [nextC_more, nextC_over, bs_size, bs_extract, bs_toList, bs_append, byteAt_bs, bs_cells, nums_length, nums_getD, sl, ↓awU, awV, awF, ofVal, ofVal0, isShift, aggK, forall_const, ↓reduceIte, ↓reduceDIte, ↓purePost, combine, idsA, cellsA, numsOf, srcA, calleeA, refsA, isScalar, scalarD, scalar0, AV.one, putL, unfA, implies_true, IntKind.signed, Nat.reduceAdd, Nat.reduceSub, Nat.reduceMul, Nat.reducePow, Nat.reduceDiv, Nat.reduceMod, Int.reduceAdd, Int.reduceSub, Int.reduceMul, Int.reducePow, Int.reduceNeg, Int.reduceToNat, Int.reduceLT, Int.reduceLE, Nat.reduceEqDiff, sidsB, Nat.reduceBEq, keyKD, isIntK, aggD, aggL, eqKs]
        exact ⟨[some 0], rfl, by simp, by simp [HWeak, BWeak, SWeak, AWeak], .inl (by simp [AWeak])⟩
end Go.Proofs.Ytpnhbjabnnibcaa

namespace Go.Proofs.Ytpnhbjabnnibcaa
open Go Go.Proofs Go.Abs
variable {G : Globals}
/-! slices.Values, Collect, Sorted; text.Set. -/
def MY : Muts := fun k => k == 3000000
theorem MY_n {k : Nat} (h : k < 3000000) : MY k = false := by
  simp only [MY, beq_eq_false_iff_ne]; exact Nat.ne_of_lt h
/-- What is left to be answered. -/
theorem Tdo_cons {x : D} {r : List D} {t : List (D × Bool)} (h : Tdo (x :: r) t) : (∃ t', t = (x, true) :: t' ∧ Tdo r t') ∨ t = [(x, false)] := by
  match t, h with
  | (z, true) :: t, h => exact .inl ⟨t, by rw [h.1], h.2⟩
  | (z, false) :: t, h => exact .inr (by rw [h.1, h.2])
theorem Tdo_nil {t : List (D × Bool)} (h : Tdo [] t) : t = [] := by
  match t, h with
  | [], _ => rfl
theorem values1_spec (l : List (List UInt8)) (full : Bool) (hl : l.length ≤ 100000) : IterC Try.prog G 54 [.ptr 1 0] [.box [.d (Ss l full)]] (strs l) := by
  refine IterC.body (M := MY) hmix Try.func54 rfl go54 ?_
  intro lp J todo hJ hT
  have sl := @strs_length l
  simp (config := { maxSteps := 1000000 }) (disch := ((try simp only [awL]); omega)) only [nextC_more, nextC_over, bs_size, bs_extract, bs_toList, bs_append, byteAt_bs, bs_cells, nums_length, nums_getD, sl, Ss, MY_n, Try.f54, ↓awU, awV, awF, ofVal, ofVal0, isShift, aggK, forall_const, ↓reduceIte, ↓reduceDIte, ↓purePost, combine, idsA, cellsA, numsOf, srcA, calleeA, refsA, isScalar, scalarD, scalar0, AV.one, putL, unfA, implies_true, IntKind.signed, Nat.reduceAdd, Nat.reduceSub, Nat.reduceMul, Nat.reducePow, Nat.reduceDiv, Nat.reduceMod, Int.reduceAdd, Int.reduceSub, Int.reduceMul, Int.reducePow, Int.reduceNeg, Int.reduceToNat, Int.reduceLT, Int.reduceLE, Nat.reduceEqDiff, sidsB, Nat.reduceBEq, keyKD, isIntK, aggD, aggL, eqKs]
  refine LoopC.fr 99 (α := Nat × List (D × Bool)) (fun x => l.length - x.1) (fun x => [(7, .d (.int .i64 x.1))]) (fun x => [.ext J x.2, .box [.d (.sl l.length full (strs l))]]) (fun x => x.1 ≤ l.length ∧ Tdo ((strs l).drop x.1) x.2) (0, todo) ⟨Nat.zero_le _, hT⟩ ?_ ?_
  · exact ⟨[some 0, some 1], rfl, by simp, by simp [setsA, keepA, SWeak, AWeak], by simp [HWeak, BWeak, SWeak, AWeak]⟩
  · rintro ⟨i, t⟩ ⟨h1, h2⟩
    simp only at h1 h2
    simp only [awK, Nat.reduceMod, Nat.reduceDiv, reduceIte]
    rcases Nat.lt_or_ge i l.length with h | h
    · have e : (strs l).drop i = S (l.getD i []) :: (strs l).drop (i + 1) := by
        rw [List.drop_eq_getElem_cons (by omega)]
        simp [strs, h]
      rw [e] at h2
      have g := strs_getD h
      rcases Tdo_cons h2 with ⟨t', rfl, h3⟩ | rfl
      · simp (config := { maxSteps := 1000000 }) (disch := ((try simp only [awL]); omega)) only [nextC_more, nextC_over, bs_size, bs_extract, bs_toList, bs_append, byteAt_bs, bs_cells, nums_length, nums_getD, sl, g, MY_n, ↓awU, awV, awF, ofVal, ofVal0, isShift, aggK, forall_const, ↓reduceIte, ↓reduceDIte, ↓purePost, combine, idsA, cellsA, numsOf, srcA, calleeA, refsA, isScalar, scalarD, scalar0, AV.one, putL, unfA, implies_true, IntKind.signed, Nat.reduceAdd, Nat.reduceSub, Nat.reduceMul, Nat.reducePow, Nat.reduceDiv, Nat.reduceMod, Int.reduceAdd, Int.reduceSub, Int.reduceMul, Int.reducePow, Int.reduceNeg, Int.reduceToNat, Int.reduceLT, Int.reduceLE, Nat.reduceEqDiff, sidsB, Nat.reduceBEq, keyKD, isIntK, aggD, aggL, eqKs]
        refine yieldK.by rfl hJ rfl rfl ?_
        simp (config := { maxSteps := 1000000 }) (disch := ((try simp only [awL]); omega)) only [nextC_more, nextC_over, bs_size, bs_extract, bs_toList, bs_append, byteAt_bs, bs_cells, nums_length, nums_getD, sl, MY_n, ↓awU, awV, awF, ofVal, ofVal0, isShift, aggK, forall_const, ↓reduceIte, ↓reduceDIte, ↓purePost, combine, idsA, cellsA, numsOf, srcA, calleeA, refsA, isScalar, scalarD, scalar0, AV.one, putL, unfA, implies_true, IntKind.signed, Nat.reduceAdd, Nat.reduceSub, Nat.reduceMul, Nat.reducePow, Nat.reduceDiv, Nat.reduceMod, Int.reduceAdd, Int.reduceSub, Int.reduceMul, Int.reducePow, Int.reduceNeg, Int.reduceToNat, Int.reduceLT, Int.reduceLE, Nat.reduceEqDiff, sidsB, Nat.reduceBEq, keyKD, isIntK, aggD, aggL, eqKs]
        exact ⟨(i + 1, t'), ⟨h, h3⟩, by simp only; omega, ⟨[some 0, some 1], rfl, by simp, by simp [setsA, keepA, SWeak, AWeak], by simp [HWeak, BWeak, SWeak, AWeak]⟩⟩
      · simp (config := { maxSteps := 1000000 }) (disch := ((try simp only [awL]); omega)) only [nextC_more, nextC_over, bs_size, bs_extract, bs_toList, bs_append, byteAt_bs, bs_cells, nums_length, nums_getD, sl, g, MY_n, ↓awU, awV, awF, ofVal, ofVal0, isShift, aggK, forall_const, ↓reduceIte, ↓reduceDIte, ↓purePost, combine, idsA, cellsA, numsOf, srcA, calleeA, refsA, isScalar, scalarD, scalar0, AV.one, putL, unfA, implies_true, IntKind.signed, Nat.reduceAdd, Nat.reduceSub, Nat.reduceMul, Nat.reducePow, Nat.reduceDiv, Nat.reduceMod, Int.reduceAdd, Int.reduceSub, Int.reduceMul, Int.reducePow, Int.reduceNeg, Int.reduceToNat, Int.reduceLT, Int.reduceLE, Nat.reduceEqDiff, sidsB, Nat.reduceBEq, keyKD, isIntK, aggD, aggL, eqKs]
        refine yieldK.by rfl hJ rfl rfl ?_
        simp (config := { maxSteps := 1000000 }) (disch := ((try simp only [awL]); omega)) only [nextC_more, nextC_over, bs_size, bs_extract, bs_toList, bs_append, byteAt_bs, bs_cells, nums_length, nums_getD, sl, MY_n, ↓awU, awV, awF, ofVal, ofVal0, isShift, aggK, forall_const, ↓reduceIte, ↓reduceDIte, ↓purePost, combine, idsA, cellsA, numsOf, srcA, calleeA, refsA, isScalar, scalarD, scalar0, AV.one, putL, unfA, implies_true, IntKind.signed, Nat.reduceAdd, Nat.reduceSub, Nat.reduceMul, Nat.reducePow, Nat.reduceDiv, Nat.reduceMod, Int.reduceAdd, Int.reduceSub, Int.reduceMul, Int.reducePow, Int.reduceNeg, Int.reduceToNat, Int.reduceLT, Int.reduceLE, Nat.reduceEqDiff, sidsB, Nat.reduceBEq, keyKD, isIntK, aggD, aggL, eqKs]
        exact ⟨[some 0], rfl, by simp, by simp [HWeak, BWeak, SWeak, AWeak], .inl (by simp [AWeak])⟩
    · have e : (strs l).drop i = [] := List.drop_of_length_le (by omega)
      rw [e] at h2
      rw [Tdo_nil h2]
      simp (config := { maxSteps := 1000000 }) (disch := ((try simp only [awL]); omega)) only [nextC_more, nextC_over, bs_size, bs_extract, bs_toList, bs_append, byteAt_bs, bs_cells, nums_length, nums_getD, sl, MY_n, ↓awU, awV, awF, ofVal, ofVal0, isShift, aggK, forall_const, ↓reduceIte, ↓reduceDIte, ↓purePost, combine, idsA, cellsA, numsOf, srcA, calleeA, refsA, isScalar, scalarD, scalar0, AV.one, putL, unfA, implies_true, IntKind.signed, Nat.reduceAdd, Nat.reduceSub, Nat.reduceMul, Nat.reducePow, Nat.reduceDiv, Nat.reduceMod, Int.reduceAdd, Int.reduceSub, Int.reduceMul, Int.reducePow, Int.reduceNeg, Int.reduceToNat, Int.reduceLT, Int.reduceLE, Nat.reduceEqDiff, sidsB, Nat.reduceBEq, keyKD, isIntK, aggD, aggL, eqKs]
      exact ⟨[some 0], rfl, by simp, by simp [HWeak, BWeak, SWeak, AWeak], .inl (by simp [AWeak])⟩
theorem values_spec (l : List (List UInt8)) (full : Bool) : Ctr Try.prog G 45 [.d (Ss l full)] [] (.fn (.func 54) [] [.ptr 0 0]) [.box [.d (Ss l full)]] := by
  refine Ctr.body (M := M0) hmix Try.func45 rfl go45 ?_
  simp (config := { maxSteps := 1000000 }) (disch := ((try simp only [awL]); omega)) only [nextC_more, nextC_over, bs_size, bs_extract, bs_toList, bs_append, byteAt_bs, bs_cells, nums_length, nums_getD, Ss, Try.f45, ↓awU, awV, awF, ofVal, ofVal0, isShift, aggK, forall_const, ↓reduceIte, ↓reduceDIte, ↓purePost, combine, idsA, cellsA, numsOf, srcA, calleeA, refsA, isScalar, scalarD, scalar0, AV.one, putL, unfA, implies_true, IntKind.signed, Nat.reduceAdd, Nat.reduceSub, Nat.reduceMul, Nat.reducePow, Nat.reduceDiv, Nat.reduceMod, Int.reduceAdd, Int.reduceSub, Int.reduceMul, Int.reducePow, Int.reduceNeg, Int.reduceToNat, Int.reduceLT, Int.reduceLE, Nat.reduceEqDiff, sidsB, Nat.reduceBEq, keyKD, isIntK, aggD, aggL, eqKs]
  exact ⟨[some 0], rfl, by simp, by simp [HWeak, BWeak, SWeak, AWeak], .inl (by simp [AWeak, SWeak])⟩
theorem bl_lt : ∀ {x y : List UInt8}, bl x y = true ↔ x < y
  | [], [] => by simp [bl, Op.bytesLess]
  | [], b :: y => by simp [bl, Op.bytesLess]
  | a :: x, [] => by simp [bl, Op.bytesLess]
  | a :: x, b :: y => by
    rw [bl_cons, List.cons_lt_cons_iff, UInt8.lt_iff_toNat_lt, bl_lt (x := x) (y := y)]
theorem srt_sorted (l : List (List UInt8)) : (srt l).Pairwise (fun x y => bl y x = false) := by
  have h := List.pairwise_mergeSort (le := fun x y : List UInt8 => decide (x ≤ y)) (fun a b c h1 h2 => by simp at *; exact List.le_trans h1 h2) (fun a b => by simp; exact List.le_total a b) l
  refine h.imp fun {x y} h => ?_
  simp only [decide_eq_true_eq] at h
  cases hb : bl y x with
  | false => rfl
  | true => exact absurd (bl_lt.1 hb) (by simpa using h)
def MSt : Muts := fun k => k == 53 || (k == 43 || k == 56)
theorem MSt_n {k : Nat} (h : 2000000 ≤ k) : MSt k = false := by
  simp only [MSt, Bool.or_eq_false_iff, beq_eq_false_iff_ne]
  exact ⟨Nat.ne_of_gt (Nat.lt_of_lt_of_le (by decide) h), Nat.ne_of_gt (Nat.lt_of_lt_of_le (by decide) h), Nat.ne_of_gt (Nat.lt_of_lt_of_le (by decide) h)⟩
set_option maxRecDepth 100000 in
theorem appendSeq_spec (l : List (List UInt8)) (full : Bool) (hl : l.length ≤ 100000) : Ctr Try.prog G 56 [.d (.sl 0 true []), .fn (.func 54) [] [.ptr 0 0]] [.box [.d (Ss l full)]] (.lsl 1 1 0 l.length) [.dead, .row false (strs l)] := by
  refine Ctr.body (M := M0) hmix Try.func56 rfl go56 ?_
  have sl := @strs_length l
  simp (config := { maxSteps := 1000000 }) (disch := ((try simp only [awL]); omega)) only [nextC_more, nextC_over, bs_size, bs_extract, bs_toList, bs_append, byteAt_bs, bs_cells, nums_length, nums_getD, sl, Try.f56, ↓awU, awV, awF, ofVal, ofVal0, isShift, aggK, forall_const, ↓reduceIte, ↓reduceDIte, ↓purePost, combine, idsA, cellsA, numsOf, srcA, calleeA, refsA, isScalar, scalarD, scalar0, AV.one, putL, unfA, implies_true, IntKind.signed, Nat.reduceAdd, Nat.reduceSub, Nat.reduceMul, Nat.reducePow, Nat.reduceDiv, Nat.reduceMod, Int.reduceAdd, Int.reduceSub, Int.reduceMul, Int.reducePow, Int.reduceNeg, Int.reduceToNat, Int.reduceLT, Int.reduceLE, Nat.reduceEqDiff, sidsB, Nat.reduceBEq, keyKD, isIntK, aggD, aggL, eqKs]
  refine RangeC.all (α := Unit) (values1_spec l full hl) [some 1, none] 0 [(2, .ptr 0 0)] (fun k _ => [.box [.lsl 1 1 0 k], .row false (strs (l.take k))]) (fun k _ => True) rfl rfl rfl rfl rfl rfl rfl (by simp) () trivial (by simp [setsA, keepA, SWeak, AWeak]) (by simp [HWeak, BWeak, SWeak, AWeak, strs]) (fun _ _ => ⟨rfl, rfl⟩) ?_ ?_
  · rintro k d ⟨⟩ hk hd -
    rw [strs_length] at hk
    obtain ⟨y, hy, rfl⟩ := strs_get hd
    have e : (l.take k).length = k := by rw [List.length_take]; omega
    have st := @strs_length (l.take k)
    rw [e] at st
    simp only [awK, Nat.reduceMod, Nat.reduceDiv, reduceIte]
    simp (config := { maxSteps := 1000000 }) (disch := ((try simp only [awL]); omega)) only [nextC_more, nextC_over, bs_size, bs_extract, bs_toList, bs_append, byteAt_bs, bs_cells, nums_length, nums_getD, st, ↓awU, awV, awF, ofVal, ofVal0, isShift, aggK, forall_const, ↓reduceIte, ↓reduceDIte, ↓purePost, combine, idsA, cellsA, numsOf, srcA, calleeA, refsA, isScalar, scalarD, scalar0, AV.one, putL, unfA, implies_true, IntKind.signed, Nat.reduceAdd, Nat.reduceSub, Nat.reduceMul, Nat.reducePow, Nat.reduceDiv, Nat.reduceMod, Int.reduceAdd, Int.reduceSub, Int.reduceMul, Int.reducePow, Int.reduceNeg, Int.reduceToNat, Int.reduceLT, Int.reduceLE, Nat.reduceEqDiff, sidsB, Nat.reduceBEq, keyKD, isIntK, aggD, aggL, eqKs]
    have e2 : strs (l.take k) ++ [D.str (bs y)] = strs (l.take (k + 1)) := by
      rw [List.take_add_one, hy]; simp [strs]
    rw [e2]
    exact RndE.mk (⟨[some 0, some 3], rfl, by simp, by simp [setsA, keepA, SWeak, AWeak], by simp [HWeak, BWeak, SWeak, AWeak]⟩ : Weak 0 _ _ _ [.box [.lsl 1 1 0 (k + 1)], .row false (strs (l.take (k + 1)))]) ⟨(), rfl⟩
  · rintro ⟨⟩ -
    simp only [awK, Nat.reduceMod, Nat.reduceDiv, reduceIte]
    rw [List.take_of_length_le (by rw [strs_length]; exact Nat.le_refl _)]
    simp (config := { maxSteps := 1000000 }) (disch := ((try simp only [awL]); omega)) only [nextC_more, nextC_over, bs_size, bs_extract, bs_toList, bs_append, byteAt_bs, bs_cells, nums_length, nums_getD, sl, ↓awU, awV, awF, ofVal, ofVal0, isShift, aggK, forall_const, ↓reduceIte, ↓reduceDIte, ↓purePost, combine, idsA, cellsA, numsOf, srcA, calleeA, refsA, isScalar, scalarD, scalar0, AV.one, putL, unfA, implies_true, IntKind.signed, Nat.reduceAdd, Nat.reduceSub, Nat.reduceMul, Nat.reducePow, Nat.reduceDiv, Nat.reduceMod, Int.reduceAdd, Int.reduceSub, Int.reduceMul, Int.reducePow, Int.reduceNeg, Int.reduceToNat, Int.reduceLT, Int.reduceLE, Nat.reduceEqDiff, sidsB, Nat.reduceBEq, keyKD, isIntK, aggD, aggL, eqKs]
    exact ⟨[some 0, some 3], rfl, by simp, by simp [HWeak, BWeak, SWeak, AWeak], .inl (by simp [AWeak])⟩
set_option maxRecDepth 100000 in
theorem collect_spec (l : List (List UInt8)) (full : Bool) (hl : l.length ≤ 100000) : Ctr Try.prog G 52 [.fn (.func 54) [] [.ptr 0 0]] [.box [.d (Ss l full)]] (.lsl 1 1 0 l.length) [.dead, .row false (strs l)] := by
  refine Ctr.body (M := MSt) hmix Try.func52 rfl go52 ?_
  have sl := @strs_length l
  have m1 : MSt 56 = true := rfl
  simp (config := { maxSteps := 1000000 }) (disch := ((try simp only [awL]); omega)) only [nextC_more, nextC_over, bs_size, bs_extract, bs_toList, bs_append, byteAt_bs, bs_cells, nums_length, nums_getD, sl, m1, MSt_n, Try.f52, ↓awU, awV, awF, ofVal, ofVal0, isShift, aggK, forall_const, ↓reduceIte, ↓reduceDIte, ↓purePost, combine, idsA, cellsA, numsOf, srcA, calleeA, refsA, isScalar, scalarD, scalar0, AV.one, putL, unfA, implies_true, IntKind.signed, Nat.reduceAdd, Nat.reduceSub, Nat.reduceMul, Nat.reducePow, Nat.reduceDiv, Nat.reduceMod, Int.reduceAdd, Int.reduceSub, Int.reduceMul, Int.reducePow, Int.reduceNeg, Int.reduceToNat, Int.reduceLT, Int.reduceLE, Nat.reduceEqDiff, sidsB, Nat.reduceBEq, keyKD, isIntK, aggD, aggL, eqKs]
  refine CallC.by (appendSeq_spec l full hl) rfl rfl (by simp) ?_
  simp (config := { maxSteps := 1000000 }) (disch := ((try simp only [awL]); omega)) only [nextC_more, nextC_over, bs_size, bs_extract, bs_toList, bs_append, byteAt_bs, bs_cells, nums_length, nums_getD, sl, m1, MSt_n, ↓awU, awV, awF, ofVal, ofVal0, isShift, aggK, forall_const, ↓reduceIte, ↓reduceDIte, ↓purePost, combine, idsA, cellsA, numsOf, srcA, calleeA, refsA, isScalar, scalarD, scalar0, AV.one, putL, unfA, implies_true, IntKind.signed, Nat.reduceAdd, Nat.reduceSub, Nat.reduceMul, Nat.reducePow, Nat.reduceDiv, Nat.reduceMod, Int.reduceAdd, Int.reduceSub, Int.reduceMul, Int.reducePow, Int.reduceNeg, Int.reduceToNat, Int.reduceLT, Int.reduceLE, Nat.reduceEqDiff, sidsB, Nat.reduceBEq, keyKD, isIntK, aggD, aggL, eqKs]
  exact ⟨[some 0, some 1], rfl, by simp, by simp [HWeak, BWeak, SWeak, AWeak], .inl (by simp [AWeak])⟩
set_option maxRecDepth 100000 in
theorem sorted_spec (l : List (List UInt8)) (full : Bool) (hl : l.length ≤ 100000) : Ctr Try.prog G 44 [.fn (.func 54) [] [.ptr 0 0]] [.box [.d (Ss l full)]] (.lsl 1 1 0 l.length) [.dead, .row false (strs (srt l))] := by
  refine Ctr.body (M := MSt) hmix Try.func44 rfl go44 ?_
  have sl := @strs_length l
  have m1 : MSt 53 = true := rfl
  have m2 : MSt 52 = false := rfl
  simp (config := { maxSteps := 1000000 }) (disch := ((try simp only [awL]); omega)) only [nextC_more, nextC_over, bs_size, bs_extract, bs_toList, bs_append, byteAt_bs, bs_cells, nums_length, nums_getD, sl, m1, m2, MSt_n, Try.f44, ↓awU, awV, awF, ofVal, ofVal0, isShift, aggK, forall_const, ↓reduceIte, ↓reduceDIte, ↓purePost, combine, idsA, cellsA, numsOf, srcA, calleeA, refsA, isScalar, scalarD, scalar0, AV.one, putL, unfA, implies_true, IntKind.signed, Nat.reduceAdd, Nat.reduceSub, Nat.reduceMul, Nat.reducePow, Nat.reduceDiv, Nat.reduceMod, Int.reduceAdd, Int.reduceSub, Int.reduceMul, Int.reducePow, Int.reduceNeg, Int.reduceToNat, Int.reduceLT, Int.reduceLE, Nat.reduceEqDiff, sidsB, Nat.reduceBEq, keyKD, isIntK, aggD, aggL, eqKs]
  refine CallC.by (collect_spec l full hl) rfl rfl (by simp) ?_
  simp (config := { maxSteps := 1000000 }) (disch := ((try simp only [awL]); omega)) only [nextC_more, nextC_over, bs_size, bs_extract, bs_toList, bs_append, byteAt_bs, bs_cells, nums_length, nums_getD, sl, m1, m2, MSt_n, ↓awU, awV, awF, ofVal, ofVal0, isShift, aggK, forall_const, ↓reduceIte, ↓reduceDIte, ↓purePost, combine, idsA, cellsA, numsOf, srcA, calleeA, refsA, isScalar, scalarD, scalar0, AV.one, putL, unfA, implies_true, IntKind.signed, Nat.reduceAdd, Nat.reduceSub, Nat.reduceMul, Nat.reducePow, Nat.reduceDiv, Nat.reduceMod, Int.reduceAdd, Int.reduceSub, Int.reduceMul, Int.reducePow, Int.reduceNeg, Int.reduceToNat, Int.reduceLT, Int.reduceLE, Nat.reduceEqDiff, sidsB, Nat.reduceBEq, keyKD, isIntK, aggD, aggL, eqKs]
  refine CallC.by (sort_spec l hl) rfl rfl (by simp) ?_
  simp (config := { maxSteps := 1000000 }) (disch := ((try simp only [awL]); omega)) only [nextC_more, nextC_over, bs_size, bs_extract, bs_toList, bs_append, byteAt_bs, bs_cells, nums_length, nums_getD, sl, m1, m2, MSt_n, ↓awU, awV, awF, ofVal, ofVal0, isShift, aggK, forall_const, ↓reduceIte, ↓reduceDIte, ↓purePost, combine, idsA, cellsA, numsOf, srcA, calleeA, refsA, isScalar, scalarD, scalar0, AV.one, putL, unfA, implies_true, IntKind.signed, Nat.reduceAdd, Nat.reduceSub, Nat.reduceMul, Nat.reducePow, Nat.reduceDiv, Nat.reduceMod, Int.reduceAdd, Int.reduceSub, Int.reduceMul, Int.reducePow, Int.reduceNeg, Int.reduceToNat, Int.reduceLT, Int.reduceLE, Nat.reduceEqDiff, sidsB, Nat.reduceBEq, keyKD, isIntK, aggD, aggL, eqKs]
  exact ⟨[some 0, some 1], rfl, by simp, by simp [HWeak, BWeak, SWeak, AWeak], .inl (by simp [AWeak])⟩
theorem cpt_cut (l : List (List UInt8)) : cut (strs (cpt l)) 0 (dedup l).length = strs (dedup l) := by
  simp [cut, cpt, strs]
theorem set_spec (l : List (List UInt8)) (full : Bool) (hl : l.length ≤ 100000) : Ctr Try.prog G 35 [.d (Ss l full)] [] (.d (Ss (setL l) false)) [] := by
  refine Ctr.pure (M := MSt) hmix Try.func35 rfl go35 ?_
  have sl := @strs_length l
  have m1 : MSt 43 = true := rfl
  have m2 : MSt 45 = false := rfl
  have m3 : MSt 44 = false := rfl
  have hs := @srt_length l
  have e : dedup (srt l) = setL l := by
    exact setL_dedup (srt_sorted l) (fun t => by simp [srt])
  have cc := cpt_cut (srt l)
  have hc := compact_spec (G := G) (srt l) (by omega)
  rw [e] at cc hc
  simp (config := { maxSteps := 1000000 }) (disch := ((try simp only [awL]); omega)) only [nextC_more, nextC_over, bs_size, bs_extract, bs_toList, bs_append, byteAt_bs, bs_cells, nums_length, nums_getD, sl, m1, m2, m3, MSt_n, Try.f35, ↓awU, awV, awF, ofVal, ofVal0, isShift, aggK, forall_const, ↓reduceIte, ↓reduceDIte, ↓purePost, combine, idsA, cellsA, numsOf, srcA, calleeA, refsA, isScalar, scalarD, scalar0, AV.one, putL, unfA, implies_true, IntKind.signed, Nat.reduceAdd, Nat.reduceSub, Nat.reduceMul, Nat.reducePow, Nat.reduceDiv, Nat.reduceMod, Int.reduceAdd, Int.reduceSub, Int.reduceMul, Int.reducePow, Int.reduceNeg, Int.reduceToNat, Int.reduceLT, Int.reduceLE, Nat.reduceEqDiff, sidsB, Nat.reduceBEq, keyKD, isIntK, aggD, aggL, eqKs]
  refine CallC.by (values_spec l false) rfl rfl (by simp) ?_
  simp (config := { maxSteps := 1000000 }) (disch := ((try simp only [awL]); omega)) only [nextC_more, nextC_over, bs_size, bs_extract, bs_toList, bs_append, byteAt_bs, bs_cells, nums_length, nums_getD, sl, m1, m2, m3, MSt_n, ↓awU, awV, awF, ofVal, ofVal0, isShift, aggK, forall_const, ↓reduceIte, ↓reduceDIte, ↓purePost, combine, idsA, cellsA, numsOf, srcA, calleeA, refsA, isScalar, scalarD, scalar0, AV.one, putL, unfA, implies_true, IntKind.signed, Nat.reduceAdd, Nat.reduceSub, Nat.reduceMul, Nat.reducePow, Nat.reduceDiv, Nat.reduceMod, Int.reduceAdd, Int.reduceSub, Int.reduceMul, Int.reducePow, Int.reduceNeg, Int.reduceToNat, Int.reduceLT, Int.reduceLE, Nat.reduceEqDiff, sidsB, Nat.reduceBEq, keyKD, isIntK, aggD, aggL, eqKs]
  refine CallC.by (sorted_spec l false hl) rfl rfl (by simp) ?_
  simp (config := { maxSteps := 1000000 }) (disch := ((try simp only [awL]); omega)) only [nextC_more, nextC_over, bs_size, bs_extract, bs_toList, bs_append, byteAt_bs, bs_cells, nums_length, nums_getD, sl, m1, m2, m3, MSt_n, ↓awU, awV, awF, ofVal, ofVal0, isShift, aggK, forall_const, ↓reduceIte, ↓reduceDIte, ↓purePost, combine, idsA, cellsA, numsOf, srcA, calleeA, refsA, isScalar, scalarD, scalar0, AV.one, putL, unfA, implies_true, IntKind.signed, Nat.reduceAdd, Nat.reduceSub, Nat.reduceMul, Nat.reducePow, Nat.reduceDiv, Nat.reduceMod, Int.reduceAdd, Int.reduceSub, Int.reduceMul, Int.reducePow, Int.reduceNeg, Int.reduceToNat, Int.reduceLT, Int.reduceLE, Nat.reduceEqDiff, sidsB, Nat.reduceBEq, keyKD, isIntK, aggD, aggL, eqKs]
  rw [hs] at hc
  refine CallC.by hc rfl rfl (by simp) ?_
  simp (config := { maxSteps := 1000000 }) (disch := ((try simp only [awL]); omega)) only [nextC_more, nextC_over, bs_size, bs_extract, bs_toList, bs_append, byteAt_bs, bs_cells, nums_length, nums_getD, sl, cc, strs_length, Ss, m1, m2, m3, MSt_n, ↓awU, awV, awF, ofVal, ofVal0, isShift, aggK, forall_const, ↓reduceIte, ↓reduceDIte, ↓purePost, combine, idsA, cellsA, numsOf, srcA, calleeA, refsA, isScalar, scalarD, scalar0, AV.one, putL, unfA, implies_true, IntKind.signed, Nat.reduceAdd, Nat.reduceSub, Nat.reduceMul, Nat.reducePow, Nat.reduceDiv, Nat.reduceMod, Int.reduceAdd, Int.reduceSub, Int.reduceMul, Int.reducePow, Int.reduceNeg, Int.reduceToNat, Int.reduceLT, Int.reduceLE, Nat.reduceEqDiff, sidsB, Nat.reduceBEq, keyKD, isIntK, aggD, aggL, eqKs]
end Go.Proofs.Ytpnhbjabnnibcaa

namespace Go.Proofs.Ytpnhbjabnnibcaa
open Go Go.Proofs Go.Abs
variable {G : Globals}
/-! The program's own: tokens of two texts, rules, lengths, similar texts. -/
set_option maxRecDepth 100000 in
theorem toks_spec (a b : List UInt8) (ha : a.length ≤ 10000) (hb : b.length ≤ 10000) : Ctr Try.prog G 16 [.d (S a), .d (S b)] [] (.d (.tup [.int .i64 (comB (tokS a) (tokS b) : Nat), .int .i64 (uniB (tokS a) (tokS b))])) [] := by
  have la := tokL_length a
  have lb := tokL_length b
  have sa := tokS_length a
  have sb := tokS_length b
  refine Ctr.pure (M := M0) hmix Try.func16 rfl go16 ?_
  simp (config := { maxSteps := 1000000 }) (disch := ((try simp only [awL]); omega)) only [nextC_more, nextC_over, bs_size, bs_extract, bs_toList, bs_append, byteAt_bs, bs_cells, nums_length, nums_getD, Try.f16, ↓awU, awV, awF, ofVal, ofVal0, isShift, aggK, forall_const, ↓reduceIte, ↓reduceDIte, ↓purePost, combine, idsA, cellsA, numsOf, srcA, calleeA, refsA, isScalar, scalarD, scalar0, AV.one, putL, unfA, implies_true, IntKind.signed, Nat.reduceAdd, Nat.reduceSub, Nat.reduceMul, Nat.reducePow, Nat.reduceDiv, Nat.reduceMod, Int.reduceAdd, Int.reduceSub, Int.reduceMul, Int.reducePow, Int.reduceNeg, Int.reduceToNat, Int.reduceLT, Int.reduceLE, Nat.reduceEqDiff, sidsB, Nat.reduceBEq, keyKD, isIntK, aggD, aggL, eqKs]
  refine CallC.pure (tokens_spec a (by omega)) ?_
  simp (config := { maxSteps := 1000000 }) (disch := ((try simp only [awL]); omega)) only [nextC_more, nextC_over, bs_size, bs_extract, bs_toList, bs_append, byteAt_bs, bs_cells, nums_length, nums_getD, ↓awU, awV, awF, ofVal, ofVal0, isShift, aggK, forall_const, ↓reduceIte, ↓reduceDIte, ↓purePost, combine, idsA, cellsA, numsOf, srcA, calleeA, refsA, isScalar, scalarD, scalar0, AV.one, putL, unfA, implies_true, IntKind.signed, Nat.reduceAdd, Nat.reduceSub, Nat.reduceMul, Nat.reducePow, Nat.reduceDiv, Nat.reduceMod, Int.reduceAdd, Int.reduceSub, Int.reduceMul, Int.reducePow, Int.reduceNeg, Int.reduceToNat, Int.reduceLT, Int.reduceLE, Nat.reduceEqDiff, sidsB, Nat.reduceBEq, keyKD, isIntK, aggD, aggL, eqKs]
  refine CallC.of (set_spec (tokL a) false (by omega)) (by rfl) ?_
  simp (config := { maxSteps := 1000000 }) (disch := ((try simp only [awL]); omega)) only [nextC_more, nextC_over, bs_size, bs_extract, bs_toList, bs_append, byteAt_bs, bs_cells, nums_length, nums_getD, ↓awU, awV, awF, ofVal, ofVal0, isShift, aggK, forall_const, ↓reduceIte, ↓reduceDIte, ↓purePost, combine, idsA, cellsA, numsOf, srcA, calleeA, refsA, isScalar, scalarD, scalar0, AV.one, putL, unfA, implies_true, IntKind.signed, Nat.reduceAdd, Nat.reduceSub, Nat.reduceMul, Nat.reducePow, Nat.reduceDiv, Nat.reduceMod, Int.reduceAdd, Int.reduceSub, Int.reduceMul, Int.reducePow, Int.reduceNeg, Int.reduceToNat, Int.reduceLT, Int.reduceLE, Nat.reduceEqDiff, sidsB, Nat.reduceBEq, keyKD, isIntK, aggD, aggL, eqKs]
  refine CallC.pure (tokens_spec b (by omega)) ?_
  simp (config := { maxSteps := 1000000 }) (disch := ((try simp only [awL]); omega)) only [nextC_more, nextC_over, bs_size, bs_extract, bs_toList, bs_append, byteAt_bs, bs_cells, nums_length, nums_getD, ↓awU, awV, awF, ofVal, ofVal0, isShift, aggK, forall_const, ↓reduceIte, ↓reduceDIte, ↓purePost, combine, idsA, cellsA, numsOf, srcA, calleeA, refsA, isScalar, scalarD, scalar0, AV.one, putL, unfA, implies_true, IntKind.signed, Nat.reduceAdd, Nat.reduceSub, Nat.reduceMul, Nat.reducePow, Nat.reduceDiv, Nat.reduceMod, Int.reduceAdd, Int.reduceSub, Int.reduceMul, Int.reducePow, Int.reduceNeg, Int.reduceToNat, Int.reduceLT, Int.reduceLE, Nat.reduceEqDiff, sidsB, Nat.reduceBEq, keyKD, isIntK, aggD, aggL, eqKs]
  refine CallC.of (set_spec (tokL b) false (by omega)) (by rfl) ?_
  simp (config := { maxSteps := 1000000 }) (disch := ((try simp only [awL]); omega)) only [nextC_more, nextC_over, bs_size, bs_extract, bs_toList, bs_append, byteAt_bs, bs_cells, nums_length, nums_getD, ↓awU, awV, awF, ofVal, ofVal0, isShift, aggK, forall_const, ↓reduceIte, ↓reduceDIte, ↓purePost, combine, idsA, cellsA, numsOf, srcA, calleeA, refsA, isScalar, scalarD, scalar0, AV.one, putL, unfA, implies_true, IntKind.signed, Nat.reduceAdd, Nat.reduceSub, Nat.reduceMul, Nat.reducePow, Nat.reduceDiv, Nat.reduceMod, Int.reduceAdd, Int.reduceSub, Int.reduceMul, Int.reducePow, Int.reduceNeg, Int.reduceToNat, Int.reduceLT, Int.reduceLE, Nat.reduceEqDiff, sidsB, Nat.reduceBEq, keyKD, isIntK, aggD, aggL, eqKs]
  refine CallC.of (common_spec (tokS a) (tokS b) false false (by omega) (by omega)) (by rfl) ?_
  simp (config := { maxSteps := 1000000 }) (disch := ((try simp only [awL]); omega)) only [nextC_more, nextC_over, bs_size, bs_extract, bs_toList, bs_append, byteAt_bs, bs_cells, nums_length, nums_getD, ↓awU, awV, awF, ofVal, ofVal0, isShift, aggK, forall_const, ↓reduceIte, ↓reduceDIte, ↓purePost, combine, idsA, cellsA, numsOf, srcA, calleeA, refsA, isScalar, scalarD, scalar0, AV.one, putL, unfA, implies_true, IntKind.signed, Nat.reduceAdd, Nat.reduceSub, Nat.reduceMul, Nat.reducePow, Nat.reduceDiv, Nat.reduceMod, Int.reduceAdd, Int.reduceSub, Int.reduceMul, Int.reducePow, Int.reduceNeg, Int.reduceToNat, Int.reduceLT, Int.reduceLE, Nat.reduceEqDiff, sidsB, Nat.reduceBEq, keyKD, isIntK, aggD, aggL, eqKs]
  refine CallC.of (union_spec (tokS a) (tokS b) false false (by omega) (by omega)) (by rfl) ?_
  simp (config := { maxSteps := 1000000 }) (disch := ((try simp only [awL]); omega)) only [nextC_more, nextC_over, bs_size, bs_extract, bs_toList, bs_append, byteAt_bs, bs_cells, nums_length, nums_getD, ↓awU, awV, awF, ofVal, ofVal0, isShift, aggK, forall_const, ↓reduceIte, ↓reduceDIte, ↓purePost, combine, idsA, cellsA, numsOf, srcA, calleeA, refsA, isScalar, scalarD, scalar0, AV.one, putL, unfA, implies_true, IntKind.signed, Nat.reduceAdd, Nat.reduceSub, Nat.reduceMul, Nat.reducePow, Nat.reduceDiv, Nat.reduceMod, Int.reduceAdd, Int.reduceSub, Int.reduceMul, Int.reducePow, Int.reduceNeg, Int.reduceToNat, Int.reduceLT, Int.reduceLE, Nat.reduceEqDiff, sidsB, Nat.reduceBEq, keyKD, isIntK, aggD, aggL, eqKs]
  try rfl
set_option maxHeartbeats 4000000 in
set_option maxRecDepth 100000 in
theorem valid_spec (kind lim num den : Int) : Ctr Try.prog G 23 [.d (Ru kind lim num den)] [] (.d (.bool (okR kind lim num den))) [] := by
  refine Ctr.pure (M := M0) hmix Try.func23 rfl go23 ?_
  rcases (by omega : kind = 1 ∨ kind = 2 ∨ kind = 3 ∨ (kind ≠ 1 ∧ kind ≠ 2 ∧ kind ≠ 3)) with rfl | rfl | rfl | ⟨h1, h2, h3⟩
  · by_cases e1 : lim = 0
    · by_cases e2 : num = 0
      · by_cases e3 : den = 0
        · have e : okR 1 lim num den = true := decide_eq_true (by omega)
          rw [e]
          simp (config := { maxSteps := 1000000 }) (disch := ((try simp only [awL]); omega)) only [Try.f23, ↓awU, awV, awF, ofVal, ofVal0, isShift, aggK, forall_const, ↓reduceIte, ↓reduceDIte, ↓purePost, combine, idsA, cellsA, numsOf, srcA, calleeA, refsA, isScalar, scalarD, scalar0, AV.one, putL, unfA, implies_true, IntKind.signed, Nat.reduceAdd, Nat.reduceSub, Nat.reduceMul, Nat.reducePow, Nat.reduceDiv, Nat.reduceMod, Int.reduceAdd, Int.reduceSub, Int.reduceMul, Int.reducePow, Int.reduceNeg, Int.reduceToNat, Int.reduceLT, Int.reduceLE, Nat.reduceEqDiff, sidsB, Nat.reduceBEq, keyKD, isIntK, aggD, aggL, eqKs]
          try rfl
        · have e : okR 1 lim num den = false := decide_eq_false (by omega)
          rw [e]
          simp (config := { maxSteps := 1000000 }) (disch := ((try simp only [awL]); omega)) only [Try.f23, ↓awU, awV, awF, ofVal, ofVal0, isShift, aggK, forall_const, ↓reduceIte, ↓reduceDIte, ↓purePost, combine, idsA, cellsA, numsOf, srcA, calleeA, refsA, isScalar, scalarD, scalar0, AV.one, putL, unfA, implies_true, IntKind.signed, Nat.reduceAdd, Nat.reduceSub, Nat.reduceMul, Nat.reducePow, Nat.reduceDiv, Nat.reduceMod, Int.reduceAdd, Int.reduceSub, Int.reduceMul, Int.reducePow, Int.reduceNeg, Int.reduceToNat, Int.reduceLT, Int.reduceLE, Nat.reduceEqDiff, sidsB, Nat.reduceBEq, keyKD, isIntK, aggD, aggL, eqKs]
          try rfl
      · have e : okR 1 lim num den = false := decide_eq_false (by omega)
        rw [e]
        simp (config := { maxSteps := 1000000 }) (disch := ((try simp only [awL]); omega)) only [Try.f23, ↓awU, awV, awF, ofVal, ofVal0, isShift, aggK, forall_const, ↓reduceIte, ↓reduceDIte, ↓purePost, combine, idsA, cellsA, numsOf, srcA, calleeA, refsA, isScalar, scalarD, scalar0, AV.one, putL, unfA, implies_true, IntKind.signed, Nat.reduceAdd, Nat.reduceSub, Nat.reduceMul, Nat.reducePow, Nat.reduceDiv, Nat.reduceMod, Int.reduceAdd, Int.reduceSub, Int.reduceMul, Int.reducePow, Int.reduceNeg, Int.reduceToNat, Int.reduceLT, Int.reduceLE, Nat.reduceEqDiff, sidsB, Nat.reduceBEq, keyKD, isIntK, aggD, aggL, eqKs]
        try rfl
    · have e : okR 1 lim num den = false := decide_eq_false (by omega)
      rw [e]
      simp (config := { maxSteps := 1000000 }) (disch := ((try simp only [awL]); omega)) only [Try.f23, ↓awU, awV, awF, ofVal, ofVal0, isShift, aggK, forall_const, ↓reduceIte, ↓reduceDIte, ↓purePost, combine, idsA, cellsA, numsOf, srcA, calleeA, refsA, isScalar, scalarD, scalar0, AV.one, putL, unfA, implies_true, IntKind.signed, Nat.reduceAdd, Nat.reduceSub, Nat.reduceMul, Nat.reducePow, Nat.reduceDiv, Nat.reduceMod, Int.reduceAdd, Int.reduceSub, Int.reduceMul, Int.reducePow, Int.reduceNeg, Int.reduceToNat, Int.reduceLT, Int.reduceLE, Nat.reduceEqDiff, sidsB, Nat.reduceBEq, keyKD, isIntK, aggD, aggL, eqKs]
      try rfl
  · rcases (by omega : (lim < 0) ∨ (0 ≤ lim ∧ 8 < lim) ∨ ((0 ≤ lim ∧ lim ≤ 8) ∧ num ≠ 0) ∨ ((0 ≤ lim ∧ lim ≤ 8) ∧ num = 0 ∧ den ≠ 0) ∨ ((0 ≤ lim ∧ lim ≤ 8) ∧ num = 0 ∧ den = 0)) with q | q | q | q | q
    · have e : okR 2 lim num den = false := decide_eq_false (by omega)
      rw [e]
      simp (config := { maxSteps := 1000000 }) (disch := ((try simp only [awL]); omega)) only [Try.f23, ↓awU, awV, awF, ofVal, ofVal0, isShift, aggK, forall_const, ↓reduceIte, ↓reduceDIte, ↓purePost, combine, idsA, cellsA, numsOf, srcA, calleeA, refsA, isScalar, scalarD, scalar0, AV.one, putL, unfA, implies_true, IntKind.signed, Nat.reduceAdd, Nat.reduceSub, Nat.reduceMul, Nat.reducePow, Nat.reduceDiv, Nat.reduceMod, Int.reduceAdd, Int.reduceSub, Int.reduceMul, Int.reducePow, Int.reduceNeg, Int.reduceToNat, Int.reduceLT, Int.reduceLE, Nat.reduceEqDiff, sidsB, Nat.reduceBEq, keyKD, isIntK, aggD, aggL, eqKs]
      try rfl
    · have e : okR 2 lim num den = false := decide_eq_false (by omega)
      rw [e]
      simp (config := { maxSteps := 1000000 }) (disch := ((try simp only [awL]); omega)) only [Try.f23, ↓awU, awV, awF, ofVal, ofVal0, isShift, aggK, forall_const, ↓reduceIte, ↓reduceDIte, ↓purePost, combine, idsA, cellsA, numsOf, srcA, calleeA, refsA, isScalar, scalarD, scalar0, AV.one, putL, unfA, implies_true, IntKind.signed, Nat.reduceAdd, Nat.reduceSub, Nat.reduceMul, Nat.reducePow, Nat.reduceDiv, Nat.reduceMod, Int.reduceAdd, Int.reduceSub, Int.reduceMul, Int.reducePow, Int.reduceNeg, Int.reduceToNat, Int.reduceLT, Int.reduceLE, Nat.reduceEqDiff, sidsB, Nat.reduceBEq, keyKD, isIntK, aggD, aggL, eqKs]
      try rfl
    · have e : okR 2 lim num den = false := decide_eq_false (by omega)
      rw [e]
      simp (config := { maxSteps := 1000000 }) (disch := ((try simp only [awL]); omega)) only [Try.f23, ↓awU, awV, awF, ofVal, ofVal0, isShift, aggK, forall_const, ↓reduceIte, ↓reduceDIte, ↓purePost, combine, idsA, cellsA, numsOf, srcA, calleeA, refsA, isScalar, scalarD, scalar0, AV.one, putL, unfA, implies_true, IntKind.signed, Nat.reduceAdd, Nat.reduceSub, Nat.reduceMul, Nat.reducePow, Nat.reduceDiv, Nat.reduceMod, Int.reduceAdd, Int.reduceSub, Int.reduceMul, Int.reducePow, Int.reduceNeg, Int.reduceToNat, Int.reduceLT, Int.reduceLE, Nat.reduceEqDiff, sidsB, Nat.reduceBEq, keyKD, isIntK, aggD, aggL, eqKs]
      try rfl
    · have e : okR 2 lim num den = false := decide_eq_false (by omega)
      rw [e]
      simp (config := { maxSteps := 1000000 }) (disch := ((try simp only [awL]); omega)) only [Try.f23, ↓awU, awV, awF, ofVal, ofVal0, isShift, aggK, forall_const, ↓reduceIte, ↓reduceDIte, ↓purePost, combine, idsA, cellsA, numsOf, srcA, calleeA, refsA, isScalar, scalarD, scalar0, AV.one, putL, unfA, implies_true, IntKind.signed, Nat.reduceAdd, Nat.reduceSub, Nat.reduceMul, Nat.reducePow, Nat.reduceDiv, Nat.reduceMod, Int.reduceAdd, Int.reduceSub, Int.reduceMul, Int.reducePow, Int.reduceNeg, Int.reduceToNat, Int.reduceLT, Int.reduceLE, Nat.reduceEqDiff, sidsB, Nat.reduceBEq, keyKD, isIntK, aggD, aggL, eqKs]
      try rfl
    · have e : okR 2 lim num den = true := decide_eq_true (by omega)
      rw [e]
      simp (config := { maxSteps := 1000000 }) (disch := ((try simp only [awL]); omega)) only [Try.f23, ↓awU, awV, awF, ofVal, ofVal0, isShift, aggK, forall_const, ↓reduceIte, ↓reduceDIte, ↓purePost, combine, idsA, cellsA, numsOf, srcA, calleeA, refsA, isScalar, scalarD, scalar0, AV.one, putL, unfA, implies_true, IntKind.signed, Nat.reduceAdd, Nat.reduceSub, Nat.reduceMul, Nat.reducePow, Nat.reduceDiv, Nat.reduceMod, Int.reduceAdd, Int.reduceSub, Int.reduceMul, Int.reducePow, Int.reduceNeg, Int.reduceToNat, Int.reduceLT, Int.reduceLE, Nat.reduceEqDiff, sidsB, Nat.reduceBEq, keyKD, isIntK, aggD, aggL, eqKs]
      try rfl
  · rcases (by omega : (lim ≠ 0) ∨ (lim = 0 ∧ num < 1) ∨ (lim = 0 ∧ 1 ≤ num ∧ den < num) ∨ (lim = 0 ∧ 1 ≤ num ∧ num ≤ den ∧ 1000 < den) ∨ (lim = 0 ∧ 1 ≤ num ∧ num ≤ den ∧ den ≤ 1000)) with q | q | q | q | q
    · have e : okR 3 lim num den = false := decide_eq_false (by omega)
      rw [e]
      simp (config := { maxSteps := 1000000 }) (disch := ((try simp only [awL]); omega)) only [Try.f23, ↓awU, awV, awF, ofVal, ofVal0, isShift, aggK, forall_const, ↓reduceIte, ↓reduceDIte, ↓purePost, combine, idsA, cellsA, numsOf, srcA, calleeA, refsA, isScalar, scalarD, scalar0, AV.one, putL, unfA, implies_true, IntKind.signed, Nat.reduceAdd, Nat.reduceSub, Nat.reduceMul, Nat.reducePow, Nat.reduceDiv, Nat.reduceMod, Int.reduceAdd, Int.reduceSub, Int.reduceMul, Int.reducePow, Int.reduceNeg, Int.reduceToNat, Int.reduceLT, Int.reduceLE, Nat.reduceEqDiff, sidsB, Nat.reduceBEq, keyKD, isIntK, aggD, aggL, eqKs]
      try rfl
    · have e : okR 3 lim num den = false := decide_eq_false (by omega)
      rw [e]
      simp (config := { maxSteps := 1000000 }) (disch := ((try simp only [awL]); omega)) only [Try.f23, ↓awU, awV, awF, ofVal, ofVal0, isShift, aggK, forall_const, ↓reduceIte, ↓reduceDIte, ↓purePost, combine, idsA, cellsA, numsOf, srcA, calleeA, refsA, isScalar, scalarD, scalar0, AV.one, putL, unfA, implies_true, IntKind.signed, Nat.reduceAdd, Nat.reduceSub, Nat.reduceMul, Nat.reducePow, Nat.reduceDiv, Nat.reduceMod, Int.reduceAdd, Int.reduceSub, Int.reduceMul, Int.reducePow, Int.reduceNeg, Int.reduceToNat, Int.reduceLT, Int.reduceLE, Nat.reduceEqDiff, sidsB, Nat.reduceBEq, keyKD, isIntK, aggD, aggL, eqKs]
      try rfl
    · have e : okR 3 lim num den = false := decide_eq_false (by omega)
      rw [e]
      simp (config := { maxSteps := 1000000 }) (disch := ((try simp only [awL]); omega)) only [Try.f23, ↓awU, awV, awF, ofVal, ofVal0, isShift, aggK, forall_const, ↓reduceIte, ↓reduceDIte, ↓purePost, combine, idsA, cellsA, numsOf, srcA, calleeA, refsA, isScalar, scalarD, scalar0, AV.one, putL, unfA, implies_true, IntKind.signed, Nat.reduceAdd, Nat.reduceSub, Nat.reduceMul, Nat.reducePow, Nat.reduceDiv, Nat.reduceMod, Int.reduceAdd, Int.reduceSub, Int.reduceMul, Int.reducePow, Int.reduceNeg, Int.reduceToNat, Int.reduceLT, Int.reduceLE, Nat.reduceEqDiff, sidsB, Nat.reduceBEq, keyKD, isIntK, aggD, aggL, eqKs]
      try rfl
    · have e : okR 3 lim num den = false := decide_eq_false (by omega)
      rw [e]
      simp (config := { maxSteps := 1000000 }) (disch := ((try simp only [awL]); omega)) only [Try.f23, ↓awU, awV, awF, ofVal, ofVal0, isShift, aggK, forall_const, ↓reduceIte, ↓reduceDIte, ↓purePost, combine, idsA, cellsA, numsOf, srcA, calleeA, refsA, isScalar, scalarD, scalar0, AV.one, putL, unfA, implies_true, IntKind.signed, Nat.reduceAdd, Nat.reduceSub, Nat.reduceMul, Nat.reducePow, Nat.reduceDiv, Nat.reduceMod, Int.reduceAdd, Int.reduceSub, Int.reduceMul, Int.reducePow, Int.reduceNeg, Int.reduceToNat, Int.reduceLT, Int.reduceLE, Nat.reduceEqDiff, sidsB, Nat.reduceBEq, keyKD, isIntK, aggD, aggL, eqKs]
      try rfl
    · have e : okR 3 lim num den = true := decide_eq_true (by omega)
      rw [e]
      simp (config := { maxSteps := 1000000 }) (disch := ((try simp only [awL]); omega)) only [Try.f23, ↓awU, awV, awF, ofVal, ofVal0, isShift, aggK, forall_const, ↓reduceIte, ↓reduceDIte, ↓purePost, combine, idsA, cellsA, numsOf, srcA, calleeA, refsA, isScalar, scalarD, scalar0, AV.one, putL, unfA, implies_true, IntKind.signed, Nat.reduceAdd, Nat.reduceSub, Nat.reduceMul, Nat.reducePow, Nat.reduceDiv, Nat.reduceMod, Int.reduceAdd, Int.reduceSub, Int.reduceMul, Int.reducePow, Int.reduceNeg, Int.reduceToNat, Int.reduceLT, Int.reduceLE, Nat.reduceEqDiff, sidsB, Nat.reduceBEq, keyKD, isIntK, aggD, aggL, eqKs]
      try rfl
  · have e : okR kind lim num den = false := decide_eq_false (by omega)
    rw [e]
    simp (config := { maxSteps := 1000000 }) (disch := ((try simp only [awL]); omega)) only [Try.f23, ↓awU, awV, awF, ofVal, ofVal0, isShift, aggK, forall_const, ↓reduceIte, ↓reduceDIte, ↓purePost, combine, idsA, cellsA, numsOf, srcA, calleeA, refsA, isScalar, scalarD, scalar0, AV.one, putL, unfA, implies_true, IntKind.signed, Nat.reduceAdd, Nat.reduceSub, Nat.reduceMul, Nat.reducePow, Nat.reduceDiv, Nat.reduceMod, Int.reduceAdd, Int.reduceSub, Int.reduceMul, Int.reducePow, Int.reduceNeg, Int.reduceToNat, Int.reduceLT, Int.reduceLE, Nat.reduceEqDiff, sidsB, Nat.reduceBEq, keyKD, isIntK, aggD, aggL, eqKs]
    try rfl
set_option maxRecDepth 100000 in
theorem lengths_spec (kind lim num den n : Int) (hn1 : -100 ≤ n) (hn2 : n ≤ 1000000) : Ctr Try.prog G 26 [.d (Ru kind lim num den), .d (.int .i64 n)] [] (.d (lenR kind lim num den n)) [] := by
  refine Ctr.pure (M := M0) hmix Try.func26 rfl go26 ?_
  simp (config := { maxSteps := 1000000 }) (disch := ((try simp only [awL]); omega)) only [Try.f26, ↓awU, awV, awF, ofVal, ofVal0, isShift, aggK, forall_const, ↓reduceIte, ↓reduceDIte, ↓purePost, combine, idsA, cellsA, numsOf, srcA, calleeA, refsA, isScalar, scalarD, scalar0, AV.one, putL, unfA, implies_true, IntKind.signed, Nat.reduceAdd, Nat.reduceSub, Nat.reduceMul, Nat.reducePow, Nat.reduceDiv, Nat.reduceMod, Int.reduceAdd, Int.reduceSub, Int.reduceMul, Int.reducePow, Int.reduceNeg, Int.reduceToNat, Int.reduceLT, Int.reduceLE, Nat.reduceEqDiff, sidsB, Nat.reduceBEq, keyKD, isIntK, aggD, aggL, eqKs]
  refine CallC.of (valid_spec kind lim num den) (by rfl) ?_
  unfold lenR
  cases ho : okR kind lim num den
  · rw [if_neg (by rintro ⟨h, _⟩; cases h)]
    simp (config := { maxSteps := 1000000 }) (disch := ((try simp only [awL]); omega)) only [↓awU, awV, awF, ofVal, ofVal0, isShift, aggK, forall_const, ↓reduceIte, ↓reduceDIte, ↓purePost, combine, idsA, cellsA, numsOf, srcA, calleeA, refsA, isScalar, scalarD, scalar0, AV.one, putL, unfA, implies_true, IntKind.signed, Nat.reduceAdd, Nat.reduceSub, Nat.reduceMul, Nat.reducePow, Nat.reduceDiv, Nat.reduceMod, Int.reduceAdd, Int.reduceSub, Int.reduceMul, Int.reducePow, Int.reduceNeg, Int.reduceToNat, Int.reduceLT, Int.reduceLE, Nat.reduceEqDiff, sidsB, Nat.reduceBEq, keyKD, isIntK, aggD, aggL, eqKs]
    try rfl
  · have hc := okR_cases ho
    clear ho
    by_cases h3 : kind = 3
    · rw [if_neg (by rintro ⟨_, h, _⟩; exact h h3)]
      simp (config := { maxSteps := 1000000 }) (disch := ((try simp only [awL]); omega)) only [↓awU, awV, awF, ofVal, ofVal0, isShift, aggK, forall_const, ↓reduceIte, ↓reduceDIte, ↓purePost, combine, idsA, cellsA, numsOf, srcA, calleeA, refsA, isScalar, scalarD, scalar0, AV.one, putL, unfA, implies_true, IntKind.signed, Nat.reduceAdd, Nat.reduceSub, Nat.reduceMul, Nat.reducePow, Nat.reduceDiv, Nat.reduceMod, Int.reduceAdd, Int.reduceSub, Int.reduceMul, Int.reducePow, Int.reduceNeg, Int.reduceToNat, Int.reduceLT, Int.reduceLE, Nat.reduceEqDiff, sidsB, Nat.reduceBEq, keyKD, isIntK, aggD, aggL, eqKs]
      try rfl
    · rcases (by omega : n < 0 ∨ 0 ≤ n) with hn | hn
      · rw [if_neg (by rintro ⟨_, _, h⟩; omega)]
        simp (config := { maxSteps := 1000000 }) (disch := ((try simp only [awL]); omega)) only [↓awU, awV, awF, ofVal, ofVal0, isShift, aggK, forall_const, ↓reduceIte, ↓reduceDIte, ↓purePost, combine, idsA, cellsA, numsOf, srcA, calleeA, refsA, isScalar, scalarD, scalar0, AV.one, putL, unfA, implies_true, IntKind.signed, Nat.reduceAdd, Nat.reduceSub, Nat.reduceMul, Nat.reducePow, Nat.reduceDiv, Nat.reduceMod, Int.reduceAdd, Int.reduceSub, Int.reduceMul, Int.reducePow, Int.reduceNeg, Int.reduceToNat, Int.reduceLT, Int.reduceLE, Nat.reduceEqDiff, sidsB, Nat.reduceBEq, keyKD, isIntK, aggD, aggL, eqKs]
        try rfl
      · rw [if_pos ⟨rfl, h3, hn⟩]
        have hl1 : 0 ≤ lim := by omega
        have hl2 : lim ≤ 8 := by omega
        simp (config := { maxSteps := 1000000 }) (disch := ((try simp only [awL]); omega)) only [mm_max, ↓awU, awV, awF, ofVal, ofVal0, isShift, aggK, forall_const, ↓reduceIte, ↓reduceDIte, ↓purePost, combine, idsA, cellsA, numsOf, srcA, calleeA, refsA, isScalar, scalarD, scalar0, AV.one, putL, unfA, implies_true, IntKind.signed, Nat.reduceAdd, Nat.reduceSub, Nat.reduceMul, Nat.reducePow, Nat.reduceDiv, Nat.reduceMod, Int.reduceAdd, Int.reduceSub, Int.reduceMul, Int.reducePow, Int.reduceNeg, Int.reduceToNat, Int.reduceLT, Int.reduceLE, Nat.reduceEqDiff, sidsB, Nat.reduceBEq, keyKD, isIntK, aggD, aggL, eqKs]
        try rfl
set_option maxHeartbeats 4000000 in
set_option maxRecDepth 100000 in
theorem similar_spec (kind lim num den : Int) (a b : List UInt8) (ha : a.length ≤ 10000) (hb : b.length ≤ 10000) : Ctr Try.prog G 17 [.d (Ru kind lim num den), .d (S a), .d (S b)] [] (.d (.bool (simR kind lim num den a b))) [] := by
  refine Ctr.pure (M := M0) hmix Try.func17 rfl go17 ?_
  simp (config := { maxSteps := 1000000 }) (disch := ((try simp only [awL]); omega)) only [nextC_more, nextC_over, bs_size, bs_extract, bs_toList, bs_append, byteAt_bs, bs_cells, nums_length, nums_getD, Try.f17, ↓awU, awV, awF, ofVal, ofVal0, isShift, aggK, forall_const, ↓reduceIte, ↓reduceDIte, ↓purePost, combine, idsA, cellsA, numsOf, srcA, calleeA, refsA, isScalar, scalarD, scalar0, AV.one, putL, unfA, implies_true, IntKind.signed, Nat.reduceAdd, Nat.reduceSub, Nat.reduceMul, Nat.reducePow, Nat.reduceDiv, Nat.reduceMod, Int.reduceAdd, Int.reduceSub, Int.reduceMul, Int.reducePow, Int.reduceNeg, Int.reduceToNat, Int.reduceLT, Int.reduceLE, Nat.reduceEqDiff, sidsB, Nat.reduceBEq, keyKD, isIntK, aggD, aggL, eqKs]
  refine CallC.of (valid_spec kind lim num den) (by rfl) ?_
  unfold simR
  cases ho : okR kind lim num den
  · rw [Bool.false_and]
    simp (config := { maxSteps := 1000000 }) (disch := ((try simp only [awL]); omega)) only [nextC_more, nextC_over, bs_size, bs_extract, bs_toList, bs_append, byteAt_bs, bs_cells, nums_length, nums_getD, ↓awU, awV, awF, ofVal, ofVal0, isShift, aggK, forall_const, ↓reduceIte, ↓reduceDIte, ↓purePost, combine, idsA, cellsA, numsOf, srcA, calleeA, refsA, isScalar, scalarD, scalar0, AV.one, putL, unfA, implies_true, IntKind.signed, Nat.reduceAdd, Nat.reduceSub, Nat.reduceMul, Nat.reducePow, Nat.reduceDiv, Nat.reduceMod, Int.reduceAdd, Int.reduceSub, Int.reduceMul, Int.reducePow, Int.reduceNeg, Int.reduceToNat, Int.reduceLT, Int.reduceLE, Nat.reduceEqDiff, sidsB, Nat.reduceBEq, keyKD, isIntK, aggD, aggL, eqKs]
    try rfl
  · rw [Bool.true_and]
    have hc := okR_cases ho
    clear ho
    obtain ⟨u1, u2, u3⟩ := uni_bounds a b ha hb
    have hl := lev_max (pts a) (pts b)
    have pa := pts_len a
    have pb := pts_len b
    have ht := toks_spec (G := G) a b ha hb
    have hw := within_spec (G := G) a b lim (by omega) (by omega) (by omega) (by omega)
    unfold withD at hw
    generalize uniB (tokS a) (tokS b) = U at *
    generalize comB (tokS a) (tokS b) = C at *
    generalize lev (pts a) (pts b) = L at *
    rcases hc with ⟨rfl, hc⟩ | ⟨rfl, hc⟩ | ⟨rfl, h0, h1, h2, h3⟩
    · rw [if_neg (show ¬ (1 : Int) = 2 by decide), if_neg (by rintro ⟨h, _⟩; cases h)]
      simp (config := { maxSteps := 1000000 }) (disch := ((try simp only [awL]); omega)) only [nextC_more, nextC_over, bs_size, bs_extract, bs_toList, bs_append, byteAt_bs, bs_cells, nums_length, nums_getD, bs_eq, ↓awU, awV, awF, ofVal, ofVal0, isShift, aggK, forall_const, ↓reduceIte, ↓reduceDIte, ↓purePost, combine, idsA, cellsA, numsOf, srcA, calleeA, refsA, isScalar, scalarD, scalar0, AV.one, putL, unfA, implies_true, IntKind.signed, Nat.reduceAdd, Nat.reduceSub, Nat.reduceMul, Nat.reducePow, Nat.reduceDiv, Nat.reduceMod, Int.reduceAdd, Int.reduceSub, Int.reduceMul, Int.reducePow, Int.reduceNeg, Int.reduceToNat, Int.reduceLT, Int.reduceLE, Nat.reduceEqDiff, sidsB, Nat.reduceBEq, keyKD, isIntK, aggD, aggL, eqKs]
      try rfl
    · rw [if_pos rfl]
      simp (config := { maxSteps := 1000000 }) (disch := ((try simp only [awL]); omega)) only [nextC_more, nextC_over, bs_size, bs_extract, bs_toList, bs_append, byteAt_bs, bs_cells, nums_length, nums_getD, ↓awU, awV, awF, ofVal, ofVal0, isShift, aggK, forall_const, ↓reduceIte, ↓reduceDIte, ↓purePost, combine, idsA, cellsA, numsOf, srcA, calleeA, refsA, isScalar, scalarD, scalar0, AV.one, putL, unfA, implies_true, IntKind.signed, Nat.reduceAdd, Nat.reduceSub, Nat.reduceMul, Nat.reducePow, Nat.reduceDiv, Nat.reduceMod, Int.reduceAdd, Int.reduceSub, Int.reduceMul, Int.reducePow, Int.reduceNeg, Int.reduceToNat, Int.reduceLT, Int.reduceLE, Nat.reduceEqDiff, sidsB, Nat.reduceBEq, keyKD, isIntK, aggD, aggL, eqKs]
      refine CallC.of hw (by rfl) ?_
      simp (config := { maxSteps := 1000000 }) (disch := ((try simp only [awL]); omega)) only [nextC_more, nextC_over, bs_size, bs_extract, bs_toList, bs_append, byteAt_bs, bs_cells, nums_length, nums_getD, ↓awU, awV, awF, ofVal, ofVal0, isShift, aggK, forall_const, ↓reduceIte, ↓reduceDIte, ↓purePost, combine, idsA, cellsA, numsOf, srcA, calleeA, refsA, isScalar, scalarD, scalar0, AV.one, putL, unfA, implies_true, IntKind.signed, Nat.reduceAdd, Nat.reduceSub, Nat.reduceMul, Nat.reducePow, Nat.reduceDiv, Nat.reduceMod, Int.reduceAdd, Int.reduceSub, Int.reduceMul, Int.reducePow, Int.reduceNeg, Int.reduceToNat, Int.reduceLT, Int.reduceLE, Nat.reduceEqDiff, sidsB, Nat.reduceBEq, keyKD, isIntK, aggD, aggL, eqKs]
      try rfl
    · rw [if_neg (show ¬ (3 : Int) = 2 by decide)]
      by_cases hU : U = 0
      · rw [if_neg (by rintro ⟨_, h⟩; exact h hU)]
        subst hU
        simp (config := { maxSteps := 1000000 }) (disch := ((try simp only [awL]); omega)) only [nextC_more, nextC_over, bs_size, bs_extract, bs_toList, bs_append, byteAt_bs, bs_cells, nums_length, nums_getD, ↓awU, awV, awF, ofVal, ofVal0, isShift, aggK, forall_const, ↓reduceIte, ↓reduceDIte, ↓purePost, combine, idsA, cellsA, numsOf, srcA, calleeA, refsA, isScalar, scalarD, scalar0, AV.one, putL, unfA, implies_true, IntKind.signed, Nat.reduceAdd, Nat.reduceSub, Nat.reduceMul, Nat.reducePow, Nat.reduceDiv, Nat.reduceMod, Int.reduceAdd, Int.reduceSub, Int.reduceMul, Int.reducePow, Int.reduceNeg, Int.reduceToNat, Int.reduceLT, Int.reduceLE, Nat.reduceEqDiff, sidsB, Nat.reduceBEq, keyKD, isIntK, aggD, aggL, eqKs]
        refine CallC.of ht (by rfl) ?_
        simp (config := { maxSteps := 1000000 }) (disch := ((try simp only [awL]); omega)) only [nextC_more, nextC_over, bs_size, bs_extract, bs_toList, bs_append, byteAt_bs, bs_cells, nums_length, nums_getD, bs_eq, ↓awU, awV, awF, ofVal, ofVal0, isShift, aggK, forall_const, ↓reduceIte, ↓reduceDIte, ↓purePost, combine, idsA, cellsA, numsOf, srcA, calleeA, refsA, isScalar, scalarD, scalar0, AV.one, putL, unfA, implies_true, IntKind.signed, Nat.reduceAdd, Nat.reduceSub, Nat.reduceMul, Nat.reducePow, Nat.reduceDiv, Nat.reduceMod, Int.reduceAdd, Int.reduceSub, Int.reduceMul, Int.reducePow, Int.reduceNeg, Int.reduceToNat, Int.reduceLT, Int.reduceLE, Nat.reduceEqDiff, sidsB, Nat.reduceBEq, keyKD, isIntK, aggD, aggL, eqKs]
        try rfl
      · rw [if_pos ⟨rfl, hU⟩]
        have b1 : 0 ≤ num * U := Int.mul_nonneg (by omega) (by omega)
        have b2 : num * U ≤ 1000 * 20002 := Int.mul_le_mul (by omega) u2 u1 (by omega)
        have b3 : 0 ≤ den * (C : Int) := Int.mul_nonneg (by omega) (by omega)
        have b4 : den * (C : Int) ≤ 1000 * 10001 := Int.mul_le_mul h3 (by omega) (by omega) (by omega)
        simp (config := { maxSteps := 1000000 }) (disch := ((try simp only [awL]); omega)) only [nextC_more, nextC_over, bs_size, bs_extract, bs_toList, bs_append, byteAt_bs, bs_cells, nums_length, nums_getD, ↓awU, awV, awF, ofVal, ofVal0, isShift, aggK, forall_const, ↓reduceIte, ↓reduceDIte, ↓purePost, combine, idsA, cellsA, numsOf, srcA, calleeA, refsA, isScalar, scalarD, scalar0, AV.one, putL, unfA, implies_true, IntKind.signed, Nat.reduceAdd, Nat.reduceSub, Nat.reduceMul, Nat.reducePow, Nat.reduceDiv, Nat.reduceMod, Int.reduceAdd, Int.reduceSub, Int.reduceMul, Int.reducePow, Int.reduceNeg, Int.reduceToNat, Int.reduceLT, Int.reduceLE, Nat.reduceEqDiff, sidsB, Nat.reduceBEq, keyKD, isIntK, aggD, aggL, eqKs]
        refine CallC.of ht (by rfl) ?_
        simp (config := { maxSteps := 1000000 }) (disch := ((try simp only [awL]); omega)) only [nextC_more, nextC_over, bs_size, bs_extract, bs_toList, bs_append, byteAt_bs, bs_cells, nums_length, nums_getD, ↓awU, awV, awF, ofVal, ofVal0, isShift, aggK, forall_const, ↓reduceIte, ↓reduceDIte, ↓purePost, combine, idsA, cellsA, numsOf, srcA, calleeA, refsA, isScalar, scalarD, scalar0, AV.one, putL, unfA, implies_true, IntKind.signed, Nat.reduceAdd, Nat.reduceSub, Nat.reduceMul, Nat.reducePow, Nat.reduceDiv, Nat.reduceMod, Int.reduceAdd, Int.reduceSub, Int.reduceMul, Int.reducePow, Int.reduceNeg, Int.reduceToNat, Int.reduceLT, Int.reduceLE, Nat.reduceEqDiff, sidsB, Nat.reduceBEq, keyKD, isIntK, aggD, aggL, eqKs]
        try rfl
end Go.Proofs.Ytpnhbjabnnibcaa

namespace Go.Proofs.Ytpnhbjabnnibcaa
open Go Go.Proofs Go.Abs
variable {G : Globals}
/-! The law's own: the sanity check, words. -/
def kA : List UInt8 := [78, 101, 119, 32, 89, 111, 114, 107]
def kB : List UInt8 := [121, 111, 114, 107, 32, 40, 110, 101, 119, 41]
theorem kA_tok : tokS kA = [[110, 101, 119], [121, 111, 114, 107]] := by
  rw [tokS, show tokL kA = [[110, 101, 119], [121, 111, 114, 107]] by decide]; decide
theorem kB_tok : tokS kB = [[110, 101, 119], [121, 111, 114, 107]] := by
  rw [tokS, show tokL kB = [[121, 111, 114, 107], [110, 101, 119]] by decide]; decide
theorem kAB_com : comB (tokS kA) (tokS kB) = 2 := by rw [kA_tok, kB_tok]; decide
theorem kAB_uni : uniB (tokS kA) (tokS kB) = 2 := by rw [kA_tok, kB_tok]; decide
theorem lev_kit : lev (pts [107, 105, 116, 116, 101, 110]) (pts [115, 105, 116, 116, 105, 110, 103]) = 3 := by
  rw [pts, pts_ascii 6 _ 0 rfl (by decide), pts, pts_ascii 7 _ 0 rfl (by decide)]
  simp [lev, c1]
theorem sim_bat : simR 2 1 0 0 [98, 97, 116] [99, 97, 116] = true := by
  have h : lev (pts [98, 97, 116]) (pts [99, 97, 116]) = 1 := by
    rw [pts, pts_ascii 3 _ 0 rfl (by decide), pts, pts_ascii 3 _ 0 rfl (by decide)]
    simp [lev, c1]
  rw [simR, h]
  decide
set_option maxRecDepth 100000 in
theorem sane_spec : Ctr Try.prog G 8 [] [] (.d (.bool true)) [] := by
  refine Ctr.pure (M := M0) hmix Try.func8 rfl go8 ?_
  have h1 := toks_spec (G := G) kA kB (by decide) (by decide)
  rw [kAB_com, kAB_uni] at h1
  have h2 := edit_spec (G := G) [107, 105, 116, 116, 101, 110] [115, 105, 116, 116, 105, 110, 103] (by decide) (by decide)
  rw [lev_kit] at h2
  have h3 := similar_spec (G := G) 2 1 0 0 [98, 97, 116] [99, 97, 116] (by decide) (by decide)
  rw [sim_bat] at h3
  simp (config := { maxSteps := 1000000 }) (disch := ((try simp only [awL]); omega)) only [nextC_more, nextC_over, bs_size, bs_extract, bs_toList, bs_append, byteAt_bs, bs_cells, nums_length, nums_getD, Try.f8, ↓awU, awV, awF, ofVal, ofVal0, isShift, aggK, forall_const, ↓reduceIte, ↓reduceDIte, ↓purePost, combine, idsA, cellsA, numsOf, srcA, calleeA, refsA, isScalar, scalarD, scalar0, AV.one, putL, unfA, implies_true, IntKind.signed, Nat.reduceAdd, Nat.reduceSub, Nat.reduceMul, Nat.reducePow, Nat.reduceDiv, Nat.reduceMod, Int.reduceAdd, Int.reduceSub, Int.reduceMul, Int.reducePow, Int.reduceNeg, Int.reduceToNat, Int.reduceLT, Int.reduceLE, Nat.reduceEqDiff, sidsB, Nat.reduceBEq, keyKD, isIntK, aggD, aggL, eqKs]
  refine CallC.of h1 (by rfl) ?_
  simp (config := { maxSteps := 1000000 }) (disch := ((try simp only [awL]); omega)) only [nextC_more, nextC_over, bs_size, bs_extract, bs_toList, bs_append, byteAt_bs, bs_cells, nums_length, nums_getD, ↓awU, awV, awF, ofVal, ofVal0, isShift, aggK, forall_const, ↓reduceIte, ↓reduceDIte, ↓purePost, combine, idsA, cellsA, numsOf, srcA, calleeA, refsA, isScalar, scalarD, scalar0, AV.one, putL, unfA, implies_true, IntKind.signed, Nat.reduceAdd, Nat.reduceSub, Nat.reduceMul, Nat.reducePow, Nat.reduceDiv, Nat.reduceMod, Int.reduceAdd, Int.reduceSub, Int.reduceMul, Int.reducePow, Int.reduceNeg, Int.reduceToNat, Int.reduceLT, Int.reduceLE, Nat.reduceEqDiff, sidsB, Nat.reduceBEq, keyKD, isIntK, aggD, aggL, eqKs]
  refine CallC.of h2 (by rfl) ?_
  simp (config := { maxSteps := 1000000 }) (disch := ((try simp only [awL]); omega)) only [nextC_more, nextC_over, bs_size, bs_extract, bs_toList, bs_append, byteAt_bs, bs_cells, nums_length, nums_getD, ↓awU, awV, awF, ofVal, ofVal0, isShift, aggK, forall_const, ↓reduceIte, ↓reduceDIte, ↓purePost, combine, idsA, cellsA, numsOf, srcA, calleeA, refsA, isScalar, scalarD, scalar0, AV.one, putL, unfA, implies_true, IntKind.signed, Nat.reduceAdd, Nat.reduceSub, Nat.reduceMul, Nat.reducePow, Nat.reduceDiv, Nat.reduceMod, Int.reduceAdd, Int.reduceSub, Int.reduceMul, Int.reducePow, Int.reduceNeg, Int.reduceToNat, Int.reduceLT, Int.reduceLE, Nat.reduceEqDiff, sidsB, Nat.reduceBEq, keyKD, isIntK, aggD, aggL, eqKs]
  refine CallC.of h3 (by rfl) ?_
  simp (config := { maxSteps := 1000000 }) (disch := ((try simp only [awL]); omega)) only [nextC_more, nextC_over, bs_size, bs_extract, bs_toList, bs_append, byteAt_bs, bs_cells, nums_length, nums_getD, ↓awU, awV, awF, ofVal, ofVal0, isShift, aggK, forall_const, ↓reduceIte, ↓reduceDIte, ↓purePost, combine, idsA, cellsA, numsOf, srcA, calleeA, refsA, isScalar, scalarD, scalar0, AV.one, putL, unfA, implies_true, IntKind.signed, Nat.reduceAdd, Nat.reduceSub, Nat.reduceMul, Nat.reducePow, Nat.reduceDiv, Nat.reduceMod, Int.reduceAdd, Int.reduceSub, Int.reduceMul, Int.reducePow, Int.reduceNeg, Int.reduceToNat, Int.reduceLT, Int.reduceLE, Nat.reduceEqDiff, sidsB, Nat.reduceBEq, keyKD, isIntK, aggD, aggL, eqKs]
/-- One change of a word. -/
def wStep (t : List Int) (x : List UInt8 × Nat) : List UInt8 × Nat :=
  let i := (pk t x.2 (x.1.length + 1)).toNat
  if i < x.1.length ∧ (x.1.getD i 0).toNat < 128 then
    if pk t (x.2 + 1) 2 = 0 then (x.1.set i (UInt8.ofNat (97 + (pk t (x.2 + 2) 4).toNat)), x.2 + 3) else (x.1.take i ++ 32 :: x.1.drop i, x.2 + 2)
  else if i = x.1.length then (x.1 ++ [32], x.2 + 1) else (x.1, x.2 + 1)
def wRun (t : List Int) : Nat → List UInt8 × Nat → List UInt8 × Nat
  | 0, x => x
  | n + 1, x => wRun t n (wStep t x)
def wordMid (t : List Int) (k : Nat) : List UInt8 × Nat := wRun t (pk t (k + 1) 3).toNat (wordM t k, k + 2)
def wordR (t : List Int) (k : Nat) : List UInt8 := if pk t (wordMid t k).2 3 = 0 then (wordMid t k).1 ++ 32 :: wordsL.getD (pk t ((wordMid t k).2 + 1) 5).toNat [] else (wordMid t k).1
def wordK (t : List Int) (k : Nat) : Nat := if pk t (wordMid t k).2 3 = 0 then (wordMid t k).2 + 2 else (wordMid t k).2 + 1
def MW : Muts := fun f => Nat.beq f 2000064 || Nat.beq f 2000070
theorem MW_t {k : Nat} (h : k = 2000064 ∨ k = 2000070) : MW k = true := by
  rcases h with rfl | rfl <;> rfl
theorem MW_n {k : Nat} (h : ¬ k = 2000064 ∧ ¬ k = 2000070) : MW k = false := by
  cases e : MW k with
  | false => rfl
  | true =>
    simp only [MW, Bool.or_eq_true] at e
    rcases e with e | e
    · exact absurd (Nat.eq_of_beq_eq_true e) h.1
    · exact absurd (Nat.eq_of_beq_eq_true e) h.2
theorem cut_cons_all {x : D} {l : List D} {n : Nat} (h : l.length = n) : cut (x :: l) 0 (1 + n) = x :: l := by
  subst h
  simp [cut, Nat.add_comm]
theorem wRun_succ (t : List Int) : ∀ (n : Nat) (x : List UInt8 × Nat), wRun t (n + 1) x = wStep t (wRun t n x)
  | 0, x => rfl
  | n + 1, x => by rw [wRun, wRun_succ t n]; rfl
theorem wStep_length (t : List Int) (x : List UInt8 × Nat) : (wStep t x).1.length ≤ x.1.length + 1 := by
  unfold wStep
  simp only
  split
  · split
    · simp
    · simp; omega
  · split
    · simp
    · simp
theorem wRun_length (t : List Int) : ∀ (n : Nat) (x : List UInt8 × Nat), (wRun t n x).1.length ≤ x.1.length + n
  | 0, x => Nat.le_refl _
  | n + 1, x => by
    rw [wRun_succ]
    have := wStep_length t (wRun t n x)
    have := wRun_length t n x
    omega
theorem wStep_gd (t : List Int) (x : List UInt8 × Nat) (h : gdB x.1 = true) : gdB (wStep t x).1 = true := by
  unfold wStep
  simp only
  generalize (pk t x.2 (x.1.length + 1)).toNat = i
  split
  · rename_i hc
    obtain ⟨g1, g2⟩ := gd_split _ x.1 i rfl h (by omega) (fun _ => hc.2)
    split
    · have hlt := hc.1
      have e : x.1.drop i = x.1[i] :: x.1.drop (i + 1) := List.drop_eq_getElem_cons hlt
      have hg : x.1.getD i 0 = x.1[i] := by simp [List.getD_eq_getElem?_getD, List.getElem?_eq_getElem hlt]
      rw [e, gdB_cons (by rw [← hg]; exact hc.2)] at g2
      have es : ∀ c, x.1.set i c = x.1.take i ++ c :: x.1.drop (i + 1) := fun c => List.set_eq_take_append_cons_drop .. |>.trans (if_pos hlt)
      simp only
      rw [es]
      refine gd_append _ _ _ rfl g1 ?_
      have hp := @pk_range t (x.2 + 2) 4 (by decide)
      rw [gdB_cons]
      · exact g2
      · rw [UInt8.toNat_ofNat']; omega
    · refine gd_append _ _ _ rfl g1 ?_
      rw [gdB_cons (by decide)]
      exact g2
  · split
    · exact gd_append _ _ _ rfl h rfl
    · exact h
theorem wRun_gd (t : List Int) : ∀ (n : Nat) (x : List UInt8 × Nat), gdB x.1 = true → gdB (wRun t n x).1 = true
  | 0, _, h => h
  | n + 1, x, h => by rw [wRun_succ]; exact wStep_gd t _ (wRun_gd t n x h)
theorem wordMid_ok (t : List Int) (k : Nat) : gdB (wordMid t k).1 = true ∧ (wordMid t k).1.length ≤ 10 := by
  have hm := words_gd _ (wordM_mem t k)
  have hp := @pk_range t (k + 1) 3 (by decide)
  have hl := wRun_length t (pk t (k + 1) 3).toNat (wordM t k, k + 2)
  refine ⟨wRun_gd t _ _ hm.1, ?_⟩
  unfold wordMid
  have := hm.2
  simp only at hl
  omega
theorem wordR_ok (t : List Int) (k : Nat) : gdB (wordR t k) = true ∧ (wordR t k).length ≤ 19 := by
  obtain ⟨h1, h2⟩ := wordMid_ok t k
  unfold wordR
  have hp := @pk_range t ((wordMid t k).2 + 1) 5 (by decide)
  have hm : wordsL.getD (pk t ((wordMid t k).2 + 1) 5).toNat [] ∈ wordsL := by
    have hl : wordsL.length = 16 := rfl
    rw [List.getD_eq_getElem?_getD, List.getElem?_eq_getElem (show (pk t ((wordMid t k).2 + 1) 5).toNat < wordsL.length by omega)]
    exact List.getElem_mem _
  have hw := words_gd _ hm
  split
  · refine ⟨gd_append _ _ _ rfl h1 ?_, ?_⟩
    · rw [gdB_cons (by decide)]; exact hw.1
    · simp only [List.length_append, List.length_cons]; omega
  · exact ⟨h1, by omega⟩
set_option maxHeartbeats 4000000 in
set_option maxRecDepth 100000 in
theorem word_spec (t : List Int) (k : Nat) (ht : OkM t) : Ctr Try.prog G 10 [.ptr 0 0] [DiceM t k] (.d (S (wordR t k))) [DiceM t (wordK t k)] := by
  refine Ctr.body (M := MW) hmix Try.func10 rfl go10 ?_
  have swl := @strs_length wordsL
  have hwl : wordsL.length = 16 := rfl
  obtain ⟨c, hc, hc2⟩ := pk_nat t k 16 (by decide)
  have g1 := strs_getD (l := wordsL) (i := c) (by omega)
  have ew : wordsL.getD c [] = wordM t k := by rw [wordM, hc]; rfl
  simp (config := { maxSteps := 1000000 }) (disch := ((try simp only [awL]); omega)) only [nextC_more, nextC_over, bs_size, bs_extract, bs_toList, bs_append, byteAt_bs, bs_cells, nums_length, nums_getD, MW_n, MW_t, Try.f10, ↓awU, awV, awF, ofVal, ofVal0, isShift, aggK, forall_const, ↓reduceIte, ↓reduceDIte, ↓purePost, combine, idsA, cellsA, numsOf, srcA, calleeA, refsA, isScalar, scalarD, scalar0, AV.one, putL, unfA, implies_true, IntKind.signed, Nat.reduceAdd, Nat.reduceSub, Nat.reduceMul, Nat.reducePow, Nat.reduceDiv, Nat.reduceMod, Int.reduceAdd, Int.reduceSub, Int.reduceMul, Int.reducePow, Int.reduceNeg, Int.reduceToNat, Int.reduceLT, Int.reduceLE, Nat.reduceEqDiff, sidsB, Nat.reduceBEq, keyKD, isIntK, aggD, aggL, eqKs]
  refine CallC.of words_spec (by rfl) ?_
  simp (config := { maxSteps := 1000000 }) (disch := ((try simp only [awL]); omega)) only [nextC_more, nextC_over, bs_size, bs_extract, bs_toList, bs_append, byteAt_bs, bs_cells, nums_length, nums_getD, MW_n, MW_t, hwl, swl, ↓awU, awV, awF, ofVal, ofVal0, isShift, aggK, forall_const, ↓reduceIte, ↓reduceDIte, ↓purePost, combine, idsA, cellsA, numsOf, srcA, calleeA, refsA, isScalar, scalarD, scalar0, AV.one, putL, unfA, implies_true, IntKind.signed, Nat.reduceAdd, Nat.reduceSub, Nat.reduceMul, Nat.reducePow, Nat.reduceDiv, Nat.reduceMod, Int.reduceAdd, Int.reduceSub, Int.reduceMul, Int.reducePow, Int.reduceNeg, Int.reduceToNat, Int.reduceLT, Int.reduceLE, Nat.reduceEqDiff, sidsB, Nat.reduceBEq, keyKD, isIntK, aggD, aggL, eqKs]
  refine CallC.of words_spec (by rfl) ?_
  simp (config := { maxSteps := 1000000 }) (disch := ((try simp only [awL]); omega)) only [nextC_more, nextC_over, bs_size, bs_extract, bs_toList, bs_append, byteAt_bs, bs_cells, nums_length, nums_getD, MW_n, MW_t, hwl, swl, ↓awU, awV, awF, ofVal, ofVal0, isShift, aggK, forall_const, ↓reduceIte, ↓reduceDIte, ↓purePost, combine, idsA, cellsA, numsOf, srcA, calleeA, refsA, isScalar, scalarD, scalar0, AV.one, putL, unfA, implies_true, IntKind.signed, Nat.reduceAdd, Nat.reduceSub, Nat.reduceMul, Nat.reducePow, Nat.reduceDiv, Nat.reduceMod, Int.reduceAdd, Int.reduceSub, Int.reduceMul, Int.reducePow, Int.reduceNeg, Int.reduceToNat, Int.reduceLT, Int.reduceLE, Nat.reduceEqDiff, sidsB, Nat.reduceBEq, keyKD, isIntK, aggD, aggL, eqKs]
  refine CallC.by (pick_spec t k 16 ht (by decide) (by decide)) (by rfl) (by rfl) (Nat.le_refl _) ?_
  rw [hc]
  simp (config := { maxSteps := 1000000 }) (disch := ((try simp only [awL]); omega)) only [nextC_more, nextC_over, bs_size, bs_extract, bs_toList, bs_append, byteAt_bs, bs_cells, nums_length, nums_getD, MW_n, MW_t, hwl, swl, g1, ew, ↓awU, awV, awF, ofVal, ofVal0, isShift, aggK, forall_const, ↓reduceIte, ↓reduceDIte, ↓purePost, combine, idsA, cellsA, numsOf, srcA, calleeA, refsA, isScalar, scalarD, scalar0, AV.one, putL, unfA, implies_true, IntKind.signed, Nat.reduceAdd, Nat.reduceSub, Nat.reduceMul, Nat.reducePow, Nat.reduceDiv, Nat.reduceMod, Int.reduceAdd, Int.reduceSub, Int.reduceMul, Int.reducePow, Int.reduceNeg, Int.reduceToNat, Int.reduceLT, Int.reduceLE, Nat.reduceEqDiff, sidsB, Nat.reduceBEq, keyKD, isIntK, aggD, aggL, eqKs]
  obtain ⟨n, hn, hn2⟩ := pk_nat t (k + 1) 3 (by decide)
  refine CallC.by (pick_spec t (k + 1) 3 ht (by decide) (by decide)) (by rfl) (by rfl) (Nat.le_refl _) ?_
  rw [hn]
  simp (config := { maxSteps := 1000000 }) (disch := ((try simp only [awL]); omega)) only [nextC_more, nextC_over, bs_size, bs_extract, bs_toList, bs_append, byteAt_bs, bs_cells, nums_length, nums_getD, MW_n, MW_t, cells_nums, ↓awU, awV, awF, ofVal, ofVal0, isShift, aggK, forall_const, ↓reduceIte, ↓reduceDIte, ↓purePost, combine, idsA, cellsA, numsOf, srcA, calleeA, refsA, isScalar, scalarD, scalar0, AV.one, putL, unfA, implies_true, IntKind.signed, Nat.reduceAdd, Nat.reduceSub, Nat.reduceMul, Nat.reducePow, Nat.reduceDiv, Nat.reduceMod, Int.reduceAdd, Int.reduceSub, Int.reduceMul, Int.reducePow, Int.reduceNeg, Int.reduceToNat, Int.reduceLT, Int.reduceLE, Nat.reduceEqDiff, sidsB, Nat.reduceBEq, keyKD, isIntK, aggD, aggL, eqKs]
  have em : wordMid t k = wRun t n (wordM t k, k + 2) := by unfold wordMid; rw [hn]; rfl
  refine LoopC.fr 1 (α := Nat) (fun i => n - i) (fun i => [(3, .lsl 1 1 0 (wRun t i (wordM t k, k + 2)).1.length), (4, .d (.int .i64 ((n : Int) - i)))]) (fun i => [DiceM t (wRun t i (wordM t k, k + 2)).2, .row false (ints .u8 (nums (wRun t i (wordM t k, k + 2)).1))]) (fun i => i ≤ n) 0 (Nat.zero_le _) ?_ ?_
  · exact ⟨[some 0, some 1], rfl, by simp, by simp [setsA, keepA, SWeak, AWeak, wRun], by simp [HWeak, BWeak, SWeak, AWeak, wRun]⟩
  · intro i hi
    have hr := wRun_succ t i (wordM t k, k + 2)
    have hlen := wRun_length t i (wordM t k, k + 2)
    have hw8 := (words_gd _ (wordM_mem t k)).2
    simp only at hlen
    simp only [awK, Nat.reduceMod, Nat.reduceDiv, reduceIte]
    rcases Nat.lt_or_ge i n with h | h
    · generalize hx : wRun t i (wordM t k, k + 2) = x at *
      obtain ⟨b, q⟩ := x
      simp only at hlen
      have nl := @nums_length b
      have e3 : (n : Int) - i - 1 = n - ((i + 1 : Nat) : Int) := by omega
      obtain ⟨j, hj, hj2⟩ := pk_nat t q (b.length + 1) (by omega)
      simp (config := { maxSteps := 1000000 }) (disch := ((try simp only [awL]); omega)) only [nextC_more, nextC_over, bs_size, bs_extract, bs_toList, bs_append, byteAt_bs, bs_cells, nums_length, nums_getD, MW_n, MW_t, nl, ↓awU, awV, awF, ofVal, ofVal0, isShift, aggK, forall_const, ↓reduceIte, ↓reduceDIte, ↓purePost, combine, idsA, cellsA, numsOf, srcA, calleeA, refsA, isScalar, scalarD, scalar0, AV.one, putL, unfA, implies_true, IntKind.signed, Nat.reduceAdd, Nat.reduceSub, Nat.reduceMul, Nat.reducePow, Nat.reduceDiv, Nat.reduceMod, Int.reduceAdd, Int.reduceSub, Int.reduceMul, Int.reducePow, Int.reduceNeg, Int.reduceToNat, Int.reduceLT, Int.reduceLE, Nat.reduceEqDiff, sidsB, Nat.reduceBEq, keyKD, isIntK, aggD, aggL, eqKs]
      refine CallC.by (pick_spec t q (b.length + 1) ht (by omega) (by omega)) (by rfl) (by rfl) (Nat.le_refl _) ?_
      rw [hj]
      unfold wStep at hr
      simp only [hj, Int.toNat_natCast] at hr
      rcases Nat.lt_or_ge j b.length with hjb | hjb
      · rcases Nat.lt_or_ge (b.getD j 0).toNat 128 with h128 | h128
        · rw [if_pos ⟨hjb, h128⟩] at hr
          obtain ⟨u, hu, hu2⟩ := pk_nat t (q + 1) 2 (by decide)
          simp (config := { maxSteps := 1000000 }) (disch := ((try simp only [awL]); omega)) only [nextC_more, nextC_over, bs_size, bs_extract, bs_toList, bs_append, byteAt_bs, bs_cells, nums_length, nums_getD, MW_n, MW_t, nl, nums_getD, ↓awU, awV, awF, ofVal, ofVal0, isShift, aggK, forall_const, ↓reduceIte, ↓reduceDIte, ↓purePost, combine, idsA, cellsA, numsOf, srcA, calleeA, refsA, isScalar, scalarD, scalar0, AV.one, putL, unfA, implies_true, IntKind.signed, Nat.reduceAdd, Nat.reduceSub, Nat.reduceMul, Nat.reducePow, Nat.reduceDiv, Nat.reduceMod, Int.reduceAdd, Int.reduceSub, Int.reduceMul, Int.reducePow, Int.reduceNeg, Int.reduceToNat, Int.reduceLT, Int.reduceLE, Nat.reduceEqDiff, sidsB, Nat.reduceBEq, keyKD, isIntK, aggD, aggL, eqKs]
          refine CallC.by (pick_spec t (q + 1) 2 ht (by decide) (by decide)) (by rfl) (by rfl) (Nat.le_refl _) ?_
          rw [hu]
          rcases (by omega : u = 0 ∨ u = 1) with rfl | rfl
          · rw [if_pos (show pk t (q + 1) 2 = 0 from hu)] at hr
            obtain ⟨z, hz, hz2⟩ := pk_nat t (q + 2) 4 (by decide)
            simp (config := { maxSteps := 1000000 }) (disch := ((try simp only [awL]); omega)) only [nextC_more, nextC_over, bs_size, bs_extract, bs_toList, bs_append, byteAt_bs, bs_cells, nums_length, nums_getD, MW_n, MW_t, nl, nums_getD, ↓awU, awV, awF, ofVal, ofVal0, isShift, aggK, forall_const, ↓reduceIte, ↓reduceDIte, ↓purePost, combine, idsA, cellsA, numsOf, srcA, calleeA, refsA, isScalar, scalarD, scalar0, AV.one, putL, unfA, implies_true, IntKind.signed, Nat.reduceAdd, Nat.reduceSub, Nat.reduceMul, Nat.reducePow, Nat.reduceDiv, Nat.reduceMod, Int.reduceAdd, Int.reduceSub, Int.reduceMul, Int.reducePow, Int.reduceNeg, Int.reduceToNat, Int.reduceLT, Int.reduceLE, Nat.reduceEqDiff, sidsB, Nat.reduceBEq, keyKD, isIntK, aggD, aggL, eqKs]
            refine CallC.by (pick_spec t (q + 2) 4 ht (by decide) (by decide)) (by rfl) (by rfl) (Nat.le_refl _) ?_
            rw [hz]
            simp (config := { maxSteps := 1000000 }) (disch := ((try simp only [awL]); omega)) only [nextC_more, nextC_over, bs_size, bs_extract, bs_toList, bs_append, byteAt_bs, bs_cells, nums_length, nums_getD, MW_n, MW_t, nl, nums_getD, ↓awU, awV, awF, ofVal, ofVal0, isShift, aggK, forall_const, ↓reduceIte, ↓reduceDIte, ↓purePost, combine, idsA, cellsA, numsOf, srcA, calleeA, refsA, isScalar, scalarD, scalar0, AV.one, putL, unfA, implies_true, IntKind.signed, Nat.reduceAdd, Nat.reduceSub, Nat.reduceMul, Nat.reducePow, Nat.reduceDiv, Nat.reduceMod, Int.reduceAdd, Int.reduceSub, Int.reduceMul, Int.reducePow, Int.reduceNeg, Int.reduceToNat, Int.reduceLT, Int.reduceLE, Nat.reduceEqDiff, sidsB, Nat.reduceBEq, keyKD, isIntK, aggD, aggL, eqKs]
            have es : (nums b).set j (97 + (z : Int)) = nums (b.set j (UInt8.ofNat (97 + (pk t (q + 2) 4).toNat))) := by
              rw [hz, Int.toNat_natCast, ← nums_set, UInt8.toNat_ofNat']; congr 1; omega
            rw [e3, es]
            exact ⟨i + 1, h, by simp only; omega, ⟨[some 0, some 1], rfl, by simp, by simp [setsA, keepA, SWeak, AWeak, hr], by simp [HWeak, BWeak, SWeak, AWeak, hr]⟩⟩
          · rw [if_neg (by rw [hu]; decide)] at hr
            simp (config := { maxSteps := 1000000 }) (disch := ((try simp only [awL]); omega)) only [nextC_more, nextC_over, bs_size, bs_extract, bs_toList, bs_append, byteAt_bs, bs_cells, nums_length, nums_getD, MW_n, MW_t, nl, nums_getD, cut_cons_all, ↓awU, awV, awF, ofVal, ofVal0, isShift, aggK, forall_const, ↓reduceIte, ↓reduceDIte, ↓purePost, combine, idsA, cellsA, numsOf, srcA, calleeA, refsA, isScalar, scalarD, scalar0, AV.one, putL, unfA, implies_true, IntKind.signed, Nat.reduceAdd, Nat.reduceSub, Nat.reduceMul, Nat.reducePow, Nat.reduceDiv, Nat.reduceMod, Int.reduceAdd, Int.reduceSub, Int.reduceMul, Int.reducePow, Int.reduceNeg, Int.reduceToNat, Int.reduceLT, Int.reduceLE, Nat.reduceEqDiff, sidsB, Nat.reduceBEq, keyKD, isIntK, aggD, aggL, eqKs]
            have el : j + (1 + (b.length - j)) = (b.take j ++ 32 :: b.drop j).length := by simp; omega
            have eb : ints .u8 ((nums b).take j) ++ D.int .u8 32 :: ints .u8 ((nums b).drop j) = ints .u8 (nums (b.take j ++ 32 :: b.drop j)) := by simp [ints, nums, List.map_take, List.map_drop]
            rw [e3, el, eb]
            exact ⟨by rfl, i + 1, h, by simp only; omega, ⟨[some 0, some 4], rfl, by simp, by simp [setsA, keepA, SWeak, AWeak, hr], by simp [HWeak, BWeak, SWeak, AWeak, hr]⟩⟩
        · have h127 : ¬ (b.getD j 0).toNat < 128 := by omega
          rw [if_neg (by rintro ⟨_, h⟩; omega), if_neg (by omega)] at hr
          simp (config := { maxSteps := 1000000 }) (disch := ((try simp only [awL]); omega)) only [nextC_more, nextC_over, bs_size, bs_extract, bs_toList, bs_append, byteAt_bs, bs_cells, nums_length, nums_getD, MW_n, MW_t, nl, nums_getD, cut_cons_all, ↓awU, awV, awF, ofVal, ofVal0, isShift, aggK, forall_const, ↓reduceIte, ↓reduceDIte, ↓purePost, combine, idsA, cellsA, numsOf, srcA, calleeA, refsA, isScalar, scalarD, scalar0, AV.one, putL, unfA, implies_true, IntKind.signed, Nat.reduceAdd, Nat.reduceSub, Nat.reduceMul, Nat.reducePow, Nat.reduceDiv, Nat.reduceMod, Int.reduceAdd, Int.reduceSub, Int.reduceMul, Int.reducePow, Int.reduceNeg, Int.reduceToNat, Int.reduceLT, Int.reduceLE, Nat.reduceEqDiff, sidsB, Nat.reduceBEq, keyKD, isIntK, aggD, aggL, eqKs]
          rw [e3]
          exact ⟨i + 1, h, by simp only; omega, ⟨[some 0, some 1], rfl, by simp, by simp [setsA, keepA, SWeak, AWeak, hr], by simp [HWeak, BWeak, SWeak, AWeak, hr]⟩⟩
      · obtain rfl : j = b.length := by omega
        rw [if_neg (by rintro ⟨h, _⟩; omega), if_pos rfl] at hr
        have hd : (nums b).drop b.length = [] := List.drop_of_length_le (by omega)
        have htk : (nums b).take b.length = nums b := List.take_of_length_le (by omega)
        simp (config := { maxSteps := 1000000 }) (disch := ((try simp only [awL]); omega)) only [nextC_more, nextC_over, bs_size, bs_extract, bs_toList, bs_append, byteAt_bs, bs_cells, nums_length, nums_getD, MW_n, MW_t, nl, nums_getD, cut_cons_all, hd, htk, ↓awU, awV, awF, ofVal, ofVal0, isShift, aggK, forall_const, ↓reduceIte, ↓reduceDIte, ↓purePost, combine, idsA, cellsA, numsOf, srcA, calleeA, refsA, isScalar, scalarD, scalar0, AV.one, putL, unfA, implies_true, IntKind.signed, Nat.reduceAdd, Nat.reduceSub, Nat.reduceMul, Nat.reducePow, Nat.reduceDiv, Nat.reduceMod, Int.reduceAdd, Int.reduceSub, Int.reduceMul, Int.reducePow, Int.reduceNeg, Int.reduceToNat, Int.reduceLT, Int.reduceLE, Nat.reduceEqDiff, sidsB, Nat.reduceBEq, keyKD, isIntK, aggD, aggL, eqKs]
        have el : b.length + (1 + (b.length - b.length)) = (b ++ [32]).length := by simp
        have eb : ints .u8 (nums b) ++ D.int .u8 32 :: ints .u8 [] = ints .u8 (nums (b ++ [32])) := by simp [ints, nums]
        rw [e3, el, eb]
        exact ⟨by rfl, i + 1, h, by simp only; omega, ⟨[some 0, some 4], rfl, by simp, by simp [setsA, keepA, SWeak, AWeak, hr], by simp [HWeak, BWeak, SWeak, AWeak, hr]⟩⟩
    · obtain rfl : i = n := by omega
      rw [← em] at *
      simp (config := { maxSteps := 1000000 }) (disch := ((try simp only [awL]); omega)) only [nextC_more, nextC_over, bs_size, bs_extract, bs_toList, bs_append, byteAt_bs, bs_cells, nums_length, nums_getD, MW_n, MW_t, nums_length, ↓awU, awV, awF, ofVal, ofVal0, isShift, aggK, forall_const, ↓reduceIte, ↓reduceDIte, ↓purePost, combine, idsA, cellsA, numsOf, srcA, calleeA, refsA, isScalar, scalarD, scalar0, AV.one, putL, unfA, implies_true, IntKind.signed, Nat.reduceAdd, Nat.reduceSub, Nat.reduceMul, Nat.reducePow, Nat.reduceDiv, Nat.reduceMod, Int.reduceAdd, Int.reduceSub, Int.reduceMul, Int.reducePow, Int.reduceNeg, Int.reduceToNat, Int.reduceLT, Int.reduceLE, Nat.reduceEqDiff, sidsB, Nat.reduceBEq, keyKD, isIntK, aggD, aggL, eqKs]
      obtain ⟨u, hu, hu2⟩ := pk_nat t (wordMid t k).2 3 (by decide)
      have hwr : wordR t k = if pk t (wordMid t k).2 3 = 0 then (wordMid t k).1 ++ 32 :: wordsL.getD (pk t ((wordMid t k).2 + 1) 5).toNat [] else (wordMid t k).1 := rfl
      have hwk : wordK t k = if pk t (wordMid t k).2 3 = 0 then (wordMid t k).2 + 2 else (wordMid t k).2 + 1 := rfl
      have hm10 := (wordMid_ok t k).2
      refine CallC.by (pick_spec t (wordMid t k).2 3 ht (by decide) (by decide)) (by rfl) (by rfl) (Nat.le_refl _) ?_
      rw [hu] at hwr hwk ⊢
      clear hlen hr
      generalize wordMid t k = x at *
      obtain ⟨b, q⟩ := x
      simp only at hwr hwk hu hm10
      have nl := @nums_length b
      rcases (by omega : u = 0 ∨ 0 < u) with rfl | h0
      · rw [if_pos (show ((0 : Nat) : Int) = 0 from rfl)] at hwr hwk
        obtain ⟨v, hv, hv2⟩ := pk_nat t (q + 1) 5 (by decide)
        have g2 := strs_getD (l := wordsL) (i := v) (by omega)
        rw [hv, Int.toNat_natCast] at hwr
        simp (config := { maxSteps := 1000000 }) (disch := ((try simp only [awL]); omega)) only [nextC_more, nextC_over, bs_size, bs_extract, bs_toList, bs_append, byteAt_bs, bs_cells, nums_length, nums_getD, MW_n, MW_t, nl, ↓awU, awV, awF, ofVal, ofVal0, isShift, aggK, forall_const, ↓reduceIte, ↓reduceDIte, ↓purePost, combine, idsA, cellsA, numsOf, srcA, calleeA, refsA, isScalar, scalarD, scalar0, AV.one, putL, unfA, implies_true, IntKind.signed, Nat.reduceAdd, Nat.reduceSub, Nat.reduceMul, Nat.reducePow, Nat.reduceDiv, Nat.reduceMod, Int.reduceAdd, Int.reduceSub, Int.reduceMul, Int.reducePow, Int.reduceNeg, Int.reduceToNat, Int.reduceLT, Int.reduceLE, Nat.reduceEqDiff, sidsB, Nat.reduceBEq, keyKD, isIntK, aggD, aggL, eqKs]
        refine CallC.of words_spec (by rfl) ?_
        simp (config := { maxSteps := 1000000 }) (disch := ((try simp only [awL]); omega)) only [nextC_more, nextC_over, bs_size, bs_extract, bs_toList, bs_append, byteAt_bs, bs_cells, nums_length, nums_getD, MW_n, MW_t, nl, hwl, swl, ↓awU, awV, awF, ofVal, ofVal0, isShift, aggK, forall_const, ↓reduceIte, ↓reduceDIte, ↓purePost, combine, idsA, cellsA, numsOf, srcA, calleeA, refsA, isScalar, scalarD, scalar0, AV.one, putL, unfA, implies_true, IntKind.signed, Nat.reduceAdd, Nat.reduceSub, Nat.reduceMul, Nat.reducePow, Nat.reduceDiv, Nat.reduceMod, Int.reduceAdd, Int.reduceSub, Int.reduceMul, Int.reducePow, Int.reduceNeg, Int.reduceToNat, Int.reduceLT, Int.reduceLE, Nat.reduceEqDiff, sidsB, Nat.reduceBEq, keyKD, isIntK, aggD, aggL, eqKs]
        refine CallC.by (pick_spec t (q + 1) 5 ht (by decide) (by decide)) (by rfl) (by rfl) (Nat.le_refl _) ?_
        rw [hv]
        have lw : (wordsL.getD v []).length ≤ 8 := by
          rw [List.getD_eq_getElem?_getD, List.getElem?_eq_getElem (show v < wordsL.length by omega)]
          exact (words_gd _ (List.getElem_mem _)).2
        have ecut : cut (ints .u8 (nums b) ++ [D.int .u8 32] ++ (wordsL.getD v []).map fun b => D.int .u8 (b.toNat : Int)) 0 (b.length + 1 + (wordsL.getD v []).length) = ints .u8 (nums (b ++ 32 :: wordsL.getD v [])) := by
          unfold cut
          rw [List.drop_zero, List.take_of_length_le (by simp [ints, nums]; omega), cells_nums]
          simp [ints, nums]
        have elen : (b ++ 32 :: wordsL.getD v []).length = b.length + 1 + (wordsL.getD v []).length := by simp; omega
        simp (config := { maxSteps := 1000000 }) (disch := ((try simp only [awL]); omega)) only [nextC_more, nextC_over, bs_size, bs_extract, bs_toList, bs_append, byteAt_bs, bs_cells, nums_length, nums_getD, MW_n, MW_t, nl, hwl, swl, g2, ecut, elen, numsOf_ints, strOfNums_nums, ↓awU, awV, awF, ofVal, ofVal0, isShift, aggK, forall_const, ↓reduceIte, ↓reduceDIte, ↓purePost, combine, idsA, cellsA, numsOf, srcA, calleeA, refsA, isScalar, scalarD, scalar0, AV.one, putL, unfA, implies_true, IntKind.signed, Nat.reduceAdd, Nat.reduceSub, Nat.reduceMul, Nat.reducePow, Nat.reduceDiv, Nat.reduceMod, Int.reduceAdd, Int.reduceSub, Int.reduceMul, Int.reducePow, Int.reduceNeg, Int.reduceToNat, Int.reduceLT, Int.reduceLE, Nat.reduceEqDiff, sidsB, Nat.reduceBEq, keyKD, isIntK, aggD, aggL, eqKs]
        rw [hwr, hwk]
        exact ⟨[some 0], rfl, by simp, by simp [HWeak, BWeak, SWeak, AWeak], .inl (by simp [AWeak])⟩
      · rw [if_neg (by omega)] at hwr hwk
        simp (config := { maxSteps := 1000000 }) (disch := ((try simp only [awL]); omega)) only [nextC_more, nextC_over, bs_size, bs_extract, bs_toList, bs_append, byteAt_bs, bs_cells, nums_length, nums_getD, MW_n, MW_t, nl, numsOf_ints, strOfNums_nums, ↓awU, awV, awF, ofVal, ofVal0, isShift, aggK, forall_const, ↓reduceIte, ↓reduceDIte, ↓purePost, combine, idsA, cellsA, numsOf, srcA, calleeA, refsA, isScalar, scalarD, scalar0, AV.one, putL, unfA, implies_true, IntKind.signed, Nat.reduceAdd, Nat.reduceSub, Nat.reduceMul, Nat.reducePow, Nat.reduceDiv, Nat.reduceMod, Int.reduceAdd, Int.reduceSub, Int.reduceMul, Int.reducePow, Int.reduceNeg, Int.reduceToNat, Int.reduceLT, Int.reduceLE, Nat.reduceEqDiff, sidsB, Nat.reduceBEq, keyKD, isIntK, aggD, aggL, eqKs]
        rw [hwr, hwk]
        exact ⟨[some 0], rfl, by simp, by simp [HWeak, BWeak, SWeak, AWeak], .inl (by simp [AWeak])⟩
end Go.Proofs.Ytpnhbjabnnibcaa

namespace Go.Proofs.Ytpnhbjabnnibcaa
open Go Go.Proofs Go.Abs
variable {G : Globals}
/-! DistanceMetric: the contract. -/
/-- The seeds are bytes. -/
def OkS (t : List Int) : Prop := ∀ i, 0 ≤ t.getD i 0 ∧ t.getD i 0 ≤ 255
theorem OkS.take {t : List Int} (h : OkS t) : OkM (t.take 300) := by
  refine ⟨by rw [List.length_take]; omega, fun i => ?_⟩
  rw [List.getD_eq_getElem?_getD, List.getElem?_take]
  split
  · rw [← List.getD_eq_getElem?_getD]; exact h i
  · simp
set_option maxHeartbeats 4000000 in
set_option maxRecDepth 100000 in
theorem metric_law (t : List Int) (ht : OkS t) (hl : t.length ≤ 9223372036854775807) :
    Ctr Try.prog G 3 [.d (.sl t.length false (ints .u8 t))] [] (.d (.bool true)) [] := by
  refine Ctr.pure (M := M0) hmix Try.func3 rfl go3 ?_
  have hmm := ht.take
  simp (config := { maxSteps := 1000000 }) (disch := ((try simp only [awL]); omega)) only [nextC_more, nextC_over, bs_size, bs_extract, bs_toList, bs_append, byteAt_bs, bs_cells, nums_length, nums_getD, Try.f3, ↓awU, awV, awF, ofVal, ofVal0, isShift, aggK, forall_const, ↓reduceIte, ↓reduceDIte, ↓purePost, combine, idsA, cellsA, numsOf, srcA, calleeA, refsA, isScalar, scalarD, scalar0, AV.one, putL, unfA, implies_true, IntKind.signed, Nat.reduceAdd, Nat.reduceSub, Nat.reduceMul, Nat.reducePow, Nat.reduceDiv, Nat.reduceMod, Int.reduceAdd, Int.reduceSub, Int.reduceMul, Int.reducePow, Int.reduceNeg, Int.reduceToNat, Int.reduceLT, Int.reduceLE, Nat.reduceEqDiff, sidsB, Nat.reduceBEq, keyKD, isIntK, aggD, aggL, eqKs]
  refine CallC.pure sane_spec ?_
  simp (config := { maxSteps := 1000000 }) (disch := ((try simp only [awL]); omega)) only [nextC_more, nextC_over, bs_size, bs_extract, bs_toList, bs_append, byteAt_bs, bs_cells, nums_length, nums_getD, ↓awU, awV, awF, ofVal, ofVal0, isShift, aggK, forall_const, ↓reduceIte, ↓reduceDIte, ↓purePost, combine, idsA, cellsA, numsOf, srcA, calleeA, refsA, isScalar, scalarD, scalar0, AV.one, putL, unfA, implies_true, IntKind.signed, Nat.reduceAdd, Nat.reduceSub, Nat.reduceMul, Nat.reducePow, Nat.reduceDiv, Nat.reduceMod, Int.reduceAdd, Int.reduceSub, Int.reduceMul, Int.reducePow, Int.reduceNeg, Int.reduceToNat, Int.reduceLT, Int.reduceLE, Nat.reduceEqDiff, sidsB, Nat.reduceBEq, keyKD, isIntK, aggD, aggL, eqKs]
  refine CallC.by (new_spec t hl) (by rfl) (by rfl) (Nat.zero_le _) ?_
  generalize t.take 300 = s at *
  simp (config := { maxSteps := 1000000 }) (disch := ((try simp only [awL]); omega)) only [nextC_more, nextC_over, bs_size, bs_extract, bs_toList, bs_append, byteAt_bs, bs_cells, nums_length, nums_getD, ↓awU, awV, awF, ofVal, ofVal0, isShift, aggK, forall_const, ↓reduceIte, ↓reduceDIte, ↓purePost, combine, idsA, cellsA, numsOf, srcA, calleeA, refsA, isScalar, scalarD, scalar0, AV.one, putL, unfA, implies_true, IntKind.signed, Nat.reduceAdd, Nat.reduceSub, Nat.reduceMul, Nat.reducePow, Nat.reduceDiv, Nat.reduceMod, Int.reduceAdd, Int.reduceSub, Int.reduceMul, Int.reducePow, Int.reduceNeg, Int.reduceToNat, Int.reduceLT, Int.reduceLE, Nat.reduceEqDiff, sidsB, Nat.reduceBEq, keyKD, isIntK, aggD, aggL, eqKs]
  refine CallC.by (word_spec s 0 hmm) (by rfl) (by rfl) (Nat.le_refl _) ?_
  obtain ⟨ga, la⟩ := wordR_ok s 0
  generalize wordR s 0 = a at *
  generalize wordK s 0 = k at *
  simp (config := { maxSteps := 1000000 }) (disch := ((try simp only [awL]); omega)) only [nextC_more, nextC_over, bs_size, bs_extract, bs_toList, bs_append, byteAt_bs, bs_cells, nums_length, nums_getD, ↓awU, awV, awF, ofVal, ofVal0, isShift, aggK, forall_const, ↓reduceIte, ↓reduceDIte, ↓purePost, combine, idsA, cellsA, numsOf, srcA, calleeA, refsA, isScalar, scalarD, scalar0, AV.one, putL, unfA, implies_true, IntKind.signed, Nat.reduceAdd, Nat.reduceSub, Nat.reduceMul, Nat.reducePow, Nat.reduceDiv, Nat.reduceMod, Int.reduceAdd, Int.reduceSub, Int.reduceMul, Int.reducePow, Int.reduceNeg, Int.reduceToNat, Int.reduceLT, Int.reduceLE, Nat.reduceEqDiff, sidsB, Nat.reduceBEq, keyKD, isIntK, aggD, aggL, eqKs]
  refine CallC.by (word_spec s k hmm) (by rfl) (by rfl) (Nat.le_refl _) ?_
  obtain ⟨gb, lb⟩ := wordR_ok s k
  generalize wordR s k = b at *
  generalize wordK s k = k at *
  simp (config := { maxSteps := 1000000 }) (disch := ((try simp only [awL]); omega)) only [nextC_more, nextC_over, bs_size, bs_extract, bs_toList, bs_append, byteAt_bs, bs_cells, nums_length, nums_getD, ↓awU, awV, awF, ofVal, ofVal0, isShift, aggK, forall_const, ↓reduceIte, ↓reduceDIte, ↓purePost, combine, idsA, cellsA, numsOf, srcA, calleeA, refsA, isScalar, scalarD, scalar0, AV.one, putL, unfA, implies_true, IntKind.signed, Nat.reduceAdd, Nat.reduceSub, Nat.reduceMul, Nat.reducePow, Nat.reduceDiv, Nat.reduceMod, Int.reduceAdd, Int.reduceSub, Int.reduceMul, Int.reducePow, Int.reduceNeg, Int.reduceToNat, Int.reduceLT, Int.reduceLE, Nat.reduceEqDiff, sidsB, Nat.reduceBEq, keyKD, isIntK, aggD, aggL, eqKs]
  refine CallC.by (word_spec s k hmm) (by rfl) (by rfl) (Nat.le_refl _) ?_
  obtain ⟨gc, lc⟩ := wordR_ok s k
  generalize wordR s k = c at *
  generalize wordK s k = k at *
  have pa := pts_len a
  have pb := pts_len b
  have pc := pts_len c
  have e1 := edit_spec (G := G) a b (by omega) (by omega)
  have e2 := edit_spec (G := G) b c (by omega) (by omega)
  have e3 := edit_spec (G := G) a c (by omega) (by omega)
  have e4 := edit_spec (G := G) b a (by omega) (by omega)
  have sy := lev_symm (pts a) (pts b)
  have tr := lev_tri (pts a) (pts b) (pts c)
  have mx := lev_max (pts a) (pts b)
  have mx2 := lev_max (pts b) (pts c)
  have mx3 := lev_max (pts a) (pts c)
  obtain ⟨b1, b2⟩ := (Ed.lev (pts a) (pts b)).bound
  have hz : lev (pts a) (pts b) = 0 ↔ a = b := lev_zero.trans ⟨fun h => pts_inj ga gb h, fun h => by rw [h]⟩
  rw [← sy] at e4
  simp (config := { maxSteps := 1000000 }) (disch := ((try simp only [awL]); omega)) only [nextC_more, nextC_over, bs_size, bs_extract, bs_toList, bs_append, byteAt_bs, bs_cells, nums_length, nums_getD, ↓awU, awV, awF, ofVal, ofVal0, isShift, aggK, forall_const, ↓reduceIte, ↓reduceDIte, ↓purePost, combine, idsA, cellsA, numsOf, srcA, calleeA, refsA, isScalar, scalarD, scalar0, AV.one, putL, unfA, implies_true, IntKind.signed, Nat.reduceAdd, Nat.reduceSub, Nat.reduceMul, Nat.reducePow, Nat.reduceDiv, Nat.reduceMod, Int.reduceAdd, Int.reduceSub, Int.reduceMul, Int.reducePow, Int.reduceNeg, Int.reduceToNat, Int.reduceLT, Int.reduceLE, Nat.reduceEqDiff, sidsB, Nat.reduceBEq, keyKD, isIntK, aggD, aggL, eqKs]
  refine CallC.of e1 (by rfl) ?_
  simp (config := { maxSteps := 1000000 }) (disch := ((try simp only [awL]); omega)) only [nextC_more, nextC_over, bs_size, bs_extract, bs_toList, bs_append, byteAt_bs, bs_cells, nums_length, nums_getD, ↓awU, awV, awF, ofVal, ofVal0, isShift, aggK, forall_const, ↓reduceIte, ↓reduceDIte, ↓purePost, combine, idsA, cellsA, numsOf, srcA, calleeA, refsA, isScalar, scalarD, scalar0, AV.one, putL, unfA, implies_true, IntKind.signed, Nat.reduceAdd, Nat.reduceSub, Nat.reduceMul, Nat.reducePow, Nat.reduceDiv, Nat.reduceMod, Int.reduceAdd, Int.reduceSub, Int.reduceMul, Int.reducePow, Int.reduceNeg, Int.reduceToNat, Int.reduceLT, Int.reduceLE, Nat.reduceEqDiff, sidsB, Nat.reduceBEq, keyKD, isIntK, aggD, aggL, eqKs]
  refine CallC.of e2 (by rfl) ?_
  simp (config := { maxSteps := 1000000 }) (disch := ((try simp only [awL]); omega)) only [nextC_more, nextC_over, bs_size, bs_extract, bs_toList, bs_append, byteAt_bs, bs_cells, nums_length, nums_getD, ↓awU, awV, awF, ofVal, ofVal0, isShift, aggK, forall_const, ↓reduceIte, ↓reduceDIte, ↓purePost, combine, idsA, cellsA, numsOf, srcA, calleeA, refsA, isScalar, scalarD, scalar0, AV.one, putL, unfA, implies_true, IntKind.signed, Nat.reduceAdd, Nat.reduceSub, Nat.reduceMul, Nat.reducePow, Nat.reduceDiv, Nat.reduceMod, Int.reduceAdd, Int.reduceSub, Int.reduceMul, Int.reducePow, Int.reduceNeg, Int.reduceToNat, Int.reduceLT, Int.reduceLE, Nat.reduceEqDiff, sidsB, Nat.reduceBEq, keyKD, isIntK, aggD, aggL, eqKs]
  refine CallC.of e3 (by rfl) ?_
  simp (config := { maxSteps := 1000000 }) (disch := ((try simp only [awL]); omega)) only [nextC_more, nextC_over, bs_size, bs_extract, bs_toList, bs_append, byteAt_bs, bs_cells, nums_length, nums_getD, ↓awU, awV, awF, ofVal, ofVal0, isShift, aggK, forall_const, ↓reduceIte, ↓reduceDIte, ↓purePost, combine, idsA, cellsA, numsOf, srcA, calleeA, refsA, isScalar, scalarD, scalar0, AV.one, putL, unfA, implies_true, IntKind.signed, Nat.reduceAdd, Nat.reduceSub, Nat.reduceMul, Nat.reducePow, Nat.reduceDiv, Nat.reduceMod, Int.reduceAdd, Int.reduceSub, Int.reduceMul, Int.reducePow, Int.reduceNeg, Int.reduceToNat, Int.reduceLT, Int.reduceLE, Nat.reduceEqDiff, sidsB, Nat.reduceBEq, keyKD, isIntK, aggD, aggL, eqKs]
  refine CallC.of (rpoints_spec a (by omega)) (by rfl) ?_
  simp (config := { maxSteps := 1000000 }) (disch := ((try simp only [awL]); omega)) only [nextC_more, nextC_over, bs_size, bs_extract, bs_toList, bs_append, byteAt_bs, bs_cells, nums_length, nums_getD, ↓awU, awV, awF, ofVal, ofVal0, isShift, aggK, forall_const, ↓reduceIte, ↓reduceDIte, ↓purePost, combine, idsA, cellsA, numsOf, srcA, calleeA, refsA, isScalar, scalarD, scalar0, AV.one, putL, unfA, implies_true, IntKind.signed, Nat.reduceAdd, Nat.reduceSub, Nat.reduceMul, Nat.reducePow, Nat.reduceDiv, Nat.reduceMod, Int.reduceAdd, Int.reduceSub, Int.reduceMul, Int.reducePow, Int.reduceNeg, Int.reduceToNat, Int.reduceLT, Int.reduceLE, Nat.reduceEqDiff, sidsB, Nat.reduceBEq, keyKD, isIntK, aggD, aggL, eqKs]
  refine CallC.of (rpoints_spec b (by omega)) (by rfl) ?_
  simp (config := { maxSteps := 1000000 }) (disch := ((try simp only [awL]); omega)) only [nextC_more, nextC_over, bs_size, bs_extract, bs_toList, bs_append, byteAt_bs, bs_cells, nums_length, nums_getD, ↓awU, awV, awF, ofVal, ofVal0, isShift, aggK, forall_const, ↓reduceIte, ↓reduceDIte, ↓purePost, combine, idsA, cellsA, numsOf, srcA, calleeA, refsA, isScalar, scalarD, scalar0, AV.one, putL, unfA, implies_true, IntKind.signed, Nat.reduceAdd, Nat.reduceSub, Nat.reduceMul, Nat.reducePow, Nat.reduceDiv, Nat.reduceMod, Int.reduceAdd, Int.reduceSub, Int.reduceMul, Int.reducePow, Int.reduceNeg, Int.reduceToNat, Int.reduceLT, Int.reduceLE, Nat.reduceEqDiff, sidsB, Nat.reduceBEq, keyKD, isIntK, aggD, aggL, eqKs]
  refine CallC.of e4 (by rfl) ?_
  generalize lev (pts a) (pts b) = x at *
  generalize lev (pts b) (pts c) = y at *
  generalize lev (pts a) (pts c) = z at *
  generalize (pts a).length = n at *
  generalize (pts b).length = m at *
  have hx19 : x ≤ 19 := by omega
  have hy19 : y ≤ 19 := by omega
  have hz19 : z ≤ 19 := by omega
  clear sy e1 e2 e3 e4 mx2 mx3
  rcases Nat.eq_zero_or_pos x with rfl | h0
  · obtain rfl : a = b := hz.1 rfl
    have hd : (n : Int) ≤ m := by omega
    have hd2 : (m : Int) ≤ n := by omega
    simp (config := { maxSteps := 1000000 }) (disch := ((try simp only [awL]); omega)) only [nextC_more, nextC_over, bs_size, bs_extract, bs_toList, bs_append, byteAt_bs, bs_cells, nums_length, nums_getD, bs_eq, mm_max, ↓awU, awV, awF, ofVal, ofVal0, isShift, aggK, forall_const, ↓reduceIte, ↓reduceDIte, ↓purePost, combine, idsA, cellsA, numsOf, srcA, calleeA, refsA, isScalar, scalarD, scalar0, AV.one, putL, unfA, implies_true, IntKind.signed, Nat.reduceAdd, Nat.reduceSub, Nat.reduceMul, Nat.reducePow, Nat.reduceDiv, Nat.reduceMod, Int.reduceAdd, Int.reduceSub, Int.reduceMul, Int.reducePow, Int.reduceNeg, Int.reduceToNat, Int.reduceLT, Int.reduceLE, Nat.reduceEqDiff, sidsB, Nat.reduceBEq, keyKD, isIntK, aggD, aggL, eqKs]
  · have hab : ¬ a = b := fun h => by have := hz.2 h; omega
    have hdf : decide (a = b) = false := decide_eq_false hab
    simp (config := { maxSteps := 1000000 }) (disch := ((try simp only [awL]); omega)) only [nextC_more, nextC_over, bs_size, bs_extract, bs_toList, bs_append, byteAt_bs, bs_cells, nums_length, nums_getD, bs_eq, hdf, mm_max, ↓awU, awV, awF, ofVal, ofVal0, isShift, aggK, forall_const, ↓reduceIte, ↓reduceDIte, ↓purePost, combine, idsA, cellsA, numsOf, srcA, calleeA, refsA, isScalar, scalarD, scalar0, AV.one, putL, unfA, implies_true, IntKind.signed, Nat.reduceAdd, Nat.reduceSub, Nat.reduceMul, Nat.reducePow, Nat.reduceDiv, Nat.reduceMod, Int.reduceAdd, Int.reduceSub, Int.reduceMul, Int.reducePow, Int.reduceNeg, Int.reduceToNat, Int.reduceLT, Int.reduceLE, Nat.reduceEqDiff, sidsB, Nat.reduceBEq, keyKD, isIntK, aggD, aggL, eqKs]
end Go.Proofs.Ytpnhbjabnnibcaa
