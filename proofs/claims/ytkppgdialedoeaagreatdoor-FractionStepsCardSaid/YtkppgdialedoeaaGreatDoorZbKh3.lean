/-
  Contracts of the functions, one after another.
-/
import Derived.Test.YtkppgdialedoeaaGreatDoorZbKh2
set_option linter.all false
namespace Go.Proofs.YtkppgdialedoeaaGreatDoor
open Go Go.Proofs Go.Abs
variable {G : Globals}
/-! Operations on fractions that may be none, of both packages. -/
set_option maxRecDepth 100000 in
theorem rfdiv_spec (x y : Rat) (h1 : FV x) (h2 : FV y) (h3 : FV (x / y)) :
    Ctr Tryz.prog G 22 [.d (Frac x), .d (Frac y)] [] (.d (.tup [if y = 0 then Zf else Frac (x / y), .int .i64 (if y = 0 then 8 else 0)])) [] := by
  have s1 := @sz_mul x.num y.den
  have s2 := @sz_mul (x.den : Int) y.num
  have c2 : sz (x.den : Int) ≤ 256 := by simpa [sz] using h1.2
  have d2 : sz (y.den : Int) ≤ 256 := by simpa [sz] using h2.2
  have b1 := h1.1
  have b2 := h2.1
  have b3 := h1.2
  have b4 := h2.2
  have p1 := x.den_pos
  refine Ctr.pure (M := M0) hmix Tryz.func22 rfl go22 ?_
  simp (config := { maxSteps := 1000000 }) (disch := ((try simp only [awL]); omega)) only [Tryz.f22, ↓awU, awV, awF, ofVal, ofVal0, isShift, aggK, forall_const, ↓reduceIte, ↓reduceDIte, ↓purePost, combine, idsA, cellsA, numsOf, srcA, calleeA, refsA, isScalar, scalarD, scalar0, AV.one, putL, unfA, implies_true, IntKind.signed, Nat.reduceAdd, Nat.reduceSub, Nat.reduceMul, Nat.reducePow, Nat.reduceDiv, Nat.reduceMod, Int.reduceAdd, Int.reduceSub, Int.reduceMul, Int.reducePow, Int.reduceNeg, Int.reduceToNat, Int.reduceLT, Int.reduceLE, Nat.reduceEqDiff, sidsB, Nat.reduceBEq, keyKD, isIntK]
  refine CallC.pure (rvalid_spec x (by omega) (by omega)) ?_
  rw [decide_eq_true h1]
  simp (config := { maxSteps := 1000000 }) (disch := ((try simp only [awL]); omega)) only [↓awU, awV, awF, ofVal, ofVal0, isShift, aggK, forall_const, ↓reduceIte, ↓reduceDIte, ↓purePost, combine, idsA, cellsA, numsOf, srcA, calleeA, refsA, isScalar, scalarD, scalar0, AV.one, putL, unfA, implies_true, IntKind.signed, Nat.reduceAdd, Nat.reduceSub, Nat.reduceMul, Nat.reducePow, Nat.reduceDiv, Nat.reduceMod, Int.reduceAdd, Int.reduceSub, Int.reduceMul, Int.reducePow, Int.reduceNeg, Int.reduceToNat, Int.reduceLT, Int.reduceLE, Nat.reduceEqDiff, sidsB, Nat.reduceBEq, keyKD, isIntK]
  refine CallC.pure (rvalid_spec y (by omega) (by omega)) ?_
  rw [decide_eq_true h2]
  by_cases h : y = 0
  · have e0 : (toW y.num.natAbs).length = 0 := by rw [h]; show (toW 0).length = 0; rw [toW_zero]; rfl
    rw [if_pos h, if_pos h]
    simp (config := { maxSteps := 1000000 }) (disch := ((try simp only [awL]); omega)) only [e0, ↓awU, awV, awF, ofVal, ofVal0, isShift, aggK, forall_const, ↓reduceIte, ↓reduceDIte, ↓purePost, combine, idsA, cellsA, numsOf, srcA, calleeA, refsA, isScalar, scalarD, scalar0, AV.one, putL, unfA, implies_true, IntKind.signed, Nat.reduceAdd, Nat.reduceSub, Nat.reduceMul, Nat.reducePow, Nat.reduceDiv, Nat.reduceMod, Int.reduceAdd, Int.reduceSub, Int.reduceMul, Int.reducePow, Int.reduceNeg, Int.reduceToNat, Int.reduceLT, Int.reduceLE, Nat.reduceEqDiff, sidsB, Nat.reduceBEq, keyKD, isIntK]
    try rfl
  · have hn : y.num ≠ 0 := fun e => h (Rat.num_eq_zero.1 e)
    have e0 := (@sz_pos y.num.natAbs).2 (by omega)
    rw [if_neg h, if_neg h]
    simp (config := { maxSteps := 1000000 }) (disch := ((try simp only [awL]); omega)) only [↓awU, awV, awF, ofVal, ofVal0, isShift, aggK, forall_const, ↓reduceIte, ↓reduceDIte, ↓purePost, combine, idsA, cellsA, numsOf, srcA, calleeA, refsA, isScalar, scalarD, scalar0, AV.one, putL, unfA, implies_true, IntKind.signed, Nat.reduceAdd, Nat.reduceSub, Nat.reduceMul, Nat.reducePow, Nat.reduceDiv, Nat.reduceMod, Int.reduceAdd, Int.reduceSub, Int.reduceMul, Int.reducePow, Int.reduceNeg, Int.reduceToNat, Int.reduceLT, Int.reduceLE, Nat.reduceEqDiff, sidsB, Nat.reduceBEq, keyKD, isIntK]
    refine CallC.of (rtimes_spec x.num y.den (by omega) (by omega)) (by rw [Big_nat]) ?_
    simp (config := { maxSteps := 1000000 }) (disch := ((try simp only [awL]); omega)) only [↓awU, awV, awF, ofVal, ofVal0, isShift, aggK, forall_const, ↓reduceIte, ↓reduceDIte, ↓purePost, combine, idsA, cellsA, numsOf, srcA, calleeA, refsA, isScalar, scalarD, scalar0, AV.one, putL, unfA, implies_true, IntKind.signed, Nat.reduceAdd, Nat.reduceSub, Nat.reduceMul, Nat.reducePow, Nat.reduceDiv, Nat.reduceMod, Int.reduceAdd, Int.reduceSub, Int.reduceMul, Int.reducePow, Int.reduceNeg, Int.reduceToNat, Int.reduceLT, Int.reduceLE, Nat.reduceEqDiff, sidsB, Nat.reduceBEq, keyKD, isIntK]
    refine CallC.of (rtimes_spec x.den y.num (by omega) (by omega)) (by rw [Big_nat]) ?_
    simp (config := { maxSteps := 1000000 }) (disch := ((try simp only [awL]); omega)) only [↓awU, awV, awF, ofVal, ofVal0, isShift, aggK, forall_const, ↓reduceIte, ↓reduceDIte, ↓purePost, combine, idsA, cellsA, numsOf, srcA, calleeA, refsA, isScalar, scalarD, scalar0, AV.one, putL, unfA, implies_true, IntKind.signed, Nat.reduceAdd, Nat.reduceSub, Nat.reduceMul, Nat.reducePow, Nat.reduceDiv, Nat.reduceMod, Int.reduceAdd, Int.reduceSub, Int.reduceMul, Int.reducePow, Int.reduceNeg, Int.reduceToNat, Int.reduceLT, Int.reduceLE, Nat.reduceEqDiff, sidsB, Nat.reduceBEq, keyKD, isIntK]
    refine CallC.of (rresult_spec (x.num * y.den) ((x.den : Int) * y.num) (Int.mul_ne_zero (by omega) hn) (by omega) (by omega)) (by rfl) ?_
    rw [div_eq, if_pos h3, if_pos h3]
    simp (config := { maxSteps := 1000000 }) (disch := ((try simp only [awL]); omega)) only [↓awU, awV, awF, ofVal, ofVal0, isShift, aggK, forall_const, ↓reduceIte, ↓reduceDIte, ↓purePost, combine, idsA, cellsA, numsOf, srcA, calleeA, refsA, isScalar, scalarD, scalar0, AV.one, putL, unfA, implies_true, IntKind.signed, Nat.reduceAdd, Nat.reduceSub, Nat.reduceMul, Nat.reducePow, Nat.reduceDiv, Nat.reduceMod, Int.reduceAdd, Int.reduceSub, Int.reduceMul, Int.reducePow, Int.reduceNeg, Int.reduceToNat, Int.reduceLT, Int.reduceLE, Nat.reduceEqDiff, sidsB, Nat.reduceBEq, keyKD, isIntK]
    try rfl
set_option maxRecDepth 100000 in
theorem rtext_spec (x : Rat) (hx : FV x) : Ctr Tryz.prog G 28 [.d (Frac x)] [] (.d (S (textF x))) [] := by
  have h1 := hx.1
  have h2 := hx.2
  have t1 := @textB_len x.num
  have t2 := @textB_len x.den
  have c2 : sz (x.den : Int) ≤ 256 := by simpa [sz] using h2
  refine Ctr.pure (M := M0) hmix Tryz.func28 rfl go28 ?_
  simp (config := { maxSteps := 1000000 }) (disch := ((try simp only [awL]); omega)) only [nextC_more, nextC_over, bs_size, bs_extract, bs_toList, bs_append, byteAt_bs, bs_cells, nums_length, nums_getD, Tryz.f28, ↓awU, awV, awF, ofVal, ofVal0, isShift, aggK, forall_const, ↓reduceIte, ↓reduceDIte, ↓purePost, combine, idsA, cellsA, numsOf, srcA, calleeA, refsA, isScalar, scalarD, scalar0, AV.one, putL, unfA, implies_true, IntKind.signed, Nat.reduceAdd, Nat.reduceSub, Nat.reduceMul, Nat.reducePow, Nat.reduceDiv, Nat.reduceMod, Int.reduceAdd, Int.reduceSub, Int.reduceMul, Int.reducePow, Int.reduceNeg, Int.reduceToNat, Int.reduceLT, Int.reduceLE, Nat.reduceEqDiff, sidsB, Nat.reduceBEq, keyKD, isIntK]
  refine CallC.pure (rvalid_spec x (by omega) (by omega)) ?_
  rw [decide_eq_true hx]
  simp (config := { maxSteps := 1000000 }) (disch := ((try simp only [awL]); omega)) only [nextC_more, nextC_over, bs_size, bs_extract, bs_toList, bs_append, byteAt_bs, bs_cells, nums_length, nums_getD, ↓awU, awV, awF, ofVal, ofVal0, isShift, aggK, forall_const, ↓reduceIte, ↓reduceDIte, ↓purePost, combine, idsA, cellsA, numsOf, srcA, calleeA, refsA, isScalar, scalarD, scalar0, AV.one, putL, unfA, implies_true, IntKind.signed, Nat.reduceAdd, Nat.reduceSub, Nat.reduceMul, Nat.reducePow, Nat.reduceDiv, Nat.reduceMod, Int.reduceAdd, Int.reduceSub, Int.reduceMul, Int.reducePow, Int.reduceNeg, Int.reduceToNat, Int.reduceLT, Int.reduceLE, Nat.reduceEqDiff, sidsB, Nat.reduceBEq, keyKD, isIntK]
  refine CallC.frozenE (rcmp_spec x.den 1 (by omega) (by rw [toW_one]; decide)) (by rw [toW_one]; rfl) ?_
  by_cases hd : x.den = 1
  · have : cmpI (x.den : Int) ((1 : Nat) : Int) = 0 := cmpI_eq (by omega)
    rw [this, textF, if_pos hd]
    simp (config := { maxSteps := 1000000 }) (disch := ((try simp only [awL]); omega)) only [nextC_more, nextC_over, bs_size, bs_extract, bs_toList, bs_append, byteAt_bs, bs_cells, nums_length, nums_getD, ↓awU, awV, awF, ofVal, ofVal0, isShift, aggK, forall_const, ↓reduceIte, ↓reduceDIte, ↓purePost, combine, idsA, cellsA, numsOf, srcA, calleeA, refsA, isScalar, scalarD, scalar0, AV.one, putL, unfA, implies_true, IntKind.signed, Nat.reduceAdd, Nat.reduceSub, Nat.reduceMul, Nat.reducePow, Nat.reduceDiv, Nat.reduceMod, Int.reduceAdd, Int.reduceSub, Int.reduceMul, Int.reducePow, Int.reduceNeg, Int.reduceToNat, Int.reduceLT, Int.reduceLE, Nat.reduceEqDiff, sidsB, Nat.reduceBEq, keyKD, isIntK]
    refine CallC.of (rtextBig_spec x.num h1) (by rfl) ?_
    simp (config := { maxSteps := 1000000 }) (disch := ((try simp only [awL]); omega)) only [nextC_more, nextC_over, bs_size, bs_extract, bs_toList, bs_append, byteAt_bs, bs_cells, nums_length, nums_getD, ↓awU, awV, awF, ofVal, ofVal0, isShift, aggK, forall_const, ↓reduceIte, ↓reduceDIte, ↓purePost, combine, idsA, cellsA, numsOf, srcA, calleeA, refsA, isScalar, scalarD, scalar0, AV.one, putL, unfA, implies_true, IntKind.signed, Nat.reduceAdd, Nat.reduceSub, Nat.reduceMul, Nat.reducePow, Nat.reduceDiv, Nat.reduceMod, Int.reduceAdd, Int.reduceSub, Int.reduceMul, Int.reducePow, Int.reduceNeg, Int.reduceToNat, Int.reduceLT, Int.reduceLE, Nat.reduceEqDiff, sidsB, Nat.reduceBEq, keyKD, isIntK]
    try rfl
  · have hc : cmpI (x.den : Int) ((1 : Nat) : Int) ≠ 0 := by
      have := x.den_pos
      rw [cmpI_gt (by omega)]; decide
    rw [textF, if_neg hd]
    generalize cmpI (x.den : Int) ((1 : Nat) : Int) = z at *
    simp (config := { maxSteps := 1000000 }) (disch := ((try simp only [awL]); omega)) only [nextC_more, nextC_over, bs_size, bs_extract, bs_toList, bs_append, byteAt_bs, bs_cells, nums_length, nums_getD, ↓awU, awV, awF, ofVal, ofVal0, isShift, aggK, forall_const, ↓reduceIte, ↓reduceDIte, ↓purePost, combine, idsA, cellsA, numsOf, srcA, calleeA, refsA, isScalar, scalarD, scalar0, AV.one, putL, unfA, implies_true, IntKind.signed, Nat.reduceAdd, Nat.reduceSub, Nat.reduceMul, Nat.reducePow, Nat.reduceDiv, Nat.reduceMod, Int.reduceAdd, Int.reduceSub, Int.reduceMul, Int.reducePow, Int.reduceNeg, Int.reduceToNat, Int.reduceLT, Int.reduceLE, Nat.reduceEqDiff, sidsB, Nat.reduceBEq, keyKD, isIntK]
    refine CallC.of (rtextBig_spec x.num h1) (by rfl) ?_
    simp (config := { maxSteps := 1000000 }) (disch := ((try simp only [awL]); omega)) only [nextC_more, nextC_over, bs_size, bs_extract, bs_toList, bs_append, byteAt_bs, bs_cells, nums_length, nums_getD, ↓awU, awV, awF, ofVal, ofVal0, isShift, aggK, forall_const, ↓reduceIte, ↓reduceDIte, ↓purePost, combine, idsA, cellsA, numsOf, srcA, calleeA, refsA, isScalar, scalarD, scalar0, AV.one, putL, unfA, implies_true, IntKind.signed, Nat.reduceAdd, Nat.reduceSub, Nat.reduceMul, Nat.reducePow, Nat.reduceDiv, Nat.reduceMod, Int.reduceAdd, Int.reduceSub, Int.reduceMul, Int.reducePow, Int.reduceNeg, Int.reduceToNat, Int.reduceLT, Int.reduceLE, Nat.reduceEqDiff, sidsB, Nat.reduceBEq, keyKD, isIntK]
    refine CallC.of (rtextBig_spec x.den c2) (by rw [Big_nat]) ?_
    simp (config := { maxSteps := 1000000 }) (disch := ((try simp only [awL]); omega)) only [nextC_more, nextC_over, bs_size, bs_extract, bs_toList, bs_append, byteAt_bs, bs_cells, nums_length, nums_getD, ↓awU, awV, awF, ofVal, ofVal0, isShift, aggK, forall_const, ↓reduceIte, ↓reduceDIte, ↓purePost, combine, idsA, cellsA, numsOf, srcA, calleeA, refsA, isScalar, scalarD, scalar0, AV.one, putL, unfA, implies_true, IntKind.signed, Nat.reduceAdd, Nat.reduceSub, Nat.reduceMul, Nat.reducePow, Nat.reduceDiv, Nat.reduceMod, Int.reduceAdd, Int.reduceSub, Int.reduceMul, Int.reducePow, Int.reduceNeg, Int.reduceToNat, Int.reduceLT, Int.reduceLE, Nat.reduceEqDiff, sidsB, Nat.reduceBEq, keyKD, isIntK]
    try rfl
set_option maxRecDepth 100000 in
theorem rsameF_spec (p q : Int) (hp : sz p ≤ 1000) (hq : sz q ≤ 1000) : Ctr Tryz.prog G 16 [.d (FrI p q), .d (FrI p q)] [] (.d (.bool true)) [] := by
  refine Ctr.pure (M := M0) hmix Tryz.func16 rfl go16 ?_
  simp (config := { maxSteps := 1000000 }) (disch := ((try simp only [awL]); omega)) only [Tryz.f16, ↓awU, awV, awF, ofVal, ofVal0, isShift, aggK, forall_const, ↓reduceIte, ↓reduceDIte, ↓purePost, combine, idsA, cellsA, numsOf, srcA, calleeA, refsA, isScalar, scalarD, scalar0, AV.one, putL, unfA, implies_true, IntKind.signed, Nat.reduceAdd, Nat.reduceSub, Nat.reduceMul, Nat.reducePow, Nat.reduceDiv, Nat.reduceMod, Int.reduceAdd, Int.reduceSub, Int.reduceMul, Int.reducePow, Int.reduceNeg, Int.reduceToNat, Int.reduceLT, Int.reduceLE, Nat.reduceEqDiff, sidsB, Nat.reduceBEq, keyKD, isIntK]
  refine CallC.of (rsame_spec p hp) (by rfl) ?_
  simp (config := { maxSteps := 1000000 }) (disch := ((try simp only [awL]); omega)) only [↓awU, awV, awF, ofVal, ofVal0, isShift, aggK, forall_const, ↓reduceIte, ↓reduceDIte, ↓purePost, combine, idsA, cellsA, numsOf, srcA, calleeA, refsA, isScalar, scalarD, scalar0, AV.one, putL, unfA, implies_true, IntKind.signed, Nat.reduceAdd, Nat.reduceSub, Nat.reduceMul, Nat.reducePow, Nat.reduceDiv, Nat.reduceMod, Int.reduceAdd, Int.reduceSub, Int.reduceMul, Int.reducePow, Int.reduceNeg, Int.reduceToNat, Int.reduceLT, Int.reduceLE, Nat.reduceEqDiff, sidsB, Nat.reduceBEq, keyKD, isIntK]
  refine CallC.of (rsame_spec q hq) (by rfl) ?_
  simp (config := { maxSteps := 1000000 }) (disch := ((try simp only [awL]); omega)) only [↓awU, awV, awF, ofVal, ofVal0, isShift, aggK, forall_const, ↓reduceIte, ↓reduceDIte, ↓purePost, combine, idsA, cellsA, numsOf, srcA, calleeA, refsA, isScalar, scalarD, scalar0, AV.one, putL, unfA, implies_true, IntKind.signed, Nat.reduceAdd, Nat.reduceSub, Nat.reduceMul, Nat.reducePow, Nat.reduceDiv, Nat.reduceMod, Int.reduceAdd, Int.reduceSub, Int.reduceMul, Int.reducePow, Int.reduceNeg, Int.reduceToNat, Int.reduceLT, Int.reduceLE, Nat.reduceEqDiff, sidsB, Nat.reduceBEq, keyKD, isIntK]
  try rfl
/-- What is the same as itself. -/
def SmF (d : D) : Prop := ∃ p q, d = FrI p q ∧ sz p ≤ 1000 ∧ sz q ≤ 1000
set_option maxRecDepth 100000 in
theorem sz0 : sz 0 ≤ 1000 := by have e : toW (0 : Int).natAbs = [] := toW_zero; simp only [sz, e]; decide
set_option maxRecDepth 100000 in
theorem SmF_Zf : SmF Zf := ⟨0, 0, by have e : toW (0 : Int).natAbs = [] := toW_zero; simp only [FrI, W, e]; rfl, sz0, sz0⟩
set_option maxRecDepth 100000 in
theorem SmF_Frac {x : Rat} (h : FV x) : SmF (Frac x) := ⟨x.num, x.den, by simp [FrI], by have := h.1; omega, by have := h.2; simp only [sz, Int.natAbs_natCast]; omega⟩
def qF (x y : RF) (f : Rat → Rat → Rat) : D := if x.ok && y.ok then Frac (f x.rat y.rat) else Zf
def qE (x y : RF) : Int := if x.ok && y.ok then 0 else 1
def dF (x y : RF) : D := if x.ok && y.ok then (if y.rat = 0 then Zf else Frac (x.rat / y.rat)) else Zf
def dEE (x y : RF) : Int := if x.ok && y.ok then (if y.rat = 0 then 8 else 0) else 1
def cF (x y : RF) : Int := if x.ok && y.ok then cmpQ x.rat y.rat else 0
def tF (x : RF) : List UInt8 := if x.ok = true then textF x.rat else []
set_option maxRecDepth 100000 in
theorem resultX_spec (hG : HG G) (op : FuncId) (x : RF) (hx : x.Dg) (ho : x.ok = false) (s1 : Bool) (l1 : List Nat) (s2 : Bool) (l2 : List Nat) : Ctr Tryz.prog G 59 [.d (.fn (.func op) [] []), .d (RFD x), .d (.agg [.bool s1, W l1, .bool s2, W l2])] [] (.d (.tup [Zf, .int .i64 1])) [] := by
  refine Ctr.pure (M := M0) hmix Tryz.func59 rfl go59 ?_
  simp (config := { maxSteps := 1000000 }) (disch := ((try simp only [awL]); omega)) only [Tryz.f59, ↓awU, awV, awF, ofVal, ofVal0, isShift, aggK, forall_const, ↓reduceIte, ↓reduceDIte, ↓purePost, combine, idsA, cellsA, numsOf, srcA, calleeA, refsA, isScalar, scalarD, scalar0, AV.one, putL, unfA, implies_true, IntKind.signed, Nat.reduceAdd, Nat.reduceSub, Nat.reduceMul, Nat.reducePow, Nat.reduceDiv, Nat.reduceMod, Int.reduceAdd, Int.reduceSub, Int.reduceMul, Int.reducePow, Int.reduceNeg, Int.reduceToNat, Int.reduceLT, Int.reduceLE, Nat.reduceEqDiff, sidsB, Nat.reduceBEq, keyKD, isIntK]
  refine CallC.of (validRF_spec hG x hx) (by rfl) ?_
  rw [ho]
  simp (config := { maxSteps := 1000000 }) (disch := ((try simp only [awL]); omega)) only [↓awU, awV, awF, ofVal, ofVal0, isShift, aggK, forall_const, ↓reduceIte, ↓reduceDIte, ↓purePost, combine, idsA, cellsA, numsOf, srcA, calleeA, refsA, isScalar, scalarD, scalar0, AV.one, putL, unfA, implies_true, IntKind.signed, Nat.reduceAdd, Nat.reduceSub, Nat.reduceMul, Nat.reducePow, Nat.reduceDiv, Nat.reduceMod, Int.reduceAdd, Int.reduceSub, Int.reduceMul, Int.reducePow, Int.reduceNeg, Int.reduceToNat, Int.reduceLT, Int.reduceLE, Nat.reduceEqDiff, sidsB, Nat.reduceBEq, keyKD, isIntK]
  try rfl
set_option maxRecDepth 100000 in
theorem resultN_spec (hG : HG G) (op : FuncId) (x y : RF) (hx : x.Dg) (hy : y.Dg) (ho : (x.ok && y.ok) = false) : Ctr Tryz.prog G 59 [.d (.fn (.func op) [] []), .d (RFD x), .d (RFD y)] [] (.d (.tup [Zf, .int .i64 1])) [] := by
  refine Ctr.pure (M := M0) hmix Tryz.func59 rfl go59 ?_
  simp (config := { maxSteps := 1000000 }) (disch := ((try simp only [awL]); omega)) only [Tryz.f59, ↓awU, awV, awF, ofVal, ofVal0, isShift, aggK, forall_const, ↓reduceIte, ↓reduceDIte, ↓purePost, combine, idsA, cellsA, numsOf, srcA, calleeA, refsA, isScalar, scalarD, scalar0, AV.one, putL, unfA, implies_true, IntKind.signed, Nat.reduceAdd, Nat.reduceSub, Nat.reduceMul, Nat.reducePow, Nat.reduceDiv, Nat.reduceMod, Int.reduceAdd, Int.reduceSub, Int.reduceMul, Int.reducePow, Int.reduceNeg, Int.reduceToNat, Int.reduceLT, Int.reduceLE, Nat.reduceEqDiff, sidsB, Nat.reduceBEq, keyKD, isIntK]
  refine CallC.of (validRF_spec hG x hx) (by rfl) ?_
  cases h1 : x.ok
  · simp (config := { maxSteps := 1000000 }) (disch := ((try simp only [awL]); omega)) only [↓awU, awV, awF, ofVal, ofVal0, isShift, aggK, forall_const, ↓reduceIte, ↓reduceDIte, ↓purePost, combine, idsA, cellsA, numsOf, srcA, calleeA, refsA, isScalar, scalarD, scalar0, AV.one, putL, unfA, implies_true, IntKind.signed, Nat.reduceAdd, Nat.reduceSub, Nat.reduceMul, Nat.reducePow, Nat.reduceDiv, Nat.reduceMod, Int.reduceAdd, Int.reduceSub, Int.reduceMul, Int.reducePow, Int.reduceNeg, Int.reduceToNat, Int.reduceLT, Int.reduceLE, Nat.reduceEqDiff, sidsB, Nat.reduceBEq, keyKD, isIntK]
    try rfl
  · rw [h1, Bool.true_and] at ho
    simp (config := { maxSteps := 1000000 }) (disch := ((try simp only [awL]); omega)) only [↓awU, awV, awF, ofVal, ofVal0, isShift, aggK, forall_const, ↓reduceIte, ↓reduceDIte, ↓purePost, combine, idsA, cellsA, numsOf, srcA, calleeA, refsA, isScalar, scalarD, scalar0, AV.one, putL, unfA, implies_true, IntKind.signed, Nat.reduceAdd, Nat.reduceSub, Nat.reduceMul, Nat.reducePow, Nat.reduceDiv, Nat.reduceMod, Int.reduceAdd, Int.reduceSub, Int.reduceMul, Int.reducePow, Int.reduceNeg, Int.reduceToNat, Int.reduceLT, Int.reduceLE, Nat.reduceEqDiff, sidsB, Nat.reduceBEq, keyKD, isIntK]
    refine CallC.of (validRF_spec hG y hy) (by rfl) ?_
    rw [ho]
    simp (config := { maxSteps := 1000000 }) (disch := ((try simp only [awL]); omega)) only [↓awU, awV, awF, ofVal, ofVal0, isShift, aggK, forall_const, ↓reduceIte, ↓reduceDIte, ↓purePost, combine, idsA, cellsA, numsOf, srcA, calleeA, refsA, isScalar, scalarD, scalar0, AV.one, putL, unfA, implies_true, IntKind.signed, Nat.reduceAdd, Nat.reduceSub, Nat.reduceMul, Nat.reducePow, Nat.reduceDiv, Nat.reduceMod, Int.reduceAdd, Int.reduceSub, Int.reduceMul, Int.reducePow, Int.reduceNeg, Int.reduceToNat, Int.reduceLT, Int.reduceLE, Nat.reduceEqDiff, sidsB, Nat.reduceBEq, keyKD, isIntK]
    try rfl
set_option maxRecDepth 100000 in
theorem addF_raw (hG : HG G) (x y : RF) (hx : x.Dg) (hy : y.Dg) (hv : x.ok = true → y.ok = true → FV (x.rat + y.rat)) : Ctr Tryz.prog G 14 [.d (RFD x), .d (RFD y)] [] (.d (.tup [qF x y (· + ·), .int .i64 (qE x y)])) [] := by
  cases ho : x.ok && y.ok
  · simp only [qF, qE, ho, if_neg Bool.false_ne_true]
    refine Ctr.pure (M := M0) hmix Tryz.func14 rfl go14 ?_
    simp (config := { maxSteps := 1000000 }) (disch := ((try simp only [awL]); omega)) only [Tryz.f14, ↓awU, awV, awF, ofVal, ofVal0, isShift, aggK, forall_const, ↓reduceIte, ↓reduceDIte, ↓purePost, combine, idsA, cellsA, numsOf, srcA, calleeA, refsA, isScalar, scalarD, scalar0, AV.one, putL, unfA, implies_true, IntKind.signed, Nat.reduceAdd, Nat.reduceSub, Nat.reduceMul, Nat.reducePow, Nat.reduceDiv, Nat.reduceMod, Int.reduceAdd, Int.reduceSub, Int.reduceMul, Int.reducePow, Int.reduceNeg, Int.reduceToNat, Int.reduceLT, Int.reduceLE, Nat.reduceEqDiff, sidsB, Nat.reduceBEq, keyKD, isIntK]
    refine CallC.of (resultN_spec hG 58 x y hx hy ho) (by rfl) ?_
    simp (config := { maxSteps := 1000000 }) (disch := ((try simp only [awL]); omega)) only [↓awU, awV, awF, ofVal, ofVal0, isShift, aggK, forall_const, ↓reduceIte, ↓reduceDIte, ↓purePost, combine, idsA, cellsA, numsOf, srcA, calleeA, refsA, isScalar, scalarD, scalar0, AV.one, putL, unfA, implies_true, IntKind.signed, Nat.reduceAdd, Nat.reduceSub, Nat.reduceMul, Nat.reducePow, Nat.reduceDiv, Nat.reduceMod, Int.reduceAdd, Int.reduceSub, Int.reduceMul, Int.reducePow, Int.reduceNeg, Int.reduceToNat, Int.reduceLT, Int.reduceLE, Nat.reduceEqDiff, sidsB, Nat.reduceBEq, keyKD, isIntK]
    try rfl
  · simp only [qF, qE, ho, if_true]
    rw [Bool.and_eq_true] at ho
    obtain ⟨e1, e2⟩ := RF.frac hx ho.1
    obtain ⟨f1, f2⟩ := RF.frac hy ho.2
    rw [e1, f1]
    exact add_spec hG x.rat y.rat e2 f2 (hv ho.1 ho.2)
set_option maxRecDepth 100000 in
theorem raddF_raw (hG : HG G) (x y : RF) (hx : x.Dg) (hy : y.Dg) (hv : x.ok = true → y.ok = true → FV (x.rat + y.rat)) : Ctr Tryz.prog G 15 [.d (RFD x), .d (RFD y)] [] (.d (.tup [qF x y (· + ·), .int .i64 (qE x y)])) [] := by
  cases ho : x.ok && y.ok
  · simp only [qF, qE, ho, if_neg Bool.false_ne_true]
    refine Ctr.pure (M := M0) hmix Tryz.func15 rfl go15 ?_
    simp (config := { maxSteps := 1000000 }) (disch := ((try simp only [awL]); omega)) only [Tryz.f15, ↓awU, awV, awF, ofVal, ofVal0, isShift, aggK, forall_const, ↓reduceIte, ↓reduceDIte, ↓purePost, combine, idsA, cellsA, numsOf, srcA, calleeA, refsA, isScalar, scalarD, scalar0, AV.one, putL, unfA, implies_true, IntKind.signed, Nat.reduceAdd, Nat.reduceSub, Nat.reduceMul, Nat.reducePow, Nat.reduceDiv, Nat.reduceMod, Int.reduceAdd, Int.reduceSub, Int.reduceMul, Int.reducePow, Int.reduceNeg, Int.reduceToNat, Int.reduceLT, Int.reduceLE, Nat.reduceEqDiff, sidsB, Nat.reduceBEq, keyKD, isIntK]
    refine CallC.of (rvalidRF_spec x hx) (by rfl) ?_
    cases h1 : x.ok
    · simp (config := { maxSteps := 1000000 }) (disch := ((try simp only [awL]); omega)) only [↓awU, awV, awF, ofVal, ofVal0, isShift, aggK, forall_const, ↓reduceIte, ↓reduceDIte, ↓purePost, combine, idsA, cellsA, numsOf, srcA, calleeA, refsA, isScalar, scalarD, scalar0, AV.one, putL, unfA, implies_true, IntKind.signed, Nat.reduceAdd, Nat.reduceSub, Nat.reduceMul, Nat.reducePow, Nat.reduceDiv, Nat.reduceMod, Int.reduceAdd, Int.reduceSub, Int.reduceMul, Int.reducePow, Int.reduceNeg, Int.reduceToNat, Int.reduceLT, Int.reduceLE, Nat.reduceEqDiff, sidsB, Nat.reduceBEq, keyKD, isIntK]
      try rfl
    · rw [h1, Bool.true_and] at ho
      simp (config := { maxSteps := 1000000 }) (disch := ((try simp only [awL]); omega)) only [↓awU, awV, awF, ofVal, ofVal0, isShift, aggK, forall_const, ↓reduceIte, ↓reduceDIte, ↓purePost, combine, idsA, cellsA, numsOf, srcA, calleeA, refsA, isScalar, scalarD, scalar0, AV.one, putL, unfA, implies_true, IntKind.signed, Nat.reduceAdd, Nat.reduceSub, Nat.reduceMul, Nat.reducePow, Nat.reduceDiv, Nat.reduceMod, Int.reduceAdd, Int.reduceSub, Int.reduceMul, Int.reducePow, Int.reduceNeg, Int.reduceToNat, Int.reduceLT, Int.reduceLE, Nat.reduceEqDiff, sidsB, Nat.reduceBEq, keyKD, isIntK]
      refine CallC.of (rvalidRF_spec y hy) (by rfl) ?_
      rw [ho]
      simp (config := { maxSteps := 1000000 }) (disch := ((try simp only [awL]); omega)) only [↓awU, awV, awF, ofVal, ofVal0, isShift, aggK, forall_const, ↓reduceIte, ↓reduceDIte, ↓purePost, combine, idsA, cellsA, numsOf, srcA, calleeA, refsA, isScalar, scalarD, scalar0, AV.one, putL, unfA, implies_true, IntKind.signed, Nat.reduceAdd, Nat.reduceSub, Nat.reduceMul, Nat.reducePow, Nat.reduceDiv, Nat.reduceMod, Int.reduceAdd, Int.reduceSub, Int.reduceMul, Int.reducePow, Int.reduceNeg, Int.reduceToNat, Int.reduceLT, Int.reduceLE, Nat.reduceEqDiff, sidsB, Nat.reduceBEq, keyKD, isIntK]
      try rfl
  · simp only [qF, qE, ho, if_true]
    rw [Bool.and_eq_true] at ho
    obtain ⟨e1, e2⟩ := RF.frac hx ho.1
    obtain ⟨f1, f2⟩ := RF.frac hy ho.2
    rw [e1, f1]
    have h := raddF_spec (G := G) x.rat y.rat e2 f2
    rw [Res, if_pos (hv ho.1 ho.2), if_pos (hv ho.1 ho.2)] at h
    exact h
set_option maxRecDepth 100000 in
theorem subF_raw (hG : HG G) (x y : RF) (hx : x.Dg) (hy : y.Dg) (hv : x.ok = true → y.ok = true → FV (x.rat - y.rat)) : Ctr Tryz.prog G 17 [.d (RFD x), .d (RFD y)] [] (.d (.tup [qF x y (· - ·), .int .i64 (qE x y)])) [] := by
  cases ho : x.ok && y.ok
  · simp only [qF, qE, ho, if_neg Bool.false_ne_true]
    cases h1 : y.ok
    · refine Ctr.pure (M := M0) hmix Tryz.func17 rfl go17 ?_
      simp (config := { maxSteps := 1000000 }) (disch := ((try simp only [awL]); omega)) only [Tryz.f17, ↓awU, awV, awF, ofVal, ofVal0, isShift, aggK, forall_const, ↓reduceIte, ↓reduceDIte, ↓purePost, combine, idsA, cellsA, numsOf, srcA, calleeA, refsA, isScalar, scalarD, scalar0, AV.one, putL, unfA, implies_true, IntKind.signed, Nat.reduceAdd, Nat.reduceSub, Nat.reduceMul, Nat.reducePow, Nat.reduceDiv, Nat.reduceMod, Int.reduceAdd, Int.reduceSub, Int.reduceMul, Int.reducePow, Int.reduceNeg, Int.reduceToNat, Int.reduceLT, Int.reduceLE, Nat.reduceEqDiff, sidsB, Nat.reduceBEq, keyKD, isIntK]
      refine CallC.of (validRF_spec hG y hy) (by rfl) ?_
      rw [h1]
      simp (config := { maxSteps := 1000000 }) (disch := ((try simp only [awL]); omega)) only [↓awU, awV, awF, ofVal, ofVal0, isShift, aggK, forall_const, ↓reduceIte, ↓reduceDIte, ↓purePost, combine, idsA, cellsA, numsOf, srcA, calleeA, refsA, isScalar, scalarD, scalar0, AV.one, putL, unfA, implies_true, IntKind.signed, Nat.reduceAdd, Nat.reduceSub, Nat.reduceMul, Nat.reducePow, Nat.reduceDiv, Nat.reduceMod, Int.reduceAdd, Int.reduceSub, Int.reduceMul, Int.reducePow, Int.reduceNeg, Int.reduceToNat, Int.reduceLT, Int.reduceLE, Nat.reduceEqDiff, sidsB, Nat.reduceBEq, keyKD, isIntK]
      try rfl
    · rw [h1, Bool.and_true] at ho
      obtain ⟨f1, f2⟩ := RF.frac hy h1
      rw [f1]
      refine Ctr.pure (M := M0) hmix Tryz.func17 rfl go17 ?_
      simp (config := { maxSteps := 1000000 }) (disch := ((try simp only [awL]); omega)) only [Tryz.f17, ↓awU, awV, awF, ofVal, ofVal0, isShift, aggK, forall_const, ↓reduceIte, ↓reduceDIte, ↓purePost, combine, idsA, cellsA, numsOf, srcA, calleeA, refsA, isScalar, scalarD, scalar0, AV.one, putL, unfA, implies_true, IntKind.signed, Nat.reduceAdd, Nat.reduceSub, Nat.reduceMul, Nat.reducePow, Nat.reduceDiv, Nat.reduceMod, Int.reduceAdd, Int.reduceSub, Int.reduceMul, Int.reducePow, Int.reduceNeg, Int.reduceToNat, Int.reduceLT, Int.reduceLE, Nat.reduceEqDiff, sidsB, Nat.reduceBEq, keyKD, isIntK]
      have f3 := f2.1
      have f4 := f2.2
      refine CallC.pure (valid_spec hG y.rat (by omega) (by omega)) ?_
      rw [decide_eq_true f2]
      simp (config := { maxSteps := 1000000 }) (disch := ((try simp only [awL]); omega)) only [↓awU, awV, awF, ofVal, ofVal0, isShift, aggK, forall_const, ↓reduceIte, ↓reduceDIte, ↓purePost, combine, idsA, cellsA, numsOf, srcA, calleeA, refsA, isScalar, scalarD, scalar0, AV.one, putL, unfA, implies_true, IntKind.signed, Nat.reduceAdd, Nat.reduceSub, Nat.reduceMul, Nat.reducePow, Nat.reduceDiv, Nat.reduceMod, Int.reduceAdd, Int.reduceSub, Int.reduceMul, Int.reducePow, Int.reduceNeg, Int.reduceToNat, Int.reduceLT, Int.reduceLE, Nat.reduceEqDiff, sidsB, Nat.reduceBEq, keyKD, isIntK]
      refine CallC.of (opposite_spec y.rat.num) (by simp [bigL, W]) ?_
      simp (config := { maxSteps := 1000000 }) (disch := ((try simp only [awL]); omega)) only [bigL, ↓awU, awV, awF, ofVal, ofVal0, isShift, aggK, forall_const, ↓reduceIte, ↓reduceDIte, ↓purePost, combine, idsA, cellsA, numsOf, srcA, calleeA, refsA, isScalar, scalarD, scalar0, AV.one, putL, unfA, implies_true, IntKind.signed, Nat.reduceAdd, Nat.reduceSub, Nat.reduceMul, Nat.reducePow, Nat.reduceDiv, Nat.reduceMod, Int.reduceAdd, Int.reduceSub, Int.reduceMul, Int.reducePow, Int.reduceNeg, Int.reduceToNat, Int.reduceLT, Int.reduceLE, Nat.reduceEqDiff, sidsB, Nat.reduceBEq, keyKD, isIntK]
      refine CallC.of (resultX_spec hG 58 x hx ho _ _ _ _) (by rfl) ?_
      simp (config := { maxSteps := 1000000 }) (disch := ((try simp only [awL]); omega)) only [↓awU, awV, awF, ofVal, ofVal0, isShift, aggK, forall_const, ↓reduceIte, ↓reduceDIte, ↓purePost, combine, idsA, cellsA, numsOf, srcA, calleeA, refsA, isScalar, scalarD, scalar0, AV.one, putL, unfA, implies_true, IntKind.signed, Nat.reduceAdd, Nat.reduceSub, Nat.reduceMul, Nat.reducePow, Nat.reduceDiv, Nat.reduceMod, Int.reduceAdd, Int.reduceSub, Int.reduceMul, Int.reducePow, Int.reduceNeg, Int.reduceToNat, Int.reduceLT, Int.reduceLE, Nat.reduceEqDiff, sidsB, Nat.reduceBEq, keyKD, isIntK]
      try rfl
  · simp only [qF, qE, ho, if_true]
    rw [Bool.and_eq_true] at ho
    obtain ⟨e1, e2⟩ := RF.frac hx ho.1
    obtain ⟨f1, f2⟩ := RF.frac hy ho.2
    rw [e1, f1]
    exact fsub_spec hG x.rat y.rat e2 f2 (hv ho.1 ho.2)
set_option maxRecDepth 100000 in
theorem rsubF_raw (hG : HG G) (x y : RF) (hx : x.Dg) (hy : y.Dg) (hv : x.ok = true → y.ok = true → FV (x.rat - y.rat)) : Ctr Tryz.prog G 18 [.d (RFD x), .d (RFD y)] [] (.d (.tup [qF x y (· - ·), .int .i64 (qE x y)])) [] := by
  cases ho : x.ok && y.ok
  · simp only [qF, qE, ho, if_neg Bool.false_ne_true]
    refine Ctr.pure (M := M0) hmix Tryz.func18 rfl go18 ?_
    simp (config := { maxSteps := 1000000 }) (disch := ((try simp only [awL]); omega)) only [Tryz.f18, ↓awU, awV, awF, ofVal, ofVal0, isShift, aggK, forall_const, ↓reduceIte, ↓reduceDIte, ↓purePost, combine, idsA, cellsA, numsOf, srcA, calleeA, refsA, isScalar, scalarD, scalar0, AV.one, putL, unfA, implies_true, IntKind.signed, Nat.reduceAdd, Nat.reduceSub, Nat.reduceMul, Nat.reducePow, Nat.reduceDiv, Nat.reduceMod, Int.reduceAdd, Int.reduceSub, Int.reduceMul, Int.reducePow, Int.reduceNeg, Int.reduceToNat, Int.reduceLT, Int.reduceLE, Nat.reduceEqDiff, sidsB, Nat.reduceBEq, keyKD, isIntK]
    refine CallC.of (rvalidRF_spec x hx) (by rfl) ?_
    cases h1 : x.ok
    · simp (config := { maxSteps := 1000000 }) (disch := ((try simp only [awL]); omega)) only [↓awU, awV, awF, ofVal, ofVal0, isShift, aggK, forall_const, ↓reduceIte, ↓reduceDIte, ↓purePost, combine, idsA, cellsA, numsOf, srcA, calleeA, refsA, isScalar, scalarD, scalar0, AV.one, putL, unfA, implies_true, IntKind.signed, Nat.reduceAdd, Nat.reduceSub, Nat.reduceMul, Nat.reducePow, Nat.reduceDiv, Nat.reduceMod, Int.reduceAdd, Int.reduceSub, Int.reduceMul, Int.reducePow, Int.reduceNeg, Int.reduceToNat, Int.reduceLT, Int.reduceLE, Nat.reduceEqDiff, sidsB, Nat.reduceBEq, keyKD, isIntK]
      try rfl
    · rw [h1, Bool.true_and] at ho
      simp (config := { maxSteps := 1000000 }) (disch := ((try simp only [awL]); omega)) only [↓awU, awV, awF, ofVal, ofVal0, isShift, aggK, forall_const, ↓reduceIte, ↓reduceDIte, ↓purePost, combine, idsA, cellsA, numsOf, srcA, calleeA, refsA, isScalar, scalarD, scalar0, AV.one, putL, unfA, implies_true, IntKind.signed, Nat.reduceAdd, Nat.reduceSub, Nat.reduceMul, Nat.reducePow, Nat.reduceDiv, Nat.reduceMod, Int.reduceAdd, Int.reduceSub, Int.reduceMul, Int.reducePow, Int.reduceNeg, Int.reduceToNat, Int.reduceLT, Int.reduceLE, Nat.reduceEqDiff, sidsB, Nat.reduceBEq, keyKD, isIntK]
      refine CallC.of (rvalidRF_spec y hy) (by rfl) ?_
      rw [ho]
      simp (config := { maxSteps := 1000000 }) (disch := ((try simp only [awL]); omega)) only [↓awU, awV, awF, ofVal, ofVal0, isShift, aggK, forall_const, ↓reduceIte, ↓reduceDIte, ↓purePost, combine, idsA, cellsA, numsOf, srcA, calleeA, refsA, isScalar, scalarD, scalar0, AV.one, putL, unfA, implies_true, IntKind.signed, Nat.reduceAdd, Nat.reduceSub, Nat.reduceMul, Nat.reducePow, Nat.reduceDiv, Nat.reduceMod, Int.reduceAdd, Int.reduceSub, Int.reduceMul, Int.reducePow, Int.reduceNeg, Int.reduceToNat, Int.reduceLT, Int.reduceLE, Nat.reduceEqDiff, sidsB, Nat.reduceBEq, keyKD, isIntK]
      try rfl
  · simp only [qF, qE, ho, if_true]
    rw [Bool.and_eq_true] at ho
    obtain ⟨e1, e2⟩ := RF.frac hx ho.1
    obtain ⟨f1, f2⟩ := RF.frac hy ho.2
    rw [e1, f1]
    have h := rsubF_spec (G := G) x.rat y.rat e2 f2
    rw [Res, if_pos (hv ho.1 ho.2), if_pos (hv ho.1 ho.2)] at h
    exact h
set_option maxRecDepth 100000 in
theorem mulF_raw (hG : HG G) (x y : RF) (hx : x.Dg) (hy : y.Dg) (hv : x.ok = true → y.ok = true → FV (x.rat * y.rat)) : Ctr Tryz.prog G 19 [.d (RFD x), .d (RFD y)] [] (.d (.tup [qF x y (· * ·), .int .i64 (qE x y)])) [] := by
  cases ho : x.ok && y.ok
  · simp only [qF, qE, ho, if_neg Bool.false_ne_true]
    refine Ctr.pure (M := M0) hmix Tryz.func19 rfl go19 ?_
    simp (config := { maxSteps := 1000000 }) (disch := ((try simp only [awL]); omega)) only [Tryz.f19, ↓awU, awV, awF, ofVal, ofVal0, isShift, aggK, forall_const, ↓reduceIte, ↓reduceDIte, ↓purePost, combine, idsA, cellsA, numsOf, srcA, calleeA, refsA, isScalar, scalarD, scalar0, AV.one, putL, unfA, implies_true, IntKind.signed, Nat.reduceAdd, Nat.reduceSub, Nat.reduceMul, Nat.reducePow, Nat.reduceDiv, Nat.reduceMod, Int.reduceAdd, Int.reduceSub, Int.reduceMul, Int.reducePow, Int.reduceNeg, Int.reduceToNat, Int.reduceLT, Int.reduceLE, Nat.reduceEqDiff, sidsB, Nat.reduceBEq, keyKD, isIntK]
    refine CallC.of (resultN_spec hG 64 x y hx hy ho) (by rfl) ?_
    simp (config := { maxSteps := 1000000 }) (disch := ((try simp only [awL]); omega)) only [↓awU, awV, awF, ofVal, ofVal0, isShift, aggK, forall_const, ↓reduceIte, ↓reduceDIte, ↓purePost, combine, idsA, cellsA, numsOf, srcA, calleeA, refsA, isScalar, scalarD, scalar0, AV.one, putL, unfA, implies_true, IntKind.signed, Nat.reduceAdd, Nat.reduceSub, Nat.reduceMul, Nat.reducePow, Nat.reduceDiv, Nat.reduceMod, Int.reduceAdd, Int.reduceSub, Int.reduceMul, Int.reducePow, Int.reduceNeg, Int.reduceToNat, Int.reduceLT, Int.reduceLE, Nat.reduceEqDiff, sidsB, Nat.reduceBEq, keyKD, isIntK]
    try rfl
  · simp only [qF, qE, ho, if_true]
    rw [Bool.and_eq_true] at ho
    obtain ⟨e1, e2⟩ := RF.frac hx ho.1
    obtain ⟨f1, f2⟩ := RF.frac hy ho.2
    rw [e1, f1]
    exact fmul_spec hG x.rat y.rat e2 f2 (hv ho.1 ho.2)
set_option maxRecDepth 100000 in
theorem rmulF_raw (hG : HG G) (x y : RF) (hx : x.Dg) (hy : y.Dg) (hv : x.ok = true → y.ok = true → FV (x.rat * y.rat)) : Ctr Tryz.prog G 20 [.d (RFD x), .d (RFD y)] [] (.d (.tup [qF x y (· * ·), .int .i64 (qE x y)])) [] := by
  cases ho : x.ok && y.ok
  · simp only [qF, qE, ho, if_neg Bool.false_ne_true]
    refine Ctr.pure (M := M0) hmix Tryz.func20 rfl go20 ?_
    simp (config := { maxSteps := 1000000 }) (disch := ((try simp only [awL]); omega)) only [Tryz.f20, ↓awU, awV, awF, ofVal, ofVal0, isShift, aggK, forall_const, ↓reduceIte, ↓reduceDIte, ↓purePost, combine, idsA, cellsA, numsOf, srcA, calleeA, refsA, isScalar, scalarD, scalar0, AV.one, putL, unfA, implies_true, IntKind.signed, Nat.reduceAdd, Nat.reduceSub, Nat.reduceMul, Nat.reducePow, Nat.reduceDiv, Nat.reduceMod, Int.reduceAdd, Int.reduceSub, Int.reduceMul, Int.reducePow, Int.reduceNeg, Int.reduceToNat, Int.reduceLT, Int.reduceLE, Nat.reduceEqDiff, sidsB, Nat.reduceBEq, keyKD, isIntK]
    refine CallC.of (rvalidRF_spec x hx) (by rfl) ?_
    cases h1 : x.ok
    · simp (config := { maxSteps := 1000000 }) (disch := ((try simp only [awL]); omega)) only [↓awU, awV, awF, ofVal, ofVal0, isShift, aggK, forall_const, ↓reduceIte, ↓reduceDIte, ↓purePost, combine, idsA, cellsA, numsOf, srcA, calleeA, refsA, isScalar, scalarD, scalar0, AV.one, putL, unfA, implies_true, IntKind.signed, Nat.reduceAdd, Nat.reduceSub, Nat.reduceMul, Nat.reducePow, Nat.reduceDiv, Nat.reduceMod, Int.reduceAdd, Int.reduceSub, Int.reduceMul, Int.reducePow, Int.reduceNeg, Int.reduceToNat, Int.reduceLT, Int.reduceLE, Nat.reduceEqDiff, sidsB, Nat.reduceBEq, keyKD, isIntK]
      try rfl
    · rw [h1, Bool.true_and] at ho
      simp (config := { maxSteps := 1000000 }) (disch := ((try simp only [awL]); omega)) only [↓awU, awV, awF, ofVal, ofVal0, isShift, aggK, forall_const, ↓reduceIte, ↓reduceDIte, ↓purePost, combine, idsA, cellsA, numsOf, srcA, calleeA, refsA, isScalar, scalarD, scalar0, AV.one, putL, unfA, implies_true, IntKind.signed, Nat.reduceAdd, Nat.reduceSub, Nat.reduceMul, Nat.reducePow, Nat.reduceDiv, Nat.reduceMod, Int.reduceAdd, Int.reduceSub, Int.reduceMul, Int.reducePow, Int.reduceNeg, Int.reduceToNat, Int.reduceLT, Int.reduceLE, Nat.reduceEqDiff, sidsB, Nat.reduceBEq, keyKD, isIntK]
      refine CallC.of (rvalidRF_spec y hy) (by rfl) ?_
      rw [ho]
      simp (config := { maxSteps := 1000000 }) (disch := ((try simp only [awL]); omega)) only [↓awU, awV, awF, ofVal, ofVal0, isShift, aggK, forall_const, ↓reduceIte, ↓reduceDIte, ↓purePost, combine, idsA, cellsA, numsOf, srcA, calleeA, refsA, isScalar, scalarD, scalar0, AV.one, putL, unfA, implies_true, IntKind.signed, Nat.reduceAdd, Nat.reduceSub, Nat.reduceMul, Nat.reducePow, Nat.reduceDiv, Nat.reduceMod, Int.reduceAdd, Int.reduceSub, Int.reduceMul, Int.reducePow, Int.reduceNeg, Int.reduceToNat, Int.reduceLT, Int.reduceLE, Nat.reduceEqDiff, sidsB, Nat.reduceBEq, keyKD, isIntK]
      try rfl
  · simp only [qF, qE, ho, if_true]
    rw [Bool.and_eq_true] at ho
    obtain ⟨e1, e2⟩ := RF.frac hx ho.1
    obtain ⟨f1, f2⟩ := RF.frac hy ho.2
    rw [e1, f1]
    have h := rmulF_spec (G := G) x.rat y.rat e2 f2
    rw [Res, if_pos (hv ho.1 ho.2), if_pos (hv ho.1 ho.2)] at h
    exact h
set_option maxRecDepth 100000 in
theorem divF_raw (hG : HG G) (x y : RF) (hx : x.Dg) (hy : y.Dg) (hv : x.ok = true → y.ok = true → FV (x.rat / y.rat)) : Ctr Tryz.prog G 21 [.d (RFD x), .d (RFD y)] [] (.d (.tup [dF x y, .int .i64 (dEE x y)])) [] := by
  cases ho : x.ok && y.ok
  · simp only [dF, dEE, ho, if_neg Bool.false_ne_true]
    refine Ctr.pure (M := M0) hmix Tryz.func21 rfl go21 ?_
    simp (config := { maxSteps := 1000000 }) (disch := ((try simp only [awL]); omega)) only [Tryz.f21, ↓awU, awV, awF, ofVal, ofVal0, isShift, aggK, forall_const, ↓reduceIte, ↓reduceDIte, ↓purePost, combine, idsA, cellsA, numsOf, srcA, calleeA, refsA, isScalar, scalarD, scalar0, AV.one, putL, unfA, implies_true, IntKind.signed, Nat.reduceAdd, Nat.reduceSub, Nat.reduceMul, Nat.reducePow, Nat.reduceDiv, Nat.reduceMod, Int.reduceAdd, Int.reduceSub, Int.reduceMul, Int.reducePow, Int.reduceNeg, Int.reduceToNat, Int.reduceLT, Int.reduceLE, Nat.reduceEqDiff, sidsB, Nat.reduceBEq, keyKD, isIntK]
    refine CallC.of (resultN_spec hG 65 x y hx hy ho) (by rfl) ?_
    simp (config := { maxSteps := 1000000 }) (disch := ((try simp only [awL]); omega)) only [↓awU, awV, awF, ofVal, ofVal0, isShift, aggK, forall_const, ↓reduceIte, ↓reduceDIte, ↓purePost, combine, idsA, cellsA, numsOf, srcA, calleeA, refsA, isScalar, scalarD, scalar0, AV.one, putL, unfA, implies_true, IntKind.signed, Nat.reduceAdd, Nat.reduceSub, Nat.reduceMul, Nat.reducePow, Nat.reduceDiv, Nat.reduceMod, Int.reduceAdd, Int.reduceSub, Int.reduceMul, Int.reducePow, Int.reduceNeg, Int.reduceToNat, Int.reduceLT, Int.reduceLE, Nat.reduceEqDiff, sidsB, Nat.reduceBEq, keyKD, isIntK]
    try rfl
  · simp only [dF, dEE, ho, if_true]
    rw [Bool.and_eq_true] at ho
    obtain ⟨e1, e2⟩ := RF.frac hx ho.1
    obtain ⟨f1, f2⟩ := RF.frac hy ho.2
    rw [e1, f1]
    exact fdiv_spec hG x.rat y.rat e2 f2 (hv ho.1 ho.2)
set_option maxRecDepth 100000 in
theorem rdivF_raw (hG : HG G) (x y : RF) (hx : x.Dg) (hy : y.Dg) (hv : x.ok = true → y.ok = true → FV (x.rat / y.rat)) : Ctr Tryz.prog G 22 [.d (RFD x), .d (RFD y)] [] (.d (.tup [dF x y, .int .i64 (dEE x y)])) [] := by
  cases ho : x.ok && y.ok
  · simp only [dF, dEE, ho, if_neg Bool.false_ne_true]
    refine Ctr.pure (M := M0) hmix Tryz.func22 rfl go22 ?_
    simp (config := { maxSteps := 1000000 }) (disch := ((try simp only [awL]); omega)) only [Tryz.f22, ↓awU, awV, awF, ofVal, ofVal0, isShift, aggK, forall_const, ↓reduceIte, ↓reduceDIte, ↓purePost, combine, idsA, cellsA, numsOf, srcA, calleeA, refsA, isScalar, scalarD, scalar0, AV.one, putL, unfA, implies_true, IntKind.signed, Nat.reduceAdd, Nat.reduceSub, Nat.reduceMul, Nat.reducePow, Nat.reduceDiv, Nat.reduceMod, Int.reduceAdd, Int.reduceSub, Int.reduceMul, Int.reducePow, Int.reduceNeg, Int.reduceToNat, Int.reduceLT, Int.reduceLE, Nat.reduceEqDiff, sidsB, Nat.reduceBEq, keyKD, isIntK]
    refine CallC.of (rvalidRF_spec x hx) (by rfl) ?_
    cases h1 : x.ok
    · simp (config := { maxSteps := 1000000 }) (disch := ((try simp only [awL]); omega)) only [↓awU, awV, awF, ofVal, ofVal0, isShift, aggK, forall_const, ↓reduceIte, ↓reduceDIte, ↓purePost, combine, idsA, cellsA, numsOf, srcA, calleeA, refsA, isScalar, scalarD, scalar0, AV.one, putL, unfA, implies_true, IntKind.signed, Nat.reduceAdd, Nat.reduceSub, Nat.reduceMul, Nat.reducePow, Nat.reduceDiv, Nat.reduceMod, Int.reduceAdd, Int.reduceSub, Int.reduceMul, Int.reducePow, Int.reduceNeg, Int.reduceToNat, Int.reduceLT, Int.reduceLE, Nat.reduceEqDiff, sidsB, Nat.reduceBEq, keyKD, isIntK]
      try rfl
    · rw [h1, Bool.true_and] at ho
      simp (config := { maxSteps := 1000000 }) (disch := ((try simp only [awL]); omega)) only [↓awU, awV, awF, ofVal, ofVal0, isShift, aggK, forall_const, ↓reduceIte, ↓reduceDIte, ↓purePost, combine, idsA, cellsA, numsOf, srcA, calleeA, refsA, isScalar, scalarD, scalar0, AV.one, putL, unfA, implies_true, IntKind.signed, Nat.reduceAdd, Nat.reduceSub, Nat.reduceMul, Nat.reducePow, Nat.reduceDiv, Nat.reduceMod, Int.reduceAdd, Int.reduceSub, Int.reduceMul, Int.reducePow, Int.reduceNeg, Int.reduceToNat, Int.reduceLT, Int.reduceLE, Nat.reduceEqDiff, sidsB, Nat.reduceBEq, keyKD, isIntK]
      refine CallC.of (rvalidRF_spec y hy) (by rfl) ?_
      rw [ho]
      simp (config := { maxSteps := 1000000 }) (disch := ((try simp only [awL]); omega)) only [↓awU, awV, awF, ofVal, ofVal0, isShift, aggK, forall_const, ↓reduceIte, ↓reduceDIte, ↓purePost, combine, idsA, cellsA, numsOf, srcA, calleeA, refsA, isScalar, scalarD, scalar0, AV.one, putL, unfA, implies_true, IntKind.signed, Nat.reduceAdd, Nat.reduceSub, Nat.reduceMul, Nat.reducePow, Nat.reduceDiv, Nat.reduceMod, Int.reduceAdd, Int.reduceSub, Int.reduceMul, Int.reducePow, Int.reduceNeg, Int.reduceToNat, Int.reduceLT, Int.reduceLE, Nat.reduceEqDiff, sidsB, Nat.reduceBEq, keyKD, isIntK]
      try rfl
  · simp only [dF, dEE, ho, if_true]
    rw [Bool.and_eq_true] at ho
    obtain ⟨e1, e2⟩ := RF.frac hx ho.1
    obtain ⟨f1, f2⟩ := RF.frac hy ho.2
    rw [e1, f1]
    exact rfdiv_spec x.rat y.rat e2 f2 (hv ho.1 ho.2)
set_option maxRecDepth 100000 in
theorem cmpF_raw (hG : HG G) (x y : RF) (hx : x.Dg) (hy : y.Dg) : Ctr Tryz.prog G 23 [.d (RFD x), .d (RFD y)] [] (.d (.int .i64 (cF x y))) [] := by
  cases ho : x.ok && y.ok
  · simp only [cF, ho, if_neg Bool.false_ne_true]
    refine Ctr.pure (M := M0) hmix Tryz.func23 rfl go23 ?_
    simp (config := { maxSteps := 1000000 }) (disch := ((try simp only [awL]); omega)) only [Tryz.f23, ↓awU, awV, awF, ofVal, ofVal0, isShift, aggK, forall_const, ↓reduceIte, ↓reduceDIte, ↓purePost, combine, idsA, cellsA, numsOf, srcA, calleeA, refsA, isScalar, scalarD, scalar0, AV.one, putL, unfA, implies_true, IntKind.signed, Nat.reduceAdd, Nat.reduceSub, Nat.reduceMul, Nat.reducePow, Nat.reduceDiv, Nat.reduceMod, Int.reduceAdd, Int.reduceSub, Int.reduceMul, Int.reducePow, Int.reduceNeg, Int.reduceToNat, Int.reduceLT, Int.reduceLE, Nat.reduceEqDiff, sidsB, Nat.reduceBEq, keyKD, isIntK]
    refine CallC.of (validRF_spec hG x hx) (by rfl) ?_
    cases h1 : x.ok
    · simp (config := { maxSteps := 1000000 }) (disch := ((try simp only [awL]); omega)) only [↓awU, awV, awF, ofVal, ofVal0, isShift, aggK, forall_const, ↓reduceIte, ↓reduceDIte, ↓purePost, combine, idsA, cellsA, numsOf, srcA, calleeA, refsA, isScalar, scalarD, scalar0, AV.one, putL, unfA, implies_true, IntKind.signed, Nat.reduceAdd, Nat.reduceSub, Nat.reduceMul, Nat.reducePow, Nat.reduceDiv, Nat.reduceMod, Int.reduceAdd, Int.reduceSub, Int.reduceMul, Int.reducePow, Int.reduceNeg, Int.reduceToNat, Int.reduceLT, Int.reduceLE, Nat.reduceEqDiff, sidsB, Nat.reduceBEq, keyKD, isIntK]
      try rfl
    · rw [h1, Bool.true_and] at ho
      simp (config := { maxSteps := 1000000 }) (disch := ((try simp only [awL]); omega)) only [↓awU, awV, awF, ofVal, ofVal0, isShift, aggK, forall_const, ↓reduceIte, ↓reduceDIte, ↓purePost, combine, idsA, cellsA, numsOf, srcA, calleeA, refsA, isScalar, scalarD, scalar0, AV.one, putL, unfA, implies_true, IntKind.signed, Nat.reduceAdd, Nat.reduceSub, Nat.reduceMul, Nat.reducePow, Nat.reduceDiv, Nat.reduceMod, Int.reduceAdd, Int.reduceSub, Int.reduceMul, Int.reducePow, Int.reduceNeg, Int.reduceToNat, Int.reduceLT, Int.reduceLE, Nat.reduceEqDiff, sidsB, Nat.reduceBEq, keyKD, isIntK]
      refine CallC.of (validRF_spec hG y hy) (by rfl) ?_
      rw [ho]
      simp (config := { maxSteps := 1000000 }) (disch := ((try simp only [awL]); omega)) only [↓awU, awV, awF, ofVal, ofVal0, isShift, aggK, forall_const, ↓reduceIte, ↓reduceDIte, ↓purePost, combine, idsA, cellsA, numsOf, srcA, calleeA, refsA, isScalar, scalarD, scalar0, AV.one, putL, unfA, implies_true, IntKind.signed, Nat.reduceAdd, Nat.reduceSub, Nat.reduceMul, Nat.reducePow, Nat.reduceDiv, Nat.reduceMod, Int.reduceAdd, Int.reduceSub, Int.reduceMul, Int.reducePow, Int.reduceNeg, Int.reduceToNat, Int.reduceLT, Int.reduceLE, Nat.reduceEqDiff, sidsB, Nat.reduceBEq, keyKD, isIntK]
      try rfl
  · simp only [cF, ho, if_true]
    rw [Bool.and_eq_true] at ho
    obtain ⟨e1, e2⟩ := RF.frac hx ho.1
    obtain ⟨f1, f2⟩ := RF.frac hy ho.2
    rw [e1, f1]
    exact cmpF_spec hG x.rat y.rat e2 f2
set_option maxRecDepth 100000 in
theorem rcmpF_raw (hG : HG G) (x y : RF) (hx : x.Dg) (hy : y.Dg) : Ctr Tryz.prog G 24 [.d (RFD x), .d (RFD y)] [] (.d (.int .i64 (cF x y))) [] := by
  cases ho : x.ok && y.ok
  · simp only [cF, ho, if_neg Bool.false_ne_true]
    refine Ctr.pure (M := M0) hmix Tryz.func24 rfl go24 ?_
    simp (config := { maxSteps := 1000000 }) (disch := ((try simp only [awL]); omega)) only [Tryz.f24, ↓awU, awV, awF, ofVal, ofVal0, isShift, aggK, forall_const, ↓reduceIte, ↓reduceDIte, ↓purePost, combine, idsA, cellsA, numsOf, srcA, calleeA, refsA, isScalar, scalarD, scalar0, AV.one, putL, unfA, implies_true, IntKind.signed, Nat.reduceAdd, Nat.reduceSub, Nat.reduceMul, Nat.reducePow, Nat.reduceDiv, Nat.reduceMod, Int.reduceAdd, Int.reduceSub, Int.reduceMul, Int.reducePow, Int.reduceNeg, Int.reduceToNat, Int.reduceLT, Int.reduceLE, Nat.reduceEqDiff, sidsB, Nat.reduceBEq, keyKD, isIntK]
    refine CallC.of (rvalidRF_spec x hx) (by rfl) ?_
    cases h1 : x.ok
    · simp (config := { maxSteps := 1000000 }) (disch := ((try simp only [awL]); omega)) only [↓awU, awV, awF, ofVal, ofVal0, isShift, aggK, forall_const, ↓reduceIte, ↓reduceDIte, ↓purePost, combine, idsA, cellsA, numsOf, srcA, calleeA, refsA, isScalar, scalarD, scalar0, AV.one, putL, unfA, implies_true, IntKind.signed, Nat.reduceAdd, Nat.reduceSub, Nat.reduceMul, Nat.reducePow, Nat.reduceDiv, Nat.reduceMod, Int.reduceAdd, Int.reduceSub, Int.reduceMul, Int.reducePow, Int.reduceNeg, Int.reduceToNat, Int.reduceLT, Int.reduceLE, Nat.reduceEqDiff, sidsB, Nat.reduceBEq, keyKD, isIntK]
      try rfl
    · rw [h1, Bool.true_and] at ho
      simp (config := { maxSteps := 1000000 }) (disch := ((try simp only [awL]); omega)) only [↓awU, awV, awF, ofVal, ofVal0, isShift, aggK, forall_const, ↓reduceIte, ↓reduceDIte, ↓purePost, combine, idsA, cellsA, numsOf, srcA, calleeA, refsA, isScalar, scalarD, scalar0, AV.one, putL, unfA, implies_true, IntKind.signed, Nat.reduceAdd, Nat.reduceSub, Nat.reduceMul, Nat.reducePow, Nat.reduceDiv, Nat.reduceMod, Int.reduceAdd, Int.reduceSub, Int.reduceMul, Int.reducePow, Int.reduceNeg, Int.reduceToNat, Int.reduceLT, Int.reduceLE, Nat.reduceEqDiff, sidsB, Nat.reduceBEq, keyKD, isIntK]
      refine CallC.of (rvalidRF_spec y hy) (by rfl) ?_
      rw [ho]
      simp (config := { maxSteps := 1000000 }) (disch := ((try simp only [awL]); omega)) only [↓awU, awV, awF, ofVal, ofVal0, isShift, aggK, forall_const, ↓reduceIte, ↓reduceDIte, ↓purePost, combine, idsA, cellsA, numsOf, srcA, calleeA, refsA, isScalar, scalarD, scalar0, AV.one, putL, unfA, implies_true, IntKind.signed, Nat.reduceAdd, Nat.reduceSub, Nat.reduceMul, Nat.reducePow, Nat.reduceDiv, Nat.reduceMod, Int.reduceAdd, Int.reduceSub, Int.reduceMul, Int.reducePow, Int.reduceNeg, Int.reduceToNat, Int.reduceLT, Int.reduceLE, Nat.reduceEqDiff, sidsB, Nat.reduceBEq, keyKD, isIntK]
      try rfl
  · simp only [cF, ho, if_true]
    rw [Bool.and_eq_true] at ho
    obtain ⟨e1, e2⟩ := RF.frac hx ho.1
    obtain ⟨f1, f2⟩ := RF.frac hy ho.2
    rw [e1, f1]
    exact rcmpF_spec x.rat y.rat e2 f2
set_option maxRecDepth 100000 in
theorem textF_raw (hG : HG G) (x : RF) (hx : x.Dg) : Ctr Tryz.prog G 27 [.d (RFD x)] [] (.d (S (tF x))) [] := by
  cases ho : x.ok
  · simp only [tF, ho, if_neg Bool.false_ne_true]
    refine Ctr.pure (M := M0) hmix Tryz.func27 rfl go27 ?_
    simp (config := { maxSteps := 1000000 }) (disch := ((try simp only [awL]); omega)) only [nextC_more, nextC_over, bs_size, bs_extract, bs_toList, bs_append, byteAt_bs, bs_cells, nums_length, nums_getD, Tryz.f27, ↓awU, awV, awF, ofVal, ofVal0, isShift, aggK, forall_const, ↓reduceIte, ↓reduceDIte, ↓purePost, combine, idsA, cellsA, numsOf, srcA, calleeA, refsA, isScalar, scalarD, scalar0, AV.one, putL, unfA, implies_true, IntKind.signed, Nat.reduceAdd, Nat.reduceSub, Nat.reduceMul, Nat.reducePow, Nat.reduceDiv, Nat.reduceMod, Int.reduceAdd, Int.reduceSub, Int.reduceMul, Int.reducePow, Int.reduceNeg, Int.reduceToNat, Int.reduceLT, Int.reduceLE, Nat.reduceEqDiff, sidsB, Nat.reduceBEq, keyKD, isIntK]
    refine CallC.of (validRF_spec hG x hx) (by rfl) ?_
    rw [ho]
    simp (config := { maxSteps := 1000000 }) (disch := ((try simp only [awL]); omega)) only [nextC_more, nextC_over, bs_size, bs_extract, bs_toList, bs_append, byteAt_bs, bs_cells, nums_length, nums_getD, ↓awU, awV, awF, ofVal, ofVal0, isShift, aggK, forall_const, ↓reduceIte, ↓reduceDIte, ↓purePost, combine, idsA, cellsA, numsOf, srcA, calleeA, refsA, isScalar, scalarD, scalar0, AV.one, putL, unfA, implies_true, IntKind.signed, Nat.reduceAdd, Nat.reduceSub, Nat.reduceMul, Nat.reducePow, Nat.reduceDiv, Nat.reduceMod, Int.reduceAdd, Int.reduceSub, Int.reduceMul, Int.reducePow, Int.reduceNeg, Int.reduceToNat, Int.reduceLT, Int.reduceLE, Nat.reduceEqDiff, sidsB, Nat.reduceBEq, keyKD, isIntK]
    try rfl
  · simp only [tF, ho, if_true]
    obtain ⟨e1, e2⟩ := RF.frac hx ho
    rw [e1]
    exact text_spec hG x.rat e2
set_option maxRecDepth 100000 in
theorem rtextF_raw (hG : HG G) (x : RF) (hx : x.Dg) : Ctr Tryz.prog G 28 [.d (RFD x)] [] (.d (S (tF x))) [] := by
  cases ho : x.ok
  · simp only [tF, ho, if_neg Bool.false_ne_true]
    refine Ctr.pure (M := M0) hmix Tryz.func28 rfl go28 ?_
    simp (config := { maxSteps := 1000000 }) (disch := ((try simp only [awL]); omega)) only [nextC_more, nextC_over, bs_size, bs_extract, bs_toList, bs_append, byteAt_bs, bs_cells, nums_length, nums_getD, Tryz.f28, ↓awU, awV, awF, ofVal, ofVal0, isShift, aggK, forall_const, ↓reduceIte, ↓reduceDIte, ↓purePost, combine, idsA, cellsA, numsOf, srcA, calleeA, refsA, isScalar, scalarD, scalar0, AV.one, putL, unfA, implies_true, IntKind.signed, Nat.reduceAdd, Nat.reduceSub, Nat.reduceMul, Nat.reducePow, Nat.reduceDiv, Nat.reduceMod, Int.reduceAdd, Int.reduceSub, Int.reduceMul, Int.reducePow, Int.reduceNeg, Int.reduceToNat, Int.reduceLT, Int.reduceLE, Nat.reduceEqDiff, sidsB, Nat.reduceBEq, keyKD, isIntK]
    refine CallC.of (rvalidRF_spec x hx) (by rfl) ?_
    rw [ho]
    simp (config := { maxSteps := 1000000 }) (disch := ((try simp only [awL]); omega)) only [nextC_more, nextC_over, bs_size, bs_extract, bs_toList, bs_append, byteAt_bs, bs_cells, nums_length, nums_getD, ↓awU, awV, awF, ofVal, ofVal0, isShift, aggK, forall_const, ↓reduceIte, ↓reduceDIte, ↓purePost, combine, idsA, cellsA, numsOf, srcA, calleeA, refsA, isScalar, scalarD, scalar0, AV.one, putL, unfA, implies_true, IntKind.signed, Nat.reduceAdd, Nat.reduceSub, Nat.reduceMul, Nat.reducePow, Nat.reduceDiv, Nat.reduceMod, Int.reduceAdd, Int.reduceSub, Int.reduceMul, Int.reducePow, Int.reduceNeg, Int.reduceToNat, Int.reduceLT, Int.reduceLE, Nat.reduceEqDiff, sidsB, Nat.reduceBEq, keyKD, isIntK]
    try rfl
  · simp only [tF, ho, if_true]
    obtain ⟨e1, e2⟩ := RF.frac hx ho
    rw [e1]
    exact rtext_spec x.rat e2
end Go.Proofs.YtkppgdialedoeaaGreatDoor

namespace Go.Proofs.YtkppgdialedoeaaGreatDoor
open Go Go.Proofs Go.Abs
variable {G : Globals}
/-! Pairs of fractions that may be none; few words; Make and Of. -/
set_option linter.defProp false in
def awK := And.intro @keepA_z8 (And.intro @keepA_z (And.intro @keepA_cons (And.intro @keepA_nil (And.intro @setsA_nil (And.intro @setsA_cons (And.intro @List.set_cons_zero.{0} (And.intro @List.set_cons_succ.{0} (And.intro @set_8 (And.intro Nat.zero_mod (And.intro Nat.zero_ne_one (And.intro @if_true.{1} @if_false.{1})))))))))))
theorem RB.sz_le {x : RB} (hd : Dig x.l) : sz x.int ≤ x.l.length := by
  have h := val_lt hd
  have e : x.int.natAbs = val x.l := by unfold RB.int; split <;> omega
  simp only [sz, e]
  exact toW_length_le h
/-- At most six words. -/
structure RF.Sm (x : RF) : Prop where
  n : Dig x.n.l
  d : Dig x.d.l
  ln : x.n.l.length ≤ 6
  ld : x.d.l.length ≤ 6
theorem RF.Sm.dg {x : RF} (h : x.Sm) : x.Dg := ⟨⟨h.n, by have := h.ln; omega⟩, ⟨h.d, by have := h.ld; omega⟩⟩
theorem RF.Sm.fw {x : RF} (h : x.Sm) (ho : x.ok = true) : Fw 6 x.rat := by
  unfold RF.ok at ho
  rw [Bool.and_eq_true] at ho
  have hd := of_decide_eq_true ho.2
  have h1 := RB.sz_le h.n
  have h2 := RB.sz_le h.d
  have h3 := h.ln
  have h4 := h.ld
  exact Fw_divInt (by omega) (by omega) (by omega)
theorem RF.Sm.add {x y : RF} (hx : x.Sm) (hy : y.Sm) : x.ok = true → y.ok = true → FV (x.rat + y.rat) := fun a b => (Fw_add (hx.fw a) (hy.fw b)).fv (by decide)
theorem RF.Sm.sub {x y : RF} (hx : x.Sm) (hy : y.Sm) : x.ok = true → y.ok = true → FV (x.rat - y.rat) := fun a b => (Fw_sub (hx.fw a) (hy.fw b)).fv (by decide)
theorem RF.Sm.mul {x y : RF} (hx : x.Sm) (hy : y.Sm) : x.ok = true → y.ok = true → FV (x.rat * y.rat) := fun a b => (Fw_mul (hx.fw a) (hy.fw b)).fv (by decide)
theorem FV_zero : FV 0 := by decide +kernel
theorem RF.Sm.div {x y : RF} (hx : x.Sm) (hy : y.Sm) : x.ok = true → y.ok = true → FV (x.rat / y.rat) := fun a b => by
  by_cases h : y.rat = 0
  · rw [h, Rat.div_def, Rat.inv_zero, Rat.mul_zero]; exact FV_zero
  · exact (Fw_div (hx.fw a) (hy.fw b) h).fv (by decide)
theorem qF_sm {x y : RF} {f : Rat → Rat → Rat} (h : x.ok = true → y.ok = true → FV (f x.rat y.rat)) : SmF (qF x y f) := by
  unfold qF
  split
  · rename_i ho
    rw [Bool.and_eq_true] at ho
    exact SmF_Frac (h ho.1 ho.2)
  · exact SmF_Zf
theorem dF_sm {x y : RF} (h : x.ok = true → y.ok = true → FV (x.rat / y.rat)) : SmF (dF x y) := by
  unfold dF
  split
  · rename_i ho
    rw [Bool.and_eq_true] at ho
    split
    · exact SmF_Zf
    · exact SmF_Frac (h ho.1 ho.2)
  · exact SmF_Zf
def PF : List (RF × RF) → List D
  | [] => []
  | p :: r => .bool p.1.n.neg :: W p.1.n.l :: .bool p.1.d.neg :: W p.1.d.l :: .bool p.2.n.neg :: W p.2.n.l :: .bool p.2.d.neg :: W p.2.d.l :: PF r
theorem PF_length : ∀ l : List (RF × RF), (PF l).length = 8 * l.length
  | [] => rfl
  | p :: r => by simp only [PF, List.length_cons, PF_length r]; omega
abbrev PFc (p : RF × RF) : List D := [.bool p.1.n.neg, W p.1.n.l, .bool p.1.d.neg, W p.1.d.l, .bool p.2.n.neg, W p.2.n.l, .bool p.2.d.neg, W p.2.d.l]
theorem PF_get {l : List (RF × RF)} {k : Nat} {d : RF × RF} (h : k < l.length) : ((PF l).drop (k * 8)).take 8 = PFc (l.getD k d) := by
  induction l generalizing k with
  | nil => cases h
  | cons p r ih =>
    cases k with
    | zero => rfl
    | succ k =>
      have := ih (k := k) (by simpa using h)
      rw [show (k + 1) * 8 = k * 8 + 1 + 1 + 1 + 1 + 1 + 1 + 1 + 1 by omega]
      simpa [PF] using this
theorem PF_mem {l : List (RF × RF)} {k : Nat} {d : RF × RF} (h : k < l.length) : l.getD k d ∈ l := by
  rw [List.getD_eq_getElem?_getD, List.getElem?_eq_getElem h]; exact List.getElem_mem h
def RF.ofQ (x : Rat) : RF := ⟨⟨decide (x.num < 0), toW x.num.natAbs⟩, ⟨false, toW x.den⟩⟩
theorem RF.ofQ_sm {x : Rat} (h : Fw 4 x) : (RF.ofQ x).Sm := ⟨dig_toW _, dig_toW _, by have := h.1; show (toW x.num.natAbs).length ≤ 6; simp only [sz] at this; omega, by have := h.2; show (toW x.den).length ≤ 6; omega⟩
theorem tF_len {x : RF} : (tF x).length ≤ 5200 := by
  unfold tF textF
  have t1 := @textB_len x.rat.num
  have t2 := @textB_len x.rat.den
  split
  · split
    · omega
    · simp only [List.length_append, List.length_cons, List.length_nil]; omega
  · simp
def mF (x y : RB) : D := if x.ok && y.ok then (if y.int = 0 then Zf else Frac (Rat.divInt x.int y.int)) else Zf
def mE (x y : RB) : Int := if x.ok && y.ok then (if y.int = 0 then 8 else 0) else 1
set_option maxRecDepth 100000 in
theorem makeR_spec (x y : RB) (hx : x.Dg) (hy : y.Dg) : Ctr Tryz.prog G 31 [.d (RBD x), .d (RBD y)] [] (.d (.tup [mF x y, .int .i64 (mE x y)])) [] := by
  cases ho : x.ok && y.ok
  · simp only [mF, mE, ho, if_neg Bool.false_ne_true]
    refine Ctr.pure (M := M0) hmix Tryz.func31 rfl go31 ?_
    simp (config := { maxSteps := 1000000 }) (disch := ((try simp only [awL]); omega)) only [Tryz.f31, ↓awU, awV, awF, ofVal, ofVal0, isShift, aggK, forall_const, ↓reduceIte, ↓reduceDIte, ↓purePost, combine, idsA, cellsA, numsOf, srcA, calleeA, refsA, isScalar, scalarD, scalar0, AV.one, putL, unfA, implies_true, IntKind.signed, Nat.reduceAdd, Nat.reduceSub, Nat.reduceMul, Nat.reducePow, Nat.reduceDiv, Nat.reduceMod, Int.reduceAdd, Int.reduceSub, Int.reduceMul, Int.reducePow, Int.reduceNeg, Int.reduceToNat, Int.reduceLT, Int.reduceLE, Nat.reduceEqDiff, sidsB, Nat.reduceBEq, keyKD, isIntK]
    refine CallC.by (bigsR_spec x y hx hy) (by simp [cut, W]) rfl (Nat.le_refl _) ?_
    rw [ho]
    simp (config := { maxSteps := 1000000 }) (disch := ((try simp only [awL]); omega)) only [↓awU, awV, awF, ofVal, ofVal0, isShift, aggK, forall_const, ↓reduceIte, ↓reduceDIte, ↓purePost, combine, idsA, cellsA, numsOf, srcA, calleeA, refsA, isScalar, scalarD, scalar0, AV.one, putL, unfA, implies_true, IntKind.signed, Nat.reduceAdd, Nat.reduceSub, Nat.reduceMul, Nat.reducePow, Nat.reduceDiv, Nat.reduceMod, Int.reduceAdd, Int.reduceSub, Int.reduceMul, Int.reducePow, Int.reduceNeg, Int.reduceToNat, Int.reduceLT, Int.reduceLE, Nat.reduceEqDiff, sidsB, Nat.reduceBEq, keyKD, isIntK]
    try rfl
  · simp only [mF, mE, ho, if_true]
    rw [Bool.and_eq_true] at ho
    obtain ⟨e1, e2⟩ := RB.big hx ho.1
    obtain ⟨f1, f2⟩ := RB.big hy ho.2
    rw [RBD, RBD, e1, f1]
    exact make_spec x.int y.int e2 f2
set_option maxRecDepth 100000 in
theorem rmakeR_spec (x y : RB) (hx : x.Dg) (hy : y.Dg) : Ctr Tryz.prog G 32 [.d (RBD x), .d (RBD y)] [] (.d (.tup [mF x y, .int .i64 (mE x y)])) [] := by
  cases ho : x.ok && y.ok
  · simp only [mF, mE, ho, if_neg Bool.false_ne_true]
    refine Ctr.pure (M := M0) hmix Tryz.func32 rfl go32 ?_
    simp (config := { maxSteps := 1000000 }) (disch := ((try simp only [awL]); omega)) only [Tryz.f32, ↓awU, awV, awF, ofVal, ofVal0, isShift, aggK, forall_const, ↓reduceIte, ↓reduceDIte, ↓purePost, combine, idsA, cellsA, numsOf, srcA, calleeA, refsA, isScalar, scalarD, scalar0, AV.one, putL, unfA, implies_true, IntKind.signed, Nat.reduceAdd, Nat.reduceSub, Nat.reduceMul, Nat.reducePow, Nat.reduceDiv, Nat.reduceMod, Int.reduceAdd, Int.reduceSub, Int.reduceMul, Int.reducePow, Int.reduceNeg, Int.reduceToNat, Int.reduceLT, Int.reduceLE, Nat.reduceEqDiff, sidsB, Nat.reduceBEq, keyKD, isIntK]
    refine CallC.of (rvalidR_spec x hx) (by rfl) ?_
    cases h1 : x.ok
    · simp (config := { maxSteps := 1000000 }) (disch := ((try simp only [awL]); omega)) only [↓awU, awV, awF, ofVal, ofVal0, isShift, aggK, forall_const, ↓reduceIte, ↓reduceDIte, ↓purePost, combine, idsA, cellsA, numsOf, srcA, calleeA, refsA, isScalar, scalarD, scalar0, AV.one, putL, unfA, implies_true, IntKind.signed, Nat.reduceAdd, Nat.reduceSub, Nat.reduceMul, Nat.reducePow, Nat.reduceDiv, Nat.reduceMod, Int.reduceAdd, Int.reduceSub, Int.reduceMul, Int.reducePow, Int.reduceNeg, Int.reduceToNat, Int.reduceLT, Int.reduceLE, Nat.reduceEqDiff, sidsB, Nat.reduceBEq, keyKD, isIntK]
      try rfl
    · rw [h1, Bool.true_and] at ho
      simp (config := { maxSteps := 1000000 }) (disch := ((try simp only [awL]); omega)) only [↓awU, awV, awF, ofVal, ofVal0, isShift, aggK, forall_const, ↓reduceIte, ↓reduceDIte, ↓purePost, combine, idsA, cellsA, numsOf, srcA, calleeA, refsA, isScalar, scalarD, scalar0, AV.one, putL, unfA, implies_true, IntKind.signed, Nat.reduceAdd, Nat.reduceSub, Nat.reduceMul, Nat.reducePow, Nat.reduceDiv, Nat.reduceMod, Int.reduceAdd, Int.reduceSub, Int.reduceMul, Int.reducePow, Int.reduceNeg, Int.reduceToNat, Int.reduceLT, Int.reduceLE, Nat.reduceEqDiff, sidsB, Nat.reduceBEq, keyKD, isIntK]
      refine CallC.of (rvalidR_spec y hy) (by rfl) ?_
      rw [ho]
      simp (config := { maxSteps := 1000000 }) (disch := ((try simp only [awL]); omega)) only [↓awU, awV, awF, ofVal, ofVal0, isShift, aggK, forall_const, ↓reduceIte, ↓reduceDIte, ↓purePost, combine, idsA, cellsA, numsOf, srcA, calleeA, refsA, isScalar, scalarD, scalar0, AV.one, putL, unfA, implies_true, IntKind.signed, Nat.reduceAdd, Nat.reduceSub, Nat.reduceMul, Nat.reducePow, Nat.reduceDiv, Nat.reduceMod, Int.reduceAdd, Int.reduceSub, Int.reduceMul, Int.reducePow, Int.reduceNeg, Int.reduceToNat, Int.reduceLT, Int.reduceLE, Nat.reduceEqDiff, sidsB, Nat.reduceBEq, keyKD, isIntK]
      try rfl
  · simp only [mF, mE, ho, if_true]
    rw [Bool.and_eq_true] at ho
    obtain ⟨e1, e2⟩ := RB.big hx ho.1
    obtain ⟨f1, f2⟩ := RB.big hy ho.2
    rw [RBD, RBD, e1, f1]
    exact rmake_spec x.int y.int e2 f2
theorem mF_sm {x y : RB} (hx : Dig x.l) (hy : Dig y.l) (lx : x.l.length ≤ 6) (ly : y.l.length ≤ 6) : SmF (mF x y) := by
  have h1 := RB.sz_le hx
  have h2 := RB.sz_le hy
  unfold mF
  split
  · split
    · exact SmF_Zf
    · rename_i h
      exact SmF_Frac ((Fw_divInt (k := 6) h (by omega) (by omega)).fv (by decide))
  · exact SmF_Zf
def oF (a b : Int) : D := if b = 0 then Zf else Frac (Rat.divInt a b)
theorem oF_sm {a b : Int} (ha : sz a ≤ 2) (hb : sz b ≤ 2) : SmF (oF a b) := by
  unfold oF
  split
  · exact SmF_Zf
  · rename_i h
    exact SmF_Frac ((Fw_divInt (k := 2) h ha hb).fv (by decide))
def oE (_a b : Int) : Int := if b = 0 then 8 else 0
theorem ofO_spec (a b : Int) (h1 : -9223372036854775808 ≤ a) (h2 : a ≤ 9223372036854775807) (h3 : -9223372036854775808 ≤ b) (h4 : b ≤ 9223372036854775807) : Ctr Tryz.prog G 29 [.d (.int .i64 a), .d (.int .i64 b)] [] (.d (.tup [oF a b, .int .i64 (oE a b)])) [] := of_spec a b h1 h2 h3 h4
theorem rofO_spec (a b : Int) (h1 : -9223372036854775808 ≤ a) (h2 : a ≤ 9223372036854775807) (h3 : -9223372036854775808 ≤ b) (h4 : b ≤ 9223372036854775807) : Ctr Tryz.prog G 30 [.d (.int .i64 a), .d (.int .i64 b)] [] (.d (.tup [oF a b, .int .i64 (oE a b)])) [] := rof_spec a b h1 h2 h3 h4
end Go.Proofs.YtkppgdialedoeaaGreatDoor

namespace Go.Proofs.YtkppgdialedoeaaGreatDoor
open Go Go.Proofs Go.Abs
variable {G : Globals}
/-! FractionSteps. -/
set_option maxHeartbeats 32000000 in
set_option maxRecDepth 100000 in
theorem steps_law (hG : HG G) (t : List Int) (ht : OkS t) (hl : t.length ≤ 9223372036854775807) (u : Int) (hu1 : -9223372036854775808 ≤ u) (hu2 : u ≤ 9223372036854775807) (v : Int) (hv1 : -9223372036854775808 ≤ v) (hv2 : v ≤ 9223372036854775807) (w : Int) (hw1 : -9223372036854775808 ≤ w) (hw2 : w ≤ 9223372036854775807) :
    Ctr Tryz.prog G 3 [.d (.sl t.length false (ints .u8 t)), .d (.int .i64 u), .d (.int .i64 v), .d (.int .i64 w)] [] (.d (.bool true)) [] := by
  refine Ctr.pure (M := M0) hmix Tryz.func3 rfl go3 ?_
  have hmm := ht.take
  simp (config := { maxSteps := 1000000 }) (disch := ((try simp only [awL]); omega)) only [nextC_more, nextC_over, bs_size, bs_extract, bs_toList, bs_append, byteAt_bs, bs_cells, nums_length, nums_getD, Tryz.f3, ↓awU, awV, awF, ofVal, ofVal0, isShift, aggK, forall_const, ↓reduceIte, ↓reduceDIte, ↓purePost, combine, idsA, cellsA, numsOf, srcA, calleeA, refsA, isScalar, scalarD, scalar0, AV.one, putL, unfA, implies_true, IntKind.signed, Nat.reduceAdd, Nat.reduceSub, Nat.reduceMul, Nat.reducePow, Nat.reduceDiv, Nat.reduceMod, Int.reduceAdd, Int.reduceSub, Int.reduceMul, Int.reducePow, Int.reduceNeg, Int.reduceToNat, Int.reduceLT, Int.reduceLE, Nat.reduceEqDiff, sidsB, Nat.reduceBEq, keyKD, isIntK]
  refine CallC.pure (sane_spec hG) ?_
  simp (config := { maxSteps := 1000000 }) (disch := ((try simp only [awL]); omega)) only [nextC_more, nextC_over, bs_size, bs_extract, bs_toList, bs_append, byteAt_bs, bs_cells, nums_length, nums_getD, ↓awU, awV, awF, ofVal, ofVal0, isShift, aggK, forall_const, ↓reduceIte, ↓reduceDIte, ↓purePost, combine, idsA, cellsA, numsOf, srcA, calleeA, refsA, isScalar, scalarD, scalar0, AV.one, putL, unfA, implies_true, IntKind.signed, Nat.reduceAdd, Nat.reduceSub, Nat.reduceMul, Nat.reducePow, Nat.reduceDiv, Nat.reduceMod, Int.reduceAdd, Int.reduceSub, Int.reduceMul, Int.reducePow, Int.reduceNeg, Int.reduceToNat, Int.reduceLT, Int.reduceLE, Nat.reduceEqDiff, sidsB, Nat.reduceBEq, keyKD, isIntK]
  refine CallC.by (new_spec t hl) (by rfl) (by rfl) (Nat.zero_le _) ?_
  generalize t.take 300 = s at *
  simp (config := { maxSteps := 1000000 }) (disch := ((try simp only [awL]); omega)) only [nextC_more, nextC_over, bs_size, bs_extract, bs_toList, bs_append, byteAt_bs, bs_cells, nums_length, nums_getD, ↓awU, awV, awF, ofVal, ofVal0, isShift, aggK, forall_const, ↓reduceIte, ↓reduceDIte, ↓purePost, combine, idsA, cellsA, numsOf, srcA, calleeA, refsA, isScalar, scalarD, scalar0, AV.one, putL, unfA, implies_true, IntKind.signed, Nat.reduceAdd, Nat.reduceSub, Nat.reduceMul, Nat.reducePow, Nat.reduceDiv, Nat.reduceMod, Int.reduceAdd, Int.reduceSub, Int.reduceMul, Int.reducePow, Int.reduceNeg, Int.reduceToNat, Int.reduceLT, Int.reduceLE, Nat.reduceEqDiff, sidsB, Nat.reduceBEq, keyKD, isIntK]
  refine CallC.by (fracM_spec s 0 hmm) (by rfl) (by rfl) (Nat.le_refl _) ?_
  simp (config := { maxSteps := 1000000 }) (disch := ((try simp only [awL]); omega)) only [nextC_more, nextC_over, bs_size, bs_extract, bs_toList, bs_append, byteAt_bs, bs_cells, nums_length, nums_getD, ↓awU, awV, awF, ofVal, ofVal0, isShift, aggK, forall_const, ↓reduceIte, ↓reduceDIte, ↓purePost, combine, idsA, cellsA, numsOf, srcA, calleeA, refsA, isScalar, scalarD, scalar0, AV.one, putL, unfA, implies_true, IntKind.signed, Nat.reduceAdd, Nat.reduceSub, Nat.reduceMul, Nat.reducePow, Nat.reduceDiv, Nat.reduceMod, Int.reduceAdd, Int.reduceSub, Int.reduceMul, Int.reducePow, Int.reduceNeg, Int.reduceToNat, Int.reduceLT, Int.reduceLE, Nat.reduceEqDiff, sidsB, Nat.reduceBEq, keyKD, isIntK]
  refine CallC.by (fracM_spec s (fracK s 0) hmm) (by rfl) (by rfl) (Nat.le_refl _) ?_
  have fa := @fracM_fw s 0
  have fb := @fracM_fw s (fracK s 0)
  generalize fracM s 0 = a at *
  generalize fracM s (fracK s 0) = b at *
  generalize fracK s (fracK s 0) = K at *
  have m1 : 0 ≤ w % 50 ∧ w % 50 < 50 := ⟨Int.emod_nonneg _ (by decide), Int.emod_lt_of_pos _ (by decide)⟩
  have m2 : 0 ≤ w % 2 ∧ w % 2 < 2 := ⟨Int.emod_nonneg _ (by decide), Int.emod_lt_of_pos _ (by decide)⟩
  have m3 : 0 ≤ u % 60 ∧ u % 60 < 60 := ⟨Int.emod_nonneg _ (by decide), Int.emod_lt_of_pos _ (by decide)⟩
  have m4 : 0 ≤ v % 13 ∧ v % 13 < 13 := ⟨Int.emod_nonneg _ (by decide), Int.emod_lt_of_pos _ (by decide)⟩
  have sA := RF.ofQ_sm fa
  have sB := RF.ofQ_sm fb
  obtain ⟨a1, a2⟩ := fa
  obtain ⟨b1, b2⟩ := fb
  have a3 : sz (a.den : Int) ≤ 4 := by simpa [sz] using a2
  simp (config := { maxSteps := 1000000 }) (disch := ((try simp only [awL]); omega)) only [nextC_more, nextC_over, bs_size, bs_extract, bs_toList, bs_append, byteAt_bs, bs_cells, nums_length, nums_getD, ↓awU, awV, awF, ofVal, ofVal0, isShift, aggK, forall_const, ↓reduceIte, ↓reduceDIte, ↓purePost, combine, idsA, cellsA, numsOf, srcA, calleeA, refsA, isScalar, scalarD, scalar0, AV.one, putL, unfA, implies_true, IntKind.signed, Nat.reduceAdd, Nat.reduceSub, Nat.reduceMul, Nat.reducePow, Nat.reduceDiv, Nat.reduceMod, Int.reduceAdd, Int.reduceSub, Int.reduceMul, Int.reducePow, Int.reduceNeg, Int.reduceToNat, Int.reduceLT, Int.reduceLE, Nat.reduceEqDiff, sidsB, Nat.reduceBEq, keyKD, isIntK]
  refine CallC.pure (mmod_spec w 50 hw1 hw2 (by decide) (by decide)) ?_
  simp (config := { maxSteps := 1000000 }) (disch := ((try simp only [awL]); omega)) only [nextC_more, nextC_over, bs_size, bs_extract, bs_toList, bs_append, byteAt_bs, bs_cells, nums_length, nums_getD, ↓awU, awV, awF, ofVal, ofVal0, isShift, aggK, forall_const, ↓reduceIte, ↓reduceDIte, ↓purePost, combine, idsA, cellsA, numsOf, srcA, calleeA, refsA, isScalar, scalarD, scalar0, AV.one, putL, unfA, implies_true, IntKind.signed, Nat.reduceAdd, Nat.reduceSub, Nat.reduceMul, Nat.reducePow, Nat.reduceDiv, Nat.reduceMod, Int.reduceAdd, Int.reduceSub, Int.reduceMul, Int.reducePow, Int.reduceNeg, Int.reduceToNat, Int.reduceLT, Int.reduceLE, Nat.reduceEqDiff, sidsB, Nat.reduceBEq, keyKD, isIntK]
  refine CallC.pure (mmod_spec w 2 hw1 hw2 (by decide) (by decide)) ?_
  have m5 : (4 * (w % 50) + w % 2) % 4 = w % 2 := by omega
  have hodd : ∃ c : RB, (RF.ofQ a).d.odd (4 * (w % 50) + w % 2) = c ∧ Dig c.l ∧ c.l.length ≤ 6 := by
    refine ⟨_, rfl, ?_⟩
    have h2 := sA.d
    have h3 : (RF.ofQ a).d.l.length ≤ 4 := a2
    unfold RB.odd
    rw [m5]
    split
    · refine ⟨fun d hd => ?_, by simp only [List.length_append, List.length_cons, List.length_nil]; omega⟩
      rcases List.mem_append.1 hd with h | h
      · exact h2 d h
      · simp at h; subst h; decide
    · split
      · exact ⟨h2, by show (RF.ofQ a).d.l.length ≤ 6; omega⟩
      · exfalso; omega
  have ho := odd_spec (G := G) (RF.ofQ a).d sA.dg.d (4 * (w % 50) + w % 2) (by omega) (by omega)
  obtain ⟨cd, hcd, cdig, clen⟩ := hodd
  rw [hcd] at ho
  have h6n := @sz_mul a.num 6
  have h6d := @sz_mul (a.den : Int) 6
  have h66 := sz_int (n := 6) (by decide) (by decide)
  generalize w % 50 = w50 at *
  generalize w % 2 = wm2 at *
  simp (config := { maxSteps := 1000000 }) (disch := ((try simp only [awL]); omega)) only [nextC_more, nextC_over, bs_size, bs_extract, bs_toList, bs_append, byteAt_bs, bs_cells, nums_length, nums_getD, ↓awU, awV, awF, ofVal, ofVal0, isShift, aggK, forall_const, ↓reduceIte, ↓reduceDIte, ↓purePost, combine, idsA, cellsA, numsOf, srcA, calleeA, refsA, isScalar, scalarD, scalar0, AV.one, putL, unfA, implies_true, IntKind.signed, Nat.reduceAdd, Nat.reduceSub, Nat.reduceMul, Nat.reducePow, Nat.reduceDiv, Nat.reduceMod, Int.reduceAdd, Int.reduceSub, Int.reduceMul, Int.reducePow, Int.reduceNeg, Int.reduceToNat, Int.reduceLT, Int.reduceLE, Nat.reduceEqDiff, sidsB, Nat.reduceBEq, keyKD, isIntK]
  first
  | refine CallC.of (ho) (by rfl) ?_
  | refine ⟨by rfl, CallC.of (ho) (by rfl) ?_⟩
  simp (config := { maxSteps := 1000000 }) (disch := ((try simp only [awL]); omega)) only [nextC_more, nextC_over, bs_size, bs_extract, bs_toList, bs_append, byteAt_bs, bs_cells, nums_length, nums_getD, ↓awU, awV, awF, ofVal, ofVal0, isShift, aggK, forall_const, ↓reduceIte, ↓reduceDIte, ↓purePost, combine, idsA, cellsA, numsOf, srcA, calleeA, refsA, isScalar, scalarD, scalar0, AV.one, putL, unfA, implies_true, IntKind.signed, Nat.reduceAdd, Nat.reduceSub, Nat.reduceMul, Nat.reducePow, Nat.reduceDiv, Nat.reduceMod, Int.reduceAdd, Int.reduceSub, Int.reduceMul, Int.reducePow, Int.reduceNeg, Int.reduceToNat, Int.reduceLT, Int.reduceLE, Nat.reduceEqDiff, sidsB, Nat.reduceBEq, keyKD, isIntK]
  first
  | refine CallC.of (rfromInt_spec 6 (by decide) (by decide)) (by rfl) ?_
  | refine ⟨by rfl, CallC.of (rfromInt_spec 6 (by decide) (by decide)) (by rfl) ?_⟩
  simp (config := { maxSteps := 1000000 }) (disch := ((try simp only [awL]); omega)) only [nextC_more, nextC_over, bs_size, bs_extract, bs_toList, bs_append, byteAt_bs, bs_cells, nums_length, nums_getD, ↓awU, awV, awF, ofVal, ofVal0, isShift, aggK, forall_const, ↓reduceIte, ↓reduceDIte, ↓purePost, combine, idsA, cellsA, numsOf, srcA, calleeA, refsA, isScalar, scalarD, scalar0, AV.one, putL, unfA, implies_true, IntKind.signed, Nat.reduceAdd, Nat.reduceSub, Nat.reduceMul, Nat.reducePow, Nat.reduceDiv, Nat.reduceMod, Int.reduceAdd, Int.reduceSub, Int.reduceMul, Int.reducePow, Int.reduceNeg, Int.reduceToNat, Int.reduceLT, Int.reduceLE, Nat.reduceEqDiff, sidsB, Nat.reduceBEq, keyKD, isIntK]
  first
  | refine CallC.of (rtimes_spec a.num 6 (by omega) (by omega)) (by rfl) ?_
  | refine ⟨by rfl, CallC.of (rtimes_spec a.num 6 (by omega) (by omega)) (by rfl) ?_⟩
  simp (config := { maxSteps := 1000000 }) (disch := ((try simp only [awL]); omega)) only [nextC_more, nextC_over, bs_size, bs_extract, bs_toList, bs_append, byteAt_bs, bs_cells, nums_length, nums_getD, ↓awU, awV, awF, ofVal, ofVal0, isShift, aggK, forall_const, ↓reduceIte, ↓reduceDIte, ↓purePost, combine, idsA, cellsA, numsOf, srcA, calleeA, refsA, isScalar, scalarD, scalar0, AV.one, putL, unfA, implies_true, IntKind.signed, Nat.reduceAdd, Nat.reduceSub, Nat.reduceMul, Nat.reducePow, Nat.reduceDiv, Nat.reduceMod, Int.reduceAdd, Int.reduceSub, Int.reduceMul, Int.reducePow, Int.reduceNeg, Int.reduceToNat, Int.reduceLT, Int.reduceLE, Nat.reduceEqDiff, sidsB, Nat.reduceBEq, keyKD, isIntK]
  first
  | refine CallC.of (rfromInt_spec 6 (by decide) (by decide)) (by rfl) ?_
  | refine ⟨by rfl, CallC.of (rfromInt_spec 6 (by decide) (by decide)) (by rfl) ?_⟩
  simp (config := { maxSteps := 1000000 }) (disch := ((try simp only [awL]); omega)) only [nextC_more, nextC_over, bs_size, bs_extract, bs_toList, bs_append, byteAt_bs, bs_cells, nums_length, nums_getD, ↓awU, awV, awF, ofVal, ofVal0, isShift, aggK, forall_const, ↓reduceIte, ↓reduceDIte, ↓purePost, combine, idsA, cellsA, numsOf, srcA, calleeA, refsA, isScalar, scalarD, scalar0, AV.one, putL, unfA, implies_true, IntKind.signed, Nat.reduceAdd, Nat.reduceSub, Nat.reduceMul, Nat.reducePow, Nat.reduceDiv, Nat.reduceMod, Int.reduceAdd, Int.reduceSub, Int.reduceMul, Int.reducePow, Int.reduceNeg, Int.reduceToNat, Int.reduceLT, Int.reduceLE, Nat.reduceEqDiff, sidsB, Nat.reduceBEq, keyKD, isIntK]
  first
  | refine CallC.of (rtimes_spec (a.den : Int) 6 (by omega) (by omega)) (by rw [Big_nat]; rfl) ?_
  | refine ⟨by rfl, CallC.of (rtimes_spec (a.den : Int) 6 (by omega) (by omega)) (by rw [Big_nat]; rfl) ?_⟩
  generalize hen : a.num * 6 = en at *
  generalize hed : (a.den : Int) * 6 = ed at *
  simp (config := { maxSteps := 1000000 }) (disch := ((try simp only [awL]); omega)) only [nextC_more, nextC_over, bs_size, bs_extract, bs_toList, bs_append, byteAt_bs, bs_cells, nums_length, nums_getD, ↓awU, awV, awF, ofVal, ofVal0, isShift, aggK, forall_const, ↓reduceIte, ↓reduceDIte, ↓purePost, combine, idsA, cellsA, numsOf, srcA, calleeA, refsA, isScalar, scalarD, scalar0, AV.one, putL, unfA, implies_true, IntKind.signed, Nat.reduceAdd, Nat.reduceSub, Nat.reduceMul, Nat.reducePow, Nat.reduceDiv, Nat.reduceMod, Int.reduceAdd, Int.reduceSub, Int.reduceMul, Int.reducePow, Int.reduceNeg, Int.reduceToNat, Int.reduceLT, Int.reduceLE, Nat.reduceEqDiff, sidsB, Nat.reduceBEq, keyKD, isIntK]
  first
  | refine CallC.of (rfromInt_spec 1 (by decide) (by decide)) (by rfl) ?_
  | refine ⟨by rfl, CallC.of (rfromInt_spec 1 (by decide) (by decide)) (by rfl) ?_⟩
  have sC : RF.Sm ⟨(RF.ofQ a).n, cd⟩ := ⟨sA.n, cdig, sA.ln, clen⟩
  have sE : RF.Sm ⟨RB.ofI en, RB.ofI ed⟩ := ⟨dig_toW _, dig_toW _, by show (toW en.natAbs).length ≤ 6; simp only [sz] at *; omega, by show (toW ed.natAbs).length ≤ 6; simp only [sz] at *; omega⟩
  have sZ : RF.Sm ⟨⟨false, []⟩, ⟨false, []⟩⟩ := ⟨fun _ h => absurd h List.not_mem_nil, fun _ h => absurd h List.not_mem_nil, by decide, by decide⟩
  have sO : RF.Sm ⟨⟨false, []⟩, RB.ofI 1⟩ := ⟨fun _ h => absurd h List.not_mem_nil, dig_toW _, by decide, by have := sz_int (n := 1) (by decide) (by decide); show (toW (1 : Int).natAbs).length ≤ 6; simp only [sz] at this; omega⟩
  simp (config := { maxSteps := 1000000 }) (disch := ((try simp only [awL]); omega)) only [nextC_more, nextC_over, bs_size, bs_extract, bs_toList, bs_append, byteAt_bs, bs_cells, nums_length, nums_getD, bigL, ↓awU, awV, awF, ofVal, ofVal0, isShift, aggK, forall_const, ↓reduceIte, ↓reduceDIte, ↓purePost, combine, idsA, cellsA, numsOf, srcA, calleeA, refsA, isScalar, scalarD, scalar0, AV.one, putL, unfA, implies_true, IntKind.signed, Nat.reduceAdd, Nat.reduceSub, Nat.reduceMul, Nat.reducePow, Nat.reduceDiv, Nat.reduceMod, Int.reduceAdd, Int.reduceSub, Int.reduceMul, Int.reducePow, Int.reduceNeg, Int.reduceToNat, Int.reduceLT, Int.reduceLE, Nat.reduceEqDiff, sidsB, Nat.reduceBEq, keyKD, isIntK]
  refine ⟨by rfl, ?_⟩
  obtain ⟨ps, hps⟩ : ∃ ps : List (RF × RF), ps = [(RF.ofQ a, RF.ofQ b), (RF.ofQ b, RF.ofQ a), (⟨(RF.ofQ a).n, cd⟩, RF.ofQ b), (RF.ofQ a, ⟨(RF.ofQ a).n, cd⟩), (⟨RB.ofI en, RB.ofI ed⟩, RF.ofQ b), (RF.ofQ a, ⟨⟨false, []⟩, ⟨false, []⟩⟩), (RF.ofQ a, ⟨⟨false, []⟩, RB.ofI 1⟩)] := ⟨_, rfl⟩
  have hep : 0 ≤ ed := by rw [← hed]; exact Int.mul_nonneg (Int.natCast_nonneg _) (by decide)
  have hpl : ps.length = 7 := by rw [hps]; rfl
  have hpd : ∀ p ∈ ps, p.1.Sm ∧ p.2.Sm := by
    intro p hp
    rw [hps] at hp
    simp only [List.mem_cons, List.not_mem_nil, or_false] at hp
    rcases hp with rfl | rfl | rfl | rfl | rfl | rfl | rfl
    · exact ⟨sA, sB⟩
    · exact ⟨sB, sA⟩
    · exact ⟨sC, sB⟩
    · exact ⟨sA, sC⟩
    · exact ⟨sE, sB⟩
    · exact ⟨sA, sZ⟩
    · exact ⟨sA, sO⟩
  clear sE sZ sO h6n h6d h66 m1 m2 m5 a1 a2 a3 b1 b2 ho
  refine LoopC.fr 13598682679800438136371966186155826129076502323127419144914805642915728869998219761670 (α := Nat) (fun k => 7 - k) (fun k => [(82, .d (.int .i64 k))])
    (fun _ => [DiceM s K, .box [.d (.bool (decide (a.num < 0))), .d (W (toW a.num.natAbs)), .d (.bool false), .d (W (toW a.den))], .box [.d (.bool (decide (b.num < 0))), .d (W (toW b.num.natAbs)), .d (.bool false), .d (W (toW b.den))], .box [.d (.bool (decide (a.num < 0))), .d (W (toW a.num.natAbs)), .d (.bool cd.neg), .d (W cd.l)], .box [.d (.bool (decide (en < 0))), .d (W (toW en.natAbs)), .d (.bool (decide (ed < 0))), .d (W (toW ed.natAbs))], .row false (PF ps)]) (fun k => k ≤ 7) 0 (Nat.zero_le _) ?_ ?_
  · rw [hps]
    exact ⟨[some 0, some 1, some 2, some 3, some 4, some 5], rfl, by simp, by simp [setsA, keepA, SWeak, AWeak], by simp [HWeak, BWeak, SWeak, AWeak, PF, RB.ofI, RF.ofQ, hep]; rfl⟩
  · intro k hk
    have pl := PF_length ps
    rw [hpl] at pl
    rcases Nat.lt_or_ge k 7 with h1 | h1
    · have hpg := @PF_get ps k (⟨⟨false, []⟩, ⟨false, []⟩⟩, ⟨⟨false, []⟩, ⟨false, []⟩⟩) (by omega)
      have hd := hpd _ (@PF_mem ps k (⟨⟨false, []⟩, ⟨false, []⟩⟩, ⟨⟨false, []⟩, ⟨false, []⟩⟩) (by omega))
      generalize ps.getD k (⟨⟨false, []⟩, ⟨false, []⟩⟩, ⟨⟨false, []⟩, ⟨false, []⟩⟩) = p at *
      obtain ⟨x, y⟩ := p
      simp only [PFc] at hpg hd
      obtain ⟨hx, hy⟩ := hd
      have tl := @tF_len x
      simp only [awK, Nat.reduceMod, Nat.reduceDiv, reduceIte]
      simp (config := { maxSteps := 1000000 }) (disch := ((try simp only [awL]); omega)) only [nextC_more, nextC_over, bs_size, bs_extract, bs_toList, bs_append, byteAt_bs, bs_cells, nums_length, nums_getD, pl, hpg, ↓awU, awV, awF, ofVal, ofVal0, isShift, aggK, forall_const, ↓reduceIte, ↓reduceDIte, ↓purePost, combine, idsA, cellsA, numsOf, srcA, calleeA, refsA, isScalar, scalarD, scalar0, AV.one, putL, unfA, implies_true, IntKind.signed, Nat.reduceAdd, Nat.reduceSub, Nat.reduceMul, Nat.reducePow, Nat.reduceDiv, Nat.reduceMod, Int.reduceAdd, Int.reduceSub, Int.reduceMul, Int.reducePow, Int.reduceNeg, Int.reduceToNat, Int.reduceLT, Int.reduceLE, Nat.reduceEqDiff, sidsB, Nat.reduceBEq, keyKD, isIntK]
      first
      | refine CallC.of (addF_raw hG x y hx.dg hy.dg (hx.add hy)) (by rfl) ?_
      | refine ⟨by rfl, CallC.of (addF_raw hG x y hx.dg hy.dg (hx.add hy)) (by rfl) ?_⟩
      obtain ⟨p1, q1, ee1, hp1, hq1⟩ := qF_sm (hx.add hy)
      rw [ee1]
      simp (config := { maxSteps := 1000000 }) (disch := ((try simp only [awL]); omega)) only [nextC_more, nextC_over, bs_size, bs_extract, bs_toList, bs_append, byteAt_bs, bs_cells, nums_length, nums_getD, pl, hpg, ↓awU, awV, awF, ofVal, ofVal0, isShift, aggK, forall_const, ↓reduceIte, ↓reduceDIte, ↓purePost, combine, idsA, cellsA, numsOf, srcA, calleeA, refsA, isScalar, scalarD, scalar0, AV.one, putL, unfA, implies_true, IntKind.signed, Nat.reduceAdd, Nat.reduceSub, Nat.reduceMul, Nat.reducePow, Nat.reduceDiv, Nat.reduceMod, Int.reduceAdd, Int.reduceSub, Int.reduceMul, Int.reducePow, Int.reduceNeg, Int.reduceToNat, Int.reduceLT, Int.reduceLE, Nat.reduceEqDiff, sidsB, Nat.reduceBEq, keyKD, isIntK]
      first
      | refine CallC.of (raddF_raw hG x y hx.dg hy.dg (hx.add hy)) (by rfl) ?_
      | refine ⟨by rfl, CallC.of (raddF_raw hG x y hx.dg hy.dg (hx.add hy)) (by rfl) ?_⟩
      rw [ee1]
      clear ee1
      generalize qE x y = g1 at *
      simp (config := { maxSteps := 1000000 }) (disch := ((try simp only [awL]); omega)) only [nextC_more, nextC_over, bs_size, bs_extract, bs_toList, bs_append, byteAt_bs, bs_cells, nums_length, nums_getD, pl, hpg, ↓awU, awV, awF, ofVal, ofVal0, isShift, aggK, forall_const, ↓reduceIte, ↓reduceDIte, ↓purePost, combine, idsA, cellsA, numsOf, srcA, calleeA, refsA, isScalar, scalarD, scalar0, AV.one, putL, unfA, implies_true, IntKind.signed, Nat.reduceAdd, Nat.reduceSub, Nat.reduceMul, Nat.reducePow, Nat.reduceDiv, Nat.reduceMod, Int.reduceAdd, Int.reduceSub, Int.reduceMul, Int.reducePow, Int.reduceNeg, Int.reduceToNat, Int.reduceLT, Int.reduceLE, Nat.reduceEqDiff, sidsB, Nat.reduceBEq, keyKD, isIntK]
      first
      | refine CallC.of (rsameF_spec p1 q1 hp1 hq1) (by rfl) ?_
      | refine ⟨by rfl, CallC.of (rsameF_spec p1 q1 hp1 hq1) (by rfl) ?_⟩
      simp (config := { maxSteps := 1000000 }) (disch := ((try simp only [awL]); omega)) only [nextC_more, nextC_over, bs_size, bs_extract, bs_toList, bs_append, byteAt_bs, bs_cells, nums_length, nums_getD, pl, hpg, ↓awU, awV, awF, ofVal, ofVal0, isShift, aggK, forall_const, ↓reduceIte, ↓reduceDIte, ↓purePost, combine, idsA, cellsA, numsOf, srcA, calleeA, refsA, isScalar, scalarD, scalar0, AV.one, putL, unfA, implies_true, IntKind.signed, Nat.reduceAdd, Nat.reduceSub, Nat.reduceMul, Nat.reducePow, Nat.reduceDiv, Nat.reduceMod, Int.reduceAdd, Int.reduceSub, Int.reduceMul, Int.reducePow, Int.reduceNeg, Int.reduceToNat, Int.reduceLT, Int.reduceLE, Nat.reduceEqDiff, sidsB, Nat.reduceBEq, keyKD, isIntK]
      first
      | refine CallC.of (subF_raw hG x y hx.dg hy.dg (hx.sub hy)) (by rfl) ?_
      | refine ⟨by rfl, CallC.of (subF_raw hG x y hx.dg hy.dg (hx.sub hy)) (by rfl) ?_⟩
      obtain ⟨p2, q2, ee2, hp2, hq2⟩ := qF_sm (hx.sub hy)
      rw [ee2]
      simp (config := { maxSteps := 1000000 }) (disch := ((try simp only [awL]); omega)) only [nextC_more, nextC_over, bs_size, bs_extract, bs_toList, bs_append, byteAt_bs, bs_cells, nums_length, nums_getD, pl, hpg, ↓awU, awV, awF, ofVal, ofVal0, isShift, aggK, forall_const, ↓reduceIte, ↓reduceDIte, ↓purePost, combine, idsA, cellsA, numsOf, srcA, calleeA, refsA, isScalar, scalarD, scalar0, AV.one, putL, unfA, implies_true, IntKind.signed, Nat.reduceAdd, Nat.reduceSub, Nat.reduceMul, Nat.reducePow, Nat.reduceDiv, Nat.reduceMod, Int.reduceAdd, Int.reduceSub, Int.reduceMul, Int.reducePow, Int.reduceNeg, Int.reduceToNat, Int.reduceLT, Int.reduceLE, Nat.reduceEqDiff, sidsB, Nat.reduceBEq, keyKD, isIntK]
      first
      | refine CallC.of (rsubF_raw hG x y hx.dg hy.dg (hx.sub hy)) (by rfl) ?_
      | refine ⟨by rfl, CallC.of (rsubF_raw hG x y hx.dg hy.dg (hx.sub hy)) (by rfl) ?_⟩
      rw [ee2]
      clear ee2
      generalize qE x y = g2 at *
      simp (config := { maxSteps := 1000000 }) (disch := ((try simp only [awL]); omega)) only [nextC_more, nextC_over, bs_size, bs_extract, bs_toList, bs_append, byteAt_bs, bs_cells, nums_length, nums_getD, pl, hpg, ↓awU, awV, awF, ofVal, ofVal0, isShift, aggK, forall_const, ↓reduceIte, ↓reduceDIte, ↓purePost, combine, idsA, cellsA, numsOf, srcA, calleeA, refsA, isScalar, scalarD, scalar0, AV.one, putL, unfA, implies_true, IntKind.signed, Nat.reduceAdd, Nat.reduceSub, Nat.reduceMul, Nat.reducePow, Nat.reduceDiv, Nat.reduceMod, Int.reduceAdd, Int.reduceSub, Int.reduceMul, Int.reducePow, Int.reduceNeg, Int.reduceToNat, Int.reduceLT, Int.reduceLE, Nat.reduceEqDiff, sidsB, Nat.reduceBEq, keyKD, isIntK]
      first
      | refine CallC.of (rsameF_spec p2 q2 hp2 hq2) (by rfl) ?_
      | refine ⟨by rfl, CallC.of (rsameF_spec p2 q2 hp2 hq2) (by rfl) ?_⟩
      simp (config := { maxSteps := 1000000 }) (disch := ((try simp only [awL]); omega)) only [nextC_more, nextC_over, bs_size, bs_extract, bs_toList, bs_append, byteAt_bs, bs_cells, nums_length, nums_getD, pl, hpg, ↓awU, awV, awF, ofVal, ofVal0, isShift, aggK, forall_const, ↓reduceIte, ↓reduceDIte, ↓purePost, combine, idsA, cellsA, numsOf, srcA, calleeA, refsA, isScalar, scalarD, scalar0, AV.one, putL, unfA, implies_true, IntKind.signed, Nat.reduceAdd, Nat.reduceSub, Nat.reduceMul, Nat.reducePow, Nat.reduceDiv, Nat.reduceMod, Int.reduceAdd, Int.reduceSub, Int.reduceMul, Int.reducePow, Int.reduceNeg, Int.reduceToNat, Int.reduceLT, Int.reduceLE, Nat.reduceEqDiff, sidsB, Nat.reduceBEq, keyKD, isIntK]
      first
      | refine CallC.of (mulF_raw hG x y hx.dg hy.dg (hx.mul hy)) (by rfl) ?_
      | refine ⟨by rfl, CallC.of (mulF_raw hG x y hx.dg hy.dg (hx.mul hy)) (by rfl) ?_⟩
      obtain ⟨p3, q3, ee3, hp3, hq3⟩ := qF_sm (hx.mul hy)
      rw [ee3]
      simp (config := { maxSteps := 1000000 }) (disch := ((try simp only [awL]); omega)) only [nextC_more, nextC_over, bs_size, bs_extract, bs_toList, bs_append, byteAt_bs, bs_cells, nums_length, nums_getD, pl, hpg, ↓awU, awV, awF, ofVal, ofVal0, isShift, aggK, forall_const, ↓reduceIte, ↓reduceDIte, ↓purePost, combine, idsA, cellsA, numsOf, srcA, calleeA, refsA, isScalar, scalarD, scalar0, AV.one, putL, unfA, implies_true, IntKind.signed, Nat.reduceAdd, Nat.reduceSub, Nat.reduceMul, Nat.reducePow, Nat.reduceDiv, Nat.reduceMod, Int.reduceAdd, Int.reduceSub, Int.reduceMul, Int.reducePow, Int.reduceNeg, Int.reduceToNat, Int.reduceLT, Int.reduceLE, Nat.reduceEqDiff, sidsB, Nat.reduceBEq, keyKD, isIntK]
      first
      | refine CallC.of (rmulF_raw hG x y hx.dg hy.dg (hx.mul hy)) (by rfl) ?_
      | refine ⟨by rfl, CallC.of (rmulF_raw hG x y hx.dg hy.dg (hx.mul hy)) (by rfl) ?_⟩
      rw [ee3]
      clear ee3
      generalize qE x y = g3 at *
      simp (config := { maxSteps := 1000000 }) (disch := ((try simp only [awL]); omega)) only [nextC_more, nextC_over, bs_size, bs_extract, bs_toList, bs_append, byteAt_bs, bs_cells, nums_length, nums_getD, pl, hpg, ↓awU, awV, awF, ofVal, ofVal0, isShift, aggK, forall_const, ↓reduceIte, ↓reduceDIte, ↓purePost, combine, idsA, cellsA, numsOf, srcA, calleeA, refsA, isScalar, scalarD, scalar0, AV.one, putL, unfA, implies_true, IntKind.signed, Nat.reduceAdd, Nat.reduceSub, Nat.reduceMul, Nat.reducePow, Nat.reduceDiv, Nat.reduceMod, Int.reduceAdd, Int.reduceSub, Int.reduceMul, Int.reducePow, Int.reduceNeg, Int.reduceToNat, Int.reduceLT, Int.reduceLE, Nat.reduceEqDiff, sidsB, Nat.reduceBEq, keyKD, isIntK]
      first
      | refine CallC.of (rsameF_spec p3 q3 hp3 hq3) (by rfl) ?_
      | refine ⟨by rfl, CallC.of (rsameF_spec p3 q3 hp3 hq3) (by rfl) ?_⟩
      simp (config := { maxSteps := 1000000 }) (disch := ((try simp only [awL]); omega)) only [nextC_more, nextC_over, bs_size, bs_extract, bs_toList, bs_append, byteAt_bs, bs_cells, nums_length, nums_getD, pl, hpg, ↓awU, awV, awF, ofVal, ofVal0, isShift, aggK, forall_const, ↓reduceIte, ↓reduceDIte, ↓purePost, combine, idsA, cellsA, numsOf, srcA, calleeA, refsA, isScalar, scalarD, scalar0, AV.one, putL, unfA, implies_true, IntKind.signed, Nat.reduceAdd, Nat.reduceSub, Nat.reduceMul, Nat.reducePow, Nat.reduceDiv, Nat.reduceMod, Int.reduceAdd, Int.reduceSub, Int.reduceMul, Int.reducePow, Int.reduceNeg, Int.reduceToNat, Int.reduceLT, Int.reduceLE, Nat.reduceEqDiff, sidsB, Nat.reduceBEq, keyKD, isIntK]
      first
      | refine CallC.of (divF_raw hG x y hx.dg hy.dg (hx.div hy)) (by rfl) ?_
      | refine ⟨by rfl, CallC.of (divF_raw hG x y hx.dg hy.dg (hx.div hy)) (by rfl) ?_⟩
      obtain ⟨p4, q4, ee4, hp4, hq4⟩ := dF_sm (hx.div hy)
      rw [ee4]
      simp (config := { maxSteps := 1000000 }) (disch := ((try simp only [awL]); omega)) only [nextC_more, nextC_over, bs_size, bs_extract, bs_toList, bs_append, byteAt_bs, bs_cells, nums_length, nums_getD, pl, hpg, ↓awU, awV, awF, ofVal, ofVal0, isShift, aggK, forall_const, ↓reduceIte, ↓reduceDIte, ↓purePost, combine, idsA, cellsA, numsOf, srcA, calleeA, refsA, isScalar, scalarD, scalar0, AV.one, putL, unfA, implies_true, IntKind.signed, Nat.reduceAdd, Nat.reduceSub, Nat.reduceMul, Nat.reducePow, Nat.reduceDiv, Nat.reduceMod, Int.reduceAdd, Int.reduceSub, Int.reduceMul, Int.reducePow, Int.reduceNeg, Int.reduceToNat, Int.reduceLT, Int.reduceLE, Nat.reduceEqDiff, sidsB, Nat.reduceBEq, keyKD, isIntK]
      first
      | refine CallC.of (rdivF_raw hG x y hx.dg hy.dg (hx.div hy)) (by rfl) ?_
      | refine ⟨by rfl, CallC.of (rdivF_raw hG x y hx.dg hy.dg (hx.div hy)) (by rfl) ?_⟩
      rw [ee4]
      clear ee4
      generalize dEE x y = g4 at *
      simp (config := { maxSteps := 1000000 }) (disch := ((try simp only [awL]); omega)) only [nextC_more, nextC_over, bs_size, bs_extract, bs_toList, bs_append, byteAt_bs, bs_cells, nums_length, nums_getD, pl, hpg, ↓awU, awV, awF, ofVal, ofVal0, isShift, aggK, forall_const, ↓reduceIte, ↓reduceDIte, ↓purePost, combine, idsA, cellsA, numsOf, srcA, calleeA, refsA, isScalar, scalarD, scalar0, AV.one, putL, unfA, implies_true, IntKind.signed, Nat.reduceAdd, Nat.reduceSub, Nat.reduceMul, Nat.reducePow, Nat.reduceDiv, Nat.reduceMod, Int.reduceAdd, Int.reduceSub, Int.reduceMul, Int.reducePow, Int.reduceNeg, Int.reduceToNat, Int.reduceLT, Int.reduceLE, Nat.reduceEqDiff, sidsB, Nat.reduceBEq, keyKD, isIntK]
      first
      | refine CallC.of (rsameF_spec p4 q4 hp4 hq4) (by rfl) ?_
      | refine ⟨by rfl, CallC.of (rsameF_spec p4 q4 hp4 hq4) (by rfl) ?_⟩
      simp (config := { maxSteps := 1000000 }) (disch := ((try simp only [awL]); omega)) only [nextC_more, nextC_over, bs_size, bs_extract, bs_toList, bs_append, byteAt_bs, bs_cells, nums_length, nums_getD, pl, hpg, ↓awU, awV, awF, ofVal, ofVal0, isShift, aggK, forall_const, ↓reduceIte, ↓reduceDIte, ↓purePost, combine, idsA, cellsA, numsOf, srcA, calleeA, refsA, isScalar, scalarD, scalar0, AV.one, putL, unfA, implies_true, IntKind.signed, Nat.reduceAdd, Nat.reduceSub, Nat.reduceMul, Nat.reducePow, Nat.reduceDiv, Nat.reduceMod, Int.reduceAdd, Int.reduceSub, Int.reduceMul, Int.reducePow, Int.reduceNeg, Int.reduceToNat, Int.reduceLT, Int.reduceLE, Nat.reduceEqDiff, sidsB, Nat.reduceBEq, keyKD, isIntK]
      first
      | refine CallC.of (cmpF_raw hG x y hx.dg hy.dg) (by rfl) ?_
      | refine ⟨by rfl, CallC.of (cmpF_raw hG x y hx.dg hy.dg) (by rfl) ?_⟩
      simp (config := { maxSteps := 1000000 }) (disch := ((try simp only [awL]); omega)) only [nextC_more, nextC_over, bs_size, bs_extract, bs_toList, bs_append, byteAt_bs, bs_cells, nums_length, nums_getD, pl, hpg, ↓awU, awV, awF, ofVal, ofVal0, isShift, aggK, forall_const, ↓reduceIte, ↓reduceDIte, ↓purePost, combine, idsA, cellsA, numsOf, srcA, calleeA, refsA, isScalar, scalarD, scalar0, AV.one, putL, unfA, implies_true, IntKind.signed, Nat.reduceAdd, Nat.reduceSub, Nat.reduceMul, Nat.reducePow, Nat.reduceDiv, Nat.reduceMod, Int.reduceAdd, Int.reduceSub, Int.reduceMul, Int.reducePow, Int.reduceNeg, Int.reduceToNat, Int.reduceLT, Int.reduceLE, Nat.reduceEqDiff, sidsB, Nat.reduceBEq, keyKD, isIntK]
      first
      | refine CallC.of (rcmpF_raw hG x y hx.dg hy.dg) (by rfl) ?_
      | refine ⟨by rfl, CallC.of (rcmpF_raw hG x y hx.dg hy.dg) (by rfl) ?_⟩
      generalize cF x y = cc at *
      simp (config := { maxSteps := 1000000 }) (disch := ((try simp only [awL]); omega)) only [nextC_more, nextC_over, bs_size, bs_extract, bs_toList, bs_append, byteAt_bs, bs_cells, nums_length, nums_getD, pl, hpg, ↓awU, awV, awF, ofVal, ofVal0, isShift, aggK, forall_const, ↓reduceIte, ↓reduceDIte, ↓purePost, combine, idsA, cellsA, numsOf, srcA, calleeA, refsA, isScalar, scalarD, scalar0, AV.one, putL, unfA, implies_true, IntKind.signed, Nat.reduceAdd, Nat.reduceSub, Nat.reduceMul, Nat.reducePow, Nat.reduceDiv, Nat.reduceMod, Int.reduceAdd, Int.reduceSub, Int.reduceMul, Int.reducePow, Int.reduceNeg, Int.reduceToNat, Int.reduceLT, Int.reduceLE, Nat.reduceEqDiff, sidsB, Nat.reduceBEq, keyKD, isIntK]
      first
      | refine CallC.of (validRF_spec hG x hx.dg) (by rfl) ?_
      | refine ⟨by rfl, CallC.of (validRF_spec hG x hx.dg) (by rfl) ?_⟩
      simp (config := { maxSteps := 1000000 }) (disch := ((try simp only [awL]); omega)) only [nextC_more, nextC_over, bs_size, bs_extract, bs_toList, bs_append, byteAt_bs, bs_cells, nums_length, nums_getD, pl, hpg, ↓awU, awV, awF, ofVal, ofVal0, isShift, aggK, forall_const, ↓reduceIte, ↓reduceDIte, ↓purePost, combine, idsA, cellsA, numsOf, srcA, calleeA, refsA, isScalar, scalarD, scalar0, AV.one, putL, unfA, implies_true, IntKind.signed, Nat.reduceAdd, Nat.reduceSub, Nat.reduceMul, Nat.reducePow, Nat.reduceDiv, Nat.reduceMod, Int.reduceAdd, Int.reduceSub, Int.reduceMul, Int.reducePow, Int.reduceNeg, Int.reduceToNat, Int.reduceLT, Int.reduceLE, Nat.reduceEqDiff, sidsB, Nat.reduceBEq, keyKD, isIntK]
      first
      | refine CallC.of (rvalidRF_spec x hx.dg) (by rfl) ?_
      | refine ⟨by rfl, CallC.of (rvalidRF_spec x hx.dg) (by rfl) ?_⟩
      generalize x.ok = xo at *
      simp (config := { maxSteps := 1000000 }) (disch := ((try simp only [awL]); omega)) only [nextC_more, nextC_over, bs_size, bs_extract, bs_toList, bs_append, byteAt_bs, bs_cells, nums_length, nums_getD, pl, hpg, ↓awU, awV, awF, ofVal, ofVal0, isShift, aggK, forall_const, ↓reduceIte, ↓reduceDIte, ↓purePost, combine, idsA, cellsA, numsOf, srcA, calleeA, refsA, isScalar, scalarD, scalar0, AV.one, putL, unfA, implies_true, IntKind.signed, Nat.reduceAdd, Nat.reduceSub, Nat.reduceMul, Nat.reducePow, Nat.reduceDiv, Nat.reduceMod, Int.reduceAdd, Int.reduceSub, Int.reduceMul, Int.reducePow, Int.reduceNeg, Int.reduceToNat, Int.reduceLT, Int.reduceLE, Nat.reduceEqDiff, sidsB, Nat.reduceBEq, keyKD, isIntK]
      first
      | refine CallC.of (textF_raw hG x hx.dg) (by rfl) ?_
      | refine ⟨by rfl, CallC.of (textF_raw hG x hx.dg) (by rfl) ?_⟩
      simp (config := { maxSteps := 1000000 }) (disch := ((try simp only [awL]); omega)) only [nextC_more, nextC_over, bs_size, bs_extract, bs_toList, bs_append, byteAt_bs, bs_cells, nums_length, nums_getD, pl, hpg, ↓awU, awV, awF, ofVal, ofVal0, isShift, aggK, forall_const, ↓reduceIte, ↓reduceDIte, ↓purePost, combine, idsA, cellsA, numsOf, srcA, calleeA, refsA, isScalar, scalarD, scalar0, AV.one, putL, unfA, implies_true, IntKind.signed, Nat.reduceAdd, Nat.reduceSub, Nat.reduceMul, Nat.reducePow, Nat.reduceDiv, Nat.reduceMod, Int.reduceAdd, Int.reduceSub, Int.reduceMul, Int.reducePow, Int.reduceNeg, Int.reduceToNat, Int.reduceLT, Int.reduceLE, Nat.reduceEqDiff, sidsB, Nat.reduceBEq, keyKD, isIntK]
      first
      | refine CallC.of (rtextF_raw hG x hx.dg) (by rfl) ?_
      | refine ⟨by rfl, CallC.of (rtextF_raw hG x hx.dg) (by rfl) ?_⟩
      generalize tF x = tx at *
      simp (config := { maxSteps := 1000000 }) (disch := ((try simp only [awL]); omega)) only [nextC_more, nextC_over, bs_size, bs_extract, bs_toList, bs_append, byteAt_bs, bs_cells, nums_length, nums_getD, pl, hpg, ↓awU, awV, awF, ofVal, ofVal0, isShift, aggK, forall_const, ↓reduceIte, ↓reduceDIte, ↓purePost, combine, idsA, cellsA, numsOf, srcA, calleeA, refsA, isScalar, scalarD, scalar0, AV.one, putL, unfA, implies_true, IntKind.signed, Nat.reduceAdd, Nat.reduceSub, Nat.reduceMul, Nat.reducePow, Nat.reduceDiv, Nat.reduceMod, Int.reduceAdd, Int.reduceSub, Int.reduceMul, Int.reducePow, Int.reduceNeg, Int.reduceToNat, Int.reduceLT, Int.reduceLE, Nat.reduceEqDiff, sidsB, Nat.reduceBEq, keyKD, isIntK]
      first
      | exact ⟨k + 1, h1, by simp only; omega, ⟨[some 0, some 1, some 2, some 3, some 4, some 5], rfl, by simp, by simp [setsA, keepA, SWeak, AWeak], by simp [HWeak, BWeak, SWeak, AWeak]⟩⟩
      | exact ⟨by rfl, k + 1, h1, by simp only; omega, ⟨[some 0, some 1, some 2, some 3, some 4, some 5], rfl, by simp, by simp [setsA, keepA, SWeak, AWeak], by simp [HWeak, BWeak, SWeak, AWeak]⟩⟩
      | trace_state
    · obtain rfl : k = 7 := by omega
      simp only [awK, Nat.reduceMod, Nat.reduceDiv, reduceIte]
      simp (config := { maxSteps := 1000000 }) (disch := ((try simp only [awL]); omega)) only [nextC_more, nextC_over, bs_size, bs_extract, bs_toList, bs_append, byteAt_bs, bs_cells, nums_length, nums_getD, pl, ↓awU, awV, awF, ofVal, ofVal0, isShift, aggK, forall_const, ↓reduceIte, ↓reduceDIte, ↓purePost, combine, idsA, cellsA, numsOf, srcA, calleeA, refsA, isScalar, scalarD, scalar0, AV.one, putL, unfA, implies_true, IntKind.signed, Nat.reduceAdd, Nat.reduceSub, Nat.reduceMul, Nat.reducePow, Nat.reduceDiv, Nat.reduceMod, Int.reduceAdd, Int.reduceSub, Int.reduceMul, Int.reducePow, Int.reduceNeg, Int.reduceToNat, Int.reduceLT, Int.reduceLE, Nat.reduceEqDiff, sidsB, Nat.reduceBEq, keyKD, isIntK]
      first
      | refine CallC.of (mmod_spec u 60 hu1 hu2 (by decide) (by decide)) (by rfl) ?_
      | refine ⟨by rfl, CallC.of (mmod_spec u 60 hu1 hu2 (by decide) (by decide)) (by rfl) ?_⟩
      simp (config := { maxSteps := 1000000 }) (disch := ((try simp only [awL]); omega)) only [nextC_more, nextC_over, bs_size, bs_extract, bs_toList, bs_append, byteAt_bs, bs_cells, nums_length, nums_getD, pl, ↓awU, awV, awF, ofVal, ofVal0, isShift, aggK, forall_const, ↓reduceIte, ↓reduceDIte, ↓purePost, combine, idsA, cellsA, numsOf, srcA, calleeA, refsA, isScalar, scalarD, scalar0, AV.one, putL, unfA, implies_true, IntKind.signed, Nat.reduceAdd, Nat.reduceSub, Nat.reduceMul, Nat.reducePow, Nat.reduceDiv, Nat.reduceMod, Int.reduceAdd, Int.reduceSub, Int.reduceMul, Int.reducePow, Int.reduceNeg, Int.reduceToNat, Int.reduceLT, Int.reduceLE, Nat.reduceEqDiff, sidsB, Nat.reduceBEq, keyKD, isIntK]
      first
      | refine CallC.of (mmod_spec v 13 hv1 hv2 (by decide) (by decide)) (by rfl) ?_
      | refine ⟨by rfl, CallC.of (mmod_spec v 13 hv1 hv2 (by decide) (by decide)) (by rfl) ?_⟩
      generalize hu6 : u % 60 = u6 at *
      generalize hv6 : v % 13 = v6 at *
      simp (config := { maxSteps := 1000000 }) (disch := ((try simp only [awL]); omega)) only [nextC_more, nextC_over, bs_size, bs_extract, bs_toList, bs_append, byteAt_bs, bs_cells, nums_length, nums_getD, pl, ↓awU, awV, awF, ofVal, ofVal0, isShift, aggK, forall_const, ↓reduceIte, ↓reduceDIte, ↓purePost, combine, idsA, cellsA, numsOf, srcA, calleeA, refsA, isScalar, scalarD, scalar0, AV.one, putL, unfA, implies_true, IntKind.signed, Nat.reduceAdd, Nat.reduceSub, Nat.reduceMul, Nat.reducePow, Nat.reduceDiv, Nat.reduceMod, Int.reduceAdd, Int.reduceSub, Int.reduceMul, Int.reducePow, Int.reduceNeg, Int.reduceToNat, Int.reduceLT, Int.reduceLE, Nat.reduceEqDiff, sidsB, Nat.reduceBEq, keyKD, isIntK]
      obtain ⟨pi, hpi⟩ : ∃ pi : List D, pi = [.int .i64 u, .int .i64 v, .int .i64 (u6 - 30), .int .i64 (v6 - 3)] := ⟨_, rfl⟩
      have hpil : pi.length = 4 := by rw [hpi]; rfl
      have hpid : ∀ k : Nat, k < 2 → ∃ p q : Int, (pi.drop (k * 2)).take 2 = [.int .i64 p, .int .i64 q] ∧ -9223372036854775808 ≤ p ∧ p ≤ 9223372036854775807 ∧ -9223372036854775808 ≤ q ∧ q ≤ 9223372036854775807 := by
        intro k hk
        rw [hpi]
        rcases (by omega : k = 0 ∨ k = 1) with rfl | rfl
        · exact ⟨u, v, rfl, hu1, hu2, hv1, hv2⟩
        · exact ⟨u6 - 30, v6 - 3, rfl, by omega, by omega, by omega, by omega⟩
      refine LoopC.fr 13598682245580104790513673370995342490513572050307248983345619150119809089409751455744 (α := Nat) (fun k => 2 - k) (fun k => [(230, .d (.int .i64 k))])
        (fun _ => [DiceM s K, .box [.d (.bool (decide (a.num < 0))), .d (W (toW a.num.natAbs)), .d (.bool false), .d (W (toW a.den))], .box [.d (.bool (decide (b.num < 0))), .d (W (toW b.num.natAbs)), .d (.bool false), .d (W (toW b.den))], .box [.d (.bool (decide (a.num < 0))), .d (W (toW a.num.natAbs)), .d (.bool cd.neg), .d (W cd.l)], .dead, .dead, .row false pi]) (fun k => k ≤ 2) 0 (Nat.zero_le _) ?_ ?_
      · rw [hpi]
        exact ⟨[some 0, some 1, some 2, some 3, some 4, some 5, some 6], rfl, by simp, by simp [setsA, keepA, SWeak, AWeak], by simp [HWeak, BWeak, SWeak, AWeak]⟩
      · intro k hk
        rcases Nat.lt_or_ge k 2 with h1 | h1
        · obtain ⟨p, q, hpq, g1, g2, g3, g4⟩ := hpid k h1
          clear hpid hps hpd
          obtain ⟨p1, q1, ee1, hp1, hq1⟩ := oF_sm (sz_int g1 g2) (sz_int g3 g4)
          simp only [awK, Nat.reduceMod, Nat.reduceDiv, reduceIte]
          simp (config := { maxSteps := 1000000 }) (disch := ((try simp only [awL]); omega)) only [nextC_more, nextC_over, bs_size, bs_extract, bs_toList, bs_append, byteAt_bs, bs_cells, nums_length, nums_getD, hpil, hpq, ↓awU, awV, awF, ofVal, ofVal0, isShift, aggK, forall_const, ↓reduceIte, ↓reduceDIte, ↓purePost, combine, idsA, cellsA, numsOf, srcA, calleeA, refsA, isScalar, scalarD, scalar0, AV.one, putL, unfA, implies_true, IntKind.signed, Nat.reduceAdd, Nat.reduceSub, Nat.reduceMul, Nat.reducePow, Nat.reduceDiv, Nat.reduceMod, Int.reduceAdd, Int.reduceSub, Int.reduceMul, Int.reducePow, Int.reduceNeg, Int.reduceToNat, Int.reduceLT, Int.reduceLE, Nat.reduceEqDiff, sidsB, Nat.reduceBEq, keyKD, isIntK]
          first
          | refine CallC.of (ofO_spec p q g1 g2 g3 g4) (by rfl) ?_
          | refine ⟨by rfl, CallC.of (ofO_spec p q g1 g2 g3 g4) (by rfl) ?_⟩
          rw [ee1]
          simp (config := { maxSteps := 1000000 }) (disch := ((try simp only [awL]); omega)) only [nextC_more, nextC_over, bs_size, bs_extract, bs_toList, bs_append, byteAt_bs, bs_cells, nums_length, nums_getD, hpil, hpq, ↓awU, awV, awF, ofVal, ofVal0, isShift, aggK, forall_const, ↓reduceIte, ↓reduceDIte, ↓purePost, combine, idsA, cellsA, numsOf, srcA, calleeA, refsA, isScalar, scalarD, scalar0, AV.one, putL, unfA, implies_true, IntKind.signed, Nat.reduceAdd, Nat.reduceSub, Nat.reduceMul, Nat.reducePow, Nat.reduceDiv, Nat.reduceMod, Int.reduceAdd, Int.reduceSub, Int.reduceMul, Int.reducePow, Int.reduceNeg, Int.reduceToNat, Int.reduceLT, Int.reduceLE, Nat.reduceEqDiff, sidsB, Nat.reduceBEq, keyKD, isIntK]
          first
          | refine CallC.of (rofO_spec p q g1 g2 g3 g4) (by rfl) ?_
          | refine ⟨by rfl, CallC.of (rofO_spec p q g1 g2 g3 g4) (by rfl) ?_⟩
          rw [ee1]
          clear ee1
          generalize oE p q = ge at *
          simp (config := { maxSteps := 1000000 }) (disch := ((try simp only [awL]); omega)) only [nextC_more, nextC_over, bs_size, bs_extract, bs_toList, bs_append, byteAt_bs, bs_cells, nums_length, nums_getD, hpil, hpq, ↓awU, awV, awF, ofVal, ofVal0, isShift, aggK, forall_const, ↓reduceIte, ↓reduceDIte, ↓purePost, combine, idsA, cellsA, numsOf, srcA, calleeA, refsA, isScalar, scalarD, scalar0, AV.one, putL, unfA, implies_true, IntKind.signed, Nat.reduceAdd, Nat.reduceSub, Nat.reduceMul, Nat.reducePow, Nat.reduceDiv, Nat.reduceMod, Int.reduceAdd, Int.reduceSub, Int.reduceMul, Int.reducePow, Int.reduceNeg, Int.reduceToNat, Int.reduceLT, Int.reduceLE, Nat.reduceEqDiff, sidsB, Nat.reduceBEq, keyKD, isIntK]
          first
          | refine CallC.of (rsameF_spec p1 q1 hp1 hq1) (by rfl) ?_
          | refine ⟨by rfl, CallC.of (rsameF_spec p1 q1 hp1 hq1) (by rfl) ?_⟩
          simp (config := { maxSteps := 1000000 }) (disch := ((try simp only [awL]); omega)) only [nextC_more, nextC_over, bs_size, bs_extract, bs_toList, bs_append, byteAt_bs, bs_cells, nums_length, nums_getD, hpil, hpq, ↓awU, awV, awF, ofVal, ofVal0, isShift, aggK, forall_const, ↓reduceIte, ↓reduceDIte, ↓purePost, combine, idsA, cellsA, numsOf, srcA, calleeA, refsA, isScalar, scalarD, scalar0, AV.one, putL, unfA, implies_true, IntKind.signed, Nat.reduceAdd, Nat.reduceSub, Nat.reduceMul, Nat.reducePow, Nat.reduceDiv, Nat.reduceMod, Int.reduceAdd, Int.reduceSub, Int.reduceMul, Int.reducePow, Int.reduceNeg, Int.reduceToNat, Int.reduceLT, Int.reduceLE, Nat.reduceEqDiff, sidsB, Nat.reduceBEq, keyKD, isIntK]
          first
          | exact ⟨k + 1, h1, by simp only; omega, ⟨[some 0, some 1, some 2, some 3, some 4, some 5, some 6], rfl, by simp, by simp [setsA, keepA, SWeak, AWeak], by simp [HWeak, BWeak, SWeak, AWeak]⟩⟩
          | exact ⟨by rfl, k + 1, h1, by simp only; omega, ⟨[some 0, some 1, some 2, some 3, some 4, some 5, some 6], rfl, by simp, by simp [setsA, keepA, SWeak, AWeak], by simp [HWeak, BWeak, SWeak, AWeak]⟩⟩
        · obtain rfl : k = 2 := by omega
          obtain ⟨p1, q1, ee1, hp1, hq1⟩ := mF_sm cdig sB.n clen sB.ln
          simp only [awK, Nat.reduceMod, Nat.reduceDiv, reduceIte]
          simp (config := { maxSteps := 1000000 }) (disch := ((try simp only [awL]); omega)) only [nextC_more, nextC_over, bs_size, bs_extract, bs_toList, bs_append, byteAt_bs, bs_cells, nums_length, nums_getD, hpil, ↓awU, awV, awF, ofVal, ofVal0, isShift, aggK, forall_const, ↓reduceIte, ↓reduceDIte, ↓purePost, combine, idsA, cellsA, numsOf, srcA, calleeA, refsA, isScalar, scalarD, scalar0, AV.one, putL, unfA, implies_true, IntKind.signed, Nat.reduceAdd, Nat.reduceSub, Nat.reduceMul, Nat.reducePow, Nat.reduceDiv, Nat.reduceMod, Int.reduceAdd, Int.reduceSub, Int.reduceMul, Int.reducePow, Int.reduceNeg, Int.reduceToNat, Int.reduceLT, Int.reduceLE, Nat.reduceEqDiff, sidsB, Nat.reduceBEq, keyKD, isIntK]
          first
          | refine CallC.of (makeR_spec cd (RF.ofQ b).n sC.dg.d sB.dg.n) (by rfl) ?_
          | refine ⟨by rfl, CallC.of (makeR_spec cd (RF.ofQ b).n sC.dg.d sB.dg.n) (by rfl) ?_⟩
          rw [ee1]
          simp (config := { maxSteps := 1000000 }) (disch := ((try simp only [awL]); omega)) only [nextC_more, nextC_over, bs_size, bs_extract, bs_toList, bs_append, byteAt_bs, bs_cells, nums_length, nums_getD, hpil, ↓awU, awV, awF, ofVal, ofVal0, isShift, aggK, forall_const, ↓reduceIte, ↓reduceDIte, ↓purePost, combine, idsA, cellsA, numsOf, srcA, calleeA, refsA, isScalar, scalarD, scalar0, AV.one, putL, unfA, implies_true, IntKind.signed, Nat.reduceAdd, Nat.reduceSub, Nat.reduceMul, Nat.reducePow, Nat.reduceDiv, Nat.reduceMod, Int.reduceAdd, Int.reduceSub, Int.reduceMul, Int.reducePow, Int.reduceNeg, Int.reduceToNat, Int.reduceLT, Int.reduceLE, Nat.reduceEqDiff, sidsB, Nat.reduceBEq, keyKD, isIntK]
          first
          | refine CallC.of (rmakeR_spec cd (RF.ofQ b).n sC.dg.d sB.dg.n) (by rfl) ?_
          | refine ⟨by rfl, CallC.of (rmakeR_spec cd (RF.ofQ b).n sC.dg.d sB.dg.n) (by rfl) ?_⟩
          rw [ee1]
          clear ee1
          generalize mE cd (RF.ofQ b).n = ge at *
          simp (config := { maxSteps := 1000000 }) (disch := ((try simp only [awL]); omega)) only [nextC_more, nextC_over, bs_size, bs_extract, bs_toList, bs_append, byteAt_bs, bs_cells, nums_length, nums_getD, hpil, ↓awU, awV, awF, ofVal, ofVal0, isShift, aggK, forall_const, ↓reduceIte, ↓reduceDIte, ↓purePost, combine, idsA, cellsA, numsOf, srcA, calleeA, refsA, isScalar, scalarD, scalar0, AV.one, putL, unfA, implies_true, IntKind.signed, Nat.reduceAdd, Nat.reduceSub, Nat.reduceMul, Nat.reducePow, Nat.reduceDiv, Nat.reduceMod, Int.reduceAdd, Int.reduceSub, Int.reduceMul, Int.reducePow, Int.reduceNeg, Int.reduceToNat, Int.reduceLT, Int.reduceLE, Nat.reduceEqDiff, sidsB, Nat.reduceBEq, keyKD, isIntK]
          first
          | refine CallC.of (rsameF_spec p1 q1 hp1 hq1) (by rfl) ?_
          | refine ⟨by rfl, CallC.of (rsameF_spec p1 q1 hp1 hq1) (by rfl) ?_⟩
          simp (config := { maxSteps := 1000000 }) (disch := ((try simp only [awL]); omega)) only [nextC_more, nextC_over, bs_size, bs_extract, bs_toList, bs_append, byteAt_bs, bs_cells, nums_length, nums_getD, hpil, ↓awU, awV, awF, ofVal, ofVal0, isShift, aggK, forall_const, ↓reduceIte, ↓reduceDIte, ↓purePost, combine, idsA, cellsA, numsOf, srcA, calleeA, refsA, isScalar, scalarD, scalar0, AV.one, putL, unfA, implies_true, IntKind.signed, Nat.reduceAdd, Nat.reduceSub, Nat.reduceMul, Nat.reducePow, Nat.reduceDiv, Nat.reduceMod, Int.reduceAdd, Int.reduceSub, Int.reduceMul, Int.reducePow, Int.reduceNeg, Int.reduceToNat, Int.reduceLT, Int.reduceLE, Nat.reduceEqDiff, sidsB, Nat.reduceBEq, keyKD, isIntK]
          try rfl
end Go.Proofs.YtkppgdialedoeaaGreatDoor
