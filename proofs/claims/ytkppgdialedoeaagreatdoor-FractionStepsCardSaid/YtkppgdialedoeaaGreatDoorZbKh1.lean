/-
  Contracts of the functions, one after another.
-/
import Derived.Test.YtkppgdialedoeaaGreatDoorMb2
import Derived.Lib.Strings
import Derived.Lib.Slices
import Derived.Lib.Walk
import Derived.Lib.Bytealg
set_option linter.all false
namespace Go.Proofs.YtkppgdialedoeaaGreatDoor
open Go Go.Proofs Go.Abs
variable {G : Globals}
theorem rtrim_spec (l : List Nat) (hd : Dig l) (hl : l.length < 2 ^ 60) : Ctr Tryz.prog G 81 [.d (W l)] [] (.d (W (toW (val l)))) [] := by
  refine Ctr.pure (M := M0) hmix Tryz.func81 rfl go81 ?_
  simp (config := { maxSteps := 1000000 }) (disch := ((try simp only [awL]); omega)) only [Tryz.f81, ↓awU, awV, awF, ofVal, ofVal0, isShift, aggK, forall_const, ↓reduceIte, ↓reduceDIte, ↓purePost, combine, idsA, cellsA, numsOf, srcA, calleeA, refsA, isScalar, scalarD, scalar0, AV.one, putL, unfA, implies_true, IntKind.signed, Nat.reduceAdd, Nat.reduceSub, Nat.reduceMul, Nat.reducePow, Nat.reduceDiv, Nat.reduceMod, Int.reduceAdd, Int.reduceSub, Int.reduceMul, Int.reducePow, Int.reduceNeg, Int.reduceToNat, Int.reduceLT, Int.reduceLE, Nat.reduceEqDiff, sidsB, Nat.reduceBEq, keyKD, isIntK]
  refine LoopC.fr 0 (α := Nat) (fun k => k) (fun k => [(0, .d (.sl k false (nats .u32 (l.take k))))]) (fun _ => []) (fun k => k ≤ l.length ∧ val (l.take k) = val l) l.length ⟨Nat.le_refl _, by simp⟩ ?_ ?_
  · exact ⟨[], rfl, by simp, by simp [setsA, keepA, SWeak, AWeak], by simp [HWeak, BWeak, SWeak, AWeak]⟩
  · rintro k ⟨hk, hv⟩
    simp only [keepA_z8, keepA_z, keepA_cons, keepA_nil, setsA_nil, setsA_cons, List.set_cons_zero, List.set_cons_succ, set_8, Nat.reduceMod, Nat.reduceDiv, Nat.zero_mod, Nat.zero_ne_one, if_true, if_false, reduceIte]
    rcases k with _ | k
    · simp (config := { maxSteps := 1000000 }) (disch := ((try simp only [awL]); omega)) only [↓awU, awV, awF, ofVal, ofVal0, isShift, aggK, forall_const, ↓reduceIte, ↓reduceDIte, ↓purePost, combine, idsA, cellsA, numsOf, srcA, calleeA, refsA, isScalar, scalarD, scalar0, AV.one, putL, unfA, implies_true, IntKind.signed, Nat.reduceAdd, Nat.reduceSub, Nat.reduceMul, Nat.reducePow, Nat.reduceDiv, Nat.reduceMod, Int.reduceAdd, Int.reduceSub, Int.reduceMul, Int.reducePow, Int.reduceNeg, Int.reduceToNat, Int.reduceLT, Int.reduceLE, Nat.reduceEqDiff, sidsB, Nat.reduceBEq, keyKD, isIntK]
      have : toW (val l) = [] := by rw [← hv]; exact toW_zero
      rw [this]; rfl
    · have eg : (l.take (k + 1)).getD k 0 = l.getD k 0 := by
        rw [List.getD_eq_getElem?_getD, List.getElem?_take, if_pos (by omega), ← List.getD_eq_getElem?_getD]
      have et : (l.take (k + 1)).take k = l.take k := by rw [List.take_take]; congr 1; omega
      simp (config := { maxSteps := 1000000 }) (disch := ((try simp only [awL]); omega)) only [eg, et, ↓awU, awV, awF, ofVal, ofVal0, isShift, aggK, forall_const, ↓reduceIte, ↓reduceDIte, ↓purePost, combine, idsA, cellsA, numsOf, srcA, calleeA, refsA, isScalar, scalarD, scalar0, AV.one, putL, unfA, implies_true, IntKind.signed, Nat.reduceAdd, Nat.reduceSub, Nat.reduceMul, Nat.reducePow, Nat.reduceDiv, Nat.reduceMod, Int.reduceAdd, Int.reduceSub, Int.reduceMul, Int.reducePow, Int.reduceNeg, Int.reduceToNat, Int.reduceLT, Int.reduceLE, Nat.reduceEqDiff, sidsB, Nat.reduceBEq, keyKD, isIntK]
      refine ⟨fun h => ⟨k, ⟨by omega, ?_⟩, Nat.lt_succ_self _, ⟨[], rfl, by simp, by simp [setsA, keepA, SWeak, AWeak], by simp [HWeak, BWeak, SWeak, AWeak]⟩⟩, fun h => ?_⟩
      · rw [← hv, take_val l k, show l.getD k 0 = 0 by omega]; simp
      · have := toW_take hd (k := k + 1) (by omega) (.inr (by simpa using h))
        rw [hv] at this
        rw [this]
        simp [W]; omega
theorem rbig_spec (neg : Bool) (l : List Nat) (hd : Dig l) (hl : l.length < 2 ^ 40) : Ctr Tryz.prog G 56 [.d (.bool neg), .d (W l)] [] (.d (Big (if neg then -(val l : Int) else val l))) [] := by
  refine Ctr.pure (M := M0) hmix Tryz.func56 rfl go56 ?_
  have hlt := trim_len hd
  simp (config := { maxSteps := 1000000 }) (disch := ((try simp only [awL]); omega)) only [Tryz.f56, ↓awU, awV, awF, ofVal, ofVal0, isShift, aggK, forall_const, ↓reduceIte, ↓reduceDIte, ↓purePost, combine, idsA, cellsA, numsOf, srcA, calleeA, refsA, isScalar, scalarD, scalar0, AV.one, putL, unfA, implies_true, IntKind.signed, Nat.reduceAdd, Nat.reduceSub, Nat.reduceMul, Nat.reducePow, Nat.reduceDiv, Nat.reduceMod, Int.reduceAdd, Int.reduceSub, Int.reduceMul, Int.reducePow, Int.reduceNeg, Int.reduceToNat, Int.reduceLT, Int.reduceLE, Nat.reduceEqDiff, sidsB, Nat.reduceBEq, keyKD, isIntK]
  refine CallC.pure (rtrim_spec l hd (by omega)) ?_
  have := @sz_pos (val l)
  cases neg
  · simp (config := { maxSteps := 1000000 }) (disch := ((try simp only [awL]); omega)) only [↓awU, awV, awF, ofVal, ofVal0, isShift, aggK, forall_const, ↓reduceIte, ↓reduceDIte, ↓purePost, combine, idsA, cellsA, numsOf, srcA, calleeA, refsA, isScalar, scalarD, scalar0, AV.one, putL, unfA, implies_true, IntKind.signed, Nat.reduceAdd, Nat.reduceSub, Nat.reduceMul, Nat.reducePow, Nat.reduceDiv, Nat.reduceMod, Int.reduceAdd, Int.reduceSub, Int.reduceMul, Int.reducePow, Int.reduceNeg, Int.reduceToNat, Int.reduceLT, Int.reduceLE, Nat.reduceEqDiff, sidsB, Nat.reduceBEq, keyKD, isIntK]
    simp [Big, bigL, W]
  · simp (config := { maxSteps := 1000000 }) (disch := ((try simp only [awL]); omega)) only [↓awU, awV, awF, ofVal, ofVal0, isShift, aggK, forall_const, ↓reduceIte, ↓reduceDIte, ↓purePost, combine, idsA, cellsA, numsOf, srcA, calleeA, refsA, isScalar, scalarD, scalar0, AV.one, putL, unfA, implies_true, IntKind.signed, Nat.reduceAdd, Nat.reduceSub, Nat.reduceMul, Nat.reducePow, Nat.reduceDiv, Nat.reduceMod, Int.reduceAdd, Int.reduceSub, Int.reduceMul, Int.reducePow, Int.reduceNeg, Int.reduceToNat, Int.reduceLT, Int.reduceLE, Nat.reduceEqDiff, sidsB, Nat.reduceBEq, keyKD, isIntK]
    simp [Big, bigL, W]
    omega
theorem rcmp_spec (a b : Nat) (ha : (toW a).length < 2 ^ 40) (hb : (toW b).length < 2 ^ 40) :
    Ctr Tryz.prog G 71 [.d (W (toW a)), .d (W (toW b))] [] (.d (.int .i64 (cmpI a b))) [] := by
  have da := dig_toW a
  have db := dig_toW b
  have va := val_toW a
  have vb := val_toW b
  have la := @toW_len_lt a b
  have lb := @toW_len_lt b a
  generalize toW a = l at *
  generalize toW b = m at *
  refine Ctr.pure (M := M0) hmix Tryz.func71 rfl go71 ?_
  simp (config := { maxSteps := 1000000 }) (disch := ((try simp only [awL]); omega)) only [Tryz.f71, ↓awU, awV, awF, ofVal, ofVal0, isShift, aggK, forall_const, ↓reduceIte, ↓reduceDIte, ↓purePost, combine, idsA, cellsA, numsOf, srcA, calleeA, refsA, isScalar, scalarD, scalar0, AV.one, putL, unfA, implies_true, IntKind.signed, Nat.reduceAdd, Nat.reduceSub, Nat.reduceMul, Nat.reducePow, Nat.reduceDiv, Nat.reduceMod, Int.reduceAdd, Int.reduceSub, Int.reduceMul, Int.reducePow, Int.reduceNeg, Int.reduceToNat, Int.reduceLT, Int.reduceLE, Nat.reduceEqDiff, sidsB, Nat.reduceBEq, keyKD, isIntK]
  refine ⟨fun h => ⟨fun h' => ?_, fun h' => ?_⟩, fun h => ?_⟩
  · exact (cmpI_lt (by have := la (by omega); omega)).symm
  · exact (cmpI_gt (by have := lb (by omega); omega)).symm
  · have e : l.length = m.length := by omega
    refine LoopC.fr 3 (α := Nat) (fun k => k) (fun k => [(5, .d (.int .i64 ((k : Int) - 1)))]) (fun _ => []) (fun k => k ≤ l.length ∧ l.drop k = m.drop k) l.length ⟨Nat.le_refl _, by rw [List.drop_length, e, List.drop_length]⟩ ?_ ?_
    · exact ⟨[], rfl, by simp, by simp [setsA, keepA, SWeak, AWeak, e], by simp [HWeak]⟩
    · rintro k ⟨hk, hv⟩
      simp only [keepA_z8, keepA_z, keepA_cons, keepA_nil, setsA_nil, setsA_cons, List.set_cons_zero, List.set_cons_succ, set_8, Nat.reduceMod, Nat.reduceDiv, Nat.zero_mod, Nat.zero_ne_one, if_true, if_false, reduceIte]
      rcases k with _ | k
      · simp (config := { maxSteps := 1000000 }) (disch := ((try simp only [awL]); omega)) only [↓awU, awV, awF, ofVal, ofVal0, isShift, aggK, forall_const, ↓reduceIte, ↓reduceDIte, ↓purePost, combine, idsA, cellsA, numsOf, srcA, calleeA, refsA, isScalar, scalarD, scalar0, AV.one, putL, unfA, implies_true, IntKind.signed, Nat.reduceAdd, Nat.reduceSub, Nat.reduceMul, Nat.reducePow, Nat.reduceDiv, Nat.reduceMod, Int.reduceAdd, Int.reduceSub, Int.reduceMul, Int.reducePow, Int.reduceNeg, Int.reduceToNat, Int.reduceLT, Int.reduceLE, Nat.reduceEqDiff, sidsB, Nat.reduceBEq, keyKD, isIntK]
        simp only [List.drop_zero] at hv
        rw [← va, ← vb, hv]
        exact (cmpI_eq rfl).symm
      · simp (config := { maxSteps := 1000000 }) (disch := ((try simp only [awL]); omega)) only [↓awU, awV, awF, ofVal, ofVal0, isShift, aggK, forall_const, ↓reduceIte, ↓reduceDIte, ↓purePost, combine, idsA, cellsA, numsOf, srcA, calleeA, refsA, isScalar, scalarD, scalar0, AV.one, putL, unfA, implies_true, IntKind.signed, Nat.reduceAdd, Nat.reduceSub, Nat.reduceMul, Nat.reducePow, Nat.reduceDiv, Nat.reduceMod, Int.reduceAdd, Int.reduceSub, Int.reduceMul, Int.reducePow, Int.reduceNeg, Int.reduceToNat, Int.reduceLT, Int.reduceLE, Nat.reduceEqDiff, sidsB, Nat.reduceBEq, keyKD, isIntK]
        refine ⟨by rfl, fun h1 => ?_, fun h1 => ⟨by rfl, fun h2 => ?_, fun h2 => ?_⟩⟩
        · have := val_lt_of (k := k) da (by omega) (by omega) hv (by omega)
          rw [← va, ← vb]; exact (cmpI_lt (by omega)).symm
        · have := val_lt_of (k := k) db (by omega) (by omega) hv.symm (by omega)
          rw [← va, ← vb]; exact (cmpI_gt (by omega)).symm
        · exact ⟨k, ⟨by omega, drop_eq (by omega) (by omega) hv (by omega)⟩, Nat.lt_succ_self _, ⟨[], rfl, by simp, by simp [setsA, keepA, SWeak, AWeak], by simp [HWeak, BWeak, SWeak, AWeak]⟩⟩
set_option maxHeartbeats 4000000 in
set_option maxRecDepth 100000 in
theorem rvalidBig_spec (n : Int) : Ctr Tryz.prog G 46 [.d (Big n)] [] (.d (.bool (decide (sz n ≤ 256)))) [] := by
  refine Ctr.pure (M := M0) hmix Tryz.func46 rfl go46 ?_
  by_cases hn : n = 0
  · subst hn
    have e : toW (0 : Int).natAbs = [] := toW_zero
    simp only [Big, bigL, sz, e]
    simp (config := { maxSteps := 1000000 }) (disch := ((try simp only [awL]); omega)) only [Tryz.f46, ↓awU, awV, awF, ofVal, ofVal0, isShift, aggK, forall_const, ↓reduceIte, ↓reduceDIte, ↓purePost, combine, idsA, cellsA, numsOf, srcA, calleeA, refsA, isScalar, scalarD, scalar0, AV.one, putL, unfA, implies_true, IntKind.signed, Nat.reduceAdd, Nat.reduceSub, Nat.reduceMul, Nat.reducePow, Nat.reduceDiv, Nat.reduceMod, Int.reduceAdd, Int.reduceSub, Int.reduceMul, Int.reducePow, Int.reduceNeg, Int.reduceToNat, Int.reduceLT, Int.reduceLE, Nat.reduceEqDiff, sidsB, Nat.reduceBEq, keyKD, isIntK]
  · have h0 := (@sz_pos n.natAbs).2 (by omega)
    have hl := @toW_last n.natAbs (by omega)
    simp only [Big, bigL, sz]
    obtain ⟨m, hm⟩ : ∃ m, (toW n.natAbs).length = m + 1 := ⟨(toW n.natAbs).length - 1, by omega⟩
    rw [hm, Nat.add_sub_cancel] at hl
    have hl' : ¬ (((toW n.natAbs).getD m 0 : Nat) : Int) = 0 := by omega
    by_cases h256 : m + 1 ≤ 256
    · simp (config := { maxSteps := 1000000 }) (disch := ((try simp only [awL]); omega)) only [Tryz.f46, hm, hl', ↓awU, awV, awF, ofVal, ofVal0, isShift, aggK, forall_const, ↓reduceIte, ↓reduceDIte, ↓purePost, combine, idsA, cellsA, numsOf, srcA, calleeA, refsA, isScalar, scalarD, scalar0, AV.one, putL, unfA, implies_true, IntKind.signed, Nat.reduceAdd, Nat.reduceSub, Nat.reduceMul, Nat.reducePow, Nat.reduceDiv, Nat.reduceMod, Int.reduceAdd, Int.reduceSub, Int.reduceMul, Int.reducePow, Int.reduceNeg, Int.reduceToNat, Int.reduceLT, Int.reduceLE, Nat.reduceEqDiff, sidsB, Nat.reduceBEq, keyKD, isIntK]
    · simp (config := { maxSteps := 1000000 }) (disch := ((try simp only [awL]); omega)) only [Tryz.f46, hm, ↓awU, awV, awF, ofVal, ofVal0, isShift, aggK, forall_const, ↓reduceIte, ↓reduceDIte, ↓purePost, combine, idsA, cellsA, numsOf, srcA, calleeA, refsA, isScalar, scalarD, scalar0, AV.one, putL, unfA, implies_true, IntKind.signed, Nat.reduceAdd, Nat.reduceSub, Nat.reduceMul, Nat.reducePow, Nat.reduceDiv, Nat.reduceMod, Int.reduceAdd, Int.reduceSub, Int.reduceMul, Int.reducePow, Int.reduceNeg, Int.reduceToNat, Int.reduceLT, Int.reduceLE, Nat.reduceEqDiff, sidsB, Nat.reduceBEq, keyKD, isIntK]
set_option maxHeartbeats 4000000 in
set_option maxRecDepth 100000 in
theorem rmul_spec (a b : Nat) (ha : (toW a).length < 2 ^ 40) (hb : (toW b).length < 2 ^ 40) :
    Ctr Tryz.prog G 57 [.d (W (toW a)), .d (W (toW b))] [] (.d (W (toW (a * b)))) [] := by
  have da := dig_toW a
  have db := dig_toW b
  have va := val_toW a
  have vb := val_toW b
  generalize toW a = l at *
  generalize toW b = m at *
  refine Ctr.pure (M := M0) hmix Tryz.func57 rfl go57 ?_
  simp (config := { maxSteps := 1000000 }) (disch := ((try simp only [awL]); omega)) only [Tryz.f57, ↓awU, awV, awF, ofVal, ofVal0, isShift, aggK, forall_const, ↓reduceIte, ↓reduceDIte, ↓purePost, combine, idsA, cellsA, numsOf, srcA, calleeA, refsA, isScalar, scalarD, scalar0, AV.one, putL, unfA, implies_true, IntKind.signed, Nat.reduceAdd, Nat.reduceSub, Nat.reduceMul, Nat.reducePow, Nat.reduceDiv, Nat.reduceMod, Int.reduceAdd, Int.reduceSub, Int.reduceMul, Int.reducePow, Int.reduceNeg, Int.reduceToNat, Int.reduceLT, Int.reduceLE, Nat.reduceEqDiff, sidsB, Nat.reduceBEq, keyKD, isIntK]
  refine LoopC.fr 35 (α := Nat × List Nat) (fun x => l.length - x.1) (fun x => [(6, .d (.int .i64 x.1))])
    (fun x => [.row false (nats .u32 x.2)]) (fun x => x.1 ≤ l.length ∧ x.2.length = l.length + m.length ∧ Dig x.2 ∧ val x.2 = val (l.take x.1) * b ∧ ∀ p, x.1 + m.length ≤ p → x.2.getD p 0 = 0) (0, List.replicate (l.length + m.length) 0)
    ⟨by simp, by simp, Dig.zeros _, by simp [val_zeros, val], fun p _ => by simp only [List.getD_eq_getElem?_getD, List.getElem?_replicate]; split <;> rfl⟩ ?_ ?_
  · exact ⟨[some 0], rfl, by simp, by simp [setsA, keepA, SWeak, AWeak], by simp [HWeak, BWeak, SWeak, AWeak]⟩
  · rintro ⟨i, o⟩ ⟨hi, ho, hd, hv, hz⟩
    simp only at hi ho hd hv hz
    simp only [keepA_z8, keepA_z, keepA_cons, keepA_nil, setsA_nil, setsA_cons, List.set_cons_zero, List.set_cons_succ, set_8, Nat.reduceMod, Nat.reduceDiv, Nat.zero_mod, Nat.zero_ne_one, if_true, if_false, reduceIte]
    simp (config := { maxSteps := 1000000 }) (disch := ((try simp only [awL]); omega)) only [↓awU, awV, awF, ofVal, ofVal0, isShift, aggK, forall_const, ↓reduceIte, ↓reduceDIte, ↓purePost, combine, idsA, cellsA, numsOf, srcA, calleeA, refsA, isScalar, scalarD, scalar0, AV.one, putL, unfA, implies_true, IntKind.signed, Nat.reduceAdd, Nat.reduceSub, Nat.reduceMul, Nat.reducePow, Nat.reduceDiv, Nat.reduceMod, Int.reduceAdd, Int.reduceSub, Int.reduceMul, Int.reducePow, Int.reduceNeg, Int.reduceToNat, Int.reduceLT, Int.reduceLE, Nat.reduceEqDiff, sidsB, Nat.reduceBEq, keyKD, isIntK]
    refine ⟨fun h => ?_, fun h => ?_⟩
    · refine LoopC.fr 99 (α := Nat × List Nat × Nat) (fun x => m.length - x.1) (fun x => [(7, .d (.int .u64 x.2.2)), (8, .d (.int .i64 x.1))])
        (fun x => [.row false (nats .u32 x.2.1)]) (fun x => x.1 ≤ m.length ∧ x.2.1.length = l.length + m.length ∧ Dig x.2.1 ∧ x.2.2 < B ∧ val x.2.1 + B ^ (i + x.1) * x.2.2 = val o + B ^ i * (l.getD i 0 * val (m.take x.1)) ∧ ∀ p, i + m.length ≤ p → x.2.1.getD p 0 = 0) (0, o, 0)
        ⟨by simp, ho, hd, by simp [B], by simp [val], hz⟩ ?_ ?_
      · exact ⟨[some 0], rfl, by simp, by simp [setsA, keepA, SWeak, AWeak], by simp [HWeak, BWeak, SWeak, AWeak]⟩
      · rintro ⟨j, q, c⟩ ⟨hj, hq, hdq, hc, hvq, hzq⟩
        simp only at hj hq hdq hc hvq hzq
        simp only [keepA_z8, keepA_z, keepA_cons, keepA_nil, setsA_nil, setsA_cons, List.set_cons_zero, List.set_cons_succ, set_8, Nat.reduceMod, Nat.reduceDiv, Nat.zero_mod, Nat.zero_ne_one, if_true, if_false, reduceIte]
        replace hv := Hid.mk hv
        replace hvq := Hid.mk hvq
        have p1 := mul_digit (da.getD i) (db.getD j)
        have p2 := hdq.getD (i + j)
        have p3 : c < 4294967296 := hc
        have p4 : q.getD (i + j) 0 < 4294967296 := p2
        have p5 : l.getD i 0 < 4294967296 := da.getD i
        have p6 : m.getD j 0 < 4294967296 := db.getD j
        simp (config := { maxSteps := 1000000 }) (disch := ((try simp only [awL]); omega)) only [↓awU, awV, awF, ofVal, ofVal0, isShift, aggK, forall_const, ↓reduceIte, ↓reduceDIte, ↓purePost, combine, idsA, cellsA, numsOf, srcA, calleeA, refsA, isScalar, scalarD, scalar0, AV.one, putL, unfA, implies_true, IntKind.signed, Nat.reduceAdd, Nat.reduceSub, Nat.reduceMul, Nat.reducePow, Nat.reduceDiv, Nat.reduceMod, Int.reduceAdd, Int.reduceSub, Int.reduceMul, Int.reducePow, Int.reduceNeg, Int.reduceToNat, Int.reduceLT, Int.reduceLE, Nat.reduceEqDiff, sidsB, Nat.reduceBEq, keyKD, isIntK]
        refine ⟨fun h1 => ⟨by rfl, ?_⟩, fun h1 => ?_⟩
        · simp only [w_u32, nats_set]
          have hsl : c + (l.getD i 0 * m.getD j 0 + q.getD (i + j) 0) < B * B := by simp only [B]; omega
          generalize hg : c + (l.getD i 0 * m.getD j 0 + q.getD (i + j) 0) = s at hsl ⊢
          refine ⟨(j + 1, q.set (i + j) (s % B), s / B), ⟨by simp only; omega, by simp [hq], hdq.set (Nat.mod_lt _ (by decide)), (Nat.div_lt_iff_lt_mul (by decide)).2 hsl, times_step (by omega) hg.symm hvq.out, fun p hp => ?_⟩,
            by simp only; omega, [some 0], rfl, by simp, by simp [SWeak, AWeak, B], by simp [HWeak, BWeak, w_u32, nats_set, B]⟩
          rw [getD_set_ne (by omega)]; exact hzq p hp
        · have ej : j = m.length := by omega
          have hvq := hvq.out
          rw [ej, List.take_of_length_le (Nat.le_refl _), vb] at hvq
          refine ⟨(i + 1, q.set (i + m.length) c), ⟨by simp only; omega, by simp [hq], hdq.set hc, times_row (by omega) (hzq _ (Nat.le_refl _)) hvq hv.out, fun p hp => ?_⟩,
            by simp only; omega, [some 0], rfl, by simp, by simp [SWeak, AWeak], by simp [HWeak, BWeak]⟩
          rw [getD_set_ne (by omega)]; exact hzq p (by omega)
    · have e : (D.sl (l.length + m.length) false (nats .u32 o)) = W o := by simp [W, ho]
      have ei : i = l.length := by omega
      rw [e]
      refine CallC.frozen (rtrim_spec _ hd ?_) ?_
      · omega
      · rw [hv, ei, List.take_of_length_le (Nat.le_refl _), va]
        simp (config := { maxSteps := 1000000 }) (disch := ((try simp only [awL]); omega)) only [↓awU, awV, awF, ofVal, ofVal0, isShift, aggK, forall_const, ↓reduceIte, ↓reduceDIte, ↓purePost, combine, idsA, cellsA, numsOf, srcA, calleeA, refsA, isScalar, scalarD, scalar0, AV.one, putL, unfA, implies_true, IntKind.signed, Nat.reduceAdd, Nat.reduceSub, Nat.reduceMul, Nat.reducePow, Nat.reduceDiv, Nat.reduceMod, Int.reduceAdd, Int.reduceSub, Int.reduceMul, Int.reducePow, Int.reduceNeg, Int.reduceToNat, Int.reduceLT, Int.reduceLE, Nat.reduceEqDiff, sidsB, Nat.reduceBEq, keyKD, isIntK]
set_option maxHeartbeats 4000000 in
set_option maxRecDepth 100000 in
theorem rfromInt_spec (n : Int) (h1 : -9223372036854775808 ≤ n) (h2 : n ≤ 9223372036854775807) : Ctr Tryz.prog G 13 [.d (.int .i64 n)] [] (.d (Big n)) [] := by
  refine Ctr.pure (M := M0) hmix Tryz.func13 rfl go13 ?_
  have hN : n.natAbs < 18446744073709551616 := by omega
  have dg : Dig [n.natAbs % B, n.natAbs / B] := by
    intro x hx
    simp only [List.mem_cons, List.not_mem_nil, or_false] at hx
    rcases hx with rfl | rfl
    · exact Nat.mod_lt _ (by decide)
    · simp only [B]; omega
  have vv : val [n.natAbs % B, n.natAbs / B] = n.natAbs := by simp only [val, Nat.mul_zero, Nat.add_zero]; exact Nat.mod_add_div _ B
  by_cases hn : n < 0
  · have e : IntKind.u64.wrap (0 - IntKind.u64.wrap n) = ((n.natAbs : Nat) : Int) := by simp [IntKind.wrap, IntKind.bits, IntKind.signed]; omega
    simp (config := { maxSteps := 1000000 }) (disch := ((try simp only [awL]); omega)) only [Tryz.f13, e, w_u32, ↓awU, awV, awF, ofVal, ofVal0, isShift, aggK, forall_const, ↓reduceIte, ↓reduceDIte, ↓purePost, combine, idsA, cellsA, numsOf, srcA, calleeA, refsA, isScalar, scalarD, scalar0, AV.one, putL, unfA, implies_true, IntKind.signed, Nat.reduceAdd, Nat.reduceSub, Nat.reduceMul, Nat.reducePow, Nat.reduceDiv, Nat.reduceMod, Int.reduceAdd, Int.reduceSub, Int.reduceMul, Int.reducePow, Int.reduceNeg, Int.reduceToNat, Int.reduceLT, Int.reduceLE, Nat.reduceEqDiff, sidsB, Nat.reduceBEq, keyKD, isIntK]
    refine CallC.frozenE (rbig_spec true [n.natAbs % B, n.natAbs / B] dg (by simp)) (by rfl) ?_
    rw [vv, if_pos rfl, show -((n.natAbs : Nat) : Int) = n by omega]
    simp (config := { maxSteps := 1000000 }) (disch := ((try simp only [awL]); omega)) only [↓awU, awV, awF, ofVal, ofVal0, isShift, aggK, forall_const, ↓reduceIte, ↓reduceDIte, ↓purePost, combine, idsA, cellsA, numsOf, srcA, calleeA, refsA, isScalar, scalarD, scalar0, AV.one, putL, unfA, implies_true, IntKind.signed, Nat.reduceAdd, Nat.reduceSub, Nat.reduceMul, Nat.reducePow, Nat.reduceDiv, Nat.reduceMod, Int.reduceAdd, Int.reduceSub, Int.reduceMul, Int.reducePow, Int.reduceNeg, Int.reduceToNat, Int.reduceLT, Int.reduceLE, Nat.reduceEqDiff, sidsB, Nat.reduceBEq, keyKD, isIntK]
    simp [hn]
  · have e : IntKind.u64.wrap n = ((n.natAbs : Nat) : Int) := by simp [IntKind.wrap, IntKind.bits, IntKind.signed]; omega
    have e2 : n = ((n.natAbs : Nat) : Int) := by omega
    simp (config := { maxSteps := 1000000 }) (disch := ((try simp only [awL]); omega)) only [Tryz.f13, e, w_u32, ↓awU, awV, awF, ofVal, ofVal0, isShift, aggK, forall_const, ↓reduceIte, ↓reduceDIte, ↓purePost, combine, idsA, cellsA, numsOf, srcA, calleeA, refsA, isScalar, scalarD, scalar0, AV.one, putL, unfA, implies_true, IntKind.signed, Nat.reduceAdd, Nat.reduceSub, Nat.reduceMul, Nat.reducePow, Nat.reduceDiv, Nat.reduceMod, Int.reduceAdd, Int.reduceSub, Int.reduceMul, Int.reducePow, Int.reduceNeg, Int.reduceToNat, Int.reduceLT, Int.reduceLE, Nat.reduceEqDiff, sidsB, Nat.reduceBEq, keyKD, isIntK]
    refine CallC.frozenE (rbig_spec false [n.natAbs % B, n.natAbs / B] dg (by simp)) ?_ ?_
    · rfl
    rw [vv, if_neg (by decide), ← e2]
    simp (config := { maxSteps := 1000000 }) (disch := ((try simp only [awL]); omega)) only [↓awU, awV, awF, ofVal, ofVal0, isShift, aggK, forall_const, ↓reduceIte, ↓reduceDIte, ↓purePost, combine, idsA, cellsA, numsOf, srcA, calleeA, refsA, isScalar, scalarD, scalar0, AV.one, putL, unfA, implies_true, IntKind.signed, Nat.reduceAdd, Nat.reduceSub, Nat.reduceMul, Nat.reducePow, Nat.reduceDiv, Nat.reduceMod, Int.reduceAdd, Int.reduceSub, Int.reduceMul, Int.reducePow, Int.reduceNeg, Int.reduceToNat, Int.reduceLT, Int.reduceLE, Nat.reduceEqDiff, sidsB, Nat.reduceBEq, keyKD, isIntK]
    simp [hn]
end Go.Proofs.YtkppgdialedoeaaGreatDoor

namespace Go.Proofs.YtkppgdialedoeaaGreatDoor
open Go Go.Proofs Go.Abs
variable {G : Globals}
set_option maxHeartbeats 4000000 in
set_option maxRecDepth 100000 in
theorem radd_spec (a b : Nat) (ha : (toW a).length < 2 ^ 40) (hb : (toW b).length < 2 ^ 40) :
    Ctr Tryz.prog G 93 [.d (W (toW a)), .d (W (toW b))] [] (.d (W (digs (max (toW a).length (toW b).length + 1) (a + b)))) [] := by
  have da := dig_toW a
  have db := dig_toW b
  have va := val_toW a
  have vb := val_toW b
  generalize toW a = l at *
  generalize toW b = m at *
  refine Ctr.pure (M := M0) hmix Tryz.func93 rfl go93 ?_
  simp (config := { maxSteps := 1000000 }) (disch := ((try simp only [awL]); omega)) only [Tryz.f93, ↓awU, awV, awF, ofVal, ofVal0, isShift, aggK, forall_const, ↓reduceIte, ↓reduceDIte, ↓purePost, combine, idsA, cellsA, numsOf, srcA, calleeA, refsA, isScalar, scalarD, scalar0, AV.one, putL, unfA, implies_true, IntKind.signed, Nat.reduceAdd, Nat.reduceSub, Nat.reduceMul, Nat.reducePow, Nat.reduceDiv, Nat.reduceMod, Int.reduceAdd, Int.reduceSub, Int.reduceMul, Int.reducePow, Int.reduceNeg, Int.reduceToNat, Int.reduceLT, Int.reduceLE, Nat.reduceEqDiff, sidsB, Nat.reduceBEq, keyKD, isIntK]
  refine LoopC.fr 3 (α := Nat × List Nat × Nat) (fun x => max l.length m.length - x.1) (fun x => [(5, .lsl 0 1 0 x.1), (6, .d (.int .u64 x.2.2)), (7, .d (.int .i64 x.1))])
    (fun x => [.row false (nats .u32 x.2.1)]) (fun x => x.1 ≤ max l.length m.length ∧ x.2.1.length = x.1 ∧ Dig x.2.1 ∧ x.2.2 ≤ 1 ∧ val x.2.1 + B ^ x.1 * x.2.2 = val (l.take x.1) + val (m.take x.1)) (0, [], 0) ⟨by simp, rfl, by simp [Dig], by simp, by simp [val]⟩ ?_ ?_
  · exact ⟨[none], rfl, by simp, by simp [setsA, keepA, SWeak, AWeak], by simp [HWeak, BWeak, nats]⟩
  · rintro ⟨k, out, c⟩ ⟨hk, ho, hd, hc, hv⟩
    simp only at hk ho hd hc hv
    simp only [keepA_z8, keepA_z, keepA_cons, keepA_nil, setsA_nil, setsA_cons, List.set_cons_zero, List.set_cons_succ, set_8, Nat.reduceMod, Nat.reduceDiv, Nat.zero_mod, Nat.zero_ne_one, if_true, if_false, reduceIte]
    have p1 : l.getD k 0 < 4294967296 := da.getD k
    have p2 : m.getD k 0 < 4294967296 := db.getD k
    replace hv := Hid.mk hv
    have fin : ∀ s, s = l.getD k 0 + m.getD k 0 + c → k < max l.length m.length → k + 1 ≤ max l.length m.length ∧ (out ++ [s % B]).length = k + 1 ∧ Dig (out ++ [s % B]) ∧ s / B ≤ 1 ∧ val (out ++ [s % B]) + B ^ (k + 1) * (s / B) = val (l.take (k + 1)) + val (m.take (k + 1)) := fun s hs hk2 =>
      ⟨hk2, by simp [ho], hd.append (by intro x hx; simp at hx; subst hx; exact Nat.mod_lt _ (by decide)), by simp only [B]; omega, ab_step ho hs hv.out⟩
    have z1 : l.length ≤ k → l.getD k 0 = 0 := fun h => by rw [List.getD_eq_getElem?_getD, List.getElem?_eq_none h]; rfl
    have z2 : m.length ≤ k → m.getD k 0 = 0 := fun h => by rw [List.getD_eq_getElem?_getD, List.getElem?_eq_none h]; rfl
    rcases Nat.lt_or_ge k l.length with h1 | h1 <;> rcases Nat.lt_or_ge k m.length with h2 | h2
    · simp (config := { maxSteps := 1000000 }) (disch := ((try simp only [awL]); omega)) only [w_u32, ↓awU, awV, awF, ofVal, ofVal0, isShift, aggK, forall_const, ↓reduceIte, ↓reduceDIte, ↓purePost, combine, idsA, cellsA, numsOf, srcA, calleeA, refsA, isScalar, scalarD, scalar0, AV.one, putL, unfA, implies_true, IntKind.signed, Nat.reduceAdd, Nat.reduceSub, Nat.reduceMul, Nat.reducePow, Nat.reduceDiv, Nat.reduceMod, Int.reduceAdd, Int.reduceSub, Int.reduceMul, Int.reducePow, Int.reduceNeg, Int.reduceToNat, Int.reduceLT, Int.reduceLE, Nat.reduceEqDiff, sidsB, Nat.reduceBEq, keyKD, isIntK]
      refine ⟨(k + 1, out ++ [(c + l.getD k 0 + m.getD k 0) % B], (c + l.getD k 0 + m.getD k 0) / B), fin _ (by omega) (by omega), by simp only; omega, [some 2], rfl, by simp, by simp [SWeak, AWeak, B], by simp [HWeak, BWeak, B]⟩
    · have := z2 h2
      simp (config := { maxSteps := 1000000 }) (disch := ((try simp only [awL]); omega)) only [w_u32, ↓awU, awV, awF, ofVal, ofVal0, isShift, aggK, forall_const, ↓reduceIte, ↓reduceDIte, ↓purePost, combine, idsA, cellsA, numsOf, srcA, calleeA, refsA, isScalar, scalarD, scalar0, AV.one, putL, unfA, implies_true, IntKind.signed, Nat.reduceAdd, Nat.reduceSub, Nat.reduceMul, Nat.reducePow, Nat.reduceDiv, Nat.reduceMod, Int.reduceAdd, Int.reduceSub, Int.reduceMul, Int.reducePow, Int.reduceNeg, Int.reduceToNat, Int.reduceLT, Int.reduceLE, Nat.reduceEqDiff, sidsB, Nat.reduceBEq, keyKD, isIntK]
      refine ⟨(k + 1, out ++ [(c + l.getD k 0) % B], (c + l.getD k 0) / B), fin _ (by omega) (by omega), by simp only; omega, [some 2], rfl, by simp, by simp [SWeak, AWeak, B], by simp [HWeak, BWeak, B]⟩
    · have := z1 h1
      simp (config := { maxSteps := 1000000 }) (disch := ((try simp only [awL]); omega)) only [w_u32, ↓awU, awV, awF, ofVal, ofVal0, isShift, aggK, forall_const, ↓reduceIte, ↓reduceDIte, ↓purePost, combine, idsA, cellsA, numsOf, srcA, calleeA, refsA, isScalar, scalarD, scalar0, AV.one, putL, unfA, implies_true, IntKind.signed, Nat.reduceAdd, Nat.reduceSub, Nat.reduceMul, Nat.reducePow, Nat.reduceDiv, Nat.reduceMod, Int.reduceAdd, Int.reduceSub, Int.reduceMul, Int.reducePow, Int.reduceNeg, Int.reduceToNat, Int.reduceLT, Int.reduceLE, Nat.reduceEqDiff, sidsB, Nat.reduceBEq, keyKD, isIntK]
      refine ⟨(k + 1, out ++ [(c + m.getD k 0) % B], (c + m.getD k 0) / B), fin _ (by omega) (by omega), by simp only; omega, [some 2], rfl, by simp, by simp [SWeak, AWeak, B], by simp [HWeak, BWeak, B]⟩
    · simp (config := { maxSteps := 1000000 }) (disch := ((try simp only [awL]); omega)) only [w_u32, ↓awU, awV, awF, ofVal, ofVal0, isShift, aggK, forall_const, ↓reduceIte, ↓reduceDIte, ↓purePost, combine, idsA, cellsA, numsOf, srcA, calleeA, refsA, isScalar, scalarD, scalar0, AV.one, putL, unfA, implies_true, IntKind.signed, Nat.reduceAdd, Nat.reduceSub, Nat.reduceMul, Nat.reducePow, Nat.reduceDiv, Nat.reduceMod, Int.reduceAdd, Int.reduceSub, Int.reduceMul, Int.reducePow, Int.reduceNeg, Int.reduceToNat, Int.reduceLT, Int.reduceLE, Nat.reduceEqDiff, sidsB, Nat.reduceBEq, keyKD, isIntK]
      have hk' : k = max l.length m.length := by omega
      have hv := hv.out
      rw [List.take_of_length_le (l := l) (by omega), List.take_of_length_le (l := m) (by omega), va, vb] at hv
      rw [← digs_eq (l := out ++ [c]) (hd.append (by intro x hx; simp at hx; subst hx; simp only [B]; omega)) (by simp; omega) (by rw [val_append, ho]; simpa [val] using hv)]
      simp [W, ho]
theorem sub_w {x y b : Nat} (hx : x < 4294967296) (hy : y < 4294967296) (hb : b ≤ 1) : IntKind.u32.wrap (-(b : Int) + (x : Int) - (y : Int)) = (((x + B - y - b) % B : Nat) : Int) := by
  simp [IntKind.wrap, IntKind.bits, IntKind.signed, B]; omega
theorem sub_c {x y b : Nat} (hx : x < 4294967296) (hy : y < 4294967296) (hb : b ≤ 1) : (-(b : Int) + (x : Int) - (y : Int)) / 4294967296 = -((if x < y + b then 1 else 0 : Nat) : Int) := by
  split <;> omega
set_option maxHeartbeats 4000000 in
set_option maxRecDepth 100000 in
theorem rsub_spec (a b : Nat) (hab : b ≤ a) (ha : (toW a).length < 2 ^ 40) :
    Ctr Tryz.prog G 94 [.d (W (toW a)), .d (W (toW b))] [] (.d (W (toW (a - b)))) [] := by
  have da := dig_toW a
  have db := dig_toW b
  have va := val_toW a
  have vb := val_toW b
  have hlen := toW_len_mono hab
  generalize toW a = l at *
  generalize toW b = m at *
  refine Ctr.pure (M := M0) hmix Tryz.func94 rfl go94 ?_
  simp (config := { maxSteps := 1000000 }) (disch := ((try simp only [awL]); omega)) only [Tryz.f94, ↓awU, awV, awF, ofVal, ofVal0, isShift, aggK, forall_const, ↓reduceIte, ↓reduceDIte, ↓purePost, combine, idsA, cellsA, numsOf, srcA, calleeA, refsA, isScalar, scalarD, scalar0, AV.one, putL, unfA, implies_true, IntKind.signed, Nat.reduceAdd, Nat.reduceSub, Nat.reduceMul, Nat.reducePow, Nat.reduceDiv, Nat.reduceMod, Int.reduceAdd, Int.reduceSub, Int.reduceMul, Int.reducePow, Int.reduceNeg, Int.reduceToNat, Int.reduceLT, Int.reduceLE, Nat.reduceEqDiff, sidsB, Nat.reduceBEq, keyKD, isIntK]
  refine LoopC.fr 3 (α := Nat × List Nat × Nat) (fun x => l.length - x.1) (fun x => [(5, .lsl 0 1 0 x.1), (6, .d (.int .i64 (-(x.2.2 : Int)))), (7, .d (.int .i64 x.1))])
    (fun x => [.row false (nats .u32 x.2.1)]) (fun x => x.1 ≤ l.length ∧ x.2.1.length = x.1 ∧ Dig x.2.1 ∧ x.2.2 ≤ 1 ∧ val x.2.1 + val (m.take x.1) = val (l.take x.1) + B ^ x.1 * x.2.2) (0, [], 0) ⟨by simp, rfl, by simp [Dig], by simp, by simp [val]⟩ ?_ ?_
  · exact ⟨[none], rfl, by simp, by simp [setsA, keepA, SWeak, AWeak], by simp [HWeak, BWeak, nats]⟩
  · rintro ⟨k, out, c⟩ ⟨hk, ho, hd, hc, hv⟩
    simp only at hk ho hd hc hv
    simp only [keepA_z8, keepA_z, keepA_cons, keepA_nil, setsA_nil, setsA_cons, List.set_cons_zero, List.set_cons_succ, set_8, Nat.reduceMod, Nat.reduceDiv, Nat.zero_mod, Nat.zero_ne_one, if_true, if_false, reduceIte]
    have p1 : l.getD k 0 < 4294967296 := da.getD k
    have p2 : m.getD k 0 < 4294967296 := db.getD k
    have sw := sub_w p1 p2 hc
    have sc := sub_c p1 p2 hc
    replace hv := Hid.mk hv
    have fin : ∀ s q, s = (l.getD k 0 + B - m.getD k 0 - c) % B → q = (if l.getD k 0 < m.getD k 0 + c then 1 else 0) → k < l.length → k + 1 ≤ l.length ∧ (out ++ [s]).length = k + 1 ∧ Dig (out ++ [s]) ∧ q ≤ 1 ∧ val (out ++ [s]) + val (m.take (k + 1)) = val (l.take (k + 1)) + B ^ (k + 1) * q := fun s q hs hq hk2 =>
      ⟨hk2, by simp [ho], hd.append (by intro x hx; simp at hx; subst hx; rw [hs]; exact Nat.mod_lt _ (by decide)), by rw [hq]; split <;> omega, minus_step ho hv.out (by rw [hs, hq]; exact sub_digit (da.getD k) (db.getD k) hc)⟩
    have z2 : m.length ≤ k → m.getD k 0 = 0 := fun h => by rw [List.getD_eq_getElem?_getD, List.getElem?_eq_none h]; rfl
    rcases Nat.lt_or_ge k l.length with h1 | h1
    · rcases Nat.lt_or_ge k m.length with h2 | h2
      · simp (config := { maxSteps := 1000000 }) (disch := ((try simp only [awL]); omega)) only [sw, sc, ↓awU, awV, awF, ofVal, ofVal0, isShift, aggK, forall_const, ↓reduceIte, ↓reduceDIte, ↓purePost, combine, idsA, cellsA, numsOf, srcA, calleeA, refsA, isScalar, scalarD, scalar0, AV.one, putL, unfA, implies_true, IntKind.signed, Nat.reduceAdd, Nat.reduceSub, Nat.reduceMul, Nat.reducePow, Nat.reduceDiv, Nat.reduceMod, Int.reduceAdd, Int.reduceSub, Int.reduceMul, Int.reducePow, Int.reduceNeg, Int.reduceToNat, Int.reduceLT, Int.reduceLE, Nat.reduceEqDiff, sidsB, Nat.reduceBEq, keyKD, isIntK]
        exact ⟨(k + 1, out ++ [(l.getD k 0 + B - m.getD k 0 - c) % B], if l.getD k 0 < m.getD k 0 + c then 1 else 0), fin _ _ rfl rfl h1, by simp only; omega, [some 2], rfl, by simp, by simp [SWeak, AWeak], by simp [HWeak, BWeak]⟩
      · have hz := z2 h2
        have sw2 : IntKind.u32.wrap (-(c : Int) + (l.getD k 0 : Int)) = (((l.getD k 0 + B - m.getD k 0 - c) % B : Nat) : Int) := by rw [← sw, hz]; congr 1; omega
        have sc2 : (-(c : Int) + (l.getD k 0 : Int)) / 4294967296 = -((if l.getD k 0 < m.getD k 0 + c then 1 else 0 : Nat) : Int) := by rw [← sc, hz]; congr 1; omega
        simp (config := { maxSteps := 1000000 }) (disch := ((try simp only [awL]); omega)) only [sw2, sc2, ↓awU, awV, awF, ofVal, ofVal0, isShift, aggK, forall_const, ↓reduceIte, ↓reduceDIte, ↓purePost, combine, idsA, cellsA, numsOf, srcA, calleeA, refsA, isScalar, scalarD, scalar0, AV.one, putL, unfA, implies_true, IntKind.signed, Nat.reduceAdd, Nat.reduceSub, Nat.reduceMul, Nat.reducePow, Nat.reduceDiv, Nat.reduceMod, Int.reduceAdd, Int.reduceSub, Int.reduceMul, Int.reducePow, Int.reduceNeg, Int.reduceToNat, Int.reduceLT, Int.reduceLE, Nat.reduceEqDiff, sidsB, Nat.reduceBEq, keyKD, isIntK]
        exact ⟨(k + 1, out ++ [(l.getD k 0 + B - m.getD k 0 - c) % B], if l.getD k 0 < m.getD k 0 + c then 1 else 0), fin _ _ rfl rfl h1, by simp only; omega, [some 2], rfl, by simp, by simp [SWeak, AWeak], by simp [HWeak, BWeak]⟩
    · simp (config := { maxSteps := 1000000 }) (disch := ((try simp only [awL]); omega)) only [↓awU, awV, awF, ofVal, ofVal0, isShift, aggK, forall_const, ↓reduceIte, ↓reduceDIte, ↓purePost, combine, idsA, cellsA, numsOf, srcA, calleeA, refsA, isScalar, scalarD, scalar0, AV.one, putL, unfA, implies_true, IntKind.signed, Nat.reduceAdd, Nat.reduceSub, Nat.reduceMul, Nat.reducePow, Nat.reduceDiv, Nat.reduceMod, Int.reduceAdd, Int.reduceSub, Int.reduceMul, Int.reducePow, Int.reduceNeg, Int.reduceToNat, Int.reduceLT, Int.reduceLE, Nat.reduceEqDiff, sidsB, Nat.reduceBEq, keyKD, isIntK]
      have ek : k = l.length := by omega
      have hv := hv.out
      rw [ek, List.take_of_length_le (Nat.le_refl _), List.take_of_length_le hlen, va, vb] at hv
      have h3 := val_lt hd
      rw [ho, ek] at h3
      have hv' : val out = a - b := minus_end hv h3 hab hc
      refine CallC.frozenE (rtrim_spec out hd (by omega)) (by simp [W, ho]) ?_
      rw [hv']
      simp (config := { maxSteps := 1000000 }) (disch := ((try simp only [awL]); omega)) only [↓awU, awV, awF, ofVal, ofVal0, isShift, aggK, forall_const, ↓reduceIte, ↓reduceDIte, ↓purePost, combine, idsA, cellsA, numsOf, srcA, calleeA, refsA, isScalar, scalarD, scalar0, AV.one, putL, unfA, implies_true, IntKind.signed, Nat.reduceAdd, Nat.reduceSub, Nat.reduceMul, Nat.reducePow, Nat.reduceDiv, Nat.reduceMod, Int.reduceAdd, Int.reduceSub, Int.reduceMul, Int.reducePow, Int.reduceNeg, Int.reduceToNat, Int.reduceLT, Int.reduceLE, Nat.reduceEqDiff, sidsB, Nat.reduceBEq, keyKD, isIntK]
end Go.Proofs.YtkppgdialedoeaaGreatDoor

namespace Go.Proofs.YtkppgdialedoeaaGreatDoor
open Go Go.Proofs Go.Abs
variable {G : Globals}
theorem tw_step {out l : List Nat} {k c x d0 : Nat} (ho : out.length = k) (hx : l.getD k 0 = x) (hv : val out + B ^ k * c = 2 * val (l.take k) + d0) :
    val (out ++ [(2 * x + c) % B]) + B ^ (k + 1) * ((2 * x + c) / B) = 2 * val (l.take (k + 1)) + d0 := by
  rw [val_append, ho, take_val l k, hx]
  simp only [val, Nat.mul_zero, Nat.add_zero]
  have h1 := Nat.mod_add_div (2 * x + c) B
  have e1 : B ^ (k + 1) * ((2 * x + c) / B) = B ^ k * (B * ((2 * x + c) / B)) := by rw [Nat.pow_succ, Nat.mul_assoc]
  have e3 : B ^ k * ((2 * x + c) % B + B * ((2 * x + c) / B)) = B ^ k * (2 * x + c) := by rw [h1]
  rw [e1]
  simp only [Nat.mul_add] at e3 ⊢
  have e4 : B ^ k * (2 * x) = 2 * (B ^ k * x) := Nat.mul_left_comm ..
  omega
theorem tw_or {x c : Nat} (hx : x < 4294967296) (hc : c ≤ 1) : bitsI .or .u32 (IntKind.u32.wrap ((x : Int) * 2)) (c : Int) = (((2 * x + c) % B : Nat) : Int) := by
  have e1 : IntKind.u32.wrap ((x : Int) * 2) = ((x * 2 ^ 1 % 4294967296 : Nat) : Int) := by rw [← w_u32]; congr 1
  rw [e1, low_mul (by decide), bi_u32_or_nat (by omega) (by omega), Nat.or_comm, or_low (by omega)]
  simp only [B]
  omega
set_option maxHeartbeats 4000000 in
set_option maxRecDepth 100000 in
theorem twice_spec (a d : Nat) (hd1 : d ≤ 1) (ha : (toW a).length < 2 ^ 40) :
    Ctr Tryz.prog G 99 [.d (W (toW a)), .d (.int .u32 d)] [] (.d (W (toW (2 * a + d)))) [] := by
  have da := dig_toW a
  have va := val_toW a
  generalize toW a = l at *
  refine Ctr.pure (M := M0) hmix Tryz.func99 rfl go99 ?_
  simp (config := { maxSteps := 1000000 }) (disch := ((try simp only [awL]); omega)) only [Tryz.f99, ↓awU, awV, awF, ofVal, ofVal0, isShift, aggK, forall_const, ↓reduceIte, ↓reduceDIte, ↓purePost, combine, idsA, cellsA, numsOf, srcA, calleeA, refsA, isScalar, scalarD, scalar0, AV.one, putL, unfA, implies_true, IntKind.signed, Nat.reduceAdd, Nat.reduceSub, Nat.reduceMul, Nat.reducePow, Nat.reduceDiv, Nat.reduceMod, Int.reduceAdd, Int.reduceSub, Int.reduceMul, Int.reducePow, Int.reduceNeg, Int.reduceToNat, Int.reduceLT, Int.reduceLE, Nat.reduceEqDiff, sidsB, Nat.reduceBEq, keyKD, isIntK]
  refine LoopC.fr 1 (α := Nat × List Nat × Nat) (fun x => l.length - x.1) (fun x => [(1, .d (.int .u32 x.2.2)), (5, .lsl 0 1 0 x.1), (6, .d (.int .i64 x.1))])
    (fun x => [.row false (nats .u32 x.2.1)]) (fun x => x.1 ≤ l.length ∧ x.2.1.length = x.1 ∧ Dig x.2.1 ∧ x.2.2 ≤ 1 ∧ val x.2.1 + B ^ x.1 * x.2.2 = 2 * val (l.take x.1) + d) (0, [], d) ⟨by simp, rfl, by simp [Dig], hd1, by simp [val]⟩ ?_ ?_
  · exact ⟨[none], rfl, by simp, by simp [setsA, keepA, SWeak, AWeak], by simp [HWeak, BWeak, nats]⟩
  · rintro ⟨k, out, c⟩ ⟨hk, ho, hd, hc, hv⟩
    simp only at hk ho hd hc hv
    simp only [keepA_z8, keepA_z, keepA_cons, keepA_nil, setsA_nil, setsA_cons, List.set_cons_zero, List.set_cons_succ, set_8, Nat.reduceMod, Nat.reduceDiv, Nat.zero_mod, Nat.zero_ne_one, if_true, if_false, reduceIte]
    have p1 : l.getD k 0 < 4294967296 := da.getD k
    replace hv := Hid.mk hv
    rcases Nat.lt_or_ge k l.length with h1 | h1
    · have hor := tw_or p1 hc
      simp (config := { maxSteps := 1000000 }) (disch := ((try simp only [awL]); omega)) only [hor, ↓awU, awV, awF, ofVal, ofVal0, isShift, aggK, forall_const, ↓reduceIte, ↓reduceDIte, ↓purePost, combine, idsA, cellsA, numsOf, srcA, calleeA, refsA, isScalar, scalarD, scalar0, AV.one, putL, unfA, implies_true, IntKind.signed, Nat.reduceAdd, Nat.reduceSub, Nat.reduceMul, Nat.reducePow, Nat.reduceDiv, Nat.reduceMod, Int.reduceAdd, Int.reduceSub, Int.reduceMul, Int.reducePow, Int.reduceNeg, Int.reduceToNat, Int.reduceLT, Int.reduceLE, Nat.reduceEqDiff, sidsB, Nat.reduceBEq, keyKD, isIntK]
      refine ⟨(k + 1, out ++ [(2 * l.getD k 0 + c) % B], (2 * l.getD k 0 + c) / B), ⟨by simp only; omega, by simp [ho], hd.append (by intro x hx; simp at hx; subst hx; exact Nat.mod_lt _ (by decide)), by simp only [B]; omega, tw_step ho rfl hv.out⟩, by simp only; omega, [some 2], rfl, by simp, ?_, by simp [HWeak, BWeak]⟩
      have e : ((l.getD k 0 : Nat) : Int) / 2147483648 = (((2 * l.getD k 0 + c) / B : Nat) : Int) := by simp only [B]; omega
      rw [e]
      simp [SWeak, AWeak]
    · simp (config := { maxSteps := 1000000 }) (disch := ((try simp only [awL]); omega)) only [↓awU, awV, awF, ofVal, ofVal0, isShift, aggK, forall_const, ↓reduceIte, ↓reduceDIte, ↓purePost, combine, idsA, cellsA, numsOf, srcA, calleeA, refsA, isScalar, scalarD, scalar0, AV.one, putL, unfA, implies_true, IntKind.signed, Nat.reduceAdd, Nat.reduceSub, Nat.reduceMul, Nat.reducePow, Nat.reduceDiv, Nat.reduceMod, Int.reduceAdd, Int.reduceSub, Int.reduceMul, Int.reducePow, Int.reduceNeg, Int.reduceToNat, Int.reduceLT, Int.reduceLE, Nat.reduceEqDiff, sidsB, Nat.reduceBEq, keyKD, isIntK]
      have hk' : k = l.length := by omega
      have hv := hv.out
      rw [List.take_of_length_le (by omega), va] at hv
      have hv' : val (out ++ [c]) = 2 * a + d := by rw [val_append, ho]; simpa [val] using hv
      refine CallC.frozenE (rtrim_spec (out ++ [c]) (hd.append (by intro x hx; simp at hx; subst hx; simp only [B]; omega)) (by simp; omega)) (by simp [W, ho]) ?_
      rw [hv']
      simp (config := { maxSteps := 1000000 }) (disch := ((try simp only [awL]); omega)) only [↓awU, awV, awF, ofVal, ofVal0, isShift, aggK, forall_const, ↓reduceIte, ↓reduceDIte, ↓purePost, combine, idsA, cellsA, numsOf, srcA, calleeA, refsA, isScalar, scalarD, scalar0, AV.one, putL, unfA, implies_true, IntKind.signed, Nat.reduceAdd, Nat.reduceSub, Nat.reduceMul, Nat.reducePow, Nat.reduceDiv, Nat.reduceMod, Int.reduceAdd, Int.reduceSub, Int.reduceMul, Int.reducePow, Int.reduceNeg, Int.reduceToNat, Int.reduceLT, Int.reduceLE, Nat.reduceEqDiff, sidsB, Nat.reduceBEq, keyKD, isIntK]
theorem bit_spec (l : List Nat) (i : Nat) (hi : i < 32 * l.length) (hl : l.length < 2 ^ 40) (hd : Dig l) :
    Ctr Tryz.prog G 106 [.d (W l), .d (.int .i64 i)] [] (.d (.int .u32 (l.getD (i / 32) 0 / 2 ^ (i % 32) % 2 : Nat))) [] := by
  refine Ctr.pure (M := M0) hmix Tryz.func106 rfl go106 ?_
  have p1 : l.getD (i / 32) 0 < 4294967296 := hd.getD (i / 32)
  have e1 : Int.tdiv (i : Int) 32 = ((i / 32 : Nat) : Int) := by rw [Int.tdiv_eq_ediv_of_nonneg (by omega)]; omega
  have e2 : Int.tmod (i : Int) 32 = ((i % 32 : Nat) : Int) := by rw [Int.tmod_eq_emod_of_nonneg (by omega)]; omega
  have e3 : min (i % 32) 32 = i % 32 := by omega
  have hm : (2 : Int) ^ (i % 32) = ((2 ^ (i % 32) : Nat) : Int) := by simp
  have hle := Nat.div_le_self (l.getD (i / 32) 0) (2 ^ (i % 32))
  have e4 : bitsI .and .u32 ((l.getD (i / 32) 0 / 2 ^ (i % 32) : Nat) : Int) 1 = ((l.getD (i / 32) 0 / 2 ^ (i % 32) % 2 : Nat) : Int) := by
    have := bi_u32_and_nat (a := l.getD (i / 32) 0 / 2 ^ (i % 32)) (b := 1) (by omega) (by omega)
    rw [Nat.and_one_is_mod] at this
    exact this
  simp (config := { maxSteps := 1000000 }) (disch := ((try simp only [awL]); omega)) only [Tryz.f106, e1, e2, e3, hm, fdiv_nat, e4, ↓awU, awV, awF, ofVal, ofVal0, isShift, aggK, forall_const, ↓reduceIte, ↓reduceDIte, ↓purePost, combine, idsA, cellsA, numsOf, srcA, calleeA, refsA, isScalar, scalarD, scalar0, AV.one, putL, unfA, implies_true, IntKind.signed, Nat.reduceAdd, Nat.reduceSub, Nat.reduceMul, Nat.reducePow, Nat.reduceDiv, Nat.reduceMod, Int.reduceAdd, Int.reduceSub, Int.reduceMul, Int.reducePow, Int.reduceNeg, Int.reduceToNat, Int.reduceLT, Int.reduceLE, Nat.reduceEqDiff, sidsB, Nat.reduceBEq, keyKD, isIntK]
theorem set_get {l : List Nat} {i v : Nat} (h : i < l.length) : (l.set i v).getD i 0 = v := by
  rw [List.getD_eq_getElem?_getD, List.getElem?_set_self h]; rfl
theorem hf_or {x y : Nat} (hx : x < 4294967296) : bitsI .or .u32 ((x / 2 : Nat) : Int) (IntKind.u32.wrap ((y : Int) * 2147483648)) = (((y * B + x) / 2 ^ 1 % B : Nat) : Int) := by
  have e1 : IntKind.u32.wrap ((y : Int) * 2147483648) = ((y * 2 ^ 31 % 4294967296 : Nat) : Int) := by rw [← w_u32]; congr 1
  rw [e1, low_mul (by decide), bi_u32_or_nat (by omega) (by omega), or_low (by omega)]
  simp only [B]
  omega
set_option maxHeartbeats 4000000 in
set_option maxRecDepth 100000 in
theorem half_spec (a : Nat) (ha : (toW a).length < 2 ^ 38) :
    Ctr Tryz.prog G 98 [.d (W (toW a))] [] (.d (W (toW (a / 2)))) [] := by
  have da := dig_toW a
  have va := val_toW a
  have la := lt_of_toW a
  have ea := toW_digs a
  generalize toW a = l at *
  refine Ctr.pure (M := M0) hmix Tryz.func98 rfl go98 ?_
  simp (config := { maxSteps := 1000000 }) (disch := ((try simp only [awL]); omega)) only [Tryz.f98, ↓awU, awV, awF, ofVal, ofVal0, isShift, aggK, forall_const, ↓reduceIte, ↓reduceDIte, ↓purePost, combine, idsA, cellsA, numsOf, srcA, calleeA, refsA, isScalar, scalarD, scalar0, AV.one, putL, unfA, implies_true, IntKind.signed, Nat.reduceAdd, Nat.reduceSub, Nat.reduceMul, Nat.reducePow, Nat.reduceDiv, Nat.reduceMod, Int.reduceAdd, Int.reduceSub, Int.reduceMul, Int.reducePow, Int.reduceNeg, Int.reduceToNat, Int.reduceLT, Int.reduceLE, Nat.reduceEqDiff, sidsB, Nat.reduceBEq, keyKD, isIntK]
  refine LoopC.fr 513 (α := Nat) (fun i => l.length - i) (fun i => [(3, .lsl 0 1 0 l.length), (10, .d (.int .i64 i))])
    (fun i => [.row false (nats .u32 (backRow l.length 1 a i))]) (fun i => i ≤ l.length) 0 (Nat.zero_le _) ?_ ?_
  · exact ⟨[some 1], rfl, by simp, by simp [setsA, keepA, SWeak, AWeak], by simp [HWeak, BWeak, backRow_zero, ← ea]⟩
  · intro i hi
    simp only [keepA_z8, keepA_z, keepA_cons, keepA_nil, setsA_nil, setsA_cons, List.set_cons_zero, List.set_cons_succ, set_8, Nat.reduceMod, Nat.reduceDiv, Nat.zero_mod, Nat.zero_ne_one, if_true, if_false, reduceIte]
    have b1 := backRow_length (s := 1) (r := a) hi
    rcases Nat.lt_or_ge i l.length with h1 | h1
    · have b3 := backRow_getD (s := 1) (r := a) h1
      have hun := unshift (r := a) (i := i) (show 1 < 32 by decide)
      have bs := backRow_set (s := 1) (r := a) h1
      have bg : ∀ v, ((backRow l.length 1 a i).set i v).getD i 0 = v := fun v => set_get (by rw [b1]; exact h1)
      have p1 : a / B ^ i % B < 4294967296 := Nat.mod_lt _ (by decide)
      have p2 : l.getD (i + 1) 0 < 4294967296 := da.getD _
      rcases Nat.lt_or_ge (i + 1) l.length with h2 | h2
      · have hy : l.getD (i + 1) 0 = a / B ^ (i + 1) % B := by
          have := digs_getD (k := l.length) (n := a) h2
          rwa [← ea] at this
        have hor := hf_or (x := a / B ^ i % B) (y := l.getD (i + 1) 0) p1
        have ed : ((a / B ^ i % B : Nat) : Int) / 2 = ((a / B ^ i % B / 2 : Nat) : Int) := rfl
        rw [hy] at hor
        have hun' : (a / B ^ (i + 1) % B * B + a / B ^ i % B) / 2 ^ 1 % B = a / 2 ^ 1 / B ^ i % B := hun
        rw [hun'] at hor
        simp (config := { maxSteps := 1000000 }) (disch := ((try simp only [awL]); omega)) only [b1, b3, bg, ed, hy, hor, List.set_set, ↓awU, awV, awF, ofVal, ofVal0, isShift, aggK, forall_const, ↓reduceIte, ↓reduceDIte, ↓purePost, combine, idsA, cellsA, numsOf, srcA, calleeA, refsA, isScalar, scalarD, scalar0, AV.one, putL, unfA, implies_true, IntKind.signed, Nat.reduceAdd, Nat.reduceSub, Nat.reduceMul, Nat.reducePow, Nat.reduceDiv, Nat.reduceMod, Int.reduceAdd, Int.reduceSub, Int.reduceMul, Int.reducePow, Int.reduceNeg, Int.reduceToNat, Int.reduceLT, Int.reduceLE, Nat.reduceEqDiff, sidsB, Nat.reduceBEq, keyKD, isIntK]
        refine ⟨by rfl, i + 1, h1, by simp only; omega, [some 0], rfl, by simp, by simp [SWeak, AWeak], ?_⟩
        simp only [bs]
        simp [HWeak, BWeak]
      · have hy : a / B ^ (i + 1) = 0 := Nat.div_eq_of_lt (Nat.lt_of_lt_of_le la (Nat.pow_le_pow_right (by decide) h2))
        have ed : ((a / B ^ i % B : Nat) : Int) / 2 = ((a / 2 ^ 1 / B ^ i % B : Nat) : Int) := by
          rw [← hun, hy]
          simp only [B] at p1 ⊢
          omega
        simp (config := { maxSteps := 1000000 }) (disch := ((try simp only [awL]); omega)) only [b1, b3, bg, ed, ↓awU, awV, awF, ofVal, ofVal0, isShift, aggK, forall_const, ↓reduceIte, ↓reduceDIte, ↓purePost, combine, idsA, cellsA, numsOf, srcA, calleeA, refsA, isScalar, scalarD, scalar0, AV.one, putL, unfA, implies_true, IntKind.signed, Nat.reduceAdd, Nat.reduceSub, Nat.reduceMul, Nat.reducePow, Nat.reduceDiv, Nat.reduceMod, Int.reduceAdd, Int.reduceSub, Int.reduceMul, Int.reducePow, Int.reduceNeg, Int.reduceToNat, Int.reduceLT, Int.reduceLE, Nat.reduceEqDiff, sidsB, Nat.reduceBEq, keyKD, isIntK]
        refine ⟨i + 1, h1, by simp only; omega, [some 0], rfl, by simp, by simp [SWeak, AWeak], ?_⟩
        simp only [bs]
        simp [HWeak, BWeak]
    · simp (config := { maxSteps := 1000000 }) (disch := ((try simp only [awL]); omega)) only [b1, ↓awU, awV, awF, ofVal, ofVal0, isShift, aggK, forall_const, ↓reduceIte, ↓reduceDIte, ↓purePost, combine, idsA, cellsA, numsOf, srcA, calleeA, refsA, isScalar, scalarD, scalar0, AV.one, putL, unfA, implies_true, IntKind.signed, Nat.reduceAdd, Nat.reduceSub, Nat.reduceMul, Nat.reducePow, Nat.reduceDiv, Nat.reduceMod, Int.reduceAdd, Int.reduceSub, Int.reduceMul, Int.reducePow, Int.reduceNeg, Int.reduceToNat, Int.reduceLT, Int.reduceLE, Nat.reduceEqDiff, sidsB, Nat.reduceBEq, keyKD, isIntK]
      have ei : i = l.length := by omega
      subst ei
      have er : backRow l.length 1 a l.length = digs l.length (a / 2) := by
        rw [backRow, List.drop_of_length_le (by rw [digs_length]; omega), List.append_nil]
      refine CallC.frozenE (rtrim_spec (backRow l.length 1 a l.length) dig_backRow (by rw [b1]; omega)) (by simp [W, b1]) ?_
      rw [er, val_digs (by omega)]
      simp (config := { maxSteps := 1000000 }) (disch := ((try simp only [awL]); omega)) only [↓awU, awV, awF, ofVal, ofVal0, isShift, aggK, forall_const, ↓reduceIte, ↓reduceDIte, ↓purePost, combine, idsA, cellsA, numsOf, srcA, calleeA, refsA, isScalar, scalarD, scalar0, AV.one, putL, unfA, implies_true, IntKind.signed, Nat.reduceAdd, Nat.reduceSub, Nat.reduceMul, Nat.reducePow, Nat.reduceDiv, Nat.reduceMod, Int.reduceAdd, Int.reduceSub, Int.reduceMul, Int.reducePow, Int.reduceNeg, Int.reduceToNat, Int.reduceLT, Int.reduceLE, Nat.reduceEqDiff, sidsB, Nat.reduceBEq, keyKD, isIntK]
end Go.Proofs.YtkppgdialedoeaaGreatDoor

namespace Go.Proofs.YtkppgdialedoeaaGreatDoor
open Go Go.Proofs Go.Abs
variable {G : Globals}
theorem digs_getD' {k n i : Nat} (h : i < k) : (digs k n).getD i 0 = n / B ^ i % B := by
  induction k generalizing n i with
  | zero => omega
  | succ k ih =>
    cases i with
    | zero => simp [digs]
    | succ i =>
      have := @ih (n / B) i (by omega)
      simp only [digs, List.getD_cons_succ, this]
      rw [Nat.div_div_eq_div_mul, ← Nat.pow_succ']
theorem B_pow : B = 2 ^ 32 := rfl
/-- One bit more: the row of digits. -/
theorem set_bit {n X j : Nat} (hj : j / 32 < n) (hX : X < B ^ n) (hd : 2 ^ (j + 1) ∣ X) :
    (digs n X).set (j / 32) (X / B ^ (j / 32) % B ||| 2 ^ (j % 32)) = digs n (X + 2 ^ j) ∧ X / B ^ (j / 32) % B ||| 2 ^ (j % 32) < 4294967296 := by
  have hs : j % 32 < 32 := Nat.mod_lt _ (by decide)
  have hw : X / B ^ (j / 32) % B < 4294967296 := Nat.mod_lt _ (by decide)
  have hlt : X / B ^ (j / 32) % B ||| 2 ^ (j % 32) < 2 ^ 32 := Nat.or_lt_two_pow (by omega) (Nat.pow_lt_pow_right (by decide) hs)
  have hp : B ^ (j / 32) * 2 ^ (j % 32) = 2 ^ j := by
    rw [B_pow, ← Nat.pow_mul, ← Nat.pow_add, Nat.div_add_mod]
  have hm : 2 ^ (j % 32 + 1) ∣ X / B ^ (j / 32) % B := by
    have h1 : 2 ^ (j % 32 + 1) ∣ B := by rw [B_pow]; exact Nat.pow_dvd_pow 2 hs
    have h2 : 2 ^ (j % 32 + 1) ∣ X / B ^ (j / 32) := by
      obtain ⟨c, hc⟩ := hd
      have : X = B ^ (j / 32) * (2 ^ (j % 32 + 1) * c) := by
        rw [hc, Nat.pow_succ, ← hp, Nat.pow_succ, Nat.mul_assoc, Nat.mul_assoc, Nat.mul_assoc]
      rw [this, Nat.mul_div_cancel_left _ (Nat.pow_pos (by decide))]
      exact ⟨c, rfl⟩
    exact (Nat.dvd_mod_iff h1).2 h2
  obtain ⟨c, hc⟩ := hm
  have hor : X / B ^ (j / 32) % B ||| 2 ^ (j % 32) = X / B ^ (j / 32) % B + 2 ^ (j % 32) := by
    rw [Nat.or_comm, Nat.add_comm, hc, Nat.mul_comm]
    exact or_low (Nat.pow_lt_pow_right (by decide) (Nat.lt_succ_self _))
  refine ⟨?_, hlt⟩
  refine digs_eq ((dig_digs _ _).set hlt) (by rw [List.length_set, digs_length]) ?_
  have h1 := val_set (l := digs n X) (p := j / 32) (d := X / B ^ (j / 32) % B ||| 2 ^ (j % 32)) (by rw [digs_length]; exact hj)
  rw [digs_getD' hj, val_digs hX, hor, Nat.mul_add, hp] at h1
  rw [hor]
  omega
theorem div_bit {a b j : Nat} (hb : 0 < b) : ∃ bit r', bit = a / 2 ^ j % 2 ∧ r' = 2 * (a / 2 ^ (j + 1) % b) + bit ∧
    (b ≤ r' → a / 2 ^ j % b = r' - b ∧ a / 2 ^ j / b * 2 ^ j = a / 2 ^ (j + 1) / b * 2 ^ (j + 1) + 2 ^ j) ∧
    (r' < b → a / 2 ^ j % b = r' ∧ a / 2 ^ j / b * 2 ^ j = a / 2 ^ (j + 1) / b * 2 ^ (j + 1)) := by
  refine ⟨_, _, rfl, rfl, ?_⟩
  have e1 : a / 2 ^ (j + 1) = a / 2 ^ j / 2 := by rw [Nat.pow_succ, Nat.div_div_eq_div_mul]
  have e2 : ∀ q, q * 2 ^ (j + 1) = 2 * q * 2 ^ j := fun q => by rw [Nat.pow_succ]; rw [Nat.mul_comm 2 q, Nat.mul_assoc, Nat.mul_comm 2]
  rw [e1]
  generalize a / 2 ^ j = x
  have h1 := Nat.mod_add_div x 2
  have h2 := Nat.mod_add_div (x / 2) b
  have h3 := Nat.mod_lt (x / 2) hb
  generalize x / 2 / b = q at *
  generalize x / 2 % b = r at *
  have hx : x = b * (2 * q) + (2 * r + x % 2) := by
    have : b * (2 * q) = 2 * (b * q) := Nat.mul_left_comm ..
    omega
  generalize x % 2 = c at *
  have hc : c ≤ 1 ∨ True := .inr trivial
  refine ⟨fun h => ?_, fun h => ?_⟩
  · have hq : x / b = 2 * q + 1 ∧ x % b = 2 * r + c - b := by
      have hlt : 2 * r + c - b < b := by omega
      have : x = (2 * r + c - b) + b * (2 * q + 1) := by rw [Nat.mul_add, Nat.mul_one]; omega
      rw [this]
      exact ⟨by rw [Nat.add_mul_div_left _ _ hb, Nat.div_eq_of_lt hlt, Nat.zero_add], by rw [Nat.add_mul_mod_self_left, Nat.mod_eq_of_lt hlt]⟩
    rw [hq.1, hq.2, e2, Nat.add_mul, Nat.one_mul]
    exact ⟨rfl, rfl⟩
  · have hq : x / b = 2 * q ∧ x % b = 2 * r + c := by
      have : x = (2 * r + c) + b * (2 * q) := by omega
      rw [this]
      exact ⟨by rw [Nat.add_mul_div_left _ _ hb, Nat.div_eq_of_lt h, Nat.zero_add], by rw [Nat.add_mul_mod_self_left, Nat.mod_eq_of_lt h]⟩
    rw [hq.1, hq.2, e2]
    exact ⟨rfl, rfl⟩
theorem bit_of {a j : Nat} (hj : j / 32 < (toW a).length) : (toW a).getD (j / 32) 0 / 2 ^ (j % 32) % 2 = a / 2 ^ j % 2 := by
  have h1 : (toW a).getD (j / 32) 0 = a / B ^ (j / 32) % B := by
    have := digs_getD' (k := (toW a).length) (n := a) hj
    rwa [← toW_digs a] at this
  rw [h1]
  have hp : B ^ (j / 32) * 2 ^ (j % 32) = 2 ^ j := by
    rw [B_pow, ← Nat.pow_mul, ← Nat.pow_add, Nat.div_add_mod]
  rw [← hp, ← Nat.div_div_eq_div_mul]
  generalize a / B ^ (j / 32) = y
  have hs : j % 32 < 32 := Nat.mod_lt _ (by decide)
  have : B = 2 ^ (j % 32) * (2 * 2 ^ (31 - j % 32)) := by
    rw [← Nat.pow_succ', ← Nat.pow_add, B_pow]; congr 1; omega
  rw [this, Nat.mod_mul_right_div_self, Nat.mod_mul_right_mod]
set_option maxHeartbeats 4000000 in
set_option maxRecDepth 100000 in
theorem div_spec (a b : Nat) (hb : b ≠ 0) (ha : (toW a).length < 2 ^ 38) (hb' : (toW b).length < 2 ^ 38) :
    Ctr Tryz.prog G 83 [.d (W (toW a)), .d (W (toW b))] [] (.d (.tup [W (toW (a / b)), W (toW (a % b))])) [] := by
  have da := dig_toW a
  have la := lt_of_toW a
  have hbp : 0 < b := Nat.pos_of_ne_zero hb
  have hbit : ∀ j, j / 32 < (toW a).length → _ := fun j hj => bit_of (a := a) (j := j) hj
  refine Ctr.pure (M := M0) hmix Tryz.func83 rfl go83 ?_
  generalize hl : (toW a).length = n at *
  have e0 : a / 2 ^ (32 * n) = 0 := Nat.div_eq_of_lt (by rw [Nat.pow_mul]; exact la)
  simp (config := { maxSteps := 1000000 }) (disch := ((try simp only [awL]); omega)) only [Tryz.f83, hl, ↓awU, awV, awF, ofVal, ofVal0, isShift, aggK, forall_const, ↓reduceIte, ↓reduceDIte, ↓purePost, combine, idsA, cellsA, numsOf, srcA, calleeA, refsA, isScalar, scalarD, scalar0, AV.one, putL, unfA, implies_true, IntKind.signed, Nat.reduceAdd, Nat.reduceSub, Nat.reduceMul, Nat.reducePow, Nat.reduceDiv, Nat.reduceMod, Int.reduceAdd, Int.reduceSub, Int.reduceMul, Int.reducePow, Int.reduceNeg, Int.reduceToNat, Int.reduceLT, Int.reduceLE, Nat.reduceEqDiff, sidsB, Nat.reduceBEq, keyKD, isIntK]
  refine LoopC.fx 19 (α := Nat) (β := Unit) (fun k => k) (fun k => [(5, .d (W (toW (a / 2 ^ k % b)))), (6, .d (.int .i64 ((k : Int) - 1)))])
    (fun k => [.row false (nats .u32 (digs n (a / 2 ^ k / b * 2 ^ k)))]) (fun k => k ≤ 32 * n)
    16 (fun _ => [(5, .d (W (toW (a % b))))]) (fun _ => [.row false (nats .u32 (digs n (a / b)))]) (fun _ => True) (32 * n) (Nat.le_refl _) ?_ ?_ ?_
  · rw [e0, Nat.zero_mod, Nat.zero_div, Nat.zero_mul]
    have hz : digs n 0 = List.replicate n 0 := (digs_eq (Dig.zeros n) (by simp) (val_zeros n)).symm
    refine ⟨[some 0], rfl, by simp, ?_, ?_⟩
    · simp [setsA, keepA, SWeak, AWeak, toW_zero, nats]
    · simp [HWeak, BWeak, hz]
  · intro k hk
    simp only [keepA_z8, keepA_z, keepA_cons, keepA_nil, setsA_nil, setsA_cons, List.set_cons_zero, List.set_cons_succ, set_8, Nat.reduceMod, Nat.reduceDiv, Nat.zero_mod, Nat.zero_ne_one, if_true, if_false, reduceIte]
    rcases k with _ | j
    · simp (config := { maxSteps := 1000000 }) (disch := ((try simp only [awL]); omega)) only [hl, ↓awU, awV, awF, ofVal, ofVal0, isShift, aggK, forall_const, ↓reduceIte, ↓reduceDIte, ↓purePost, combine, idsA, cellsA, numsOf, srcA, calleeA, refsA, isScalar, scalarD, scalar0, AV.one, putL, unfA, implies_true, IntKind.signed, Nat.reduceAdd, Nat.reduceSub, Nat.reduceMul, Nat.reducePow, Nat.reduceDiv, Nat.reduceMod, Int.reduceAdd, Int.reduceSub, Int.reduceMul, Int.reducePow, Int.reduceNeg, Int.reduceToNat, Int.reduceLT, Int.reduceLE, Nat.reduceEqDiff, sidsB, Nat.reduceBEq, keyKD, isIntK]
      refine ⟨(), trivial, [some 0], rfl, by simp, ?_, ?_⟩
      · simp [setsA, keepA, SWeak, AWeak]
      · simp [HWeak, BWeak]
    · have hj : j / 32 < n := by omega
      obtain ⟨bit, r', hbit1, hr', hge, hlt⟩ := div_bit (a := a) (b := b) (j := j) hbp
      have hb1 : bit ≤ 1 := by omega
      have hmod := Nat.mod_lt (a / 2 ^ (j + 1)) hbp
      have hrl : (toW (a / 2 ^ (j + 1) % b)).length ≤ (toW b).length := toW_len_mono (Nat.le_of_lt hmod)
      have hrl2 : (toW r').length ≤ (toW b).length + 1 := by
        have h1 := toW_len_mono (show r' ≤ b + b by omega)
        have h2 := @plus_len b b
        omega
      have e2 : Int.tdiv (j : Int) 32 = ((j / 32 : Nat) : Int) := by rw [Int.tdiv_eq_ediv_of_nonneg (by omega)]; omega
      have e3 : Int.tmod (j : Int) 32 = ((j % 32 : Nat) : Int) := by rw [Int.tmod_eq_emod_of_nonneg (by omega)]; omega
      have e4 : min (j % 32) 32 = j % 32 := by omega
      have dl := digs_length n (a / 2 ^ (j + 1) / b * 2 ^ (j + 1))
      simp (config := { maxSteps := 1000000 }) (disch := ((try simp only [awL]); omega)) only [hl, ↓awU, awV, awF, ofVal, ofVal0, isShift, aggK, forall_const, ↓reduceIte, ↓reduceDIte, ↓purePost, combine, idsA, cellsA, numsOf, srcA, calleeA, refsA, isScalar, scalarD, scalar0, AV.one, putL, unfA, implies_true, IntKind.signed, Nat.reduceAdd, Nat.reduceSub, Nat.reduceMul, Nat.reducePow, Nat.reduceDiv, Nat.reduceMod, Int.reduceAdd, Int.reduceSub, Int.reduceMul, Int.reducePow, Int.reduceNeg, Int.reduceToNat, Int.reduceLT, Int.reduceLE, Nat.reduceEqDiff, sidsB, Nat.reduceBEq, keyKD, isIntK]
      refine CallC.of (bit_spec (toW a) j (by rw [hl]; omega) (by omega) da) (by rw [W, hl]) ?_
      rw [hbit j hj, ← hbit1]
      simp (config := { maxSteps := 1000000 }) (disch := ((try simp only [awL]); omega)) only [hl, ↓awU, awV, awF, ofVal, ofVal0, isShift, aggK, forall_const, ↓reduceIte, ↓reduceDIte, ↓purePost, combine, idsA, cellsA, numsOf, srcA, calleeA, refsA, isScalar, scalarD, scalar0, AV.one, putL, unfA, implies_true, IntKind.signed, Nat.reduceAdd, Nat.reduceSub, Nat.reduceMul, Nat.reducePow, Nat.reduceDiv, Nat.reduceMod, Int.reduceAdd, Int.reduceSub, Int.reduceMul, Int.reducePow, Int.reduceNeg, Int.reduceToNat, Int.reduceLT, Int.reduceLE, Nat.reduceEqDiff, sidsB, Nat.reduceBEq, keyKD, isIntK]
      refine CallC.pure (twice_spec _ bit hb1 (by omega)) ?_
      rw [← hr']
      simp (config := { maxSteps := 1000000 }) (disch := ((try simp only [awL]); omega)) only [hl, ↓awU, awV, awF, ofVal, ofVal0, isShift, aggK, forall_const, ↓reduceIte, ↓reduceDIte, ↓purePost, combine, idsA, cellsA, numsOf, srcA, calleeA, refsA, isScalar, scalarD, scalar0, AV.one, putL, unfA, implies_true, IntKind.signed, Nat.reduceAdd, Nat.reduceSub, Nat.reduceMul, Nat.reducePow, Nat.reduceDiv, Nat.reduceMod, Int.reduceAdd, Int.reduceSub, Int.reduceMul, Int.reducePow, Int.reduceNeg, Int.reduceToNat, Int.reduceLT, Int.reduceLE, Nat.reduceEqDiff, sidsB, Nat.reduceBEq, keyKD, isIntK]
      refine CallC.pure (rcmp_spec r' b (by omega) (by omega)) ?_
      by_cases hc : b ≤ r'
      · have hge' := hge hc
        have hci : (0 : Int) ≤ cmpI (r' : Int) b := by unfold cmpI; split <;> first | omega | (split <;> omega)
        simp (config := { maxSteps := 1000000 }) (disch := ((try simp only [awL]); omega)) only [hl, ↓awU, awV, awF, ofVal, ofVal0, isShift, aggK, forall_const, ↓reduceIte, ↓reduceDIte, ↓purePost, combine, idsA, cellsA, numsOf, srcA, calleeA, refsA, isScalar, scalarD, scalar0, AV.one, putL, unfA, implies_true, IntKind.signed, Nat.reduceAdd, Nat.reduceSub, Nat.reduceMul, Nat.reducePow, Nat.reduceDiv, Nat.reduceMod, Int.reduceAdd, Int.reduceSub, Int.reduceMul, Int.reducePow, Int.reduceNeg, Int.reduceToNat, Int.reduceLT, Int.reduceLE, Nat.reduceEqDiff, sidsB, Nat.reduceBEq, keyKD, isIntK]
        refine CallC.pure (rsub_spec r' b hc (by omega)) ?_
        have hX : a / 2 ^ (j + 1) / b * 2 ^ (j + 1) < B ^ n := by
          refine Nat.lt_of_le_of_lt ?_ la
          rw [Nat.div_div_eq_div_mul, Nat.mul_comm (2 ^ (j + 1)), ← Nat.div_div_eq_div_mul]
          exact Nat.le_trans (Nat.div_mul_le_self _ _) (Nat.div_le_self _ _)
        obtain ⟨s1, s2⟩ := set_bit (n := n) hj hX ⟨_, Nat.mul_comm _ _⟩
        have g1 := digs_getD' (k := n) (n := a / 2 ^ (j + 1) / b * 2 ^ (j + 1)) hj
        have hw1 : (2 ^ (j % 32) : Int) = ((2 ^ (j % 32) : Nat) : Int) := by simp
        have hpl : 2 ^ (j % 32) < 4294967296 := Nat.pow_lt_pow_right (m := j % 32) (n := 32) (by decide) (by omega)
        have hwr : IntKind.u32.wrap ((2 ^ (j % 32) : Nat) : Int) = ((2 ^ (j % 32) : Nat) : Int) := by rw [w_u32, Nat.mod_eq_of_lt hpl]
        have hor := bi_u32_or_nat (a := a / 2 ^ (j + 1) / b * 2 ^ (j + 1) / B ^ (j / 32) % B) (b := 2 ^ (j % 32)) (Nat.mod_lt _ (by decide)) hpl
        simp (config := { maxSteps := 1000000 }) (disch := ((try simp only [awL]); omega)) only [hl, e2, e3, e4, dl, g1, hw1, hwr, hor, Int.one_mul, ↓awU, awV, awF, ofVal, ofVal0, isShift, aggK, forall_const, ↓reduceIte, ↓reduceDIte, ↓purePost, combine, idsA, cellsA, numsOf, srcA, calleeA, refsA, isScalar, scalarD, scalar0, AV.one, putL, unfA, implies_true, IntKind.signed, Nat.reduceAdd, Nat.reduceSub, Nat.reduceMul, Nat.reducePow, Nat.reduceDiv, Nat.reduceMod, Int.reduceAdd, Int.reduceSub, Int.reduceMul, Int.reducePow, Int.reduceNeg, Int.reduceToNat, Int.reduceLT, Int.reduceLE, Nat.reduceEqDiff, sidsB, Nat.reduceBEq, keyKD, isIntK]
        refine ⟨j, by omega, Nat.lt_succ_self _, [some 0], rfl, by simp, ?_, ?_⟩
        · simp [setsA, keepA, SWeak, AWeak, hge'.1]
        · simp [HWeak, BWeak, hge'.2, s1]
      · have hlt' := hlt (by omega)
        have hci : cmpI (r' : Int) b < 0 := by rw [cmpI_lt (by omega)]; decide
        simp (config := { maxSteps := 1000000 }) (disch := ((try simp only [awL]); omega)) only [hl, ↓awU, awV, awF, ofVal, ofVal0, isShift, aggK, forall_const, ↓reduceIte, ↓reduceDIte, ↓purePost, combine, idsA, cellsA, numsOf, srcA, calleeA, refsA, isScalar, scalarD, scalar0, AV.one, putL, unfA, implies_true, IntKind.signed, Nat.reduceAdd, Nat.reduceSub, Nat.reduceMul, Nat.reducePow, Nat.reduceDiv, Nat.reduceMod, Int.reduceAdd, Int.reduceSub, Int.reduceMul, Int.reducePow, Int.reduceNeg, Int.reduceToNat, Int.reduceLT, Int.reduceLE, Nat.reduceEqDiff, sidsB, Nat.reduceBEq, keyKD, isIntK]
        refine ⟨j, by omega, Nat.lt_succ_self _, [some 0], rfl, by simp, ?_, ?_⟩
        · simp [setsA, keepA, SWeak, AWeak, hlt'.1]
        · simp [HWeak, BWeak, hlt'.2]
  · rintro ⟨⟩ -
    simp only [keepA_z8, keepA_z, keepA_cons, keepA_nil, setsA_nil, setsA_cons, List.set_cons_zero, List.set_cons_succ, set_8, Nat.reduceMod, Nat.reduceDiv, Nat.zero_mod, Nat.zero_ne_one, if_true, if_false, reduceIte]
    simp (config := { maxSteps := 1000000 }) (disch := ((try simp only [awL]); omega)) only [hl, ↓awU, awV, awF, ofVal, ofVal0, isShift, aggK, forall_const, ↓reduceIte, ↓reduceDIte, ↓purePost, combine, idsA, cellsA, numsOf, srcA, calleeA, refsA, isScalar, scalarD, scalar0, AV.one, putL, unfA, implies_true, IntKind.signed, Nat.reduceAdd, Nat.reduceSub, Nat.reduceMul, Nat.reducePow, Nat.reduceDiv, Nat.reduceMod, Int.reduceAdd, Int.reduceSub, Int.reduceMul, Int.reducePow, Int.reduceNeg, Int.reduceToNat, Int.reduceLT, Int.reduceLE, Nat.reduceEqDiff, sidsB, Nat.reduceBEq, keyKD, isIntK]
    have hq : a / b < B ^ n := Nat.lt_of_le_of_lt (Nat.div_le_self _ _) la
    refine CallC.frozenE (rtrim_spec (digs n (a / b)) (dig_digs _ _) (by rw [digs_length]; omega)) (by rw [W, digs_length, List.take_of_length_le (by rw [digs_length]; omega)]) ?_
    rw [val_digs hq]
    simp (config := { maxSteps := 1000000 }) (disch := ((try simp only [awL]); omega)) only [↓awU, awV, awF, ofVal, ofVal0, isShift, aggK, forall_const, ↓reduceIte, ↓reduceDIte, ↓purePost, combine, idsA, cellsA, numsOf, srcA, calleeA, refsA, isScalar, scalarD, scalar0, AV.one, putL, unfA, implies_true, IntKind.signed, Nat.reduceAdd, Nat.reduceSub, Nat.reduceMul, Nat.reducePow, Nat.reduceDiv, Nat.reduceMod, Int.reduceAdd, Int.reduceSub, Int.reduceMul, Int.reducePow, Int.reduceNeg, Int.reduceToNat, Int.reduceLT, Int.reduceLE, Nat.reduceEqDiff, sidsB, Nat.reduceBEq, keyKD, isIntK]
end Go.Proofs.YtkppgdialedoeaaGreatDoor

namespace Go.Proofs.YtkppgdialedoeaaGreatDoor
open Go Go.Proofs Go.Abs
variable {G : Globals}
theorem toW_0 {a : Nat} (h : a ≠ 0) : (toW a).getD 0 0 = a % B := by rw [toW_pos h]; rfl
theorem and1 {x : Nat} (h : x < 4294967296) : bitsI .and .u32 (x : Int) 1 = ((x % 2 : Nat) : Int) := by
  have := bi_u32_and_nat (a := x) (b := 1) h (by decide)
  rw [Nat.and_one_is_mod] at this
  exact this
theorem low_bit {a : Nat} (h : a ≠ 0) : bitsI .and .u32 (((toW a).getD 0 0 : Nat) : Int) 1 = ((a % 2 : Nat) : Int) := by
  rw [toW_0 h, and1 (show a % B < 4294967296 from Nat.mod_lt _ (by decide)), Nat.mod_mod_of_dvd _ (by decide)]
theorem gcd_even {a b g : Nat} (h : Nat.gcd a b = g) (ha : a % 2 = 0) (hg : g % 2 = 1) : Nat.gcd (a / 2) b = g := by
  have hb : b % 2 = 1 := by
    rcases Nat.mod_two_eq_zero_or_one b with hb | hb
    · have : 2 ∣ g := h ▸ Nat.dvd_gcd (Nat.dvd_of_mod_eq_zero ha) (Nat.dvd_of_mod_eq_zero hb)
      omega
    · exact hb
  have hc : Nat.Coprime 2 b := by rw [Nat.Coprime, Nat.gcd_rec, hb]; rfl
  have := Nat.Coprime.gcd_mul_left_cancel (a / 2) hc
  rw [← this, Nat.mul_div_cancel' (Nat.dvd_of_mod_eq_zero ha), h]
theorem gcd_even' {a b g : Nat} (h : Nat.gcd a b = g) (hb : b % 2 = 0) (hg : g % 2 = 1) : Nat.gcd a (b / 2) = g := by
  rw [Nat.gcd_comm] at h ⊢
  exact gcd_even h hb hg
theorem gcd_odd {a b : Nat} (h : ¬ (a % 2 = 0 ∧ b % 2 = 0)) : Nat.gcd a b % 2 = 1 := by
  rcases Nat.mod_two_eq_zero_or_one (Nat.gcd a b) with hg | hg
  · have hd := Nat.dvd_of_mod_eq_zero hg
    have h1 := Nat.dvd_trans hd (Nat.gcd_dvd_left a b)
    have h2 := Nat.dvd_trans hd (Nat.gcd_dvd_right a b)
    exact absurd ⟨Nat.mod_eq_zero_of_dvd h1, Nat.mod_eq_zero_of_dvd h2⟩ h
  · exact hg
theorem two_bound {a k n : Nat} (h : a * 2 ^ k = n) (ha : a ≠ 0) : k < 32 * (toW n).length := by
  have h1 := lt_of_toW n
  rw [B_pow, ← Nat.pow_mul] at h1
  have h2 : 2 ^ k ≤ n := by rw [← h]; exact Nat.le_mul_of_pos_left _ (Nat.pos_of_ne_zero ha)
  exact (Nat.pow_lt_pow_iff_right (by decide)).1 (Nat.lt_of_le_of_lt h2 h1)
theorem half_pow {a k n : Nat} (h : a * 2 ^ k = n) (ha : a % 2 = 0) : a / 2 * 2 ^ (k + 1) = n := by
  rw [Nat.pow_succ', ← Nat.mul_assoc, Nat.div_mul_cancel (Nat.dvd_of_mod_eq_zero ha)]; exact h
theorem le_of_pow {a k n : Nat} (h : a * 2 ^ k = n) : a ≤ n := by
  rw [← h]; exact Nat.le_mul_of_pos_right _ (Nat.two_pow_pos k)
set_option maxHeartbeats 4000000 in
set_option maxRecDepth 100000 in
theorem gcd_spec (a0 b0 : Nat) (ha0 : a0 ≠ 0) (hb0 : b0 ≠ 0) (hla : (toW a0).length < 2 ^ 37) (hlb : (toW b0).length < 2 ^ 37) :
    Ctr Tryz.prog G 72 [.d (W (toW a0)), .d (W (toW b0))] [] (.d (W (toW (Nat.gcd a0 b0)))) [] := by
  have le1 : ∀ {x}, x ≤ a0 → (toW x).length < 2 ^ 37 := fun h => Nat.lt_of_le_of_lt (toW_len_mono h) hla
  have le2 : ∀ {x}, x ≤ max a0 b0 → (toW x).length < 2 ^ 37 := fun {x} h => by
    rcases Nat.le_total a0 b0 with h2 | h2
    · exact Nat.lt_of_le_of_lt (toW_len_mono (by omega : x ≤ b0)) hlb
    · exact Nat.lt_of_le_of_lt (toW_len_mono (by omega : x ≤ a0)) hla
  refine Ctr.pure (M := M0) hmix Tryz.func72 rfl go72 ?_
  simp (config := { maxSteps := 1000000 }) (disch := ((try simp only [awL]); omega)) only [Tryz.f72, ↓awU, awV, awF, ofVal, ofVal0, isShift, aggK, forall_const, ↓reduceIte, ↓reduceDIte, ↓purePost, combine, idsA, cellsA, numsOf, srcA, calleeA, refsA, isScalar, scalarD, scalar0, AV.one, putL, unfA, implies_true, IntKind.signed, Nat.reduceAdd, Nat.reduceSub, Nat.reduceMul, Nat.reducePow, Nat.reduceDiv, Nat.reduceMod, Int.reduceAdd, Int.reduceSub, Int.reduceMul, Int.reducePow, Int.reduceNeg, Int.reduceToNat, Int.reduceLT, Int.reduceLE, Nat.reduceEqDiff, sidsB, Nat.reduceBEq, keyKD, isIntK]
  refine LoopC.fx 0 (α := Nat × Nat × Nat) (β := Nat × Nat × Nat) (fun x => x.1) (fun x => [(0, .d (W (toW x.1))), (1, .d (W (toW x.2.1))), (5, .d (.int .i64 x.2.2))])
    (fun _ => []) (fun x => x.1 ≠ 0 ∧ x.2.1 ≠ 0 ∧ x.1 * 2 ^ x.2.2 = a0 ∧ x.2.1 * 2 ^ x.2.2 = b0)
    0 (fun x => [(0, .d (W (toW x.1))), (1, .d (W (toW x.2.1))), (5, .d (.int .i64 x.2.2))]) (fun _ => []) (fun x => (x.1 ≠ 0 ∧ x.2.1 ≠ 0 ∧ x.1 * 2 ^ x.2.2 = a0 ∧ x.2.1 * 2 ^ x.2.2 = b0) ∧ ¬ (x.1 % 2 = 0 ∧ x.2.1 % 2 = 0))
    (a0, b0, 0) ⟨ha0, hb0, by simp, by simp⟩ ?_ ?_ ?_
  · exact ⟨[], rfl, by simp, by simp [setsA, keepA, SWeak, AWeak], by simp [HWeak, BWeak, SWeak, AWeak]⟩
  · rintro ⟨a, b, k⟩ hR
    have hR' := hR
    obtain ⟨ha, hb, hak, hbk⟩ := hR'
    simp only at ha hb hak hbk
    simp only [keepA_z8, keepA_z, keepA_cons, keepA_nil, setsA_nil, setsA_cons, List.set_cons_zero, List.set_cons_succ, set_8, Nat.reduceMod, Nat.reduceDiv, Nat.zero_mod, Nat.zero_ne_one, if_true, if_false, reduceIte]
    have l1 := low_bit ha
    have l2 := low_bit hb
    have p1 := sz_pos.2 ha
    have p2 := sz_pos.2 hb
    have q1 := le1 (le_of_pow hak)
    have q2 := le2 (show b ≤ max a0 b0 by have := le_of_pow hbk; omega)
    have q3 := two_bound hak ha
    have m1 := Nat.mod_two_eq_zero_or_one a
    have m2 := Nat.mod_two_eq_zero_or_one b
    by_cases e1 : a % 2 = 0
    · by_cases e2 : b % 2 = 0
      · simp (config := { maxSteps := 1000000 }) (disch := ((try simp only [awL]); omega)) only [l1, l2, e1, e2, ↓awU, awV, awF, ofVal, ofVal0, isShift, aggK, forall_const, ↓reduceIte, ↓reduceDIte, ↓purePost, combine, idsA, cellsA, numsOf, srcA, calleeA, refsA, isScalar, scalarD, scalar0, AV.one, putL, unfA, implies_true, IntKind.signed, Nat.reduceAdd, Nat.reduceSub, Nat.reduceMul, Nat.reducePow, Nat.reduceDiv, Nat.reduceMod, Int.reduceAdd, Int.reduceSub, Int.reduceMul, Int.reducePow, Int.reduceNeg, Int.reduceToNat, Int.reduceLT, Int.reduceLE, Nat.reduceEqDiff, sidsB, Nat.reduceBEq, keyKD, isIntK]
        refine CallC.pure (half_spec a (by omega)) ?_
        simp (config := { maxSteps := 1000000 }) (disch := ((try simp only [awL]); omega)) only [↓awU, awV, awF, ofVal, ofVal0, isShift, aggK, forall_const, ↓reduceIte, ↓reduceDIte, ↓purePost, combine, idsA, cellsA, numsOf, srcA, calleeA, refsA, isScalar, scalarD, scalar0, AV.one, putL, unfA, implies_true, IntKind.signed, Nat.reduceAdd, Nat.reduceSub, Nat.reduceMul, Nat.reducePow, Nat.reduceDiv, Nat.reduceMod, Int.reduceAdd, Int.reduceSub, Int.reduceMul, Int.reducePow, Int.reduceNeg, Int.reduceToNat, Int.reduceLT, Int.reduceLE, Nat.reduceEqDiff, sidsB, Nat.reduceBEq, keyKD, isIntK]
        refine CallC.pure (half_spec b (by omega)) ?_
        simp (config := { maxSteps := 1000000 }) (disch := ((try simp only [awL]); omega)) only [↓awU, awV, awF, ofVal, ofVal0, isShift, aggK, forall_const, ↓reduceIte, ↓reduceDIte, ↓purePost, combine, idsA, cellsA, numsOf, srcA, calleeA, refsA, isScalar, scalarD, scalar0, AV.one, putL, unfA, implies_true, IntKind.signed, Nat.reduceAdd, Nat.reduceSub, Nat.reduceMul, Nat.reducePow, Nat.reduceDiv, Nat.reduceMod, Int.reduceAdd, Int.reduceSub, Int.reduceMul, Int.reducePow, Int.reduceNeg, Int.reduceToNat, Int.reduceLT, Int.reduceLE, Nat.reduceEqDiff, sidsB, Nat.reduceBEq, keyKD, isIntK]
        exact ⟨(a / 2, b / 2, k + 1), ⟨by simp only; omega, by simp only; omega, half_pow hak e1, half_pow hbk e2⟩, by simp only; omega, ⟨[], rfl, by simp, by simp [setsA, keepA, SWeak, AWeak], by simp [HWeak, BWeak, SWeak, AWeak]⟩⟩
      · simp (config := { maxSteps := 1000000 }) (disch := ((try simp only [awL]); omega)) only [l1, l2, e1, e2, ↓awU, awV, awF, ofVal, ofVal0, isShift, aggK, forall_const, ↓reduceIte, ↓reduceDIte, ↓purePost, combine, idsA, cellsA, numsOf, srcA, calleeA, refsA, isScalar, scalarD, scalar0, AV.one, putL, unfA, implies_true, IntKind.signed, Nat.reduceAdd, Nat.reduceSub, Nat.reduceMul, Nat.reducePow, Nat.reduceDiv, Nat.reduceMod, Int.reduceAdd, Int.reduceSub, Int.reduceMul, Int.reducePow, Int.reduceNeg, Int.reduceToNat, Int.reduceLT, Int.reduceLE, Nat.reduceEqDiff, sidsB, Nat.reduceBEq, keyKD, isIntK]
        exact ⟨(a, b, k), ⟨hR, fun h => e2 h.2⟩, ⟨[], rfl, by simp, by simp [setsA, keepA, SWeak, AWeak], by simp [HWeak, BWeak, SWeak, AWeak]⟩⟩
    · simp (config := { maxSteps := 1000000 }) (disch := ((try simp only [awL]); omega)) only [l1, l2, e1, ↓awU, awV, awF, ofVal, ofVal0, isShift, aggK, forall_const, ↓reduceIte, ↓reduceDIte, ↓purePost, combine, idsA, cellsA, numsOf, srcA, calleeA, refsA, isScalar, scalarD, scalar0, AV.one, putL, unfA, implies_true, IntKind.signed, Nat.reduceAdd, Nat.reduceSub, Nat.reduceMul, Nat.reducePow, Nat.reduceDiv, Nat.reduceMod, Int.reduceAdd, Int.reduceSub, Int.reduceMul, Int.reducePow, Int.reduceNeg, Int.reduceToNat, Int.reduceLT, Int.reduceLE, Nat.reduceEqDiff, sidsB, Nat.reduceBEq, keyKD, isIntK]
      exact ⟨(a, b, k), ⟨hR, fun h => e1 h.1⟩, ⟨[], rfl, by simp, by simp [setsA, keepA, SWeak, AWeak], by simp [HWeak, BWeak, SWeak, AWeak]⟩⟩
  · rintro ⟨a1, b1, K⟩ ⟨⟨ha1, hb1, hak1, hbk1⟩, hodd⟩
    simp only at ha1 hb1 hak1 hbk1 hodd
    simp only [keepA_z8, keepA_z, keepA_cons, keepA_nil, setsA_nil, setsA_cons, List.set_cons_zero, List.set_cons_succ, set_8, Nat.reduceMod, Nat.reduceDiv, Nat.zero_mod, Nat.zero_ne_one, if_true, if_false, reduceIte]
    have hgo := gcd_odd hodd
    have hgg : Nat.gcd a0 b0 = Nat.gcd a1 b1 * 2 ^ K := by rw [← hak1, ← hbk1, Nat.gcd_mul_right]
    have hg0 : Nat.gcd a1 b1 ≠ 0 := by omega
    have hKb := two_bound hak1 ha1
    rw [hgg]
    have hgl : Nat.gcd a1 b1 * 2 ^ K ≤ a0 := by rw [← hgg]; exact Nat.gcd_le_left _ (Nat.pos_of_ne_zero ha0)
    generalize Nat.gcd a0 b0 = gg at *
    generalize hg : Nat.gcd a1 b1 = g at *
    have ma1 : a1 ≤ max a0 b0 := by have := le_of_pow hak1; omega
    have mb1 : b1 ≤ max a0 b0 := by have := le_of_pow hbk1; omega
    simp (config := { maxSteps := 1000000 }) (disch := ((try simp only [awL]); omega)) only [↓awU, awV, awF, ofVal, ofVal0, isShift, aggK, forall_const, ↓reduceIte, ↓reduceDIte, ↓purePost, combine, idsA, cellsA, numsOf, srcA, calleeA, refsA, isScalar, scalarD, scalar0, AV.one, putL, unfA, implies_true, IntKind.signed, Nat.reduceAdd, Nat.reduceSub, Nat.reduceMul, Nat.reducePow, Nat.reduceDiv, Nat.reduceMod, Int.reduceAdd, Int.reduceSub, Int.reduceMul, Int.reducePow, Int.reduceNeg, Int.reduceToNat, Int.reduceLT, Int.reduceLE, Nat.reduceEqDiff, sidsB, Nat.reduceBEq, keyKD, isIntK]
    refine LoopC.fx 32 (α := Nat × Nat) (β := Unit) (fun x => x.1 + x.2) (fun x => [(0, .d (W (toW x.1))), (1, .d (W (toW x.2)))])
      (fun _ => []) (fun x => x.1 ≠ 0 ∧ x.1 ≤ max a0 b0 ∧ x.2 ≤ max a0 b0 ∧ Nat.gcd x.1 x.2 = g)
      32 (fun _ => [(0, .d (W (toW g)))]) (fun _ => []) (fun _ => True) (a1, b1) ⟨ha1, ma1, mb1, hg⟩ ?_ ?_ ?_
    · exact ⟨[], rfl, by simp, by simp [setsA, keepA, SWeak, AWeak], by simp [HWeak, BWeak, SWeak, AWeak]⟩
    · rintro ⟨a, b⟩ ⟨ha, hma, hmb, hgab⟩
      simp only at ha hma hmb hgab
      simp only [keepA_z8, keepA_z, keepA_cons, keepA_nil, setsA_nil, setsA_cons, List.set_cons_zero, List.set_cons_succ, set_8, Nat.reduceMod, Nat.reduceDiv, Nat.zero_mod, Nat.zero_ne_one, if_true, if_false, reduceIte]
      by_cases hb : b = 0
      · subst hb
        rw [Nat.gcd_zero_right] at hgab
        subst hgab
        have e : toW 0 = [] := toW_zero
        rw [e]
        simp (config := { maxSteps := 1000000 }) (disch := ((try simp only [awL]); omega)) only [↓awU, awV, awF, ofVal, ofVal0, isShift, aggK, forall_const, ↓reduceIte, ↓reduceDIte, ↓purePost, combine, idsA, cellsA, numsOf, srcA, calleeA, refsA, isScalar, scalarD, scalar0, AV.one, putL, unfA, implies_true, IntKind.signed, Nat.reduceAdd, Nat.reduceSub, Nat.reduceMul, Nat.reducePow, Nat.reduceDiv, Nat.reduceMod, Int.reduceAdd, Int.reduceSub, Int.reduceMul, Int.reducePow, Int.reduceNeg, Int.reduceToNat, Int.reduceLT, Int.reduceLE, Nat.reduceEqDiff, sidsB, Nat.reduceBEq, keyKD, isIntK]
        exact ⟨(), trivial, ⟨[], rfl, by simp, by simp [setsA, keepA, SWeak, AWeak], by simp [HWeak, BWeak, SWeak, AWeak]⟩⟩
      · have p2 := sz_pos.2 hb
        simp (config := { maxSteps := 1000000 }) (disch := ((try simp only [awL]); omega)) only [↓awU, awV, awF, ofVal, ofVal0, isShift, aggK, forall_const, ↓reduceIte, ↓reduceDIte, ↓purePost, combine, idsA, cellsA, numsOf, srcA, calleeA, refsA, isScalar, scalarD, scalar0, AV.one, putL, unfA, implies_true, IntKind.signed, Nat.reduceAdd, Nat.reduceSub, Nat.reduceMul, Nat.reducePow, Nat.reduceDiv, Nat.reduceMod, Int.reduceAdd, Int.reduceSub, Int.reduceMul, Int.reducePow, Int.reduceNeg, Int.reduceToNat, Int.reduceLT, Int.reduceLE, Nat.reduceEqDiff, sidsB, Nat.reduceBEq, keyKD, isIntK]
        refine LoopC.fx 34 (α := Nat) (β := Nat) (fun x => x) (fun x => [(0, .d (W (toW x)))])
          (fun _ => []) (fun x => x ≠ 0 ∧ x ≤ a ∧ Nat.gcd x b = g)
          34 (fun x => [(0, .d (W (toW x)))]) (fun _ => []) (fun x => x ≠ 0 ∧ x ≤ a ∧ Nat.gcd x b = g ∧ x % 2 = 1) a ⟨ha, Nat.le_refl _, hgab⟩ ?_ ?_ ?_
        · exact ⟨[], rfl, by simp, by simp [setsA, keepA, SWeak, AWeak], by simp [HWeak, BWeak, SWeak, AWeak]⟩
        · rintro x ⟨hx, hxa, hxg⟩
          simp only [keepA_z8, keepA_z, keepA_cons, keepA_nil, setsA_nil, setsA_cons, List.set_cons_zero, List.set_cons_succ, set_8, Nat.reduceMod, Nat.reduceDiv, Nat.zero_mod, Nat.zero_ne_one, if_true, if_false, reduceIte]
          have l1 := low_bit hx
          have p1 := sz_pos.2 hx
          have q1 := le2 (show x ≤ max a0 b0 by omega)
          have m1 := Nat.mod_two_eq_zero_or_one x
          by_cases e1 : x % 2 = 0
          · simp (config := { maxSteps := 1000000 }) (disch := ((try simp only [awL]); omega)) only [l1, e1, ↓awU, awV, awF, ofVal, ofVal0, isShift, aggK, forall_const, ↓reduceIte, ↓reduceDIte, ↓purePost, combine, idsA, cellsA, numsOf, srcA, calleeA, refsA, isScalar, scalarD, scalar0, AV.one, putL, unfA, implies_true, IntKind.signed, Nat.reduceAdd, Nat.reduceSub, Nat.reduceMul, Nat.reducePow, Nat.reduceDiv, Nat.reduceMod, Int.reduceAdd, Int.reduceSub, Int.reduceMul, Int.reducePow, Int.reduceNeg, Int.reduceToNat, Int.reduceLT, Int.reduceLE, Nat.reduceEqDiff, sidsB, Nat.reduceBEq, keyKD, isIntK]
            refine CallC.pure (half_spec x (by omega)) ?_
            simp (config := { maxSteps := 1000000 }) (disch := ((try simp only [awL]); omega)) only [↓awU, awV, awF, ofVal, ofVal0, isShift, aggK, forall_const, ↓reduceIte, ↓reduceDIte, ↓purePost, combine, idsA, cellsA, numsOf, srcA, calleeA, refsA, isScalar, scalarD, scalar0, AV.one, putL, unfA, implies_true, IntKind.signed, Nat.reduceAdd, Nat.reduceSub, Nat.reduceMul, Nat.reducePow, Nat.reduceDiv, Nat.reduceMod, Int.reduceAdd, Int.reduceSub, Int.reduceMul, Int.reducePow, Int.reduceNeg, Int.reduceToNat, Int.reduceLT, Int.reduceLE, Nat.reduceEqDiff, sidsB, Nat.reduceBEq, keyKD, isIntK]
            exact ⟨x / 2, ⟨by omega, by omega, gcd_even hxg e1 hgo⟩, by simp only; omega, ⟨[], rfl, by simp, by simp [setsA, keepA, SWeak, AWeak], by simp [HWeak, BWeak, SWeak, AWeak]⟩⟩
          · simp (config := { maxSteps := 1000000 }) (disch := ((try simp only [awL]); omega)) only [l1, e1, ↓awU, awV, awF, ofVal, ofVal0, isShift, aggK, forall_const, ↓reduceIte, ↓reduceDIte, ↓purePost, combine, idsA, cellsA, numsOf, srcA, calleeA, refsA, isScalar, scalarD, scalar0, AV.one, putL, unfA, implies_true, IntKind.signed, Nat.reduceAdd, Nat.reduceSub, Nat.reduceMul, Nat.reducePow, Nat.reduceDiv, Nat.reduceMod, Int.reduceAdd, Int.reduceSub, Int.reduceMul, Int.reducePow, Int.reduceNeg, Int.reduceToNat, Int.reduceLT, Int.reduceLE, Nat.reduceEqDiff, sidsB, Nat.reduceBEq, keyKD, isIntK]
            exact ⟨x, ⟨hx, hxa, hxg, by omega⟩, ⟨[], rfl, by simp, by simp [setsA, keepA, SWeak, AWeak], by simp [HWeak, BWeak, SWeak, AWeak]⟩⟩
        · rintro a' ⟨ha', haa', hga', hoa⟩
          simp only [keepA_z8, keepA_z, keepA_cons, keepA_nil, setsA_nil, setsA_cons, List.set_cons_zero, List.set_cons_succ, set_8, Nat.reduceMod, Nat.reduceDiv, Nat.zero_mod, Nat.zero_ne_one, if_true, if_false, reduceIte]
          simp (config := { maxSteps := 1000000 }) (disch := ((try simp only [awL]); omega)) only [↓awU, awV, awF, ofVal, ofVal0, isShift, aggK, forall_const, ↓reduceIte, ↓reduceDIte, ↓purePost, combine, idsA, cellsA, numsOf, srcA, calleeA, refsA, isScalar, scalarD, scalar0, AV.one, putL, unfA, implies_true, IntKind.signed, Nat.reduceAdd, Nat.reduceSub, Nat.reduceMul, Nat.reducePow, Nat.reduceDiv, Nat.reduceMod, Int.reduceAdd, Int.reduceSub, Int.reduceMul, Int.reducePow, Int.reduceNeg, Int.reduceToNat, Int.reduceLT, Int.reduceLE, Nat.reduceEqDiff, sidsB, Nat.reduceBEq, keyKD, isIntK]
          refine LoopC.fx 33 (α := Nat) (β := Nat) (fun x => x) (fun x => [(1, .d (W (toW x)))])
            (fun _ => []) (fun x => x ≠ 0 ∧ x ≤ b ∧ Nat.gcd a' x = g)
            33 (fun x => [(1, .d (W (toW x)))]) (fun _ => []) (fun x => x ≠ 0 ∧ x ≤ b ∧ Nat.gcd a' x = g) b ⟨hb, Nat.le_refl _, hga'⟩ ?_ ?_ ?_
          · exact ⟨[], rfl, by simp, by simp [setsA, keepA, SWeak, AWeak], by simp [HWeak, BWeak, SWeak, AWeak]⟩
          · rintro x ⟨hx, hxa, hxg⟩
            simp only [keepA_z8, keepA_z, keepA_cons, keepA_nil, setsA_nil, setsA_cons, List.set_cons_zero, List.set_cons_succ, set_8, Nat.reduceMod, Nat.reduceDiv, Nat.zero_mod, Nat.zero_ne_one, if_true, if_false, reduceIte]
            have l1 := low_bit hx
            have p1 := sz_pos.2 hx
            have q1 := le2 (show x ≤ max a0 b0 by omega)
            have m1 := Nat.mod_two_eq_zero_or_one x
            by_cases e1 : x % 2 = 0
            · simp (config := { maxSteps := 1000000 }) (disch := ((try simp only [awL]); omega)) only [l1, e1, ↓awU, awV, awF, ofVal, ofVal0, isShift, aggK, forall_const, ↓reduceIte, ↓reduceDIte, ↓purePost, combine, idsA, cellsA, numsOf, srcA, calleeA, refsA, isScalar, scalarD, scalar0, AV.one, putL, unfA, implies_true, IntKind.signed, Nat.reduceAdd, Nat.reduceSub, Nat.reduceMul, Nat.reducePow, Nat.reduceDiv, Nat.reduceMod, Int.reduceAdd, Int.reduceSub, Int.reduceMul, Int.reducePow, Int.reduceNeg, Int.reduceToNat, Int.reduceLT, Int.reduceLE, Nat.reduceEqDiff, sidsB, Nat.reduceBEq, keyKD, isIntK]
              refine CallC.pure (half_spec x (by omega)) ?_
              simp (config := { maxSteps := 1000000 }) (disch := ((try simp only [awL]); omega)) only [↓awU, awV, awF, ofVal, ofVal0, isShift, aggK, forall_const, ↓reduceIte, ↓reduceDIte, ↓purePost, combine, idsA, cellsA, numsOf, srcA, calleeA, refsA, isScalar, scalarD, scalar0, AV.one, putL, unfA, implies_true, IntKind.signed, Nat.reduceAdd, Nat.reduceSub, Nat.reduceMul, Nat.reducePow, Nat.reduceDiv, Nat.reduceMod, Int.reduceAdd, Int.reduceSub, Int.reduceMul, Int.reducePow, Int.reduceNeg, Int.reduceToNat, Int.reduceLT, Int.reduceLE, Nat.reduceEqDiff, sidsB, Nat.reduceBEq, keyKD, isIntK]
              exact ⟨x / 2, ⟨by omega, by omega, gcd_even' hxg e1 hgo⟩, by simp only; omega, ⟨[], rfl, by simp, by simp [setsA, keepA, SWeak, AWeak], by simp [HWeak, BWeak, SWeak, AWeak]⟩⟩
            · simp (config := { maxSteps := 1000000 }) (disch := ((try simp only [awL]); omega)) only [l1, e1, ↓awU, awV, awF, ofVal, ofVal0, isShift, aggK, forall_const, ↓reduceIte, ↓reduceDIte, ↓purePost, combine, idsA, cellsA, numsOf, srcA, calleeA, refsA, isScalar, scalarD, scalar0, AV.one, putL, unfA, implies_true, IntKind.signed, Nat.reduceAdd, Nat.reduceSub, Nat.reduceMul, Nat.reducePow, Nat.reduceDiv, Nat.reduceMod, Int.reduceAdd, Int.reduceSub, Int.reduceMul, Int.reducePow, Int.reduceNeg, Int.reduceToNat, Int.reduceLT, Int.reduceLE, Nat.reduceEqDiff, sidsB, Nat.reduceBEq, keyKD, isIntK]
              exact ⟨x, ⟨hx, hxa, hxg⟩, ⟨[], rfl, by simp, by simp [setsA, keepA, SWeak, AWeak], by simp [HWeak, BWeak, SWeak, AWeak]⟩⟩
          · rintro b' ⟨hb', hbb', hgb'⟩
            simp only [keepA_z8, keepA_z, keepA_cons, keepA_nil, setsA_nil, setsA_cons, List.set_cons_zero, List.set_cons_succ, set_8, Nat.reduceMod, Nat.reduceDiv, Nat.zero_mod, Nat.zero_ne_one, if_true, if_false, reduceIte]
            have q1 := le2 (show a' ≤ max a0 b0 by omega)
            have q2 := le2 (show b' ≤ max a0 b0 by omega)
            simp (config := { maxSteps := 1000000 }) (disch := ((try simp only [awL]); omega)) only [↓awU, awV, awF, ofVal, ofVal0, isShift, aggK, forall_const, ↓reduceIte, ↓reduceDIte, ↓purePost, combine, idsA, cellsA, numsOf, srcA, calleeA, refsA, isScalar, scalarD, scalar0, AV.one, putL, unfA, implies_true, IntKind.signed, Nat.reduceAdd, Nat.reduceSub, Nat.reduceMul, Nat.reducePow, Nat.reduceDiv, Nat.reduceMod, Int.reduceAdd, Int.reduceSub, Int.reduceMul, Int.reducePow, Int.reduceNeg, Int.reduceToNat, Int.reduceLT, Int.reduceLE, Nat.reduceEqDiff, sidsB, Nat.reduceBEq, keyKD, isIntK]
            refine CallC.pure (rcmp_spec a' b' (by omega) (by omega)) ?_
            by_cases hc : b' < a'
            · have hci : cmpI (a' : Int) b' = 1 := cmpI_gt (by omega)
              simp (config := { maxSteps := 1000000 }) (disch := ((try simp only [awL]); omega)) only [hci, ↓awU, awV, awF, ofVal, ofVal0, isShift, aggK, forall_const, ↓reduceIte, ↓reduceDIte, ↓purePost, combine, idsA, cellsA, numsOf, srcA, calleeA, refsA, isScalar, scalarD, scalar0, AV.one, putL, unfA, implies_true, IntKind.signed, Nat.reduceAdd, Nat.reduceSub, Nat.reduceMul, Nat.reducePow, Nat.reduceDiv, Nat.reduceMod, Int.reduceAdd, Int.reduceSub, Int.reduceMul, Int.reducePow, Int.reduceNeg, Int.reduceToNat, Int.reduceLT, Int.reduceLE, Nat.reduceEqDiff, sidsB, Nat.reduceBEq, keyKD, isIntK]
              refine CallC.pure (rsub_spec a' b' (by omega) (by omega)) ?_
              simp (config := { maxSteps := 1000000 }) (disch := ((try simp only [awL]); omega)) only [↓awU, awV, awF, ofVal, ofVal0, isShift, aggK, forall_const, ↓reduceIte, ↓reduceDIte, ↓purePost, combine, idsA, cellsA, numsOf, srcA, calleeA, refsA, isScalar, scalarD, scalar0, AV.one, putL, unfA, implies_true, IntKind.signed, Nat.reduceAdd, Nat.reduceSub, Nat.reduceMul, Nat.reducePow, Nat.reduceDiv, Nat.reduceMod, Int.reduceAdd, Int.reduceSub, Int.reduceMul, Int.reducePow, Int.reduceNeg, Int.reduceToNat, Int.reduceLT, Int.reduceLE, Nat.reduceEqDiff, sidsB, Nat.reduceBEq, keyKD, isIntK]
              exact ⟨(b', a' - b'), ⟨hb', by simp only; omega, by simp only; omega, by simp only; rw [Nat.gcd_sub_self_right (by omega), Nat.gcd_comm]; exact hgb'⟩, by simp only; omega, ⟨[], rfl, by simp, by simp [setsA, keepA, SWeak, AWeak], by simp [HWeak, BWeak, SWeak, AWeak]⟩⟩
            · have hci : ¬ cmpI (a' : Int) b' > 0 := by unfold cmpI; split <;> first | omega | (split <;> omega)
              simp (config := { maxSteps := 1000000 }) (disch := ((try simp only [awL]); omega)) only [hci, ↓awU, awV, awF, ofVal, ofVal0, isShift, aggK, forall_const, ↓reduceIte, ↓reduceDIte, ↓purePost, combine, idsA, cellsA, numsOf, srcA, calleeA, refsA, isScalar, scalarD, scalar0, AV.one, putL, unfA, implies_true, IntKind.signed, Nat.reduceAdd, Nat.reduceSub, Nat.reduceMul, Nat.reducePow, Nat.reduceDiv, Nat.reduceMod, Int.reduceAdd, Int.reduceSub, Int.reduceMul, Int.reducePow, Int.reduceNeg, Int.reduceToNat, Int.reduceLT, Int.reduceLE, Nat.reduceEqDiff, sidsB, Nat.reduceBEq, keyKD, isIntK]
              refine CallC.pure (rsub_spec b' a' (by omega) (by omega)) ?_
              simp (config := { maxSteps := 1000000 }) (disch := ((try simp only [awL]); omega)) only [↓awU, awV, awF, ofVal, ofVal0, isShift, aggK, forall_const, ↓reduceIte, ↓reduceDIte, ↓purePost, combine, idsA, cellsA, numsOf, srcA, calleeA, refsA, isScalar, scalarD, scalar0, AV.one, putL, unfA, implies_true, IntKind.signed, Nat.reduceAdd, Nat.reduceSub, Nat.reduceMul, Nat.reducePow, Nat.reduceDiv, Nat.reduceMod, Int.reduceAdd, Int.reduceSub, Int.reduceMul, Int.reducePow, Int.reduceNeg, Int.reduceToNat, Int.reduceLT, Int.reduceLE, Nat.reduceEqDiff, sidsB, Nat.reduceBEq, keyKD, isIntK]
              exact ⟨(a', b' - a'), ⟨ha', by simp only; omega, by simp only; omega, by simp only; rw [Nat.gcd_sub_self_right (by omega)]; exact hgb'⟩, by simp only; omega, ⟨[], rfl, by simp, by simp [setsA, keepA, SWeak, AWeak], by simp [HWeak, BWeak, SWeak, AWeak]⟩⟩
    · rintro ⟨⟩ -
      simp only [keepA_z8, keepA_z, keepA_cons, keepA_nil, setsA_nil, setsA_cons, List.set_cons_zero, List.set_cons_succ, set_8, Nat.reduceMod, Nat.reduceDiv, Nat.zero_mod, Nat.zero_ne_one, if_true, if_false, reduceIte]
      simp (config := { maxSteps := 1000000 }) (disch := ((try simp only [awL]); omega)) only [↓awU, awV, awF, ofVal, ofVal0, isShift, aggK, forall_const, ↓reduceIte, ↓reduceDIte, ↓purePost, combine, idsA, cellsA, numsOf, srcA, calleeA, refsA, isScalar, scalarD, scalar0, AV.one, putL, unfA, implies_true, IntKind.signed, Nat.reduceAdd, Nat.reduceSub, Nat.reduceMul, Nat.reducePow, Nat.reduceDiv, Nat.reduceMod, Int.reduceAdd, Int.reduceSub, Int.reduceMul, Int.reducePow, Int.reduceNeg, Int.reduceToNat, Int.reduceLT, Int.reduceLE, Nat.reduceEqDiff, sidsB, Nat.reduceBEq, keyKD, isIntK]
      refine LoopC.fx 0 (α := Nat × Nat) (β := Unit) (fun x => x.2) (fun x => [(0, .d (W (toW x.1))), (5, .d (.int .i64 x.2))])
        (fun _ => []) (fun x => x.1 * 2 ^ x.2 = g * 2 ^ K ∧ x.2 ≤ K) 0 (fun _ => [(0, .d (W (toW (g * 2 ^ K))))]) (fun _ => []) (fun _ => True) (g, K) ⟨rfl, Nat.le_refl _⟩ ?_ ?_ ?_
      · exact ⟨[], rfl, by simp, by simp [setsA, keepA, SWeak, AWeak], by simp [HWeak, BWeak, SWeak, AWeak]⟩
      · rintro ⟨x, k⟩ ⟨hx, hk⟩
        simp only at hx hk
        simp only [keepA_z8, keepA_z, keepA_cons, keepA_nil, setsA_nil, setsA_cons, List.set_cons_zero, List.set_cons_succ, set_8, Nat.reduceMod, Nat.reduceDiv, Nat.zero_mod, Nat.zero_ne_one, if_true, if_false, reduceIte]
        rcases k with _ | k
        · rw [Nat.pow_zero, Nat.mul_one] at hx
          subst hx
          simp (config := { maxSteps := 1000000 }) (disch := ((try simp only [awL]); omega)) only [↓awU, awV, awF, ofVal, ofVal0, isShift, aggK, forall_const, ↓reduceIte, ↓reduceDIte, ↓purePost, combine, idsA, cellsA, numsOf, srcA, calleeA, refsA, isScalar, scalarD, scalar0, AV.one, putL, unfA, implies_true, IntKind.signed, Nat.reduceAdd, Nat.reduceSub, Nat.reduceMul, Nat.reducePow, Nat.reduceDiv, Nat.reduceMod, Int.reduceAdd, Int.reduceSub, Int.reduceMul, Int.reducePow, Int.reduceNeg, Int.reduceToNat, Int.reduceLT, Int.reduceLE, Nat.reduceEqDiff, sidsB, Nat.reduceBEq, keyKD, isIntK]
          exact ⟨(), trivial, ⟨[], rfl, by simp, by simp [setsA, keepA, SWeak, AWeak], by simp [HWeak, BWeak, SWeak, AWeak]⟩⟩
        · have q1 := le1 (Nat.le_trans (le_of_pow hx) hgl)
          simp (config := { maxSteps := 1000000 }) (disch := ((try simp only [awL]); omega)) only [↓awU, awV, awF, ofVal, ofVal0, isShift, aggK, forall_const, ↓reduceIte, ↓reduceDIte, ↓purePost, combine, idsA, cellsA, numsOf, srcA, calleeA, refsA, isScalar, scalarD, scalar0, AV.one, putL, unfA, implies_true, IntKind.signed, Nat.reduceAdd, Nat.reduceSub, Nat.reduceMul, Nat.reducePow, Nat.reduceDiv, Nat.reduceMod, Int.reduceAdd, Int.reduceSub, Int.reduceMul, Int.reducePow, Int.reduceNeg, Int.reduceToNat, Int.reduceLT, Int.reduceLE, Nat.reduceEqDiff, sidsB, Nat.reduceBEq, keyKD, isIntK]
          refine CallC.pure (twice_spec x 0 (by decide) (by omega)) ?_
          simp (config := { maxSteps := 1000000 }) (disch := ((try simp only [awL]); omega)) only [↓awU, awV, awF, ofVal, ofVal0, isShift, aggK, forall_const, ↓reduceIte, ↓reduceDIte, ↓purePost, combine, idsA, cellsA, numsOf, srcA, calleeA, refsA, isScalar, scalarD, scalar0, AV.one, putL, unfA, implies_true, IntKind.signed, Nat.reduceAdd, Nat.reduceSub, Nat.reduceMul, Nat.reducePow, Nat.reduceDiv, Nat.reduceMod, Int.reduceAdd, Int.reduceSub, Int.reduceMul, Int.reducePow, Int.reduceNeg, Int.reduceToNat, Int.reduceLT, Int.reduceLE, Nat.reduceEqDiff, sidsB, Nat.reduceBEq, keyKD, isIntK]
          refine ⟨(2 * x, k), ⟨?_, by simp only; omega⟩, Nat.lt_succ_self _, ⟨[], rfl, by simp, by simp [setsA, keepA, SWeak, AWeak], by simp [HWeak, BWeak, SWeak, AWeak]⟩⟩
          rw [← hx, Nat.pow_succ']
          simp only
          rw [Nat.mul_comm 2 x, Nat.mul_assoc]
      · rintro ⟨⟩ -
        simp only [keepA_z8, keepA_z, keepA_cons, keepA_nil, setsA_nil, setsA_cons, List.set_cons_zero, List.set_cons_succ, set_8, Nat.reduceMod, Nat.reduceDiv, Nat.zero_mod, Nat.zero_ne_one, if_true, if_false, reduceIte]
        simp (config := { maxSteps := 1000000 }) (disch := ((try simp only [awL]); omega)) only [↓awU, awV, awF, ofVal, ofVal0, isShift, aggK, forall_const, ↓reduceIte, ↓reduceDIte, ↓purePost, combine, idsA, cellsA, numsOf, srcA, calleeA, refsA, isScalar, scalarD, scalar0, AV.one, putL, unfA, implies_true, IntKind.signed, Nat.reduceAdd, Nat.reduceSub, Nat.reduceMul, Nat.reducePow, Nat.reduceDiv, Nat.reduceMod, Int.reduceAdd, Int.reduceSub, Int.reduceMul, Int.reducePow, Int.reduceNeg, Int.reduceToNat, Int.reduceLT, Int.reduceLE, Nat.reduceEqDiff, sidsB, Nat.reduceBEq, keyKD, isIntK]
end Go.Proofs.YtkppgdialedoeaaGreatDoor

namespace Go.Proofs.YtkppgdialedoeaaGreatDoor
open Go Go.Proofs Go.Abs
variable {G : Globals}
theorem rminus_spec (n : Int) (hn : sz n < 2 ^ 36) : Ctr Tryz.prog G 63 [.d (Big n)] [] (.d (Big (-n))) [] := by
  refine Ctr.pure (M := M0) hmix Tryz.func63 rfl go63 ?_
  simp only [sz] at hn
  simp (config := { maxSteps := 1000000 }) (disch := ((try simp only [awL]); omega)) only [Tryz.f63, ↓awU, awV, awF, ofVal, ofVal0, isShift, aggK, forall_const, ↓reduceIte, ↓reduceDIte, ↓purePost, combine, idsA, cellsA, numsOf, srcA, calleeA, refsA, isScalar, scalarD, scalar0, AV.one, putL, unfA, implies_true, IntKind.signed, Nat.reduceAdd, Nat.reduceSub, Nat.reduceMul, Nat.reducePow, Nat.reduceDiv, Nat.reduceMod, Int.reduceAdd, Int.reduceSub, Int.reduceMul, Int.reducePow, Int.reduceNeg, Int.reduceToNat, Int.reduceLT, Int.reduceLE, Nat.reduceEqDiff, sidsB, Nat.reduceBEq, keyKD, isIntK]
  refine CallC.pure (rbig_spec _ _ (dig_toW _) (by omega)) ?_
  rw [val_toW]
  have e : (if decide (¬ n < 0) = true then -((n.natAbs : Nat) : Int) else ((n.natAbs : Nat) : Int)) = -n := by
    by_cases h : n < 0
    · simp [h]; omega
    · simp [h]; omega
  rw [e]
  simp (config := { maxSteps := 1000000 }) (disch := ((try simp only [awL]); omega)) only [↓awU, awV, awF, ofVal, ofVal0, isShift, aggK, forall_const, ↓reduceIte, ↓reduceDIte, ↓purePost, combine, idsA, cellsA, numsOf, srcA, calleeA, refsA, isScalar, scalarD, scalar0, AV.one, putL, unfA, implies_true, IntKind.signed, Nat.reduceAdd, Nat.reduceSub, Nat.reduceMul, Nat.reducePow, Nat.reduceDiv, Nat.reduceMod, Int.reduceAdd, Int.reduceSub, Int.reduceMul, Int.reducePow, Int.reduceNeg, Int.reduceToNat, Int.reduceLT, Int.reduceLE, Nat.reduceEqDiff, sidsB, Nat.reduceBEq, keyKD, isIntK]
theorem rtimes_spec (a b : Int) (ha : sz a < 2 ^ 36) (hb : sz b < 2 ^ 36) : Ctr Tryz.prog G 12 [.d (Big a), .d (Big b)] [] (.d (Big (a * b))) [] := by
  refine Ctr.pure (M := M0) hmix Tryz.func12 rfl go12 ?_
  simp only [sz] at ha hb
  have hl := @times_len a.natAbs b.natAbs
  simp (config := { maxSteps := 1000000 }) (disch := ((try simp only [awL]); omega)) only [Tryz.f12, ↓awU, awV, awF, ofVal, ofVal0, isShift, aggK, forall_const, ↓reduceIte, ↓reduceDIte, ↓purePost, combine, idsA, cellsA, numsOf, srcA, calleeA, refsA, isScalar, scalarD, scalar0, AV.one, putL, unfA, implies_true, IntKind.signed, Nat.reduceAdd, Nat.reduceSub, Nat.reduceMul, Nat.reducePow, Nat.reduceDiv, Nat.reduceMod, Int.reduceAdd, Int.reduceSub, Int.reduceMul, Int.reducePow, Int.reduceNeg, Int.reduceToNat, Int.reduceLT, Int.reduceLE, Nat.reduceEqDiff, sidsB, Nat.reduceBEq, keyKD, isIntK]
  refine CallC.pure (rmul_spec _ _ (by omega) (by omega)) ?_
  simp (config := { maxSteps := 1000000 }) (disch := ((try simp only [awL]); omega)) only [↓awU, awV, awF, ofVal, ofVal0, isShift, aggK, forall_const, ↓reduceIte, ↓reduceDIte, ↓purePost, combine, idsA, cellsA, numsOf, srcA, calleeA, refsA, isScalar, scalarD, scalar0, AV.one, putL, unfA, implies_true, IntKind.signed, Nat.reduceAdd, Nat.reduceSub, Nat.reduceMul, Nat.reducePow, Nat.reduceDiv, Nat.reduceMod, Int.reduceAdd, Int.reduceSub, Int.reduceMul, Int.reducePow, Int.reduceNeg, Int.reduceToNat, Int.reduceLT, Int.reduceLE, Nat.reduceEqDiff, sidsB, Nat.reduceBEq, keyKD, isIntK]
  refine CallC.pure (rbig_spec _ _ (dig_toW _) (by omega)) ?_
  rw [val_toW]
  have e : (if decide (¬ decide (a < 0) = decide (b < 0)) = true then -((a.natAbs * b.natAbs : Nat) : Int) else ((a.natAbs * b.natAbs : Nat) : Int)) = a * b := by
    have ea : ((a.natAbs : Nat) : Int) = if a < 0 then -a else a := by split <;> omega
    have eb : ((b.natAbs : Nat) : Int) = if b < 0 then -b else b := by split <;> omega
    rw [Int.natCast_mul, ea, eb]
    by_cases ha' : a < 0 <;> by_cases hb' : b < 0 <;> simp [ha', hb', Int.neg_mul, Int.mul_neg]
  rw [e]
  simp (config := { maxSteps := 1000000 }) (disch := ((try simp only [awL]); omega)) only [↓awU, awV, awF, ofVal, ofVal0, isShift, aggK, forall_const, ↓reduceIte, ↓reduceDIte, ↓purePost, combine, idsA, cellsA, numsOf, srcA, calleeA, refsA, isScalar, scalarD, scalar0, AV.one, putL, unfA, implies_true, IntKind.signed, Nat.reduceAdd, Nat.reduceSub, Nat.reduceMul, Nat.reducePow, Nat.reduceDiv, Nat.reduceMod, Int.reduceAdd, Int.reduceSub, Int.reduceMul, Int.reducePow, Int.reduceNeg, Int.reduceToNat, Int.reduceLT, Int.reduceLE, Nat.reduceEqDiff, sidsB, Nat.reduceBEq, keyKD, isIntK]
  try rfl
theorem rplus_spec (a b : Int) (ha : sz a < 2 ^ 36) (hb : sz b < 2 ^ 36) : Ctr Tryz.prog G 61 [.d (Big a), .d (Big b)] [] (.d (Big (a + b))) [] := by
  have hpl := @plus_len a.natAbs b.natAbs
  have ka : ((a.natAbs : Nat) : Int) = if a < 0 then -a else a := by split <;> omega
  have kb : ((b.natAbs : Nat) : Int) = if b < 0 then -b else b := by split <;> omega
  have hcmp : 0 ≤ cmpI (a.natAbs : Int) b.natAbs ↔ b.natAbs ≤ a.natAbs := by
    unfold cmpI; split
    · omega
    · split <;> omega
  refine Ctr.pure (M := M0) hmix Tryz.func61 rfl go61 ?_
  simp only [sz] at ha hb
  have hdl := digs_length (max (toW a.natAbs).length (toW b.natAbs).length + 1) (a.natAbs + b.natAbs)
  have hdv : val (digs (max (toW a.natAbs).length (toW b.natAbs).length + 1) (a.natAbs + b.natAbs)) = a.natAbs + b.natAbs := val_digs (Nat.lt_of_lt_of_le (lt_of_toW _) (Nat.pow_le_pow_right (by decide) hpl))
  have hsub1 := toW_len_mono (Nat.sub_le a.natAbs b.natAbs)
  have hsub2 := toW_len_mono (Nat.sub_le b.natAbs a.natAbs)
  by_cases hs : decide (a < 0) = decide (b < 0)
  · simp (config := { maxSteps := 1000000 }) (disch := ((try simp only [awL]); omega)) only [Tryz.f61, hs, ↓awU, awV, awF, ofVal, ofVal0, isShift, aggK, forall_const, ↓reduceIte, ↓reduceDIte, ↓purePost, combine, idsA, cellsA, numsOf, srcA, calleeA, refsA, isScalar, scalarD, scalar0, AV.one, putL, unfA, implies_true, IntKind.signed, Nat.reduceAdd, Nat.reduceSub, Nat.reduceMul, Nat.reducePow, Nat.reduceDiv, Nat.reduceMod, Int.reduceAdd, Int.reduceSub, Int.reduceMul, Int.reducePow, Int.reduceNeg, Int.reduceToNat, Int.reduceLT, Int.reduceLE, Nat.reduceEqDiff, sidsB, Nat.reduceBEq, keyKD, isIntK]
    refine CallC.pure (radd_spec _ _ (by omega) (by omega)) ?_
    simp (config := { maxSteps := 1000000 }) (disch := ((try simp only [awL]); omega)) only [hs, ↓awU, awV, awF, ofVal, ofVal0, isShift, aggK, forall_const, ↓reduceIte, ↓reduceDIte, ↓purePost, combine, idsA, cellsA, numsOf, srcA, calleeA, refsA, isScalar, scalarD, scalar0, AV.one, putL, unfA, implies_true, IntKind.signed, Nat.reduceAdd, Nat.reduceSub, Nat.reduceMul, Nat.reducePow, Nat.reduceDiv, Nat.reduceMod, Int.reduceAdd, Int.reduceSub, Int.reduceMul, Int.reducePow, Int.reduceNeg, Int.reduceToNat, Int.reduceLT, Int.reduceLE, Nat.reduceEqDiff, sidsB, Nat.reduceBEq, keyKD, isIntK]
    refine CallC.pure (rbig_spec _ _ (dig_digs _ _) (by omega)) ?_
    rw [hdv]
    have e : (if decide (b < 0) = true then -((a.natAbs + b.natAbs : Nat) : Int) else ((a.natAbs + b.natAbs : Nat) : Int)) = a + b := by
      have hs' := decide_eq_decide.1 hs
      rw [Int.natCast_add, ka, kb]
      by_cases hb' : b < 0 <;> simp [hs', hb'] <;> omega
    rw [e]
    simp (config := { maxSteps := 1000000 }) (disch := ((try simp only [awL]); omega)) only [↓awU, awV, awF, ofVal, ofVal0, isShift, aggK, forall_const, ↓reduceIte, ↓reduceDIte, ↓purePost, combine, idsA, cellsA, numsOf, srcA, calleeA, refsA, isScalar, scalarD, scalar0, AV.one, putL, unfA, implies_true, IntKind.signed, Nat.reduceAdd, Nat.reduceSub, Nat.reduceMul, Nat.reducePow, Nat.reduceDiv, Nat.reduceMod, Int.reduceAdd, Int.reduceSub, Int.reduceMul, Int.reducePow, Int.reduceNeg, Int.reduceToNat, Int.reduceLT, Int.reduceLE, Nat.reduceEqDiff, sidsB, Nat.reduceBEq, keyKD, isIntK]
    try rfl
  · simp (config := { maxSteps := 1000000 }) (disch := ((try simp only [awL]); omega)) only [Tryz.f61, hs, ↓awU, awV, awF, ofVal, ofVal0, isShift, aggK, forall_const, ↓reduceIte, ↓reduceDIte, ↓purePost, combine, idsA, cellsA, numsOf, srcA, calleeA, refsA, isScalar, scalarD, scalar0, AV.one, putL, unfA, implies_true, IntKind.signed, Nat.reduceAdd, Nat.reduceSub, Nat.reduceMul, Nat.reducePow, Nat.reduceDiv, Nat.reduceMod, Int.reduceAdd, Int.reduceSub, Int.reduceMul, Int.reducePow, Int.reduceNeg, Int.reduceToNat, Int.reduceLT, Int.reduceLE, Nat.reduceEqDiff, sidsB, Nat.reduceBEq, keyKD, isIntK]
    refine CallC.pure (rcmp_spec _ _ (by omega) (by omega)) ?_
    have hsg : ¬ (a < 0) ∨ ¬ (b < 0) := by
      by_cases h1 : a < 0
      · right; intro h2; exact hs (by simp [h1, h2])
      · left; exact h1
    have hsg2 : a < 0 ∨ b < 0 := by
      by_cases h1 : a < 0
      · left; exact h1
      · right
        by_cases h2 : b < 0
        · exact h2
        · exact absurd (by simp [h1, h2]) hs
    by_cases h : b.natAbs ≤ a.natAbs
    · have h' := hcmp.2 h
      simp (config := { maxSteps := 1000000 }) (disch := ((try simp only [awL]); omega)) only [h', ↓awU, awV, awF, ofVal, ofVal0, isShift, aggK, forall_const, ↓reduceIte, ↓reduceDIte, ↓purePost, combine, idsA, cellsA, numsOf, srcA, calleeA, refsA, isScalar, scalarD, scalar0, AV.one, putL, unfA, implies_true, IntKind.signed, Nat.reduceAdd, Nat.reduceSub, Nat.reduceMul, Nat.reducePow, Nat.reduceDiv, Nat.reduceMod, Int.reduceAdd, Int.reduceSub, Int.reduceMul, Int.reducePow, Int.reduceNeg, Int.reduceToNat, Int.reduceLT, Int.reduceLE, Nat.reduceEqDiff, sidsB, Nat.reduceBEq, keyKD, isIntK]
      refine CallC.pure (rsub_spec _ _ h (by omega)) ?_
      simp (config := { maxSteps := 1000000 }) (disch := ((try simp only [awL]); omega)) only [↓awU, awV, awF, ofVal, ofVal0, isShift, aggK, forall_const, ↓reduceIte, ↓reduceDIte, ↓purePost, combine, idsA, cellsA, numsOf, srcA, calleeA, refsA, isScalar, scalarD, scalar0, AV.one, putL, unfA, implies_true, IntKind.signed, Nat.reduceAdd, Nat.reduceSub, Nat.reduceMul, Nat.reducePow, Nat.reduceDiv, Nat.reduceMod, Int.reduceAdd, Int.reduceSub, Int.reduceMul, Int.reducePow, Int.reduceNeg, Int.reduceToNat, Int.reduceLT, Int.reduceLE, Nat.reduceEqDiff, sidsB, Nat.reduceBEq, keyKD, isIntK]
      refine CallC.pure (rbig_spec _ _ (dig_toW _) (by omega)) ?_
      rw [val_toW]
      have e : (if decide (a < 0) = true then -((a.natAbs - b.natAbs : Nat) : Int) else ((a.natAbs - b.natAbs : Nat) : Int)) = a + b := by
        by_cases h1 : a < 0
        · simp only [h1, decide_true, if_true]; omega
        · simp only [h1, decide_false, Bool.false_eq_true, if_false]; omega
      rw [e]
      simp (config := { maxSteps := 1000000 }) (disch := ((try simp only [awL]); omega)) only [↓awU, awV, awF, ofVal, ofVal0, isShift, aggK, forall_const, ↓reduceIte, ↓reduceDIte, ↓purePost, combine, idsA, cellsA, numsOf, srcA, calleeA, refsA, isScalar, scalarD, scalar0, AV.one, putL, unfA, implies_true, IntKind.signed, Nat.reduceAdd, Nat.reduceSub, Nat.reduceMul, Nat.reducePow, Nat.reduceDiv, Nat.reduceMod, Int.reduceAdd, Int.reduceSub, Int.reduceMul, Int.reducePow, Int.reduceNeg, Int.reduceToNat, Int.reduceLT, Int.reduceLE, Nat.reduceEqDiff, sidsB, Nat.reduceBEq, keyKD, isIntK]
      try rfl
    · have h' : ¬ 0 ≤ cmpI (a.natAbs : Int) b.natAbs := fun h2 => h (hcmp.1 h2)
      simp (config := { maxSteps := 1000000 }) (disch := ((try simp only [awL]); omega)) only [h', ↓awU, awV, awF, ofVal, ofVal0, isShift, aggK, forall_const, ↓reduceIte, ↓reduceDIte, ↓purePost, combine, idsA, cellsA, numsOf, srcA, calleeA, refsA, isScalar, scalarD, scalar0, AV.one, putL, unfA, implies_true, IntKind.signed, Nat.reduceAdd, Nat.reduceSub, Nat.reduceMul, Nat.reducePow, Nat.reduceDiv, Nat.reduceMod, Int.reduceAdd, Int.reduceSub, Int.reduceMul, Int.reducePow, Int.reduceNeg, Int.reduceToNat, Int.reduceLT, Int.reduceLE, Nat.reduceEqDiff, sidsB, Nat.reduceBEq, keyKD, isIntK]
      refine CallC.pure (rsub_spec _ _ (by omega) (by omega)) ?_
      simp (config := { maxSteps := 1000000 }) (disch := ((try simp only [awL]); omega)) only [↓awU, awV, awF, ofVal, ofVal0, isShift, aggK, forall_const, ↓reduceIte, ↓reduceDIte, ↓purePost, combine, idsA, cellsA, numsOf, srcA, calleeA, refsA, isScalar, scalarD, scalar0, AV.one, putL, unfA, implies_true, IntKind.signed, Nat.reduceAdd, Nat.reduceSub, Nat.reduceMul, Nat.reducePow, Nat.reduceDiv, Nat.reduceMod, Int.reduceAdd, Int.reduceSub, Int.reduceMul, Int.reducePow, Int.reduceNeg, Int.reduceToNat, Int.reduceLT, Int.reduceLE, Nat.reduceEqDiff, sidsB, Nat.reduceBEq, keyKD, isIntK]
      refine CallC.pure (rbig_spec _ _ (dig_toW _) (by omega)) ?_
      rw [val_toW]
      have e : (if decide (b < 0) = true then -((b.natAbs - a.natAbs : Nat) : Int) else ((b.natAbs - a.natAbs : Nat) : Int)) = a + b := by
        by_cases h1 : b < 0
        · simp only [h1, decide_true, if_true]; omega
        · simp only [h1, decide_false, Bool.false_eq_true, if_false]; omega
      rw [e]
      simp (config := { maxSteps := 1000000 }) (disch := ((try simp only [awL]); omega)) only [↓awU, awV, awF, ofVal, ofVal0, isShift, aggK, forall_const, ↓reduceIte, ↓reduceDIte, ↓purePost, combine, idsA, cellsA, numsOf, srcA, calleeA, refsA, isScalar, scalarD, scalar0, AV.one, putL, unfA, implies_true, IntKind.signed, Nat.reduceAdd, Nat.reduceSub, Nat.reduceMul, Nat.reducePow, Nat.reduceDiv, Nat.reduceMod, Int.reduceAdd, Int.reduceSub, Int.reduceMul, Int.reducePow, Int.reduceNeg, Int.reduceToNat, Int.reduceLT, Int.reduceLE, Nat.reduceEqDiff, sidsB, Nat.reduceBEq, keyKD, isIntK]
      try rfl
set_option maxHeartbeats 4000000 in
set_option maxRecDepth 100000 in
theorem rvalid_spec (x : Rat) (h1 : sz x.num < 2 ^ 36) (h2 : (toW x.den).length < 2 ^ 36) : Ctr Tryz.prog G 26 [.d (Frac x)] [] (.d (.bool (decide (FV x)))) [] := by
  have hd : 0 < (toW x.den).length := sz_pos.2 x.den_nz
  simp only [sz] at h1
  have w1 : W (toW 1) = W [1] := by rw [toW_one]
  have r1 : (toW 1).length < 2 ^ 40 := by rw [toW_one]; decide
  refine Ctr.pure (M := M0) hmix Tryz.func26 rfl go26 ?_
  simp (config := { maxSteps := 1000000 }) (disch := ((try simp only [awL]); omega)) only [Tryz.f26, ↓awU, awV, awF, ofVal, ofVal0, isShift, aggK, forall_const, ↓reduceIte, ↓reduceDIte, ↓purePost, combine, idsA, cellsA, numsOf, srcA, calleeA, refsA, isScalar, scalarD, scalar0, AV.one, putL, unfA, implies_true, IntKind.signed, Nat.reduceAdd, Nat.reduceSub, Nat.reduceMul, Nat.reducePow, Nat.reduceDiv, Nat.reduceMod, Int.reduceAdd, Int.reduceSub, Int.reduceMul, Int.reducePow, Int.reduceNeg, Int.reduceToNat, Int.reduceLT, Int.reduceLE, Nat.reduceEqDiff, sidsB, Nat.reduceBEq, keyKD, isIntK]
  refine CallC.pure (rvalidBig_spec x.num) ?_
  by_cases v1 : sz x.num ≤ 256
  · rw [decide_eq_true v1]
    simp (config := { maxSteps := 1000000 }) (disch := ((try simp only [awL]); omega)) only [↓awU, awV, awF, ofVal, ofVal0, isShift, aggK, forall_const, ↓reduceIte, ↓reduceDIte, ↓purePost, combine, idsA, cellsA, numsOf, srcA, calleeA, refsA, isScalar, scalarD, scalar0, AV.one, putL, unfA, implies_true, IntKind.signed, Nat.reduceAdd, Nat.reduceSub, Nat.reduceMul, Nat.reducePow, Nat.reduceDiv, Nat.reduceMod, Int.reduceAdd, Int.reduceSub, Int.reduceMul, Int.reducePow, Int.reduceNeg, Int.reduceToNat, Int.reduceLT, Int.reduceLE, Nat.reduceEqDiff, sidsB, Nat.reduceBEq, keyKD, isIntK]
    refine CallC.of (rvalidBig_spec x.den) (by rw [Big, bigL_nat]) ?_
    by_cases v2 : (toW x.den).length ≤ 256
    · rw [decide_eq_true (show sz (x.den : Int) ≤ 256 by simpa [sz] using v2), decide_eq_true (show FV x from ⟨v1, v2⟩)]
      have hg : Nat.gcd x.num.natAbs x.den = 1 := x.reduced
      by_cases h0 : x.num.natAbs = 0
      · have e0 : (toW x.num.natAbs).length = 0 := by rw [h0, toW_zero]; rfl
        rw [h0, Nat.gcd_zero_left] at hg
        simp (config := { maxSteps := 1000000 }) (disch := ((try simp only [awL]); omega)) only [e0, ↓awU, awV, awF, ofVal, ofVal0, isShift, aggK, forall_const, ↓reduceIte, ↓reduceDIte, ↓purePost, combine, idsA, cellsA, numsOf, srcA, calleeA, refsA, isScalar, scalarD, scalar0, AV.one, putL, unfA, implies_true, IntKind.signed, Nat.reduceAdd, Nat.reduceSub, Nat.reduceMul, Nat.reducePow, Nat.reduceDiv, Nat.reduceMod, Int.reduceAdd, Int.reduceSub, Int.reduceMul, Int.reducePow, Int.reduceNeg, Int.reduceToNat, Int.reduceLT, Int.reduceLE, Nat.reduceEqDiff, sidsB, Nat.reduceBEq, keyKD, isIntK]
        refine CallC.frozenE (rcmp_spec x.den 1 (by omega) r1) (by rw [w1]; rfl) ?_
        rw [hg, cmpI_self]
        simp (config := { maxSteps := 1000000 }) (disch := ((try simp only [awL]); omega)) only [↓awU, awV, awF, ofVal, ofVal0, isShift, aggK, forall_const, ↓reduceIte, ↓reduceDIte, ↓purePost, combine, idsA, cellsA, numsOf, srcA, calleeA, refsA, isScalar, scalarD, scalar0, AV.one, putL, unfA, implies_true, IntKind.signed, Nat.reduceAdd, Nat.reduceSub, Nat.reduceMul, Nat.reducePow, Nat.reduceDiv, Nat.reduceMod, Int.reduceAdd, Int.reduceSub, Int.reduceMul, Int.reducePow, Int.reduceNeg, Int.reduceToNat, Int.reduceLT, Int.reduceLE, Nat.reduceEqDiff, sidsB, Nat.reduceBEq, keyKD, isIntK]
        try rfl
      · have e0 := sz_pos.2 h0
        simp (config := { maxSteps := 1000000 }) (disch := ((try simp only [awL]); omega)) only [↓awU, awV, awF, ofVal, ofVal0, isShift, aggK, forall_const, ↓reduceIte, ↓reduceDIte, ↓purePost, combine, idsA, cellsA, numsOf, srcA, calleeA, refsA, isScalar, scalarD, scalar0, AV.one, putL, unfA, implies_true, IntKind.signed, Nat.reduceAdd, Nat.reduceSub, Nat.reduceMul, Nat.reducePow, Nat.reduceDiv, Nat.reduceMod, Int.reduceAdd, Int.reduceSub, Int.reduceMul, Int.reducePow, Int.reduceNeg, Int.reduceToNat, Int.reduceLT, Int.reduceLE, Nat.reduceEqDiff, sidsB, Nat.reduceBEq, keyKD, isIntK]
        refine CallC.pure (gcd_spec _ _ h0 x.den_nz (by omega) (by omega)) ?_
        rw [hg]
        simp (config := { maxSteps := 1000000 }) (disch := ((try simp only [awL]); omega)) only [↓awU, awV, awF, ofVal, ofVal0, isShift, aggK, forall_const, ↓reduceIte, ↓reduceDIte, ↓purePost, combine, idsA, cellsA, numsOf, srcA, calleeA, refsA, isScalar, scalarD, scalar0, AV.one, putL, unfA, implies_true, IntKind.signed, Nat.reduceAdd, Nat.reduceSub, Nat.reduceMul, Nat.reducePow, Nat.reduceDiv, Nat.reduceMod, Int.reduceAdd, Int.reduceSub, Int.reduceMul, Int.reducePow, Int.reduceNeg, Int.reduceToNat, Int.reduceLT, Int.reduceLE, Nat.reduceEqDiff, sidsB, Nat.reduceBEq, keyKD, isIntK]
        refine CallC.frozenE (rcmp_spec 1 1 r1 r1) (by simp only [toW_one]; rfl) ?_
        rw [cmpI_self]
        simp (config := { maxSteps := 1000000 }) (disch := ((try simp only [awL]); omega)) only [↓awU, awV, awF, ofVal, ofVal0, isShift, aggK, forall_const, ↓reduceIte, ↓reduceDIte, ↓purePost, combine, idsA, cellsA, numsOf, srcA, calleeA, refsA, isScalar, scalarD, scalar0, AV.one, putL, unfA, implies_true, IntKind.signed, Nat.reduceAdd, Nat.reduceSub, Nat.reduceMul, Nat.reducePow, Nat.reduceDiv, Nat.reduceMod, Int.reduceAdd, Int.reduceSub, Int.reduceMul, Int.reducePow, Int.reduceNeg, Int.reduceToNat, Int.reduceLT, Int.reduceLE, Nat.reduceEqDiff, sidsB, Nat.reduceBEq, keyKD, isIntK]
        try rfl
    · rw [decide_eq_false (show ¬ sz (x.den : Int) ≤ 256 by simpa [sz] using v2), decide_eq_false (show ¬ FV x from fun h => v2 h.2)]
      simp (config := { maxSteps := 1000000 }) (disch := ((try simp only [awL]); omega)) only [↓awU, awV, awF, ofVal, ofVal0, isShift, aggK, forall_const, ↓reduceIte, ↓reduceDIte, ↓purePost, combine, idsA, cellsA, numsOf, srcA, calleeA, refsA, isScalar, scalarD, scalar0, AV.one, putL, unfA, implies_true, IntKind.signed, Nat.reduceAdd, Nat.reduceSub, Nat.reduceMul, Nat.reducePow, Nat.reduceDiv, Nat.reduceMod, Int.reduceAdd, Int.reduceSub, Int.reduceMul, Int.reducePow, Int.reduceNeg, Int.reduceToNat, Int.reduceLT, Int.reduceLE, Nat.reduceEqDiff, sidsB, Nat.reduceBEq, keyKD, isIntK]
  · rw [decide_eq_false v1, decide_eq_false (show ¬ FV x from fun h => v1 h.1)]
    simp (config := { maxSteps := 1000000 }) (disch := ((try simp only [awL]); omega)) only [↓awU, awV, awF, ofVal, ofVal0, isShift, aggK, forall_const, ↓reduceIte, ↓reduceDIte, ↓purePost, combine, idsA, cellsA, numsOf, srcA, calleeA, refsA, isScalar, scalarD, scalar0, AV.one, putL, unfA, implies_true, IntKind.signed, Nat.reduceAdd, Nat.reduceSub, Nat.reduceMul, Nat.reducePow, Nat.reduceDiv, Nat.reduceMod, Int.reduceAdd, Int.reduceSub, Int.reduceMul, Int.reducePow, Int.reduceNeg, Int.reduceToNat, Int.reduceLT, Int.reduceLE, Nat.reduceEqDiff, sidsB, Nat.reduceBEq, keyKD, isIntK]
set_option maxHeartbeats 4000000 in
set_option maxRecDepth 100000 in
theorem rlowest_spec (n d : Int) (hd : d ≠ 0) (hn : sz n < 2 ^ 36) (hds : sz d < 2 ^ 36) : Ctr Tryz.prog G 74 [.d (Big n), .d (Big d)] [] (.d (Frac (Rat.divInt n d))) [] := by
  simp only [sz] at hn hds
  have hg0 : Nat.gcd n.natAbs d.natAbs ≠ 0 := by
    intro h; exact hd (Int.natAbs_eq_zero.1 (Nat.gcd_eq_zero_iff.1 h).2)
  have hgl : (toW (Nat.gcd n.natAbs d.natAbs)).length ≤ (toW d.natAbs).length := toW_len_mono (Nat.gcd_le_right _ (by omega))
  have hx := @div_len n.natAbs (Nat.gcd n.natAbs d.natAbs)
  have hy := @div_len d.natAbs (Nat.gcd n.natAbs d.natAbs)
  have e1 : (Rat.divInt n d).num = if ¬ decide (n < 0) = decide (d < 0) then -((n.natAbs / Nat.gcd n.natAbs d.natAbs : Nat) : Int) else ((n.natAbs / Nat.gcd n.natAbs d.natAbs : Nat) : Int) := by
    rw [Rat.num_divInt, sign_mul hd, Int.gcd, Nat.gcd_comm d.natAbs]
    split
    · exact neg_div (Nat.gcd_dvd_left _ _)
    · rfl
  have e2 : (Rat.divInt n d).den = d.natAbs / Nat.gcd n.natAbs d.natAbs := by
    rw [Rat.den_divInt, if_neg hd, Int.gcd, Nat.gcd_comm d.natAbs]
  refine Ctr.pure (M := M0) hmix Tryz.func74 rfl go74 ?_
  by_cases h0 : n = 0
  · subst h0
    have hF : Frac (Rat.divInt 0 d) = Frac 0 := by rw [Rat.zero_divInt]
    have e : toW (0 : Int).natAbs = [] := toW_zero
    rw [hF]
    simp only [Big, bigL, e]
    simp (config := { maxSteps := 1000000 }) (disch := ((try simp only [awL]); omega)) only [Tryz.f74, ↓awU, awV, awF, ofVal, ofVal0, isShift, aggK, forall_const, ↓reduceIte, ↓reduceDIte, ↓purePost, combine, idsA, cellsA, numsOf, srcA, calleeA, refsA, isScalar, scalarD, scalar0, AV.one, putL, unfA, implies_true, IntKind.signed, Nat.reduceAdd, Nat.reduceSub, Nat.reduceMul, Nat.reducePow, Nat.reduceDiv, Nat.reduceMod, Int.reduceAdd, Int.reduceSub, Int.reduceMul, Int.reducePow, Int.reduceNeg, Int.reduceToNat, Int.reduceLT, Int.reduceLE, Nat.reduceEqDiff, sidsB, Nat.reduceBEq, keyKD, isIntK]
    refine CallC.pure (rfromInt_spec 1 (by decide) (by decide)) ?_
    have e1 : (0 : Rat).num = 0 := rfl
    have e2 : (0 : Rat).den = 1 := rfl
    have e3 : (0 : Int).natAbs = 0 := rfl
    have e4 : (1 : Int).natAbs = 1 := rfl
    simp (config := { maxSteps := 1000000 }) (disch := ((try simp only [awL]); omega)) only [e1, e2, e3, e4, toW_zero, toW_one, ↓awU, awV, awF, ofVal, ofVal0, isShift, aggK, forall_const, ↓reduceIte, ↓reduceDIte, ↓purePost, combine, idsA, cellsA, numsOf, srcA, calleeA, refsA, isScalar, scalarD, scalar0, AV.one, putL, unfA, implies_true, IntKind.signed, Nat.reduceAdd, Nat.reduceSub, Nat.reduceMul, Nat.reducePow, Nat.reduceDiv, Nat.reduceMod, Int.reduceAdd, Int.reduceSub, Int.reduceMul, Int.reducePow, Int.reduceNeg, Int.reduceToNat, Int.reduceLT, Int.reduceLE, Nat.reduceEqDiff, sidsB, Nat.reduceBEq, keyKD, isIntK]
    simp only [Frac, W, e1, e2, e3, toW_zero, toW_one]
    rfl
  · have hnz : n.natAbs ≠ 0 := by omega
    have e0 := sz_pos.2 hnz
    simp (config := { maxSteps := 1000000 }) (disch := ((try simp only [awL]); omega)) only [Tryz.f74, ↓awU, awV, awF, ofVal, ofVal0, isShift, aggK, forall_const, ↓reduceIte, ↓reduceDIte, ↓purePost, combine, idsA, cellsA, numsOf, srcA, calleeA, refsA, isScalar, scalarD, scalar0, AV.one, putL, unfA, implies_true, IntKind.signed, Nat.reduceAdd, Nat.reduceSub, Nat.reduceMul, Nat.reducePow, Nat.reduceDiv, Nat.reduceMod, Int.reduceAdd, Int.reduceSub, Int.reduceMul, Int.reducePow, Int.reduceNeg, Int.reduceToNat, Int.reduceLT, Int.reduceLE, Nat.reduceEqDiff, sidsB, Nat.reduceBEq, keyKD, isIntK]
    refine CallC.pure (gcd_spec _ _ hnz (by omega) (by omega) (by omega)) ?_
    generalize Nat.gcd n.natAbs d.natAbs = g at *
    simp (config := { maxSteps := 1000000 }) (disch := ((try simp only [awL]); omega)) only [↓awU, awV, awF, ofVal, ofVal0, isShift, aggK, forall_const, ↓reduceIte, ↓reduceDIte, ↓purePost, combine, idsA, cellsA, numsOf, srcA, calleeA, refsA, isScalar, scalarD, scalar0, AV.one, putL, unfA, implies_true, IntKind.signed, Nat.reduceAdd, Nat.reduceSub, Nat.reduceMul, Nat.reducePow, Nat.reduceDiv, Nat.reduceMod, Int.reduceAdd, Int.reduceSub, Int.reduceMul, Int.reducePow, Int.reduceNeg, Int.reduceToNat, Int.reduceLT, Int.reduceLE, Nat.reduceEqDiff, sidsB, Nat.reduceBEq, keyKD, isIntK]
    refine CallC.pure (div_spec _ g hg0 (by omega) (by omega)) ?_
    simp (config := { maxSteps := 1000000 }) (disch := ((try simp only [awL]); omega)) only [↓awU, awV, awF, ofVal, ofVal0, isShift, aggK, forall_const, ↓reduceIte, ↓reduceDIte, ↓purePost, combine, idsA, cellsA, numsOf, srcA, calleeA, refsA, isScalar, scalarD, scalar0, AV.one, putL, unfA, implies_true, IntKind.signed, Nat.reduceAdd, Nat.reduceSub, Nat.reduceMul, Nat.reducePow, Nat.reduceDiv, Nat.reduceMod, Int.reduceAdd, Int.reduceSub, Int.reduceMul, Int.reducePow, Int.reduceNeg, Int.reduceToNat, Int.reduceLT, Int.reduceLE, Nat.reduceEqDiff, sidsB, Nat.reduceBEq, keyKD, isIntK]
    refine CallC.pure (div_spec _ g hg0 (by omega) (by omega)) ?_
    simp (config := { maxSteps := 1000000 }) (disch := ((try simp only [awL]); omega)) only [↓awU, awV, awF, ofVal, ofVal0, isShift, aggK, forall_const, ↓reduceIte, ↓reduceDIte, ↓purePost, combine, idsA, cellsA, numsOf, srcA, calleeA, refsA, isScalar, scalarD, scalar0, AV.one, putL, unfA, implies_true, IntKind.signed, Nat.reduceAdd, Nat.reduceSub, Nat.reduceMul, Nat.reducePow, Nat.reduceDiv, Nat.reduceMod, Int.reduceAdd, Int.reduceSub, Int.reduceMul, Int.reducePow, Int.reduceNeg, Int.reduceToNat, Int.reduceLT, Int.reduceLE, Nat.reduceEqDiff, sidsB, Nat.reduceBEq, keyKD, isIntK]
    refine CallC.pure (rbig_spec _ _ (dig_toW _) (by omega)) ?_
    simp (config := { maxSteps := 1000000 }) (disch := ((try simp only [awL]); omega)) only [↓awU, awV, awF, ofVal, ofVal0, isShift, aggK, forall_const, ↓reduceIte, ↓reduceDIte, ↓purePost, combine, idsA, cellsA, numsOf, srcA, calleeA, refsA, isScalar, scalarD, scalar0, AV.one, putL, unfA, implies_true, IntKind.signed, Nat.reduceAdd, Nat.reduceSub, Nat.reduceMul, Nat.reducePow, Nat.reduceDiv, Nat.reduceMod, Int.reduceAdd, Int.reduceSub, Int.reduceMul, Int.reducePow, Int.reduceNeg, Int.reduceToNat, Int.reduceLT, Int.reduceLE, Nat.reduceEqDiff, sidsB, Nat.reduceBEq, keyKD, isIntK]
    refine CallC.pure (rbig_spec false _ (dig_toW _) (by omega)) ?_
    simp only [Frac]
    rw [e1, e2, val_toW, val_toW]
    simp (config := { maxSteps := 1000000 }) (disch := ((try simp only [awL]); omega)) only [↓awU, awV, awF, ofVal, ofVal0, isShift, aggK, forall_const, ↓reduceIte, ↓reduceDIte, ↓purePost, combine, idsA, cellsA, numsOf, srcA, calleeA, refsA, isScalar, scalarD, scalar0, AV.one, putL, unfA, implies_true, IntKind.signed, Nat.reduceAdd, Nat.reduceSub, Nat.reduceMul, Nat.reducePow, Nat.reduceDiv, Nat.reduceMod, Int.reduceAdd, Int.reduceSub, Int.reduceMul, Int.reducePow, Int.reduceNeg, Int.reduceToNat, Int.reduceLT, Int.reduceLE, Nat.reduceEqDiff, sidsB, Nat.reduceBEq, keyKD, isIntK]
end Go.Proofs.YtkppgdialedoeaaGreatDoor

namespace Go.Proofs.YtkppgdialedoeaaGreatDoor
open Go Go.Proofs Go.Abs
variable {G : Globals}
set_option maxHeartbeats 4000000 in
set_option maxRecDepth 100000 in
theorem rmake_spec (a b : Int) (ha : sz a ≤ 256) (hb : sz b ≤ 256) : Ctr Tryz.prog G 32 [.d (Big a), .d (Big b)] [] (.d (.tup [if b = 0 then Zf else Frac (Rat.divInt a b), .int .i64 (if b = 0 then 8 else 0)])) [] := by
  refine Ctr.pure (M := M0) hmix Tryz.func32 rfl go32 ?_
  simp (config := { maxSteps := 1000000 }) (disch := ((try simp only [awL]); omega)) only [Tryz.f32, ↓awU, awV, awF, ofVal, ofVal0, isShift, aggK, forall_const, ↓reduceIte, ↓reduceDIte, ↓purePost, combine, idsA, cellsA, numsOf, srcA, calleeA, refsA, isScalar, scalarD, scalar0, AV.one, putL, unfA, implies_true, IntKind.signed, Nat.reduceAdd, Nat.reduceSub, Nat.reduceMul, Nat.reducePow, Nat.reduceDiv, Nat.reduceMod, Int.reduceAdd, Int.reduceSub, Int.reduceMul, Int.reducePow, Int.reduceNeg, Int.reduceToNat, Int.reduceLT, Int.reduceLE, Nat.reduceEqDiff, sidsB, Nat.reduceBEq, keyKD, isIntK]
  refine CallC.pure (rvalidBig_spec a) ?_
  rw [decide_eq_true ha]
  simp (config := { maxSteps := 1000000 }) (disch := ((try simp only [awL]); omega)) only [↓awU, awV, awF, ofVal, ofVal0, isShift, aggK, forall_const, ↓reduceIte, ↓reduceDIte, ↓purePost, combine, idsA, cellsA, numsOf, srcA, calleeA, refsA, isScalar, scalarD, scalar0, AV.one, putL, unfA, implies_true, IntKind.signed, Nat.reduceAdd, Nat.reduceSub, Nat.reduceMul, Nat.reducePow, Nat.reduceDiv, Nat.reduceMod, Int.reduceAdd, Int.reduceSub, Int.reduceMul, Int.reducePow, Int.reduceNeg, Int.reduceToNat, Int.reduceLT, Int.reduceLE, Nat.reduceEqDiff, sidsB, Nat.reduceBEq, keyKD, isIntK]
  refine CallC.pure (rvalidBig_spec b) ?_
  rw [decide_eq_true hb]
  simp only [sz] at ha hb
  by_cases h0 : b = 0
  · subst h0
    have e : (toW (0 : Int).natAbs).length = 0 := by rw [show (0 : Int).natAbs = 0 from rfl, toW_zero]; rfl
    rw [if_pos rfl, if_pos rfl]
    simp (config := { maxSteps := 1000000 }) (disch := ((try simp only [awL]); omega)) only [e, ↓awU, awV, awF, ofVal, ofVal0, isShift, aggK, forall_const, ↓reduceIte, ↓reduceDIte, ↓purePost, combine, idsA, cellsA, numsOf, srcA, calleeA, refsA, isScalar, scalarD, scalar0, AV.one, putL, unfA, implies_true, IntKind.signed, Nat.reduceAdd, Nat.reduceSub, Nat.reduceMul, Nat.reducePow, Nat.reduceDiv, Nat.reduceMod, Int.reduceAdd, Int.reduceSub, Int.reduceMul, Int.reducePow, Int.reduceNeg, Int.reduceToNat, Int.reduceLT, Int.reduceLE, Nat.reduceEqDiff, sidsB, Nat.reduceBEq, keyKD, isIntK]
  · have e := (@sz_pos b.natAbs).2 (by omega)
    rw [if_neg h0, if_neg h0]
    simp (config := { maxSteps := 1000000 }) (disch := ((try simp only [awL]); omega)) only [↓awU, awV, awF, ofVal, ofVal0, isShift, aggK, forall_const, ↓reduceIte, ↓reduceDIte, ↓purePost, combine, idsA, cellsA, numsOf, srcA, calleeA, refsA, isScalar, scalarD, scalar0, AV.one, putL, unfA, implies_true, IntKind.signed, Nat.reduceAdd, Nat.reduceSub, Nat.reduceMul, Nat.reducePow, Nat.reduceDiv, Nat.reduceMod, Int.reduceAdd, Int.reduceSub, Int.reduceMul, Int.reducePow, Int.reduceNeg, Int.reduceToNat, Int.reduceLT, Int.reduceLE, Nat.reduceEqDiff, sidsB, Nat.reduceBEq, keyKD, isIntK]
    refine CallC.pure (rlowest_spec a b h0 (by simp only [sz]; omega) (by simp only [sz]; omega)) ?_
    simp (config := { maxSteps := 1000000 }) (disch := ((try simp only [awL]); omega)) only [↓awU, awV, awF, ofVal, ofVal0, isShift, aggK, forall_const, ↓reduceIte, ↓reduceDIte, ↓purePost, combine, idsA, cellsA, numsOf, srcA, calleeA, refsA, isScalar, scalarD, scalar0, AV.one, putL, unfA, implies_true, IntKind.signed, Nat.reduceAdd, Nat.reduceSub, Nat.reduceMul, Nat.reducePow, Nat.reduceDiv, Nat.reduceMod, Int.reduceAdd, Int.reduceSub, Int.reduceMul, Int.reducePow, Int.reduceNeg, Int.reduceToNat, Int.reduceLT, Int.reduceLE, Nat.reduceEqDiff, sidsB, Nat.reduceBEq, keyKD, isIntK]
theorem rof_spec (a b : Int) (h1 : -9223372036854775808 ≤ a) (h2 : a ≤ 9223372036854775807) (h3 : -9223372036854775808 ≤ b) (h4 : b ≤ 9223372036854775807) :
    Ctr Tryz.prog G 30 [.d (.int .i64 a), .d (.int .i64 b)] [] (.d (.tup [if b = 0 then Zf else Frac (Rat.divInt a b), .int .i64 (if b = 0 then 8 else 0)])) [] := by
  have ka := sz_int h1 h2
  have kb := sz_int h3 h4
  refine Ctr.pure (M := M0) hmix Tryz.func30 rfl go30 ?_
  simp (config := { maxSteps := 1000000 }) (disch := ((try simp only [awL]); omega)) only [Tryz.f30, ↓awU, awV, awF, ofVal, ofVal0, isShift, aggK, forall_const, ↓reduceIte, ↓reduceDIte, ↓purePost, combine, idsA, cellsA, numsOf, srcA, calleeA, refsA, isScalar, scalarD, scalar0, AV.one, putL, unfA, implies_true, IntKind.signed, Nat.reduceAdd, Nat.reduceSub, Nat.reduceMul, Nat.reducePow, Nat.reduceDiv, Nat.reduceMod, Int.reduceAdd, Int.reduceSub, Int.reduceMul, Int.reducePow, Int.reduceNeg, Int.reduceToNat, Int.reduceLT, Int.reduceLE, Nat.reduceEqDiff, sidsB, Nat.reduceBEq, keyKD, isIntK]
  refine CallC.pure (rfromInt_spec a h1 h2) ?_
  simp (config := { maxSteps := 1000000 }) (disch := ((try simp only [awL]); omega)) only [↓awU, awV, awF, ofVal, ofVal0, isShift, aggK, forall_const, ↓reduceIte, ↓reduceDIte, ↓purePost, combine, idsA, cellsA, numsOf, srcA, calleeA, refsA, isScalar, scalarD, scalar0, AV.one, putL, unfA, implies_true, IntKind.signed, Nat.reduceAdd, Nat.reduceSub, Nat.reduceMul, Nat.reducePow, Nat.reduceDiv, Nat.reduceMod, Int.reduceAdd, Int.reduceSub, Int.reduceMul, Int.reducePow, Int.reduceNeg, Int.reduceToNat, Int.reduceLT, Int.reduceLE, Nat.reduceEqDiff, sidsB, Nat.reduceBEq, keyKD, isIntK]
  refine CallC.pure (rfromInt_spec b h3 h4) ?_
  simp (config := { maxSteps := 1000000 }) (disch := ((try simp only [awL]); omega)) only [↓awU, awV, awF, ofVal, ofVal0, isShift, aggK, forall_const, ↓reduceIte, ↓reduceDIte, ↓purePost, combine, idsA, cellsA, numsOf, srcA, calleeA, refsA, isScalar, scalarD, scalar0, AV.one, putL, unfA, implies_true, IntKind.signed, Nat.reduceAdd, Nat.reduceSub, Nat.reduceMul, Nat.reducePow, Nat.reduceDiv, Nat.reduceMod, Int.reduceAdd, Int.reduceSub, Int.reduceMul, Int.reducePow, Int.reduceNeg, Int.reduceToNat, Int.reduceLT, Int.reduceLE, Nat.reduceEqDiff, sidsB, Nat.reduceBEq, keyKD, isIntK]
  refine CallC.pure (rmake_spec a b (by omega) (by omega)) ?_
  by_cases h0 : b = 0
  · rw [if_pos h0, if_pos h0]
    simp (config := { maxSteps := 1000000 }) (disch := ((try simp only [awL]); omega)) only [↓awU, awV, awF, ofVal, ofVal0, isShift, aggK, forall_const, ↓reduceIte, ↓reduceDIte, ↓purePost, combine, idsA, cellsA, numsOf, srcA, calleeA, refsA, isScalar, scalarD, scalar0, AV.one, putL, unfA, implies_true, IntKind.signed, Nat.reduceAdd, Nat.reduceSub, Nat.reduceMul, Nat.reducePow, Nat.reduceDiv, Nat.reduceMod, Int.reduceAdd, Int.reduceSub, Int.reduceMul, Int.reducePow, Int.reduceNeg, Int.reduceToNat, Int.reduceLT, Int.reduceLE, Nat.reduceEqDiff, sidsB, Nat.reduceBEq, keyKD, isIntK]
  · rw [if_neg h0, if_neg h0]
    simp (config := { maxSteps := 1000000 }) (disch := ((try simp only [awL]); omega)) only [↓awU, awV, awF, ofVal, ofVal0, isShift, aggK, forall_const, ↓reduceIte, ↓reduceDIte, ↓purePost, combine, idsA, cellsA, numsOf, srcA, calleeA, refsA, isScalar, scalarD, scalar0, AV.one, putL, unfA, implies_true, IntKind.signed, Nat.reduceAdd, Nat.reduceSub, Nat.reduceMul, Nat.reducePow, Nat.reduceDiv, Nat.reduceMod, Int.reduceAdd, Int.reduceSub, Int.reduceMul, Int.reducePow, Int.reduceNeg, Int.reduceToNat, Int.reduceLT, Int.reduceLE, Nat.reduceEqDiff, sidsB, Nat.reduceBEq, keyKD, isIntK]
set_option maxHeartbeats 4000000 in
set_option maxRecDepth 100000 in
theorem rcmpF_spec (x y : Rat) (h1 : FV x) (h2 : FV y) : Ctr Tryz.prog G 24 [.d (Frac x), .d (Frac y)] [] (.d (.int .i64 (cmpQ x y))) [] := by
  have h1' := h1
  have h2' := h2
  obtain ⟨a1, a2⟩ := h1'
  obtain ⟨b1, b2⟩ := h2'
  have s1 := @sz_mul x.num y.den
  have s2 := @sz_mul y.num x.den
  have c2 : sz (x.den : Int) ≤ 256 := by simpa [sz] using a2
  have d2 : sz (y.den : Int) ≤ 256 := by simpa [sz] using b2
  have sn : sz (-(y.num * x.den)) = sz (y.num * x.den) := by simp only [sz, Int.natAbs_neg]
  refine Ctr.pure (M := M0) hmix Tryz.func24 rfl go24 ?_
  simp (config := { maxSteps := 1000000 }) (disch := ((try simp only [awL]); omega)) only [Tryz.f24, ↓awU, awV, awF, ofVal, ofVal0, isShift, aggK, forall_const, ↓reduceIte, ↓reduceDIte, ↓purePost, combine, idsA, cellsA, numsOf, srcA, calleeA, refsA, isScalar, scalarD, scalar0, AV.one, putL, unfA, implies_true, IntKind.signed, Nat.reduceAdd, Nat.reduceSub, Nat.reduceMul, Nat.reducePow, Nat.reduceDiv, Nat.reduceMod, Int.reduceAdd, Int.reduceSub, Int.reduceMul, Int.reducePow, Int.reduceNeg, Int.reduceToNat, Int.reduceLT, Int.reduceLE, Nat.reduceEqDiff, sidsB, Nat.reduceBEq, keyKD, isIntK]
  refine CallC.pure (rvalid_spec x (by omega) (by omega)) ?_
  rw [decide_eq_true h1]
  simp (config := { maxSteps := 1000000 }) (disch := ((try simp only [awL]); omega)) only [↓awU, awV, awF, ofVal, ofVal0, isShift, aggK, forall_const, ↓reduceIte, ↓reduceDIte, ↓purePost, combine, idsA, cellsA, numsOf, srcA, calleeA, refsA, isScalar, scalarD, scalar0, AV.one, putL, unfA, implies_true, IntKind.signed, Nat.reduceAdd, Nat.reduceSub, Nat.reduceMul, Nat.reducePow, Nat.reduceDiv, Nat.reduceMod, Int.reduceAdd, Int.reduceSub, Int.reduceMul, Int.reducePow, Int.reduceNeg, Int.reduceToNat, Int.reduceLT, Int.reduceLE, Nat.reduceEqDiff, sidsB, Nat.reduceBEq, keyKD, isIntK]
  refine CallC.pure (rvalid_spec y (by omega) (by omega)) ?_
  rw [decide_eq_true h2]
  simp (config := { maxSteps := 1000000 }) (disch := ((try simp only [awL]); omega)) only [↓awU, awV, awF, ofVal, ofVal0, isShift, aggK, forall_const, ↓reduceIte, ↓reduceDIte, ↓purePost, combine, idsA, cellsA, numsOf, srcA, calleeA, refsA, isScalar, scalarD, scalar0, AV.one, putL, unfA, implies_true, IntKind.signed, Nat.reduceAdd, Nat.reduceSub, Nat.reduceMul, Nat.reducePow, Nat.reduceDiv, Nat.reduceMod, Int.reduceAdd, Int.reduceSub, Int.reduceMul, Int.reducePow, Int.reduceNeg, Int.reduceToNat, Int.reduceLT, Int.reduceLE, Nat.reduceEqDiff, sidsB, Nat.reduceBEq, keyKD, isIntK]
  refine CallC.of (rtimes_spec x.num y.den (by omega) (by omega)) (by rw [Big_neg, Big, bigL_nat]) ?_
  simp (config := { maxSteps := 1000000 }) (disch := ((try simp only [awL]); omega)) only [↓awU, awV, awF, ofVal, ofVal0, isShift, aggK, forall_const, ↓reduceIte, ↓reduceDIte, ↓purePost, combine, idsA, cellsA, numsOf, srcA, calleeA, refsA, isScalar, scalarD, scalar0, AV.one, putL, unfA, implies_true, IntKind.signed, Nat.reduceAdd, Nat.reduceSub, Nat.reduceMul, Nat.reducePow, Nat.reduceDiv, Nat.reduceMod, Int.reduceAdd, Int.reduceSub, Int.reduceMul, Int.reducePow, Int.reduceNeg, Int.reduceToNat, Int.reduceLT, Int.reduceLE, Nat.reduceEqDiff, sidsB, Nat.reduceBEq, keyKD, isIntK]
  refine CallC.of (rtimes_spec y.num x.den (by omega) (by omega)) (by rw [Big_neg, Big, bigL_nat]) ?_
  simp (config := { maxSteps := 1000000 }) (disch := ((try simp only [awL]); omega)) only [↓awU, awV, awF, ofVal, ofVal0, isShift, aggK, forall_const, ↓reduceIte, ↓reduceDIte, ↓purePost, combine, idsA, cellsA, numsOf, srcA, calleeA, refsA, isScalar, scalarD, scalar0, AV.one, putL, unfA, implies_true, IntKind.signed, Nat.reduceAdd, Nat.reduceSub, Nat.reduceMul, Nat.reducePow, Nat.reduceDiv, Nat.reduceMod, Int.reduceAdd, Int.reduceSub, Int.reduceMul, Int.reducePow, Int.reduceNeg, Int.reduceToNat, Int.reduceLT, Int.reduceLE, Nat.reduceEqDiff, sidsB, Nat.reduceBEq, keyKD, isIntK]
  refine CallC.pure (rminus_spec _ (by omega)) ?_
  simp (config := { maxSteps := 1000000 }) (disch := ((try simp only [awL]); omega)) only [↓awU, awV, awF, ofVal, ofVal0, isShift, aggK, forall_const, ↓reduceIte, ↓reduceDIte, ↓purePost, combine, idsA, cellsA, numsOf, srcA, calleeA, refsA, isScalar, scalarD, scalar0, AV.one, putL, unfA, implies_true, IntKind.signed, Nat.reduceAdd, Nat.reduceSub, Nat.reduceMul, Nat.reducePow, Nat.reduceDiv, Nat.reduceMod, Int.reduceAdd, Int.reduceSub, Int.reduceMul, Int.reducePow, Int.reduceNeg, Int.reduceToNat, Int.reduceLT, Int.reduceLE, Nat.reduceEqDiff, sidsB, Nat.reduceBEq, keyKD, isIntK]
  refine CallC.pure (rplus_spec _ _ (by omega) (by omega)) ?_
  have hp := @sz_pos (x.num * y.den + -(y.num * x.den)).natAbs
  have l1 := Rat.lt_iff x y
  have l2 := Rat.lt_iff y x
  by_cases hz : x.num * y.den + -(y.num * x.den) = 0
  · have e : (toW (x.num * y.den + -(y.num * x.den)).natAbs).length = 0 := by rw [hz]; rw [show (0 : Int).natAbs = 0 from rfl, toW_zero]; rfl
    simp (config := { maxSteps := 1000000 }) (disch := ((try simp only [awL]); omega)) only [e, ↓awU, awV, awF, ofVal, ofVal0, isShift, aggK, forall_const, ↓reduceIte, ↓reduceDIte, ↓purePost, combine, idsA, cellsA, numsOf, srcA, calleeA, refsA, isScalar, scalarD, scalar0, AV.one, putL, unfA, implies_true, IntKind.signed, Nat.reduceAdd, Nat.reduceSub, Nat.reduceMul, Nat.reducePow, Nat.reduceDiv, Nat.reduceMod, Int.reduceAdd, Int.reduceSub, Int.reduceMul, Int.reducePow, Int.reduceNeg, Int.reduceToNat, Int.reduceLT, Int.reduceLE, Nat.reduceEqDiff, sidsB, Nat.reduceBEq, keyKD, isIntK]
    refine ⟨by rfl, ?_⟩
    rw [cmpQ, if_neg (fun h2 => by have := l1.1 h2; omega), if_neg (fun h2 => by have := l2.1 h2; omega)]
  · have e := hp.2 (by omega)
    by_cases hn : x.num * y.den + -(y.num * x.den) < 0
    · simp (config := { maxSteps := 1000000 }) (disch := ((try simp only [awL]); omega)) only [hn, ↓awU, awV, awF, ofVal, ofVal0, isShift, aggK, forall_const, ↓reduceIte, ↓reduceDIte, ↓purePost, combine, idsA, cellsA, numsOf, srcA, calleeA, refsA, isScalar, scalarD, scalar0, AV.one, putL, unfA, implies_true, IntKind.signed, Nat.reduceAdd, Nat.reduceSub, Nat.reduceMul, Nat.reducePow, Nat.reduceDiv, Nat.reduceMod, Int.reduceAdd, Int.reduceSub, Int.reduceMul, Int.reducePow, Int.reduceNeg, Int.reduceToNat, Int.reduceLT, Int.reduceLE, Nat.reduceEqDiff, sidsB, Nat.reduceBEq, keyKD, isIntK]
      refine ⟨by rfl, ?_⟩
      rw [cmpQ, if_pos (l1.2 (by omega))]
    · simp (config := { maxSteps := 1000000 }) (disch := ((try simp only [awL]); omega)) only [hn, ↓awU, awV, awF, ofVal, ofVal0, isShift, aggK, forall_const, ↓reduceIte, ↓reduceDIte, ↓purePost, combine, idsA, cellsA, numsOf, srcA, calleeA, refsA, isScalar, scalarD, scalar0, AV.one, putL, unfA, implies_true, IntKind.signed, Nat.reduceAdd, Nat.reduceSub, Nat.reduceMul, Nat.reducePow, Nat.reduceDiv, Nat.reduceMod, Int.reduceAdd, Int.reduceSub, Int.reduceMul, Int.reducePow, Int.reduceNeg, Int.reduceToNat, Int.reduceLT, Int.reduceLE, Nat.reduceEqDiff, sidsB, Nat.reduceBEq, keyKD, isIntK]
      refine ⟨by rfl, ?_⟩
      rw [cmpQ, if_neg (fun h2 => by have := l1.1 h2; omega), if_pos (l2.2 (by omega))]
set_option maxHeartbeats 4000000 in
set_option maxRecDepth 100000 in
theorem rresult_spec (n d : Int) (hd : d ≠ 0) (hn : sz n < 2 ^ 36) (hds : sz d < 2 ^ 36) :
    Ctr Tryz.prog G 60 [.d (Big n), .d (Big d)] [] (.d (.tup [if FV (Rat.divInt n d) then Frac (Rat.divInt n d) else Zf, .int .i64 (if FV (Rat.divInt n d) then 0 else 3)])) [] := by
  refine Ctr.pure (M := M0) hmix Tryz.func60 rfl go60 ?_
  simp (config := { maxSteps := 1000000 }) (disch := ((try simp only [awL]); omega)) only [Tryz.f60, ↓awU, awV, awF, ofVal, ofVal0, isShift, aggK, forall_const, ↓reduceIte, ↓reduceDIte, ↓purePost, combine, idsA, cellsA, numsOf, srcA, calleeA, refsA, isScalar, scalarD, scalar0, AV.one, putL, unfA, implies_true, IntKind.signed, Nat.reduceAdd, Nat.reduceSub, Nat.reduceMul, Nat.reducePow, Nat.reduceDiv, Nat.reduceMod, Int.reduceAdd, Int.reduceSub, Int.reduceMul, Int.reducePow, Int.reduceNeg, Int.reduceToNat, Int.reduceLT, Int.reduceLE, Nat.reduceEqDiff, sidsB, Nat.reduceBEq, keyKD, isIntK]
  refine CallC.pure (rlowest_spec n d hd hn hds) ?_
  generalize Rat.divInt n d = x
  by_cases h : FV x
  · have h' := h
    obtain ⟨h1, h2⟩ := h'
    simp only [sz] at h1
    rw [if_pos h, if_pos h]
    simp (config := { maxSteps := 1000000 }) (disch := ((try simp only [awL]); omega)) only [↓awU, awV, awF, ofVal, ofVal0, isShift, aggK, forall_const, ↓reduceIte, ↓reduceDIte, ↓purePost, combine, idsA, cellsA, numsOf, srcA, calleeA, refsA, isScalar, scalarD, scalar0, AV.one, putL, unfA, implies_true, IntKind.signed, Nat.reduceAdd, Nat.reduceSub, Nat.reduceMul, Nat.reducePow, Nat.reduceDiv, Nat.reduceMod, Int.reduceAdd, Int.reduceSub, Int.reduceMul, Int.reducePow, Int.reduceNeg, Int.reduceToNat, Int.reduceLT, Int.reduceLE, Nat.reduceEqDiff, sidsB, Nat.reduceBEq, keyKD, isIntK]
  · rw [if_neg h, if_neg h]
    by_cases h1 : (toW x.num.natAbs).length ≤ 256
    · have h2 : ¬ (toW x.den).length ≤ 256 := fun h2 => h ⟨h1, h2⟩
      simp (config := { maxSteps := 1000000 }) (disch := ((try simp only [awL]); omega)) only [↓awU, awV, awF, ofVal, ofVal0, isShift, aggK, forall_const, ↓reduceIte, ↓reduceDIte, ↓purePost, combine, idsA, cellsA, numsOf, srcA, calleeA, refsA, isScalar, scalarD, scalar0, AV.one, putL, unfA, implies_true, IntKind.signed, Nat.reduceAdd, Nat.reduceSub, Nat.reduceMul, Nat.reducePow, Nat.reduceDiv, Nat.reduceMod, Int.reduceAdd, Int.reduceSub, Int.reduceMul, Int.reducePow, Int.reduceNeg, Int.reduceToNat, Int.reduceLT, Int.reduceLE, Nat.reduceEqDiff, sidsB, Nat.reduceBEq, keyKD, isIntK]
    · simp (config := { maxSteps := 1000000 }) (disch := ((try simp only [awL]); omega)) only [↓awU, awV, awF, ofVal, ofVal0, isShift, aggK, forall_const, ↓reduceIte, ↓reduceDIte, ↓purePost, combine, idsA, cellsA, numsOf, srcA, calleeA, refsA, isScalar, scalarD, scalar0, AV.one, putL, unfA, implies_true, IntKind.signed, Nat.reduceAdd, Nat.reduceSub, Nat.reduceMul, Nat.reducePow, Nat.reduceDiv, Nat.reduceMod, Int.reduceAdd, Int.reduceSub, Int.reduceMul, Int.reducePow, Int.reduceNeg, Int.reduceToNat, Int.reduceLT, Int.reduceLE, Nat.reduceEqDiff, sidsB, Nat.reduceBEq, keyKD, isIntK]
/-- The reference's operations on valid fractions. -/
abbrev Res (x : Rat) : D := .tup [if FV x then Frac x else Zf, .int .i64 (if FV x then 0 else 3)]
set_option maxHeartbeats 4000000 in
set_option maxRecDepth 100000 in
theorem raddF_spec (x y : Rat) (h1 : FV x) (h2 : FV y) : Ctr Tryz.prog G 15 [.d (Frac x), .d (Frac y)] [] (.d (Res (x + y))) [] := by
  have h1' := h1
  have h2' := h2
  obtain ⟨a1, a2⟩ := h1'
  obtain ⟨b1, b2⟩ := h2'
  have hd : x.den * y.den ≠ 0 := Nat.mul_ne_zero x.den_nz y.den_nz
  have s1 := @sz_mul x.num y.den
  have s2 := @sz_mul y.num x.den
  have s3 := @sz_add (x.num * y.den) (y.num * x.den)
  have s4 := @sz_mul (x.den : Int) y.den
  have c2 : sz (x.den : Int) ≤ 256 := by simpa [sz] using a2
  have d2 : sz (y.den : Int) ≤ 256 := by simpa [sz] using b2
  refine Ctr.pure (M := M0) hmix Tryz.func15 rfl go15 ?_
  simp (config := { maxSteps := 1000000 }) (disch := ((try simp only [awL]); omega)) only [Tryz.f15, ↓awU, awV, awF, ofVal, ofVal0, isShift, aggK, forall_const, ↓reduceIte, ↓reduceDIte, ↓purePost, combine, idsA, cellsA, numsOf, srcA, calleeA, refsA, isScalar, scalarD, scalar0, AV.one, putL, unfA, implies_true, IntKind.signed, Nat.reduceAdd, Nat.reduceSub, Nat.reduceMul, Nat.reducePow, Nat.reduceDiv, Nat.reduceMod, Int.reduceAdd, Int.reduceSub, Int.reduceMul, Int.reducePow, Int.reduceNeg, Int.reduceToNat, Int.reduceLT, Int.reduceLE, Nat.reduceEqDiff, sidsB, Nat.reduceBEq, keyKD, isIntK]
  refine CallC.pure (rvalid_spec x (by omega) (by omega)) ?_
  rw [decide_eq_true h1]
  simp (config := { maxSteps := 1000000 }) (disch := ((try simp only [awL]); omega)) only [↓awU, awV, awF, ofVal, ofVal0, isShift, aggK, forall_const, ↓reduceIte, ↓reduceDIte, ↓purePost, combine, idsA, cellsA, numsOf, srcA, calleeA, refsA, isScalar, scalarD, scalar0, AV.one, putL, unfA, implies_true, IntKind.signed, Nat.reduceAdd, Nat.reduceSub, Nat.reduceMul, Nat.reducePow, Nat.reduceDiv, Nat.reduceMod, Int.reduceAdd, Int.reduceSub, Int.reduceMul, Int.reducePow, Int.reduceNeg, Int.reduceToNat, Int.reduceLT, Int.reduceLE, Nat.reduceEqDiff, sidsB, Nat.reduceBEq, keyKD, isIntK]
  refine CallC.pure (rvalid_spec y (by omega) (by omega)) ?_
  rw [decide_eq_true h2]
  simp (config := { maxSteps := 1000000 }) (disch := ((try simp only [awL]); omega)) only [↓awU, awV, awF, ofVal, ofVal0, isShift, aggK, forall_const, ↓reduceIte, ↓reduceDIte, ↓purePost, combine, idsA, cellsA, numsOf, srcA, calleeA, refsA, isScalar, scalarD, scalar0, AV.one, putL, unfA, implies_true, IntKind.signed, Nat.reduceAdd, Nat.reduceSub, Nat.reduceMul, Nat.reducePow, Nat.reduceDiv, Nat.reduceMod, Int.reduceAdd, Int.reduceSub, Int.reduceMul, Int.reducePow, Int.reduceNeg, Int.reduceToNat, Int.reduceLT, Int.reduceLE, Nat.reduceEqDiff, sidsB, Nat.reduceBEq, keyKD, isIntK]
  refine CallC.of (rtimes_spec x.num y.den (by omega) (by omega)) (by rw [Big_neg, Big, bigL_nat]) ?_
  simp (config := { maxSteps := 1000000 }) (disch := ((try simp only [awL]); omega)) only [↓awU, awV, awF, ofVal, ofVal0, isShift, aggK, forall_const, ↓reduceIte, ↓reduceDIte, ↓purePost, combine, idsA, cellsA, numsOf, srcA, calleeA, refsA, isScalar, scalarD, scalar0, AV.one, putL, unfA, implies_true, IntKind.signed, Nat.reduceAdd, Nat.reduceSub, Nat.reduceMul, Nat.reducePow, Nat.reduceDiv, Nat.reduceMod, Int.reduceAdd, Int.reduceSub, Int.reduceMul, Int.reducePow, Int.reduceNeg, Int.reduceToNat, Int.reduceLT, Int.reduceLE, Nat.reduceEqDiff, sidsB, Nat.reduceBEq, keyKD, isIntK]
  refine CallC.of (rtimes_spec y.num x.den (by omega) (by omega)) (by rw [Big_neg, Big, bigL_nat]) ?_
  simp (config := { maxSteps := 1000000 }) (disch := ((try simp only [awL]); omega)) only [↓awU, awV, awF, ofVal, ofVal0, isShift, aggK, forall_const, ↓reduceIte, ↓reduceDIte, ↓purePost, combine, idsA, cellsA, numsOf, srcA, calleeA, refsA, isScalar, scalarD, scalar0, AV.one, putL, unfA, implies_true, IntKind.signed, Nat.reduceAdd, Nat.reduceSub, Nat.reduceMul, Nat.reducePow, Nat.reduceDiv, Nat.reduceMod, Int.reduceAdd, Int.reduceSub, Int.reduceMul, Int.reducePow, Int.reduceNeg, Int.reduceToNat, Int.reduceLT, Int.reduceLE, Nat.reduceEqDiff, sidsB, Nat.reduceBEq, keyKD, isIntK]
  refine CallC.pure (rplus_spec _ _ (by omega) (by omega)) ?_
  simp (config := { maxSteps := 1000000 }) (disch := ((try simp only [awL]); omega)) only [↓awU, awV, awF, ofVal, ofVal0, isShift, aggK, forall_const, ↓reduceIte, ↓reduceDIte, ↓purePost, combine, idsA, cellsA, numsOf, srcA, calleeA, refsA, isScalar, scalarD, scalar0, AV.one, putL, unfA, implies_true, IntKind.signed, Nat.reduceAdd, Nat.reduceSub, Nat.reduceMul, Nat.reducePow, Nat.reduceDiv, Nat.reduceMod, Int.reduceAdd, Int.reduceSub, Int.reduceMul, Int.reducePow, Int.reduceNeg, Int.reduceToNat, Int.reduceLT, Int.reduceLE, Nat.reduceEqDiff, sidsB, Nat.reduceBEq, keyKD, isIntK]
  refine CallC.of (rtimes_spec x.den y.den (by omega) (by omega)) (by rw [Big, bigL_nat, Big, bigL_nat]) ?_
  simp (config := { maxSteps := 1000000 }) (disch := ((try simp only [awL]); omega)) only [↓awU, awV, awF, ofVal, ofVal0, isShift, aggK, forall_const, ↓reduceIte, ↓reduceDIte, ↓purePost, combine, idsA, cellsA, numsOf, srcA, calleeA, refsA, isScalar, scalarD, scalar0, AV.one, putL, unfA, implies_true, IntKind.signed, Nat.reduceAdd, Nat.reduceSub, Nat.reduceMul, Nat.reducePow, Nat.reduceDiv, Nat.reduceMod, Int.reduceAdd, Int.reduceSub, Int.reduceMul, Int.reducePow, Int.reduceNeg, Int.reduceToNat, Int.reduceLT, Int.reduceLE, Nat.reduceEqDiff, sidsB, Nat.reduceBEq, keyKD, isIntK]
  refine CallC.of (rresult_spec (x.num * y.den + y.num * x.den) ((x.den : Int) * y.den) (by exact_mod_cast hd) (by omega) (by omega)) (by rfl) ?_
  have er : Rat.divInt (x.num * y.den + y.num * x.den) ((x.den : Int) * y.den) = x + y := by
    rw [← Int.natCast_mul, Rat.divInt_ofNat, ← Rat.add_def']
  rw [er]
  by_cases h : FV (x + y)
  · simp only [Res, if_pos h]
    simp (config := { maxSteps := 1000000 }) (disch := ((try simp only [awL]); omega)) only [↓awU, awV, awF, ofVal, ofVal0, isShift, aggK, forall_const, ↓reduceIte, ↓reduceDIte, ↓purePost, combine, idsA, cellsA, numsOf, srcA, calleeA, refsA, isScalar, scalarD, scalar0, AV.one, putL, unfA, implies_true, IntKind.signed, Nat.reduceAdd, Nat.reduceSub, Nat.reduceMul, Nat.reducePow, Nat.reduceDiv, Nat.reduceMod, Int.reduceAdd, Int.reduceSub, Int.reduceMul, Int.reducePow, Int.reduceNeg, Int.reduceToNat, Int.reduceLT, Int.reduceLE, Nat.reduceEqDiff, sidsB, Nat.reduceBEq, keyKD, isIntK]
    try rfl
  · simp only [Res, if_neg h]
    simp (config := { maxSteps := 1000000 }) (disch := ((try simp only [awL]); omega)) only [↓awU, awV, awF, ofVal, ofVal0, isShift, aggK, forall_const, ↓reduceIte, ↓reduceDIte, ↓purePost, combine, idsA, cellsA, numsOf, srcA, calleeA, refsA, isScalar, scalarD, scalar0, AV.one, putL, unfA, implies_true, IntKind.signed, Nat.reduceAdd, Nat.reduceSub, Nat.reduceMul, Nat.reducePow, Nat.reduceDiv, Nat.reduceMod, Int.reduceAdd, Int.reduceSub, Int.reduceMul, Int.reducePow, Int.reduceNeg, Int.reduceToNat, Int.reduceLT, Int.reduceLE, Nat.reduceEqDiff, sidsB, Nat.reduceBEq, keyKD, isIntK]
    try rfl
set_option maxHeartbeats 4000000 in
set_option maxRecDepth 100000 in
theorem rsubF_spec (x y : Rat) (h1 : FV x) (h2 : FV y) : Ctr Tryz.prog G 18 [.d (Frac x), .d (Frac y)] [] (.d (Res (x - y))) [] := by
  have h1' := h1
  have h2' := h2
  obtain ⟨a1, a2⟩ := h1'
  obtain ⟨b1, b2⟩ := h2'
  have hd : x.den * y.den ≠ 0 := Nat.mul_ne_zero x.den_nz y.den_nz
  have s1 := @sz_mul x.num y.den
  have s2 := @sz_mul y.num x.den
  have sn : sz (-(y.num * x.den)) = sz (y.num * x.den) := by simp only [sz, Int.natAbs_neg]
  have s3 := @sz_add (x.num * y.den) (-(y.num * x.den))
  have s4 := @sz_mul (x.den : Int) y.den
  have c2 : sz (x.den : Int) ≤ 256 := by simpa [sz] using a2
  have d2 : sz (y.den : Int) ≤ 256 := by simpa [sz] using b2
  refine Ctr.pure (M := M0) hmix Tryz.func18 rfl go18 ?_
  simp (config := { maxSteps := 1000000 }) (disch := ((try simp only [awL]); omega)) only [Tryz.f18, ↓awU, awV, awF, ofVal, ofVal0, isShift, aggK, forall_const, ↓reduceIte, ↓reduceDIte, ↓purePost, combine, idsA, cellsA, numsOf, srcA, calleeA, refsA, isScalar, scalarD, scalar0, AV.one, putL, unfA, implies_true, IntKind.signed, Nat.reduceAdd, Nat.reduceSub, Nat.reduceMul, Nat.reducePow, Nat.reduceDiv, Nat.reduceMod, Int.reduceAdd, Int.reduceSub, Int.reduceMul, Int.reducePow, Int.reduceNeg, Int.reduceToNat, Int.reduceLT, Int.reduceLE, Nat.reduceEqDiff, sidsB, Nat.reduceBEq, keyKD, isIntK]
  refine CallC.pure (rvalid_spec x (by omega) (by omega)) ?_
  rw [decide_eq_true h1]
  simp (config := { maxSteps := 1000000 }) (disch := ((try simp only [awL]); omega)) only [↓awU, awV, awF, ofVal, ofVal0, isShift, aggK, forall_const, ↓reduceIte, ↓reduceDIte, ↓purePost, combine, idsA, cellsA, numsOf, srcA, calleeA, refsA, isScalar, scalarD, scalar0, AV.one, putL, unfA, implies_true, IntKind.signed, Nat.reduceAdd, Nat.reduceSub, Nat.reduceMul, Nat.reducePow, Nat.reduceDiv, Nat.reduceMod, Int.reduceAdd, Int.reduceSub, Int.reduceMul, Int.reducePow, Int.reduceNeg, Int.reduceToNat, Int.reduceLT, Int.reduceLE, Nat.reduceEqDiff, sidsB, Nat.reduceBEq, keyKD, isIntK]
  refine CallC.pure (rvalid_spec y (by omega) (by omega)) ?_
  rw [decide_eq_true h2]
  simp (config := { maxSteps := 1000000 }) (disch := ((try simp only [awL]); omega)) only [↓awU, awV, awF, ofVal, ofVal0, isShift, aggK, forall_const, ↓reduceIte, ↓reduceDIte, ↓purePost, combine, idsA, cellsA, numsOf, srcA, calleeA, refsA, isScalar, scalarD, scalar0, AV.one, putL, unfA, implies_true, IntKind.signed, Nat.reduceAdd, Nat.reduceSub, Nat.reduceMul, Nat.reducePow, Nat.reduceDiv, Nat.reduceMod, Int.reduceAdd, Int.reduceSub, Int.reduceMul, Int.reducePow, Int.reduceNeg, Int.reduceToNat, Int.reduceLT, Int.reduceLE, Nat.reduceEqDiff, sidsB, Nat.reduceBEq, keyKD, isIntK]
  refine CallC.of (rtimes_spec x.num y.den (by omega) (by omega)) (by rw [Big_neg, Big, bigL_nat]) ?_
  simp (config := { maxSteps := 1000000 }) (disch := ((try simp only [awL]); omega)) only [↓awU, awV, awF, ofVal, ofVal0, isShift, aggK, forall_const, ↓reduceIte, ↓reduceDIte, ↓purePost, combine, idsA, cellsA, numsOf, srcA, calleeA, refsA, isScalar, scalarD, scalar0, AV.one, putL, unfA, implies_true, IntKind.signed, Nat.reduceAdd, Nat.reduceSub, Nat.reduceMul, Nat.reducePow, Nat.reduceDiv, Nat.reduceMod, Int.reduceAdd, Int.reduceSub, Int.reduceMul, Int.reducePow, Int.reduceNeg, Int.reduceToNat, Int.reduceLT, Int.reduceLE, Nat.reduceEqDiff, sidsB, Nat.reduceBEq, keyKD, isIntK]
  refine CallC.of (rtimes_spec y.num x.den (by omega) (by omega)) (by rw [Big_neg, Big, bigL_nat]) ?_
  simp (config := { maxSteps := 1000000 }) (disch := ((try simp only [awL]); omega)) only [↓awU, awV, awF, ofVal, ofVal0, isShift, aggK, forall_const, ↓reduceIte, ↓reduceDIte, ↓purePost, combine, idsA, cellsA, numsOf, srcA, calleeA, refsA, isScalar, scalarD, scalar0, AV.one, putL, unfA, implies_true, IntKind.signed, Nat.reduceAdd, Nat.reduceSub, Nat.reduceMul, Nat.reducePow, Nat.reduceDiv, Nat.reduceMod, Int.reduceAdd, Int.reduceSub, Int.reduceMul, Int.reducePow, Int.reduceNeg, Int.reduceToNat, Int.reduceLT, Int.reduceLE, Nat.reduceEqDiff, sidsB, Nat.reduceBEq, keyKD, isIntK]
  refine CallC.pure (rminus_spec _ (by omega)) ?_
  simp (config := { maxSteps := 1000000 }) (disch := ((try simp only [awL]); omega)) only [↓awU, awV, awF, ofVal, ofVal0, isShift, aggK, forall_const, ↓reduceIte, ↓reduceDIte, ↓purePost, combine, idsA, cellsA, numsOf, srcA, calleeA, refsA, isScalar, scalarD, scalar0, AV.one, putL, unfA, implies_true, IntKind.signed, Nat.reduceAdd, Nat.reduceSub, Nat.reduceMul, Nat.reducePow, Nat.reduceDiv, Nat.reduceMod, Int.reduceAdd, Int.reduceSub, Int.reduceMul, Int.reducePow, Int.reduceNeg, Int.reduceToNat, Int.reduceLT, Int.reduceLE, Nat.reduceEqDiff, sidsB, Nat.reduceBEq, keyKD, isIntK]
  refine CallC.pure (rplus_spec _ _ (by omega) (by omega)) ?_
  simp (config := { maxSteps := 1000000 }) (disch := ((try simp only [awL]); omega)) only [↓awU, awV, awF, ofVal, ofVal0, isShift, aggK, forall_const, ↓reduceIte, ↓reduceDIte, ↓purePost, combine, idsA, cellsA, numsOf, srcA, calleeA, refsA, isScalar, scalarD, scalar0, AV.one, putL, unfA, implies_true, IntKind.signed, Nat.reduceAdd, Nat.reduceSub, Nat.reduceMul, Nat.reducePow, Nat.reduceDiv, Nat.reduceMod, Int.reduceAdd, Int.reduceSub, Int.reduceMul, Int.reducePow, Int.reduceNeg, Int.reduceToNat, Int.reduceLT, Int.reduceLE, Nat.reduceEqDiff, sidsB, Nat.reduceBEq, keyKD, isIntK]
  refine CallC.of (rtimes_spec x.den y.den (by omega) (by omega)) (by rw [Big, bigL_nat, Big, bigL_nat]) ?_
  simp (config := { maxSteps := 1000000 }) (disch := ((try simp only [awL]); omega)) only [↓awU, awV, awF, ofVal, ofVal0, isShift, aggK, forall_const, ↓reduceIte, ↓reduceDIte, ↓purePost, combine, idsA, cellsA, numsOf, srcA, calleeA, refsA, isScalar, scalarD, scalar0, AV.one, putL, unfA, implies_true, IntKind.signed, Nat.reduceAdd, Nat.reduceSub, Nat.reduceMul, Nat.reducePow, Nat.reduceDiv, Nat.reduceMod, Int.reduceAdd, Int.reduceSub, Int.reduceMul, Int.reducePow, Int.reduceNeg, Int.reduceToNat, Int.reduceLT, Int.reduceLE, Nat.reduceEqDiff, sidsB, Nat.reduceBEq, keyKD, isIntK]
  refine CallC.of (rresult_spec (x.num * y.den + -(y.num * x.den)) ((x.den : Int) * y.den) (by exact_mod_cast hd) (by omega) (by omega)) (by rfl) ?_
  have er : Rat.divInt (x.num * y.den + -(y.num * x.den)) ((x.den : Int) * y.den) = x - y := by
    rw [← Int.natCast_mul, Rat.divInt_ofNat, ← Int.sub_eq_add_neg, ← Rat.sub_def']
  rw [er]
  by_cases h : FV (x - y)
  · simp only [Res, if_pos h]
    simp (config := { maxSteps := 1000000 }) (disch := ((try simp only [awL]); omega)) only [↓awU, awV, awF, ofVal, ofVal0, isShift, aggK, forall_const, ↓reduceIte, ↓reduceDIte, ↓purePost, combine, idsA, cellsA, numsOf, srcA, calleeA, refsA, isScalar, scalarD, scalar0, AV.one, putL, unfA, implies_true, IntKind.signed, Nat.reduceAdd, Nat.reduceSub, Nat.reduceMul, Nat.reducePow, Nat.reduceDiv, Nat.reduceMod, Int.reduceAdd, Int.reduceSub, Int.reduceMul, Int.reducePow, Int.reduceNeg, Int.reduceToNat, Int.reduceLT, Int.reduceLE, Nat.reduceEqDiff, sidsB, Nat.reduceBEq, keyKD, isIntK]
    try rfl
  · simp only [Res, if_neg h]
    simp (config := { maxSteps := 1000000 }) (disch := ((try simp only [awL]); omega)) only [↓awU, awV, awF, ofVal, ofVal0, isShift, aggK, forall_const, ↓reduceIte, ↓reduceDIte, ↓purePost, combine, idsA, cellsA, numsOf, srcA, calleeA, refsA, isScalar, scalarD, scalar0, AV.one, putL, unfA, implies_true, IntKind.signed, Nat.reduceAdd, Nat.reduceSub, Nat.reduceMul, Nat.reducePow, Nat.reduceDiv, Nat.reduceMod, Int.reduceAdd, Int.reduceSub, Int.reduceMul, Int.reducePow, Int.reduceNeg, Int.reduceToNat, Int.reduceLT, Int.reduceLE, Nat.reduceEqDiff, sidsB, Nat.reduceBEq, keyKD, isIntK]
    try rfl
set_option maxHeartbeats 4000000 in
set_option maxRecDepth 100000 in
theorem rmulF_spec (x y : Rat) (h1 : FV x) (h2 : FV y) : Ctr Tryz.prog G 20 [.d (Frac x), .d (Frac y)] [] (.d (Res (x * y))) [] := by
  have h1' := h1
  have h2' := h2
  obtain ⟨a1, a2⟩ := h1'
  obtain ⟨b1, b2⟩ := h2'
  have hd : x.den * y.den ≠ 0 := Nat.mul_ne_zero x.den_nz y.den_nz
  have s1 := @sz_mul x.num y.num
  have s4 := @sz_mul (x.den : Int) y.den
  have c2 : sz (x.den : Int) ≤ 256 := by simpa [sz] using a2
  have d2 : sz (y.den : Int) ≤ 256 := by simpa [sz] using b2
  refine Ctr.pure (M := M0) hmix Tryz.func20 rfl go20 ?_
  simp (config := { maxSteps := 1000000 }) (disch := ((try simp only [awL]); omega)) only [Tryz.f20, ↓awU, awV, awF, ofVal, ofVal0, isShift, aggK, forall_const, ↓reduceIte, ↓reduceDIte, ↓purePost, combine, idsA, cellsA, numsOf, srcA, calleeA, refsA, isScalar, scalarD, scalar0, AV.one, putL, unfA, implies_true, IntKind.signed, Nat.reduceAdd, Nat.reduceSub, Nat.reduceMul, Nat.reducePow, Nat.reduceDiv, Nat.reduceMod, Int.reduceAdd, Int.reduceSub, Int.reduceMul, Int.reducePow, Int.reduceNeg, Int.reduceToNat, Int.reduceLT, Int.reduceLE, Nat.reduceEqDiff, sidsB, Nat.reduceBEq, keyKD, isIntK]
  refine CallC.pure (rvalid_spec x (by omega) (by omega)) ?_
  rw [decide_eq_true h1]
  simp (config := { maxSteps := 1000000 }) (disch := ((try simp only [awL]); omega)) only [↓awU, awV, awF, ofVal, ofVal0, isShift, aggK, forall_const, ↓reduceIte, ↓reduceDIte, ↓purePost, combine, idsA, cellsA, numsOf, srcA, calleeA, refsA, isScalar, scalarD, scalar0, AV.one, putL, unfA, implies_true, IntKind.signed, Nat.reduceAdd, Nat.reduceSub, Nat.reduceMul, Nat.reducePow, Nat.reduceDiv, Nat.reduceMod, Int.reduceAdd, Int.reduceSub, Int.reduceMul, Int.reducePow, Int.reduceNeg, Int.reduceToNat, Int.reduceLT, Int.reduceLE, Nat.reduceEqDiff, sidsB, Nat.reduceBEq, keyKD, isIntK]
  refine CallC.pure (rvalid_spec y (by omega) (by omega)) ?_
  rw [decide_eq_true h2]
  simp (config := { maxSteps := 1000000 }) (disch := ((try simp only [awL]); omega)) only [↓awU, awV, awF, ofVal, ofVal0, isShift, aggK, forall_const, ↓reduceIte, ↓reduceDIte, ↓purePost, combine, idsA, cellsA, numsOf, srcA, calleeA, refsA, isScalar, scalarD, scalar0, AV.one, putL, unfA, implies_true, IntKind.signed, Nat.reduceAdd, Nat.reduceSub, Nat.reduceMul, Nat.reducePow, Nat.reduceDiv, Nat.reduceMod, Int.reduceAdd, Int.reduceSub, Int.reduceMul, Int.reducePow, Int.reduceNeg, Int.reduceToNat, Int.reduceLT, Int.reduceLE, Nat.reduceEqDiff, sidsB, Nat.reduceBEq, keyKD, isIntK]
  refine CallC.pure (rtimes_spec x.num y.num (by omega) (by omega)) ?_
  simp (config := { maxSteps := 1000000 }) (disch := ((try simp only [awL]); omega)) only [↓awU, awV, awF, ofVal, ofVal0, isShift, aggK, forall_const, ↓reduceIte, ↓reduceDIte, ↓purePost, combine, idsA, cellsA, numsOf, srcA, calleeA, refsA, isScalar, scalarD, scalar0, AV.one, putL, unfA, implies_true, IntKind.signed, Nat.reduceAdd, Nat.reduceSub, Nat.reduceMul, Nat.reducePow, Nat.reduceDiv, Nat.reduceMod, Int.reduceAdd, Int.reduceSub, Int.reduceMul, Int.reducePow, Int.reduceNeg, Int.reduceToNat, Int.reduceLT, Int.reduceLE, Nat.reduceEqDiff, sidsB, Nat.reduceBEq, keyKD, isIntK]
  refine CallC.of (rtimes_spec x.den y.den (by omega) (by omega)) (by rw [Big, bigL_nat, Big, bigL_nat]) ?_
  simp (config := { maxSteps := 1000000 }) (disch := ((try simp only [awL]); omega)) only [↓awU, awV, awF, ofVal, ofVal0, isShift, aggK, forall_const, ↓reduceIte, ↓reduceDIte, ↓purePost, combine, idsA, cellsA, numsOf, srcA, calleeA, refsA, isScalar, scalarD, scalar0, AV.one, putL, unfA, implies_true, IntKind.signed, Nat.reduceAdd, Nat.reduceSub, Nat.reduceMul, Nat.reducePow, Nat.reduceDiv, Nat.reduceMod, Int.reduceAdd, Int.reduceSub, Int.reduceMul, Int.reducePow, Int.reduceNeg, Int.reduceToNat, Int.reduceLT, Int.reduceLE, Nat.reduceEqDiff, sidsB, Nat.reduceBEq, keyKD, isIntK]
  refine CallC.of (rresult_spec (x.num * y.num) ((x.den : Int) * y.den) (by exact_mod_cast hd) (by omega) (by omega)) (by rfl) ?_
  have er : Rat.divInt (x.num * y.num) ((x.den : Int) * y.den) = x * y := by
    rw [← Int.natCast_mul, Rat.divInt_ofNat, ← Rat.mul_def']
  rw [er]
  by_cases h : FV (x * y)
  · simp only [Res, if_pos h]
    simp (config := { maxSteps := 1000000 }) (disch := ((try simp only [awL]); omega)) only [↓awU, awV, awF, ofVal, ofVal0, isShift, aggK, forall_const, ↓reduceIte, ↓reduceDIte, ↓purePost, combine, idsA, cellsA, numsOf, srcA, calleeA, refsA, isScalar, scalarD, scalar0, AV.one, putL, unfA, implies_true, IntKind.signed, Nat.reduceAdd, Nat.reduceSub, Nat.reduceMul, Nat.reducePow, Nat.reduceDiv, Nat.reduceMod, Int.reduceAdd, Int.reduceSub, Int.reduceMul, Int.reducePow, Int.reduceNeg, Int.reduceToNat, Int.reduceLT, Int.reduceLE, Nat.reduceEqDiff, sidsB, Nat.reduceBEq, keyKD, isIntK]
    try rfl
  · simp only [Res, if_neg h]
    simp (config := { maxSteps := 1000000 }) (disch := ((try simp only [awL]); omega)) only [↓awU, awV, awF, ofVal, ofVal0, isShift, aggK, forall_const, ↓reduceIte, ↓reduceDIte, ↓purePost, combine, idsA, cellsA, numsOf, srcA, calleeA, refsA, isScalar, scalarD, scalar0, AV.one, putL, unfA, implies_true, IntKind.signed, Nat.reduceAdd, Nat.reduceSub, Nat.reduceMul, Nat.reducePow, Nat.reduceDiv, Nat.reduceMod, Int.reduceAdd, Int.reduceSub, Int.reduceMul, Int.reducePow, Int.reduceNeg, Int.reduceToNat, Int.reduceLT, Int.reduceLE, Nat.reduceEqDiff, sidsB, Nat.reduceBEq, keyKD, isIntK]
    try rfl
end Go.Proofs.YtkppgdialedoeaaGreatDoor

namespace Go.Proofs.YtkppgdialedoeaaGreatDoor
open Go Go.Proofs Go.Abs
variable {G : Globals}
/-! The dice of the fractions' laws: big integers and fractions. -/
abbrev DiceM (t : List Int) (k : Nat) : ABlk := .box [.d (.sl t.length false (ints .u8 t)), .d (.int .i64 (min k t.length : Nat))]
def OkM (t : List Int) : Prop := t.length ≤ 300 ∧ ∀ i, 0 ≤ t.getD i 0 ∧ t.getD i 0 ≤ 255
theorem new_spec (t : List Int) (ht : t.length ≤ 9223372036854775807) : Ctr Tryz.prog G 8 [.d (.sl t.length false (ints .u8 t))] [] (.ptr 0 0) [DiceM (t.take 300) 0] := by
  refine Ctr.body (M := M0) hmix Tryz.func8 rfl go8 ?_
  rcases Nat.lt_or_ge 300 t.length with h | h
  · have e : (t.take 300).length = 300 := by rw [List.length_take]; omega
    simp (config := { maxSteps := 1000000 }) (disch := ((try simp only [awL]); omega)) only [Tryz.f8, e, ↓awU, awV, awF, ofVal, ofVal0, isShift, aggK, forall_const, ↓reduceIte, ↓reduceDIte, ↓purePost, combine, idsA, cellsA, numsOf, srcA, calleeA, refsA, isScalar, scalarD, scalar0, AV.one, putL, unfA, implies_true, IntKind.signed, Nat.reduceAdd, Nat.reduceSub, Nat.reduceMul, Nat.reducePow, Nat.reduceDiv, Nat.reduceMod, Int.reduceAdd, Int.reduceSub, Int.reduceMul, Int.reducePow, Int.reduceNeg, Int.reduceToNat, Int.reduceLT, Int.reduceLE, Nat.reduceEqDiff, sidsB, Nat.reduceBEq, keyKD, isIntK]
    exact ⟨[some 0], rfl, by simp, by simp [HWeak, BWeak, SWeak, AWeak]; omega, .inl (by simp [AWeak])⟩
  · have e : t.take 300 = t := List.take_of_length_le h
    simp (config := { maxSteps := 1000000 }) (disch := ((try simp only [awL]); omega)) only [Tryz.f8, e, ↓awU, awV, awF, ofVal, ofVal0, isShift, aggK, forall_const, ↓reduceIte, ↓reduceDIte, ↓purePost, combine, idsA, cellsA, numsOf, srcA, calleeA, refsA, isScalar, scalarD, scalar0, AV.one, putL, unfA, implies_true, IntKind.signed, Nat.reduceAdd, Nat.reduceSub, Nat.reduceMul, Nat.reducePow, Nat.reduceDiv, Nat.reduceMod, Int.reduceAdd, Int.reduceSub, Int.reduceMul, Int.reducePow, Int.reduceNeg, Int.reduceToNat, Int.reduceLT, Int.reduceLE, Nat.reduceEqDiff, sidsB, Nat.reduceBEq, keyKD, isIntK]
    exact ⟨[some 0], rfl, by simp, by simp [HWeak, BWeak, SWeak, AWeak], .inl (by simp [AWeak])⟩
def pk (t : List Int) (k : Nat) (n : Int) : Int := t.getD k 0 % n
theorem pk_range {t : List Int} {k : Nat} {n : Int} (h : 0 < n) : 0 ≤ pk t k n ∧ pk t k n < n := ⟨Int.emod_nonneg _ (by omega), Int.emod_lt_of_pos _ h⟩
theorem pk_nat (t : List Int) (k : Nat) (n : Int) (h : 0 < n) : ∃ c : Nat, pk t k n = c ∧ (c : Int) < n := ⟨(pk t k n).toNat, by have := @pk_range t k n h; omega, by have := @pk_range t k n h; omega⟩
set_option maxHeartbeats 4000000 in
set_option maxRecDepth 100000 in
theorem pick_spec (t : List Int) (k : Nat) (n : Int) (ht : OkM t) (h0 : 0 < n) (h1 : n ≤ 1000) :
    Ctr Tryz.prog G 55 [.ptr 0 0, .d (.int .i64 n)] [DiceM t k] (.d (.int .i64 (pk t k n))) [DiceM t (k + 1)] := by
  obtain ⟨ht, htt⟩ := ht
  refine Ctr.body (M := M0) hmix Tryz.func55 rfl go55 ?_
  rcases Nat.lt_or_ge k t.length with h | h
  · have e1 : min k t.length = k := by omega
    have e2 : min (k + 1) t.length = k + 1 := by omega
    obtain ⟨b1, b2⟩ := htt k
    have e3 : (t.getD k 0).tmod n = pk t k n := Int.tmod_eq_emod_of_nonneg b1
    simp only [e1, e2, DiceM]
    simp (config := { maxSteps := 1000000 }) (disch := ((try simp only [awL]); omega)) only [Tryz.f55, e3, ↓awU, awV, awF, ofVal, ofVal0, isShift, aggK, forall_const, ↓reduceIte, ↓reduceDIte, ↓purePost, combine, idsA, cellsA, numsOf, srcA, calleeA, refsA, isScalar, scalarD, scalar0, AV.one, putL, unfA, implies_true, IntKind.signed, Nat.reduceAdd, Nat.reduceSub, Nat.reduceMul, Nat.reducePow, Nat.reduceDiv, Nat.reduceMod, Int.reduceAdd, Int.reduceSub, Int.reduceMul, Int.reducePow, Int.reduceNeg, Int.reduceToNat, Int.reduceLT, Int.reduceLE, Nat.reduceEqDiff, sidsB, Nat.reduceBEq, keyKD, isIntK]
    refine ⟨by rfl, by rfl, ?_⟩
    exact ⟨[some 0], rfl, by simp, by simp [HWeak, BWeak, SWeak, AWeak], .inl (by simp [AWeak])⟩
  · have e1 : min k t.length = t.length := by omega
    have e2 : min (k + 1) t.length = t.length := by omega
    have e3 : pk t k n = 0 := by rw [pk, List.getD_eq_getElem?_getD, List.getElem?_eq_none h]; simp
    simp only [e1, e2, e3, DiceM]
    simp (config := { maxSteps := 1000000 }) (disch := ((try simp only [awL]); omega)) only [Tryz.f55, ↓awU, awV, awF, ofVal, ofVal0, isShift, aggK, forall_const, ↓reduceIte, ↓reduceDIte, ↓purePost, combine, idsA, cellsA, numsOf, srcA, calleeA, refsA, isScalar, scalarD, scalar0, AV.one, putL, unfA, implies_true, IntKind.signed, Nat.reduceAdd, Nat.reduceSub, Nat.reduceMul, Nat.reducePow, Nat.reduceDiv, Nat.reduceMod, Int.reduceAdd, Int.reduceSub, Int.reduceMul, Int.reducePow, Int.reduceNeg, Int.reduceToNat, Int.reduceLT, Int.reduceLE, Nat.reduceEqDiff, sidsB, Nat.reduceBEq, keyKD, isIntK]
    refine ⟨by rfl, ?_⟩
    exact ⟨[some 0], rfl, by simp, by simp [HWeak, BWeak, SWeak, AWeak], .inl (by simp [AWeak])⟩
/-- A word. -/
def six (a b : Nat) : List Nat := [0, 1, 4294967295, 2147483648, a, b]
theorem six_get {a b i : Nat} (h : i < 6) : [D.int .u32 0, .int .u32 1, .int .u32 4294967295, .int .u32 2147483648, .int .u32 ((a : Int) * 16843009), .int .u32 (b : Nat)].getD i .nilp = .int .u32 ((six (a * 16843009) b).getD i 0 : Nat) := by
  obtain rfl | rfl | rfl | rfl | rfl | rfl : i = 0 ∨ i = 1 ∨ i = 2 ∨ i = 3 ∨ i = 4 ∨ i = 5 := by omega
  all_goals first | rfl | simp [six]
def wordM (t : List Int) (k : Nat) : Nat := (six ((pk t k 256).toNat * 16843009) (pk t (k + 1) 20).toNat).getD (pk t (k + 2) 6).toNat 0
theorem wordM_lt {t : List Int} {k : Nat} : wordM t k < B := by
  have h1 := @pk_range t k 256 (by decide)
  have h2 := @pk_range t (k + 1) 20 (by decide)
  have h3 := @pk_range t (k + 2) 6 (by decide)
  simp only [wordM, B]
  generalize (pk t (k + 2) 6).toNat = i at *
  obtain ⟨a, ha⟩ : ∃ a : Nat, (pk t k 256).toNat = a := ⟨_, rfl⟩
  obtain ⟨b, hb⟩ : ∃ b : Nat, (pk t (k + 1) 20).toNat = b := ⟨_, rfl⟩
  rw [ha, hb]
  rcases i with _ | _ | _ | _ | _ | _ | i
  all_goals (simp [six, List.getD_eq_getElem?_getD]; try omega)
def wsM (t : List Int) (k n : Nat) : List Nat := (List.range n).map fun i => wordM t (k + 3 * i)
theorem wsM_length {t : List Int} {k n : Nat} : (wsM t k n).length = n := by simp [wsM]
theorem wsM_push {t : List Int} {k n : Nat} : wsM t k n ++ [wordM t (k + 3 * n)] = wsM t k (n + 1) := by simp [wsM, List.range_succ]
theorem wsM_dig {t : List Int} {k n : Nat} : Dig (wsM t k n) := fun d hd => by
  simp only [wsM, List.mem_map] at hd
  obtain ⟨i, _, rfl⟩ := hd
  exact wordM_lt
/-- What the dice make. -/
def absM (t : List Int) (k : Nat) : Nat := val (wsM t (k + 1) (pk t k 5).toNat)
def bigK (t : List Int) (k : Nat) : Nat := k + 1 + 3 * (pk t k 5).toNat + (if absM t k = 0 then 0 else 1)
def bigM (t : List Int) (k : Nat) : Int := if pk t (k + 1 + 3 * (pk t k 5).toNat) 2 = 0 then -(absM t k : Int) else absM t k
theorem bigM_sz {t : List Int} {k : Nat} : sz (bigM t k) ≤ 4 := by
  have h1 := @pk_range t k 5 (by decide)
  have h2 := val_lt (@wsM_dig t (k + 1) (pk t k 5).toNat)
  rw [wsM_length] at h2
  have h3 : (toW (absM t k)).length ≤ (pk t k 5).toNat := toW_length_le h2
  have : (bigM t k).natAbs = absM t k := by unfold bigM; split <;> omega
  simp only [sz, this]
  omega
set_option maxHeartbeats 8000000 in
set_option maxRecDepth 100000 in
theorem bigM_spec (t : List Int) (k : Nat) (ht : OkM t) : Ctr Tryz.prog G 33 [.ptr 0 0] [DiceM t k] (.d (Big (bigM t k))) [DiceM t (bigK t k)] := by
  refine Ctr.body (M := M0) hmix Tryz.func33 rfl go33 ?_
  obtain ⟨c, hc, hc5⟩ := pk_nat t k 5 (by decide)
  have eK : bigK t k = k + 1 + 3 * c + (if absM t k = 0 then 0 else 1) := by rw [bigK, hc]; rfl
  have eB : bigM t k = if pk t (k + 1 + 3 * c) 2 = 0 then -(absM t k : Int) else absM t k := by rw [bigM, hc]; rfl
  have eA : absM t k = val (wsM t (k + 1) c) := by rw [absM, hc]; rfl
  rw [eK, eB]
  have wl := @wsM_length t (k + 1) c
  have wd := @wsM_dig t (k + 1) c
  simp (config := { maxSteps := 1000000 }) (disch := ((try simp only [awL]); omega)) only [Tryz.f33, ↓awU, awV, awF, ofVal, ofVal0, isShift, aggK, forall_const, ↓reduceIte, ↓reduceDIte, ↓purePost, combine, idsA, cellsA, numsOf, srcA, calleeA, refsA, isScalar, scalarD, scalar0, AV.one, putL, unfA, implies_true, IntKind.signed, Nat.reduceAdd, Nat.reduceSub, Nat.reduceMul, Nat.reducePow, Nat.reduceDiv, Nat.reduceMod, Int.reduceAdd, Int.reduceSub, Int.reduceMul, Int.reducePow, Int.reduceNeg, Int.reduceToNat, Int.reduceLT, Int.reduceLE, Nat.reduceEqDiff, sidsB, Nat.reduceBEq, keyKD, isIntK]
  refine CallC.by (pick_spec t k 5 ht (by decide) (by decide)) (by rfl) (by rfl) (Nat.le_refl _) ?_
  rw [hc]
  simp (config := { maxSteps := 1000000 }) (disch := ((try simp only [awL]); omega)) only [↓awU, awV, awF, ofVal, ofVal0, isShift, aggK, forall_const, ↓reduceIte, ↓reduceDIte, ↓purePost, combine, idsA, cellsA, numsOf, srcA, calleeA, refsA, isScalar, scalarD, scalar0, AV.one, putL, unfA, implies_true, IntKind.signed, Nat.reduceAdd, Nat.reduceSub, Nat.reduceMul, Nat.reducePow, Nat.reduceDiv, Nat.reduceMod, Int.reduceAdd, Int.reduceSub, Int.reduceMul, Int.reducePow, Int.reduceNeg, Int.reduceToNat, Int.reduceLT, Int.reduceLE, Nat.reduceEqDiff, sidsB, Nat.reduceBEq, keyKD, isIntK]
  refine LoopC.fr 985298783698949 (α := Nat) (fun i => c - i) (fun i => [(3, .lsl 2 1 0 i), (4, .d (.int .i64 ((c : Int) - i)))])
    (fun i => [DiceM t (k + 1 + 3 * i), .box [.d (.bool false), .d (.sl 0 true [])], .row false (nats .u32 (wsM t (k + 1) i))]) (fun i => i ≤ c) 0 (Nat.zero_le _) ?_ ?_
  · exact ⟨[some 0, some 1, none], rfl, by simp, by simp [setsA, keepA, SWeak, AWeak], by simp [HWeak, BWeak, SWeak, AWeak, wsM, nats]⟩
  · intro i hi
    simp only [keepA_z8, keepA_z, keepA_cons, keepA_nil, setsA_nil, setsA_cons, List.set_cons_zero, List.set_cons_succ, set_8, Nat.reduceMod, Nat.reduceDiv, Nat.zero_mod, Nat.zero_ne_one, if_true, if_false, reduceIte]
    rcases Nat.lt_or_ge i c with h1 | h1
    · obtain ⟨a, ha, ha2⟩ := pk_nat t (k + 1 + 3 * i) 256 (by decide)
      obtain ⟨b, hb, hb2⟩ := pk_nat t (k + 1 + 3 * i + 1) 20 (by decide)
      obtain ⟨d, hd, hd2⟩ := pk_nat t (k + 1 + 3 * i + 1 + 1) 6 (by decide)
      have ew : (six (a * 16843009) b).getD d 0 = wordM t (k + 1 + 3 * i) := by
        rw [wordM, ha, hb, show k + 1 + 3 * i + 2 = k + 1 + 3 * i + 1 + 1 from rfl, hd]; rfl
      have wi := @wsM_length t (k + 1) i
      have ek : k + 1 + 3 * i + 1 + 1 + 1 = k + 1 + 3 * (i + 1) := by omega
      simp (config := { maxSteps := 1000000 }) (disch := ((try simp only [awL]); omega)) only [↓awU, awV, awF, ofVal, ofVal0, isShift, aggK, forall_const, ↓reduceIte, ↓reduceDIte, ↓purePost, combine, idsA, cellsA, numsOf, srcA, calleeA, refsA, isScalar, scalarD, scalar0, AV.one, putL, unfA, implies_true, IntKind.signed, Nat.reduceAdd, Nat.reduceSub, Nat.reduceMul, Nat.reducePow, Nat.reduceDiv, Nat.reduceMod, Int.reduceAdd, Int.reduceSub, Int.reduceMul, Int.reducePow, Int.reduceNeg, Int.reduceToNat, Int.reduceLT, Int.reduceLE, Nat.reduceEqDiff, sidsB, Nat.reduceBEq, keyKD, isIntK]
      refine CallC.by (pick_spec t _ 256 ht (by decide) (by decide)) (by rfl) (by rfl) (Nat.le_refl _) ?_
      rw [ha]
      simp (config := { maxSteps := 1000000 }) (disch := ((try simp only [awL]); omega)) only [↓awU, awV, awF, ofVal, ofVal0, isShift, aggK, forall_const, ↓reduceIte, ↓reduceDIte, ↓purePost, combine, idsA, cellsA, numsOf, srcA, calleeA, refsA, isScalar, scalarD, scalar0, AV.one, putL, unfA, implies_true, IntKind.signed, Nat.reduceAdd, Nat.reduceSub, Nat.reduceMul, Nat.reducePow, Nat.reduceDiv, Nat.reduceMod, Int.reduceAdd, Int.reduceSub, Int.reduceMul, Int.reducePow, Int.reduceNeg, Int.reduceToNat, Int.reduceLT, Int.reduceLE, Nat.reduceEqDiff, sidsB, Nat.reduceBEq, keyKD, isIntK]
      refine CallC.by (pick_spec t (k + 1 + 3 * i + 1) 20 ht (by decide) (by decide)) (by rfl) (by rfl) (Nat.le_refl _) ?_
      rw [hb]
      simp (config := { maxSteps := 1000000 }) (disch := ((try simp only [awL]); omega)) only [↓awU, awV, awF, ofVal, ofVal0, isShift, aggK, forall_const, ↓reduceIte, ↓reduceDIte, ↓purePost, combine, idsA, cellsA, numsOf, srcA, calleeA, refsA, isScalar, scalarD, scalar0, AV.one, putL, unfA, implies_true, IntKind.signed, Nat.reduceAdd, Nat.reduceSub, Nat.reduceMul, Nat.reducePow, Nat.reduceDiv, Nat.reduceMod, Int.reduceAdd, Int.reduceSub, Int.reduceMul, Int.reducePow, Int.reduceNeg, Int.reduceToNat, Int.reduceLT, Int.reduceLE, Nat.reduceEqDiff, sidsB, Nat.reduceBEq, keyKD, isIntK]
      refine CallC.by (pick_spec t (k + 1 + 3 * i + 1 + 1) 6 ht (by decide) (by decide)) (by rfl) (by rfl) (Nat.le_refl _) ?_
      rw [hd]
      simp (config := { maxSteps := 1000000 }) (disch := ((try simp only [awL]); omega)) only [six_get, ew, wi, wsM_push, ek, ↓awU, awV, awF, ofVal, ofVal0, isShift, aggK, forall_const, ↓reduceIte, ↓reduceDIte, ↓purePost, combine, idsA, cellsA, numsOf, srcA, calleeA, refsA, isScalar, scalarD, scalar0, AV.one, putL, unfA, implies_true, IntKind.signed, Nat.reduceAdd, Nat.reduceSub, Nat.reduceMul, Nat.reducePow, Nat.reduceDiv, Nat.reduceMod, Int.reduceAdd, Int.reduceSub, Int.reduceMul, Int.reducePow, Int.reduceNeg, Int.reduceToNat, Int.reduceLT, Int.reduceLE, Nat.reduceEqDiff, sidsB, Nat.reduceBEq, keyKD, isIntK]
      have e3 : (c : Int) - i - 1 = c - ((i + 1 : Nat) : Int) := by omega
      rw [e3]
      exact ⟨i + 1, h1, by simp only; omega, ⟨[some 0, some 1, some 5], rfl, by simp, by simp [setsA, keepA, SWeak, AWeak], by simp [HWeak, BWeak, SWeak, AWeak]⟩⟩
    · obtain rfl : i = c := by omega
      simp (config := { maxSteps := 1000000 }) (disch := ((try simp only [awL]); omega)) only [↓awU, awV, awF, ofVal, ofVal0, isShift, aggK, forall_const, ↓reduceIte, ↓reduceDIte, ↓purePost, combine, idsA, cellsA, numsOf, srcA, calleeA, refsA, isScalar, scalarD, scalar0, AV.one, putL, unfA, implies_true, IntKind.signed, Nat.reduceAdd, Nat.reduceSub, Nat.reduceMul, Nat.reducePow, Nat.reduceDiv, Nat.reduceMod, Int.reduceAdd, Int.reduceSub, Int.reduceMul, Int.reducePow, Int.reduceNeg, Int.reduceToNat, Int.reduceLT, Int.reduceLE, Nat.reduceEqDiff, sidsB, Nat.reduceBEq, keyKD, isIntK]
      have v0 : toW (absM t k) = toW (val (wsM t (k + 1) i)) := by rw [eA]
      refine LoopC.fr 985162418487301 (α := Nat) (fun j => j) (fun j => [(3, .lsl 2 1 0 j)])
        (fun j => [DiceM t (k + 1 + 3 * i), .box [.d (.bool false), .d (.sl 0 true [])], .row false (nats .u32 (wsM t (k + 1) i))]) (fun j => j ≤ i ∧ val ((wsM t (k + 1) i).take j) = absM t k) i ⟨Nat.le_refl _, by rw [eA, List.take_of_length_le (by omega)]⟩ ?_ ?_
      · exact ⟨[some 0, some 1, some 2], rfl, by simp, by simp [setsA, keepA, SWeak, AWeak], by simp [HWeak, BWeak, SWeak, AWeak]⟩
      · rintro j ⟨hj, hv⟩
        simp only [keepA_z8, keepA_z, keepA_cons, keepA_nil, setsA_nil, setsA_cons, List.set_cons_zero, List.set_cons_succ, set_8, Nat.reduceMod, Nat.reduceDiv, Nat.zero_mod, Nat.zero_ne_one, if_true, if_false, reduceIte]
        rcases j with _ | j
        · have a0 : absM t k = 0 := by rw [← hv]; rfl
          rw [a0]
          simp (config := { maxSteps := 1000000 }) (disch := ((try simp only [awL]); omega)) only [↓awU, awV, awF, ofVal, ofVal0, isShift, aggK, forall_const, ↓reduceIte, ↓reduceDIte, ↓purePost, combine, idsA, cellsA, numsOf, srcA, calleeA, refsA, isScalar, scalarD, scalar0, AV.one, putL, unfA, implies_true, IntKind.signed, Nat.reduceAdd, Nat.reduceSub, Nat.reduceMul, Nat.reducePow, Nat.reduceDiv, Nat.reduceMod, Int.reduceAdd, Int.reduceSub, Int.reduceMul, Int.reducePow, Int.reduceNeg, Int.reduceToNat, Int.reduceLT, Int.reduceLE, Nat.reduceEqDiff, sidsB, Nat.reduceBEq, keyKD, isIntK]
          have e0 : Big (if pk t (k + 1 + 3 * i) 2 = 0 then -0 else 0) = .agg [.bool false, .sl 0 false []] := by
            have e : toW (0 : Int).natAbs = [] := toW_zero
            have e1 : (if pk t (k + 1 + 3 * i) 2 = 0 then (-0 : Int) else 0) = 0 := by split <;> rfl
            rw [e1]
            simp only [Big, bigL, W, e]; rfl
          rw [e0]
          refine ⟨[some 0], rfl, by simp, by simp [HWeak, BWeak, SWeak, AWeak], .inr ⟨_, rfl, ?_, rfl⟩⟩
          simp (config := { maxSteps := 1000000 }) (disch := ((try simp only [awL]); omega)) only [↓awU, awV, awF, ofVal, ofVal0, isShift, aggK, forall_const, ↓reduceIte, ↓reduceDIte, ↓purePost, combine, idsA, cellsA, numsOf, srcA, calleeA, refsA, isScalar, scalarD, scalar0, AV.one, putL, unfA, implies_true, IntKind.signed, Nat.reduceAdd, Nat.reduceSub, Nat.reduceMul, Nat.reducePow, Nat.reduceDiv, Nat.reduceMod, Int.reduceAdd, Int.reduceSub, Int.reduceMul, Int.reducePow, Int.reduceNeg, Int.reduceToNat, Int.reduceLT, Int.reduceLE, Nat.reduceEqDiff, sidsB, Nat.reduceBEq, keyKD, isIntK]
          first | done | rfl
        · have hd := wd ((wsM t (k + 1) i).getD j 0) (by rw [List.getD_eq_getElem?_getD, List.getElem?_eq_getElem (show j < (wsM t (k + 1) i).length by omega)]; exact List.getElem_mem _)
          have tk := val_take_succ (l := wsM t (k + 1) i) (k := j) (by omega)
          by_cases hz : (wsM t (k + 1) i).getD j 0 = 0
          · rw [hv, hz, Nat.mul_zero, Nat.add_zero] at tk
            simp (config := { maxSteps := 1000000 }) (disch := ((try simp only [awL]); omega)) only [wl, hz, ↓awU, awV, awF, ofVal, ofVal0, isShift, aggK, forall_const, ↓reduceIte, ↓reduceDIte, ↓purePost, combine, idsA, cellsA, numsOf, srcA, calleeA, refsA, isScalar, scalarD, scalar0, AV.one, putL, unfA, implies_true, IntKind.signed, Nat.reduceAdd, Nat.reduceSub, Nat.reduceMul, Nat.reducePow, Nat.reduceDiv, Nat.reduceMod, Int.reduceAdd, Int.reduceSub, Int.reduceMul, Int.reducePow, Int.reduceNeg, Int.reduceToNat, Int.reduceLT, Int.reduceLE, Nat.reduceEqDiff, sidsB, Nat.reduceBEq, keyKD, isIntK]
            exact ⟨j, ⟨by omega, tk.symm⟩, by simp only; omega, ⟨[some 0, some 1, some 2], rfl, by simp, by simp [setsA, keepA, SWeak, AWeak], by simp [HWeak, BWeak, SWeak, AWeak]⟩⟩
          · have hp : 0 < B ^ j * (wsM t (k + 1) i).getD j 0 := Nat.mul_pos (Nat.pow_pos (by decide)) (by omega)
            have a0 : absM t k ≠ 0 := by rw [← hv, tk]; omega
            have ln : ((wsM t (k + 1) i).take (j + 1)).length = j + 1 := by rw [List.length_take]; omega
            have tw : toW (absM t k) = (wsM t (k + 1) i).take (j + 1) := by
              rw [← hv]
              refine toW_of (wd.take _) (.inr ?_)
              rw [ln, Nat.add_sub_cancel, List.getD_eq_getElem?_getD, List.getElem?_take, if_pos (by omega), ← List.getD_eq_getElem?_getD]
              exact hz
            have n2 := @pk_range t (k + 1 + 3 * i) 2 (by decide)
            have e0 : Big (if pk t (k + 1 + 3 * i) 2 = 0 then -(absM t k : Int) else (absM t k : Int)) = .agg [.bool (decide (pk t (k + 1 + 3 * i) 2 = 0)), .sl (j + 1) false (nats .u32 ((wsM t (k + 1) i).take (j + 1)))] := by
              by_cases e : pk t (k + 1 + 3 * i) 2 = 0
              · rw [if_pos e, decide_eq_true e]
                simp only [Big, bigL, W, Int.natAbs_neg, Int.natAbs_natCast, tw, ln]
                rw [decide_eq_true (show -(absM t k : Int) < 0 by omega)]
              · rw [if_neg e, decide_eq_false e]
                simp only [Big, bigL, W, Int.natAbs_natCast, tw, ln]
                rw [decide_eq_false (show ¬ (absM t k : Int) < 0 by omega)]
            rw [e0, if_neg a0]
            simp (config := { maxSteps := 1000000 }) (disch := ((try simp only [awL]); omega)) only [wl, ↓awU, awV, awF, ofVal, ofVal0, isShift, aggK, forall_const, ↓reduceIte, ↓reduceDIte, ↓purePost, combine, idsA, cellsA, numsOf, srcA, calleeA, refsA, isScalar, scalarD, scalar0, AV.one, putL, unfA, implies_true, IntKind.signed, Nat.reduceAdd, Nat.reduceSub, Nat.reduceMul, Nat.reducePow, Nat.reduceDiv, Nat.reduceMod, Int.reduceAdd, Int.reduceSub, Int.reduceMul, Int.reducePow, Int.reduceNeg, Int.reduceToNat, Int.reduceLT, Int.reduceLE, Nat.reduceEqDiff, sidsB, Nat.reduceBEq, keyKD, isIntK]
            refine CallC.by (pick_spec t (k + 1 + 3 * i) 2 ht (by decide) (by decide)) (by rfl) (by rfl) (Nat.le_refl _) ?_
            generalize pk t (k + 1 + 3 * i) 2 = z at *
            simp (config := { maxSteps := 1000000 }) (disch := ((try simp only [awL]); omega)) only [wl, ↓awU, awV, awF, ofVal, ofVal0, isShift, aggK, forall_const, ↓reduceIte, ↓reduceDIte, ↓purePost, combine, idsA, cellsA, numsOf, srcA, calleeA, refsA, isScalar, scalarD, scalar0, AV.one, putL, unfA, implies_true, IntKind.signed, Nat.reduceAdd, Nat.reduceSub, Nat.reduceMul, Nat.reducePow, Nat.reduceDiv, Nat.reduceMod, Int.reduceAdd, Int.reduceSub, Int.reduceMul, Int.reducePow, Int.reduceNeg, Int.reduceToNat, Int.reduceLT, Int.reduceLE, Nat.reduceEqDiff, sidsB, Nat.reduceBEq, keyKD, isIntK]
            refine ⟨[some 0], rfl, by simp, by simp [HWeak, BWeak, SWeak, AWeak], .inr ⟨_, rfl, ?_, rfl⟩⟩
            simp (config := { maxSteps := 1000000 }) (disch := ((try simp only [awL]); omega)) only [↓awU, awV, awF, ofVal, ofVal0, isShift, aggK, forall_const, ↓reduceIte, ↓reduceDIte, ↓purePost, combine, idsA, cellsA, numsOf, srcA, calleeA, refsA, isScalar, scalarD, scalar0, AV.one, putL, unfA, implies_true, IntKind.signed, Nat.reduceAdd, Nat.reduceSub, Nat.reduceMul, Nat.reducePow, Nat.reduceDiv, Nat.reduceMod, Int.reduceAdd, Int.reduceSub, Int.reduceMul, Int.reducePow, Int.reduceNeg, Int.reduceToNat, Int.reduceLT, Int.reduceLE, Nat.reduceEqDiff, sidsB, Nat.reduceBEq, keyKD, isIntK]
            first | done | rfl
end Go.Proofs.YtkppgdialedoeaaGreatDoor

namespace Go.Proofs.YtkppgdialedoeaaGreatDoor
open Go Go.Proofs Go.Abs
variable {G : Globals}
/-! Sums, products, quotients, the order and the int of big integers. -/
theorem Big_zero : Big 0 = .agg [.bool false, .sl 0 false []] := by
  have e : toW (0 : Int).natAbs = [] := toW_zero
  simp only [Big, bigL, W, e]; rfl
theorem tdiv_sign (a b : Int) : (if (decide (a < 0) != decide (b < 0)) = true then -((a.natAbs / b.natAbs : Nat) : Int) else ((a.natAbs / b.natAbs : Nat) : Int)) = a.tdiv b := by
  rcases Int.lt_or_le a 0 with h1 | h1 <;> rcases Int.lt_or_le b 0 with h2 | h2
  · rw [decide_eq_true h1, decide_eq_true h2]
    obtain ⟨m, rfl⟩ : ∃ m : Nat, a = -(m : Int) := ⟨a.natAbs, by omega⟩
    obtain ⟨k, rfl⟩ : ∃ k : Nat, b = -(k : Int) := ⟨b.natAbs, by omega⟩
    simp
  · rw [decide_eq_true h1, decide_eq_false (by omega)]
    obtain ⟨m, rfl⟩ : ∃ m : Nat, a = -(m : Int) := ⟨a.natAbs, by omega⟩
    obtain ⟨k, rfl⟩ : ∃ k : Nat, b = (k : Int) := ⟨b.natAbs, by omega⟩
    simp
  · rw [decide_eq_false (by omega), decide_eq_true h2]
    obtain ⟨m, rfl⟩ : ∃ m : Nat, a = (m : Int) := ⟨a.natAbs, by omega⟩
    obtain ⟨k, rfl⟩ : ∃ k : Nat, b = -(k : Int) := ⟨b.natAbs, by omega⟩
    simp
  · rw [decide_eq_false (by omega), decide_eq_false (by omega)]
    obtain ⟨m, rfl⟩ : ∃ m : Nat, a = (m : Int) := ⟨a.natAbs, by omega⟩
    obtain ⟨k, rfl⟩ : ∃ k : Nat, b = (k : Int) := ⟨b.natAbs, by omega⟩
    simp
theorem tmod_sign (a b : Int) : (if decide (a < 0) = true then -((a.natAbs % b.natAbs : Nat) : Int) else ((a.natAbs % b.natAbs : Nat) : Int)) = a.tmod b := by
  rcases Int.lt_or_le a 0 with h1 | h1
  · rw [decide_eq_true h1]
    obtain ⟨m, rfl⟩ : ∃ m : Nat, a = -(m : Int) := ⟨a.natAbs, by omega⟩
    rcases Int.le_total 0 b with h2 | h2
    · obtain ⟨k, rfl⟩ : ∃ k : Nat, b = (k : Int) := ⟨b.natAbs, by omega⟩
      simp
      exact (Int.tmod_eq_emod_of_nonneg (by omega)).symm
    · obtain ⟨k, rfl⟩ : ∃ k : Nat, b = -(k : Int) := ⟨b.natAbs, by omega⟩
      simp
      exact (Int.tmod_eq_emod_of_nonneg (by omega)).symm
  · rw [decide_eq_false (by omega)]
    obtain ⟨m, rfl⟩ : ∃ m : Nat, a = (m : Int) := ⟨a.natAbs, by omega⟩
    rcases Int.le_total 0 b with h2 | h2
    · obtain ⟨k, rfl⟩ : ∃ k : Nat, b = (k : Int) := ⟨b.natAbs, by omega⟩
      simp
      exact (Int.tmod_eq_emod_of_nonneg (by omega)).symm
    · obtain ⟨k, rfl⟩ : ∃ k : Nat, b = -(k : Int) := ⟨b.natAbs, by omega⟩
      simp
      exact (Int.tmod_eq_emod_of_nonneg (by omega)).symm
set_option maxHeartbeats 2000000 in
theorem divBig_spec (a b : Int) (ha : sz a ≤ 256) (hb : sz b ≤ 256) : Ctr Tryz.prog G 50 [.d (Big a), .d (Big b)] [] (.d (.tup [Big (if b = 0 then 0 else a.tdiv b), Big (if b = 0 then 0 else a.tmod b), .int .i64 (if b = 0 then 8 else 0)])) [] := by
  refine Ctr.pure (M := M0) hmix Tryz.func50 rfl go50 ?_
  simp (config := { maxSteps := 1000000 }) (disch := ((try simp only [awL]); omega)) only [Tryz.f50, ↓awU, awV, awF, ofVal, ofVal0, isShift, aggK, forall_const, ↓reduceIte, ↓reduceDIte, ↓purePost, combine, idsA, cellsA, numsOf, srcA, calleeA, refsA, isScalar, scalarD, scalar0, AV.one, putL, unfA, implies_true, IntKind.signed, Nat.reduceAdd, Nat.reduceSub, Nat.reduceMul, Nat.reducePow, Nat.reduceDiv, Nat.reduceMod, Int.reduceAdd, Int.reduceSub, Int.reduceMul, Int.reducePow, Int.reduceNeg, Int.reduceToNat, Int.reduceLT, Int.reduceLE, Nat.reduceEqDiff, sidsB, Nat.reduceBEq, keyKD, isIntK]
  refine CallC.by (bigs_spec a b) (by simp [cut, bigL, W]) rfl (Nat.le_refl _) ?_
  rw [decide_eq_true (p := sz a ≤ 256 ∧ sz b ≤ 256) ⟨ha, hb⟩]
  have ha' := ha
  have hb' := hb
  simp only [sz] at ha' hb'
  by_cases h0 : b = 0
  · rw [if_pos h0, if_pos h0, if_pos h0, Big_zero]
    have e : (toW b.natAbs).length = 0 := by rw [h0]; show (toW 0).length = 0; rw [toW_zero]; rfl
    simp (config := { maxSteps := 1000000 }) (disch := ((try simp only [awL]); omega)) only [e, ↓awU, awV, awF, ofVal, ofVal0, isShift, aggK, forall_const, ↓reduceIte, ↓reduceDIte, ↓purePost, combine, idsA, cellsA, numsOf, srcA, calleeA, refsA, isScalar, scalarD, scalar0, AV.one, putL, unfA, implies_true, IntKind.signed, Nat.reduceAdd, Nat.reduceSub, Nat.reduceMul, Nat.reducePow, Nat.reduceDiv, Nat.reduceMod, Int.reduceAdd, Int.reduceSub, Int.reduceMul, Int.reducePow, Int.reduceNeg, Int.reduceToNat, Int.reduceLT, Int.reduceLE, Nat.reduceEqDiff, sidsB, Nat.reduceBEq, keyKD, isIntK]
    first | done | rfl
  · have e := (@sz_pos b.natAbs).2 (by omega)
    rw [if_neg h0, if_neg h0, if_neg h0]
    have l1 : (toW (a.natAbs / b.natAbs)).length ≤ (toW a.natAbs).length := toW_len_mono (Nat.div_le_self _ _)
    have l2 : (toW (a.natAbs % b.natAbs)).length ≤ (toW a.natAbs).length := toW_len_mono (Nat.mod_le _ _)
    simp (config := { maxSteps := 1000000 }) (disch := ((try simp only [awL]); omega)) only [↓awU, awV, awF, ofVal, ofVal0, isShift, aggK, forall_const, ↓reduceIte, ↓reduceDIte, ↓purePost, combine, idsA, cellsA, numsOf, srcA, calleeA, refsA, isScalar, scalarD, scalar0, AV.one, putL, unfA, implies_true, IntKind.signed, Nat.reduceAdd, Nat.reduceSub, Nat.reduceMul, Nat.reducePow, Nat.reduceDiv, Nat.reduceMod, Int.reduceAdd, Int.reduceSub, Int.reduceMul, Int.reducePow, Int.reduceNeg, Int.reduceToNat, Int.reduceLT, Int.reduceLE, Nat.reduceEqDiff, sidsB, Nat.reduceBEq, keyKD, isIntK]
    refine CallC.pure (over_spec a.natAbs b.natAbs (by omega) (by omega) (by omega)) ?_
    simp (config := { maxSteps := 1000000 }) (disch := ((try simp only [awL]); omega)) only [↓awU, awV, awF, ofVal, ofVal0, isShift, aggK, forall_const, ↓reduceIte, ↓reduceDIte, ↓purePost, combine, idsA, cellsA, numsOf, srcA, calleeA, refsA, isScalar, scalarD, scalar0, AV.one, putL, unfA, implies_true, IntKind.signed, Nat.reduceAdd, Nat.reduceSub, Nat.reduceMul, Nat.reducePow, Nat.reduceDiv, Nat.reduceMod, Int.reduceAdd, Int.reduceSub, Int.reduceMul, Int.reducePow, Int.reduceNeg, Int.reduceToNat, Int.reduceLT, Int.reduceLE, Nat.reduceEqDiff, sidsB, Nat.reduceBEq, keyKD, isIntK]
    refine CallC.pure (signed_spec _ _ (by omega)) ?_
    simp (config := { maxSteps := 1000000 }) (disch := ((try simp only [awL]); omega)) only [↓awU, awV, awF, ofVal, ofVal0, isShift, aggK, forall_const, ↓reduceIte, ↓reduceDIte, ↓purePost, combine, idsA, cellsA, numsOf, srcA, calleeA, refsA, isScalar, scalarD, scalar0, AV.one, putL, unfA, implies_true, IntKind.signed, Nat.reduceAdd, Nat.reduceSub, Nat.reduceMul, Nat.reducePow, Nat.reduceDiv, Nat.reduceMod, Int.reduceAdd, Int.reduceSub, Int.reduceMul, Int.reducePow, Int.reduceNeg, Int.reduceToNat, Int.reduceLT, Int.reduceLE, Nat.reduceEqDiff, sidsB, Nat.reduceBEq, keyKD, isIntK]
    refine CallC.pure (signed_spec _ _ (by omega)) ?_
    rw [← tdiv_sign, ← tmod_sign]
    simp (config := { maxSteps := 1000000 }) (disch := ((try simp only [awL]); omega)) only [↓awU, awV, awF, ofVal, ofVal0, isShift, aggK, forall_const, ↓reduceIte, ↓reduceDIte, ↓purePost, combine, idsA, cellsA, numsOf, srcA, calleeA, refsA, isScalar, scalarD, scalar0, AV.one, putL, unfA, implies_true, IntKind.signed, Nat.reduceAdd, Nat.reduceSub, Nat.reduceMul, Nat.reducePow, Nat.reduceDiv, Nat.reduceMod, Int.reduceAdd, Int.reduceSub, Int.reduceMul, Int.reducePow, Int.reduceNeg, Int.reduceToNat, Int.reduceLT, Int.reduceLE, Nat.reduceEqDiff, sidsB, Nat.reduceBEq, keyKD, isIntK]
    first | done | rfl
end Go.Proofs.YtkppgdialedoeaaGreatDoor

namespace Go.Proofs.YtkppgdialedoeaaGreatDoor
open Go Go.Proofs Go.Abs
variable {G : Globals}
/-! The fractions of the dice. -/
/-- Few words. -/
def Fw (k : Nat) (x : Rat) : Prop := sz x.num ≤ k ∧ (toW x.den).length ≤ k
theorem Fw.fv {k : Nat} {x : Rat} (h : Fw k x) (hk : k ≤ 256) : FV x := ⟨Nat.le_trans h.1 hk, Nat.le_trans h.2 hk⟩
theorem Fw.mono {k m : Nat} {x : Rat} (h : Fw k x) (hk : k ≤ m) : Fw m x := ⟨Nat.le_trans h.1 hk, Nat.le_trans h.2 hk⟩
theorem Fw_divInt {n d : Int} {k : Nat} (hd : d ≠ 0) (h1 : sz n ≤ k) (h2 : sz d ≤ k) : Fw k (Rat.divInt n d) := by
  have e1 : (Rat.divInt n d).num.natAbs ≤ n.natAbs := by
    rw [Rat.num_divInt]
    rw [Int.natAbs_ediv_of_dvd (Int.dvd_mul_of_dvd_right (Int.gcd_dvd_right _ _))]
    refine Nat.le_trans (Nat.div_le_self _ _) ?_
    rw [Int.natAbs_mul, Int.natAbs_sign]
    split <;> omega
  have e2 : (Rat.divInt n d).den ≤ d.natAbs := by
    rw [Rat.den_divInt]
    split
    · omega
    · exact Nat.div_le_self _ _
  simp only [sz] at h1 h2
  exact ⟨Nat.le_trans (toW_len_mono e1) h1, Nat.le_trans (toW_len_mono e2) h2⟩
def fracM (t : List Int) (k : Nat) : Rat := if 0 < pk t k 3 then Rat.divInt (pk t (k + 1) 41 - 20) (1 + pk t (k + 2) 12) else Rat.divInt (bigM t (bigK t (k + 1))) (if bigM t (k + 1) = 0 then 7 else bigM t (k + 1))
def fracK (t : List Int) (k : Nat) : Nat := if 0 < pk t k 3 then k + 3 else bigK t (bigK t (k + 1))
theorem fracM_fw {t : List Int} {k : Nat} : Fw 4 (fracM t k) := by
  unfold fracM
  have p1 := @pk_range t (k + 1) 41 (by decide)
  have p2 := @pk_range t (k + 2) 12 (by decide)
  split
  · refine Fw_divInt (by omega) ?_ ?_
    · have := sz_int (n := pk t (k + 1) 41 - 20) (by omega) (by omega); omega
    · have := sz_int (n := 1 + pk t (k + 2) 12) (by omega) (by omega); omega
  · split
    · exact Fw_divInt (by decide) bigM_sz (by have := sz_int (n := 7) (by decide) (by decide); omega)
    · rename_i h
      exact Fw_divInt h bigM_sz bigM_sz
set_option maxHeartbeats 4000000 in
set_option maxRecDepth 100000 in
theorem fracM_spec (t : List Int) (k : Nat) (ht : OkM t) : Ctr Tryz.prog G 9 [.ptr 0 0] [DiceM t k] (.d (Frac (fracM t k))) [DiceM t (fracK t k)] := by
  refine Ctr.body (M := M0) hmix Tryz.func9 rfl go9 ?_
  have p0 := @pk_range t k 3 (by decide)
  have p1 := @pk_range t (k + 1) 41 (by decide)
  have p2 := @pk_range t (k + 1 + 1) 12 (by decide)
  have eM : fracM t k = if 0 < pk t k 3 then Rat.divInt (pk t (k + 1) 41 - 20) (1 + pk t (k + 1 + 1) 12) else Rat.divInt (bigM t (bigK t (k + 1))) (if bigM t (k + 1) = 0 then 7 else bigM t (k + 1)) := rfl
  have eK : fracK t k = if 0 < pk t k 3 then k + 1 + 1 + 1 else bigK t (bigK t (k + 1)) := rfl
  rw [eM, eK]
  simp (config := { maxSteps := 1000000 }) (disch := ((try simp only [awL]); omega)) only [Tryz.f9, ↓awU, awV, awF, ofVal, ofVal0, isShift, aggK, forall_const, ↓reduceIte, ↓reduceDIte, ↓purePost, combine, idsA, cellsA, numsOf, srcA, calleeA, refsA, isScalar, scalarD, scalar0, AV.one, putL, unfA, implies_true, IntKind.signed, Nat.reduceAdd, Nat.reduceSub, Nat.reduceMul, Nat.reducePow, Nat.reduceDiv, Nat.reduceMod, Int.reduceAdd, Int.reduceSub, Int.reduceMul, Int.reducePow, Int.reduceNeg, Int.reduceToNat, Int.reduceLT, Int.reduceLE, Nat.reduceEqDiff, sidsB, Nat.reduceBEq, keyKD, isIntK]
  refine CallC.by (pick_spec t k 3 ht (by decide) (by decide)) (by rfl) (by rfl) (Nat.le_refl _) ?_
  by_cases h : 0 < pk t k 3
  · rw [if_pos h, if_pos h]
    generalize pk t k 3 = z at *
    simp (config := { maxSteps := 1000000 }) (disch := ((try simp only [awL]); omega)) only [↓awU, awV, awF, ofVal, ofVal0, isShift, aggK, forall_const, ↓reduceIte, ↓reduceDIte, ↓purePost, combine, idsA, cellsA, numsOf, srcA, calleeA, refsA, isScalar, scalarD, scalar0, AV.one, putL, unfA, implies_true, IntKind.signed, Nat.reduceAdd, Nat.reduceSub, Nat.reduceMul, Nat.reducePow, Nat.reduceDiv, Nat.reduceMod, Int.reduceAdd, Int.reduceSub, Int.reduceMul, Int.reducePow, Int.reduceNeg, Int.reduceToNat, Int.reduceLT, Int.reduceLE, Nat.reduceEqDiff, sidsB, Nat.reduceBEq, keyKD, isIntK]
    refine CallC.by (pick_spec t (k + 1) 41 ht (by decide) (by decide)) (by rfl) (by rfl) (Nat.le_refl _) ?_
    simp (config := { maxSteps := 1000000 }) (disch := ((try simp only [awL]); omega)) only [↓awU, awV, awF, ofVal, ofVal0, isShift, aggK, forall_const, ↓reduceIte, ↓reduceDIte, ↓purePost, combine, idsA, cellsA, numsOf, srcA, calleeA, refsA, isScalar, scalarD, scalar0, AV.one, putL, unfA, implies_true, IntKind.signed, Nat.reduceAdd, Nat.reduceSub, Nat.reduceMul, Nat.reducePow, Nat.reduceDiv, Nat.reduceMod, Int.reduceAdd, Int.reduceSub, Int.reduceMul, Int.reducePow, Int.reduceNeg, Int.reduceToNat, Int.reduceLT, Int.reduceLE, Nat.reduceEqDiff, sidsB, Nat.reduceBEq, keyKD, isIntK]
    refine CallC.by (pick_spec t (k + 1 + 1) 12 ht (by decide) (by decide)) (by rfl) (by rfl) (Nat.le_refl _) ?_
    simp (config := { maxSteps := 1000000 }) (disch := ((try simp only [awL]); omega)) only [↓awU, awV, awF, ofVal, ofVal0, isShift, aggK, forall_const, ↓reduceIte, ↓reduceDIte, ↓purePost, combine, idsA, cellsA, numsOf, srcA, calleeA, refsA, isScalar, scalarD, scalar0, AV.one, putL, unfA, implies_true, IntKind.signed, Nat.reduceAdd, Nat.reduceSub, Nat.reduceMul, Nat.reducePow, Nat.reduceDiv, Nat.reduceMod, Int.reduceAdd, Int.reduceSub, Int.reduceMul, Int.reducePow, Int.reduceNeg, Int.reduceToNat, Int.reduceLT, Int.reduceLE, Nat.reduceEqDiff, sidsB, Nat.reduceBEq, keyKD, isIntK]
    refine CallC.pure (rof_spec (pk t (k + 1) 41 - 20) (1 + pk t (k + 1 + 1) 12) (by omega) (by omega) (by omega) (by omega)) ?_
    rw [if_neg (by omega), if_neg (by omega)]
    generalize Rat.divInt (pk t (k + 1) 41 - 20) (1 + pk t (k + 1 + 1) 12) = x at *
    simp (config := { maxSteps := 1000000 }) (disch := ((try simp only [awL]); omega)) only [↓awU, awV, awF, ofVal, ofVal0, isShift, aggK, forall_const, ↓reduceIte, ↓reduceDIte, ↓purePost, combine, idsA, cellsA, numsOf, srcA, calleeA, refsA, isScalar, scalarD, scalar0, AV.one, putL, unfA, implies_true, IntKind.signed, Nat.reduceAdd, Nat.reduceSub, Nat.reduceMul, Nat.reducePow, Nat.reduceDiv, Nat.reduceMod, Int.reduceAdd, Int.reduceSub, Int.reduceMul, Int.reducePow, Int.reduceNeg, Int.reduceToNat, Int.reduceLT, Int.reduceLE, Nat.reduceEqDiff, sidsB, Nat.reduceBEq, keyKD, isIntK]
    refine ⟨[some 0], rfl, by simp, by simp [HWeak, BWeak, SWeak, AWeak], .inr ⟨_, rfl, ?_, rfl⟩⟩
    simp (config := { maxSteps := 1000000 }) (disch := ((try simp only [awL]); omega)) only [↓awU, awV, awF, ofVal, ofVal0, isShift, aggK, forall_const, ↓reduceIte, ↓reduceDIte, ↓purePost, combine, idsA, cellsA, numsOf, srcA, calleeA, refsA, isScalar, scalarD, scalar0, AV.one, putL, unfA, implies_true, IntKind.signed, Nat.reduceAdd, Nat.reduceSub, Nat.reduceMul, Nat.reducePow, Nat.reduceDiv, Nat.reduceMod, Int.reduceAdd, Int.reduceSub, Int.reduceMul, Int.reducePow, Int.reduceNeg, Int.reduceToNat, Int.reduceLT, Int.reduceLE, Nat.reduceEqDiff, sidsB, Nat.reduceBEq, keyKD, isIntK]
    first | done | rfl
  · rw [if_neg h, if_neg h]
    have s1 := @bigM_sz t (k + 1)
    have s2 := @bigM_sz t (bigK t (k + 1))
    · have e0 : pk t k 3 = 0 := by omega
      rw [e0]
      simp (config := { maxSteps := 1000000 }) (disch := ((try simp only [awL]); omega)) only [↓awU, awV, awF, ofVal, ofVal0, isShift, aggK, forall_const, ↓reduceIte, ↓reduceDIte, ↓purePost, combine, idsA, cellsA, numsOf, srcA, calleeA, refsA, isScalar, scalarD, scalar0, AV.one, putL, unfA, implies_true, IntKind.signed, Nat.reduceAdd, Nat.reduceSub, Nat.reduceMul, Nat.reducePow, Nat.reduceDiv, Nat.reduceMod, Int.reduceAdd, Int.reduceSub, Int.reduceMul, Int.reducePow, Int.reduceNeg, Int.reduceToNat, Int.reduceLT, Int.reduceLE, Nat.reduceEqDiff, sidsB, Nat.reduceBEq, keyKD, isIntK]
      refine CallC.by (bigM_spec t (k + 1) ht) (by rfl) (by rfl) (Nat.le_refl _) ?_
      generalize bigK t (k + 1) = K1 at *
      by_cases hz : bigM t (k + 1) = 0
      · have e : (toW (bigM t (k + 1)).natAbs).length = 0 := by rw [hz]; show (toW 0).length = 0; rw [toW_zero]; rfl
        rw [if_pos hz]
        simp (config := { maxSteps := 1000000 }) (disch := ((try simp only [awL]); omega)) only [e, ↓awU, awV, awF, ofVal, ofVal0, isShift, aggK, forall_const, ↓reduceIte, ↓reduceDIte, ↓purePost, combine, idsA, cellsA, numsOf, srcA, calleeA, refsA, isScalar, scalarD, scalar0, AV.one, putL, unfA, implies_true, IntKind.signed, Nat.reduceAdd, Nat.reduceSub, Nat.reduceMul, Nat.reducePow, Nat.reduceDiv, Nat.reduceMod, Int.reduceAdd, Int.reduceSub, Int.reduceMul, Int.reducePow, Int.reduceNeg, Int.reduceToNat, Int.reduceLT, Int.reduceLE, Nat.reduceEqDiff, sidsB, Nat.reduceBEq, keyKD, isIntK]
        refine CallC.pure (rfromInt_spec 7 (by decide) (by decide)) ?_
        simp (config := { maxSteps := 1000000 }) (disch := ((try simp only [awL]); omega)) only [↓awU, awV, awF, ofVal, ofVal0, isShift, aggK, forall_const, ↓reduceIte, ↓reduceDIte, ↓purePost, combine, idsA, cellsA, numsOf, srcA, calleeA, refsA, isScalar, scalarD, scalar0, AV.one, putL, unfA, implies_true, IntKind.signed, Nat.reduceAdd, Nat.reduceSub, Nat.reduceMul, Nat.reducePow, Nat.reduceDiv, Nat.reduceMod, Int.reduceAdd, Int.reduceSub, Int.reduceMul, Int.reducePow, Int.reduceNeg, Int.reduceToNat, Int.reduceLT, Int.reduceLE, Nat.reduceEqDiff, sidsB, Nat.reduceBEq, keyKD, isIntK]
        refine CallC.by (bigM_spec t K1 ht) (by rfl) (by rfl) (Nat.le_refl _) ?_
        simp (config := { maxSteps := 1000000 }) (disch := ((try simp only [awL]); omega)) only [↓awU, awV, awF, ofVal, ofVal0, isShift, aggK, forall_const, ↓reduceIte, ↓reduceDIte, ↓purePost, combine, idsA, cellsA, numsOf, srcA, calleeA, refsA, isScalar, scalarD, scalar0, AV.one, putL, unfA, implies_true, IntKind.signed, Nat.reduceAdd, Nat.reduceSub, Nat.reduceMul, Nat.reducePow, Nat.reduceDiv, Nat.reduceMod, Int.reduceAdd, Int.reduceSub, Int.reduceMul, Int.reducePow, Int.reduceNeg, Int.reduceToNat, Int.reduceLT, Int.reduceLE, Nat.reduceEqDiff, sidsB, Nat.reduceBEq, keyKD, isIntK]
        refine CallC.of (rmake_spec (bigM t K1) 7 (by omega) (by have := sz_int (n := 7) (by decide) (by decide); omega)) (by rfl) ?_
        rw [if_neg (by decide), if_neg (by decide)]
        generalize Rat.divInt (bigM t K1) 7 = x at *
        simp (config := { maxSteps := 1000000 }) (disch := ((try simp only [awL]); omega)) only [↓awU, awV, awF, ofVal, ofVal0, isShift, aggK, forall_const, ↓reduceIte, ↓reduceDIte, ↓purePost, combine, idsA, cellsA, numsOf, srcA, calleeA, refsA, isScalar, scalarD, scalar0, AV.one, putL, unfA, implies_true, IntKind.signed, Nat.reduceAdd, Nat.reduceSub, Nat.reduceMul, Nat.reducePow, Nat.reduceDiv, Nat.reduceMod, Int.reduceAdd, Int.reduceSub, Int.reduceMul, Int.reducePow, Int.reduceNeg, Int.reduceToNat, Int.reduceLT, Int.reduceLE, Nat.reduceEqDiff, sidsB, Nat.reduceBEq, keyKD, isIntK]
        refine ⟨by rfl, ?_⟩
        refine ⟨[some 0], rfl, by simp, by simp [HWeak, BWeak, SWeak, AWeak], .inr ⟨_, rfl, ?_, rfl⟩⟩
        simp (config := { maxSteps := 1000000 }) (disch := ((try simp only [awL]); omega)) only [↓awU, awV, awF, ofVal, ofVal0, isShift, aggK, forall_const, ↓reduceIte, ↓reduceDIte, ↓purePost, combine, idsA, cellsA, numsOf, srcA, calleeA, refsA, isScalar, scalarD, scalar0, AV.one, putL, unfA, implies_true, IntKind.signed, Nat.reduceAdd, Nat.reduceSub, Nat.reduceMul, Nat.reducePow, Nat.reduceDiv, Nat.reduceMod, Int.reduceAdd, Int.reduceSub, Int.reduceMul, Int.reducePow, Int.reduceNeg, Int.reduceToNat, Int.reduceLT, Int.reduceLE, Nat.reduceEqDiff, sidsB, Nat.reduceBEq, keyKD, isIntK]
        first | done | rfl
      · have e := (@sz_pos (bigM t (k + 1)).natAbs).2 (by omega)
        rw [if_neg hz]
        simp (config := { maxSteps := 1000000 }) (disch := ((try simp only [awL]); omega)) only [↓awU, awV, awF, ofVal, ofVal0, isShift, aggK, forall_const, ↓reduceIte, ↓reduceDIte, ↓purePost, combine, idsA, cellsA, numsOf, srcA, calleeA, refsA, isScalar, scalarD, scalar0, AV.one, putL, unfA, implies_true, IntKind.signed, Nat.reduceAdd, Nat.reduceSub, Nat.reduceMul, Nat.reducePow, Nat.reduceDiv, Nat.reduceMod, Int.reduceAdd, Int.reduceSub, Int.reduceMul, Int.reducePow, Int.reduceNeg, Int.reduceToNat, Int.reduceLT, Int.reduceLE, Nat.reduceEqDiff, sidsB, Nat.reduceBEq, keyKD, isIntK]
        refine CallC.by (bigM_spec t K1 ht) (by rfl) (by rfl) (Nat.le_refl _) ?_
        simp (config := { maxSteps := 1000000 }) (disch := ((try simp only [awL]); omega)) only [↓awU, awV, awF, ofVal, ofVal0, isShift, aggK, forall_const, ↓reduceIte, ↓reduceDIte, ↓purePost, combine, idsA, cellsA, numsOf, srcA, calleeA, refsA, isScalar, scalarD, scalar0, AV.one, putL, unfA, implies_true, IntKind.signed, Nat.reduceAdd, Nat.reduceSub, Nat.reduceMul, Nat.reducePow, Nat.reduceDiv, Nat.reduceMod, Int.reduceAdd, Int.reduceSub, Int.reduceMul, Int.reducePow, Int.reduceNeg, Int.reduceToNat, Int.reduceLT, Int.reduceLE, Nat.reduceEqDiff, sidsB, Nat.reduceBEq, keyKD, isIntK]
        refine CallC.of (rmake_spec (bigM t K1) (bigM t (k + 1)) (by omega) (by omega)) (by rfl) ?_
        rw [if_neg hz, if_neg hz]
        generalize Rat.divInt (bigM t K1) (bigM t (k + 1)) = x at *
        simp (config := { maxSteps := 1000000 }) (disch := ((try simp only [awL]); omega)) only [↓awU, awV, awF, ofVal, ofVal0, isShift, aggK, forall_const, ↓reduceIte, ↓reduceDIte, ↓purePost, combine, idsA, cellsA, numsOf, srcA, calleeA, refsA, isScalar, scalarD, scalar0, AV.one, putL, unfA, implies_true, IntKind.signed, Nat.reduceAdd, Nat.reduceSub, Nat.reduceMul, Nat.reducePow, Nat.reduceDiv, Nat.reduceMod, Int.reduceAdd, Int.reduceSub, Int.reduceMul, Int.reducePow, Int.reduceNeg, Int.reduceToNat, Int.reduceLT, Int.reduceLE, Nat.reduceEqDiff, sidsB, Nat.reduceBEq, keyKD, isIntK]
        refine ⟨by rfl, ?_⟩
        refine ⟨[some 0], rfl, by simp, by simp [HWeak, BWeak, SWeak, AWeak], .inr ⟨_, rfl, ?_, rfl⟩⟩
        simp (config := { maxSteps := 1000000 }) (disch := ((try simp only [awL]); omega)) only [↓awU, awV, awF, ofVal, ofVal0, isShift, aggK, forall_const, ↓reduceIte, ↓reduceDIte, ↓purePost, combine, idsA, cellsA, numsOf, srcA, calleeA, refsA, isScalar, scalarD, scalar0, AV.one, putL, unfA, implies_true, IntKind.signed, Nat.reduceAdd, Nat.reduceSub, Nat.reduceMul, Nat.reducePow, Nat.reduceDiv, Nat.reduceMod, Int.reduceAdd, Int.reduceSub, Int.reduceMul, Int.reducePow, Int.reduceNeg, Int.reduceToNat, Int.reduceLT, Int.reduceLE, Nat.reduceEqDiff, sidsB, Nat.reduceBEq, keyKD, isIntK]
        first | done | rfl
end Go.Proofs.YtkppgdialedoeaaGreatDoor

namespace Go.Proofs.YtkppgdialedoeaaGreatDoor
open Go Go.Proofs Go.Abs
variable {G : Globals}
/-! Texts: prefixes, cutting, the place of a byte. -/
abbrev S (l : List UInt8) : D := .str (bs l)
def hasP (s p : List UInt8) : Bool := decide (s.take p.length = p)
theorem hasP_le {s p : List UInt8} (h : hasP s p = true) : p.length ≤ s.length := by
  have := of_decide_eq_true h
  have h2 := congrArg List.length this
  simp at h2; omega
theorem hasPrefix_spec (s p : List UInt8) : Ctr Tryz.prog G 119 [.d (S s), .d (S p)] [] (.d (.bool (hasP s p))) [] := by
  refine Ctr.pure (M := M0) hmix Tryz.func119 rfl go119 ?_
  simp (config := { maxSteps := 1000000 }) (disch := ((try simp only [awL]); omega)) only [nextC_more, nextC_over, bs_size, bs_extract, bs_toList, bs_append, byteAt_bs, bs_cells, nums_length, nums_getD, Tryz.f119, ↓awU, awV, awF, ofVal, ofVal0, isShift, aggK, forall_const, ↓reduceIte, ↓reduceDIte, ↓purePost, combine, idsA, cellsA, numsOf, srcA, calleeA, refsA, isScalar, scalarD, scalar0, AV.one, putL, unfA, implies_true, IntKind.signed, Nat.reduceAdd, Nat.reduceSub, Nat.reduceMul, Nat.reducePow, Nat.reduceDiv, Nat.reduceMod, Int.reduceAdd, Int.reduceSub, Int.reduceMul, Int.reducePow, Int.reduceNeg, Int.reduceToNat, Int.reduceLT, Int.reduceLE, Nat.reduceEqDiff, sidsB, Nat.reduceBEq, keyKD, isIntK]
  refine ⟨fun _ => rfl, fun h => (decide_eq_false fun e => h ?_).symm⟩
  have := congrArg List.length e
  simp at this
  omega
theorem cutPrefixL_spec (s p : List UInt8) : Ctr Tryz.prog G 108 [.d (S s), .d (S p)] [] (.d (.tup [S (if hasP s p then s.drop p.length else s), .bool (hasP s p)])) [] := by
  refine Ctr.pure (M := M0) hmix Tryz.func108 rfl go108 ?_
  simp (config := { maxSteps := 1000000 }) (disch := ((try simp only [awL]); omega)) only [nextC_more, nextC_over, bs_size, bs_extract, bs_toList, bs_append, byteAt_bs, bs_cells, nums_length, nums_getD, Tryz.f108, ↓awU, awV, awF, ofVal, ofVal0, isShift, aggK, forall_const, ↓reduceIte, ↓reduceDIte, ↓purePost, combine, idsA, cellsA, numsOf, srcA, calleeA, refsA, isScalar, scalarD, scalar0, AV.one, putL, unfA, implies_true, IntKind.signed, Nat.reduceAdd, Nat.reduceSub, Nat.reduceMul, Nat.reducePow, Nat.reduceDiv, Nat.reduceMod, Int.reduceAdd, Int.reduceSub, Int.reduceMul, Int.reducePow, Int.reduceNeg, Int.reduceToNat, Int.reduceLT, Int.reduceLE, Nat.reduceEqDiff, sidsB, Nat.reduceBEq, keyKD, isIntK]
  refine CallC.pure (hasPrefix_spec s p) ?_
  cases h : hasP s p
  · simp (config := { maxSteps := 1000000 }) (disch := ((try simp only [awL]); omega)) only [nextC_more, nextC_over, bs_size, bs_extract, bs_toList, bs_append, byteAt_bs, bs_cells, nums_length, nums_getD, ↓awU, awV, awF, ofVal, ofVal0, isShift, aggK, forall_const, ↓reduceIte, ↓reduceDIte, ↓purePost, combine, idsA, cellsA, numsOf, srcA, calleeA, refsA, isScalar, scalarD, scalar0, AV.one, putL, unfA, implies_true, IntKind.signed, Nat.reduceAdd, Nat.reduceSub, Nat.reduceMul, Nat.reducePow, Nat.reduceDiv, Nat.reduceMod, Int.reduceAdd, Int.reduceSub, Int.reduceMul, Int.reducePow, Int.reduceNeg, Int.reduceToNat, Int.reduceLT, Int.reduceLE, Nat.reduceEqDiff, sidsB, Nat.reduceBEq, keyKD, isIntK]
  · have := hasP_le h
    simp (config := { maxSteps := 1000000 }) (disch := ((try simp only [awL]); omega)) only [nextC_more, nextC_over, bs_size, bs_extract, bs_toList, bs_append, byteAt_bs, bs_cells, nums_length, nums_getD, ↓awU, awV, awF, ofVal, ofVal0, isShift, aggK, forall_const, ↓reduceIte, ↓reduceDIte, ↓purePost, combine, idsA, cellsA, numsOf, srcA, calleeA, refsA, isScalar, scalarD, scalar0, AV.one, putL, unfA, implies_true, IntKind.signed, Nat.reduceAdd, Nat.reduceSub, Nat.reduceMul, Nat.reducePow, Nat.reduceDiv, Nat.reduceMod, Int.reduceAdd, Int.reduceSub, Int.reduceMul, Int.reducePow, Int.reduceNeg, Int.reduceToNat, Int.reduceLT, Int.reduceLE, Nat.reduceEqDiff, sidsB, Nat.reduceBEq, keyKD, isIntK]
theorem cutPrefix_spec (s p : List UInt8) : Ctr Tryz.prog G 85 [.d (S s), .d (S p)] [] (.d (.tup [S (if hasP s p then s.drop p.length else s), .bool (hasP s p)])) [] := by
  refine Ctr.pure (M := M0) hmix Tryz.func85 rfl go85 ?_
  simp (config := { maxSteps := 1000000 }) (disch := ((try simp only [awL]); omega)) only [nextC_more, nextC_over, bs_size, bs_extract, bs_toList, bs_append, byteAt_bs, bs_cells, nums_length, nums_getD, Tryz.f85, ↓awU, awV, awF, ofVal, ofVal0, isShift, aggK, forall_const, ↓reduceIte, ↓reduceDIte, ↓purePost, combine, idsA, cellsA, numsOf, srcA, calleeA, refsA, isScalar, scalarD, scalar0, AV.one, putL, unfA, implies_true, IntKind.signed, Nat.reduceAdd, Nat.reduceSub, Nat.reduceMul, Nat.reducePow, Nat.reduceDiv, Nat.reduceMod, Int.reduceAdd, Int.reduceSub, Int.reduceMul, Int.reducePow, Int.reduceNeg, Int.reduceToNat, Int.reduceLT, Int.reduceLE, Nat.reduceEqDiff, sidsB, Nat.reduceBEq, keyKD, isIntK]
  refine CallC.pure (cutPrefixL_spec s p) ?_
  simp (config := { maxSteps := 1000000 }) (disch := ((try simp only [awL]); omega)) only [nextC_more, nextC_over, bs_size, bs_extract, bs_toList, bs_append, byteAt_bs, bs_cells, nums_length, nums_getD, ↓awU, awV, awF, ofVal, ofVal0, isShift, aggK, forall_const, ↓reduceIte, ↓reduceDIte, ↓purePost, combine, idsA, cellsA, numsOf, srcA, calleeA, refsA, isScalar, scalarD, scalar0, AV.one, putL, unfA, implies_true, IntKind.signed, Nat.reduceAdd, Nat.reduceSub, Nat.reduceMul, Nat.reducePow, Nat.reduceDiv, Nat.reduceMod, Int.reduceAdd, Int.reduceSub, Int.reduceMul, Int.reducePow, Int.reduceNeg, Int.reduceToNat, Int.reduceLT, Int.reduceLE, Nat.reduceEqDiff, sidsB, Nat.reduceBEq, keyKD, isIntK]
theorem trimPrefixL_spec (s p : List UInt8) : Ctr Tryz.prog G 109 [.d (S s), .d (S p)] [] (.d (S (if hasP s p then s.drop p.length else s))) [] := by
  refine Ctr.pure (M := M0) hmix Tryz.func109 rfl go109 ?_
  simp (config := { maxSteps := 1000000 }) (disch := ((try simp only [awL]); omega)) only [nextC_more, nextC_over, bs_size, bs_extract, bs_toList, bs_append, byteAt_bs, bs_cells, nums_length, nums_getD, Tryz.f109, ↓awU, awV, awF, ofVal, ofVal0, isShift, aggK, forall_const, ↓reduceIte, ↓reduceDIte, ↓purePost, combine, idsA, cellsA, numsOf, srcA, calleeA, refsA, isScalar, scalarD, scalar0, AV.one, putL, unfA, implies_true, IntKind.signed, Nat.reduceAdd, Nat.reduceSub, Nat.reduceMul, Nat.reducePow, Nat.reduceDiv, Nat.reduceMod, Int.reduceAdd, Int.reduceSub, Int.reduceMul, Int.reducePow, Int.reduceNeg, Int.reduceToNat, Int.reduceLT, Int.reduceLE, Nat.reduceEqDiff, sidsB, Nat.reduceBEq, keyKD, isIntK]
  refine CallC.pure (hasPrefix_spec s p) ?_
  cases h : hasP s p
  · simp (config := { maxSteps := 1000000 }) (disch := ((try simp only [awL]); omega)) only [nextC_more, nextC_over, bs_size, bs_extract, bs_toList, bs_append, byteAt_bs, bs_cells, nums_length, nums_getD, ↓awU, awV, awF, ofVal, ofVal0, isShift, aggK, forall_const, ↓reduceIte, ↓reduceDIte, ↓purePost, combine, idsA, cellsA, numsOf, srcA, calleeA, refsA, isScalar, scalarD, scalar0, AV.one, putL, unfA, implies_true, IntKind.signed, Nat.reduceAdd, Nat.reduceSub, Nat.reduceMul, Nat.reducePow, Nat.reduceDiv, Nat.reduceMod, Int.reduceAdd, Int.reduceSub, Int.reduceMul, Int.reducePow, Int.reduceNeg, Int.reduceToNat, Int.reduceLT, Int.reduceLE, Nat.reduceEqDiff, sidsB, Nat.reduceBEq, keyKD, isIntK]
  · have := hasP_le h
    simp (config := { maxSteps := 1000000 }) (disch := ((try simp only [awL]); omega)) only [nextC_more, nextC_over, bs_size, bs_extract, bs_toList, bs_append, byteAt_bs, bs_cells, nums_length, nums_getD, ↓awU, awV, awF, ofVal, ofVal0, isShift, aggK, forall_const, ↓reduceIte, ↓reduceDIte, ↓purePost, combine, idsA, cellsA, numsOf, srcA, calleeA, refsA, isScalar, scalarD, scalar0, AV.one, putL, unfA, implies_true, IntKind.signed, Nat.reduceAdd, Nat.reduceSub, Nat.reduceMul, Nat.reducePow, Nat.reduceDiv, Nat.reduceMod, Int.reduceAdd, Int.reduceSub, Int.reduceMul, Int.reducePow, Int.reduceNeg, Int.reduceToNat, Int.reduceLT, Int.reduceLE, Nat.reduceEqDiff, sidsB, Nat.reduceBEq, keyKD, isIntK]
theorem trimPrefix_spec (s p : List UInt8) : Ctr Tryz.prog G 86 [.d (S s), .d (S p)] [] (.d (S (if hasP s p then s.drop p.length else s))) [] := by
  refine Ctr.pure (M := M0) hmix Tryz.func86 rfl go86 ?_
  simp (config := { maxSteps := 1000000 }) (disch := ((try simp only [awL]); omega)) only [nextC_more, nextC_over, bs_size, bs_extract, bs_toList, bs_append, byteAt_bs, bs_cells, nums_length, nums_getD, Tryz.f86, ↓awU, awV, awF, ofVal, ofVal0, isShift, aggK, forall_const, ↓reduceIte, ↓reduceDIte, ↓purePost, combine, idsA, cellsA, numsOf, srcA, calleeA, refsA, isScalar, scalarD, scalar0, AV.one, putL, unfA, implies_true, IntKind.signed, Nat.reduceAdd, Nat.reduceSub, Nat.reduceMul, Nat.reducePow, Nat.reduceDiv, Nat.reduceMod, Int.reduceAdd, Int.reduceSub, Int.reduceMul, Int.reducePow, Int.reduceNeg, Int.reduceToNat, Int.reduceLT, Int.reduceLE, Nat.reduceEqDiff, sidsB, Nat.reduceBEq, keyKD, isIntK]
  refine CallC.pure (trimPrefixL_spec s p) ?_
  simp (config := { maxSteps := 1000000 }) (disch := ((try simp only [awL]); omega)) only [nextC_more, nextC_over, bs_size, bs_extract, bs_toList, bs_append, byteAt_bs, bs_cells, nums_length, nums_getD, ↓awU, awV, awF, ofVal, ofVal0, isShift, aggK, forall_const, ↓reduceIte, ↓reduceDIte, ↓purePost, combine, idsA, cellsA, numsOf, srcA, calleeA, refsA, isScalar, scalarD, scalar0, AV.one, putL, unfA, implies_true, IntKind.signed, Nat.reduceAdd, Nat.reduceSub, Nat.reduceMul, Nat.reducePow, Nat.reduceDiv, Nat.reduceMod, Int.reduceAdd, Int.reduceSub, Int.reduceMul, Int.reducePow, Int.reduceNeg, Int.reduceToNat, Int.reduceLT, Int.reduceLE, Nat.reduceEqDiff, sidsB, Nat.reduceBEq, keyKD, isIntK]
set_option maxHeartbeats 1000000 in
set_option maxRecDepth 100000 in
theorem indexByte_calls (s : ByteArray) (c : Int) (w : World) :
    Calls Tryz.prog 132 #[.string s, .int .u8 c] w fun e w' => e = .returned (.int .i64 (Lib.indexByte s.data.toList c.toNat.toUInt8)) ∧ w' = w := by
  go_enter Tryz.func132, Tryz.ntmps132
  go_wp2
  rw [run_callFunc_extern Tryz.func145 (by kernel_rfl) (by kernel_rfl) (by kernel_rfl) (e := Extern.BytealgIndexByte.indexByte) (by kernel_rfl), Lib.run_indexByteString]
  simp only [Result.andThen]
  rw [Oper.upon_value]
  go_wp2
  go_ret
  exact ⟨rfl, rfl⟩
theorem indexByte_spec (s : List UInt8) (c : UInt8) : Ctr Tryz.prog G 132 [.d (S s), .d (.int .u8 c.toNat)] [] (.d (.int .i64 (Lib.indexByte s c))) [] := by
  refine Ctr.of_calls go132 fun h ρ w vs q r => ?_
  obtain ⟨v, u, rfl, hv, hu⟩ := r.inv2
  rw [hv.str_inv, hu.int_inv]
  refine (indexByte_calls (bs s) c.toNat w).mono ?_
  rintro e w' ⟨rfl, rfl⟩
  refine ⟨_, rfl, ?_, .refl _ _⟩
  have : ((c.toNat : Int)).toNat.toUInt8 = c := by simp
  rw [this]
  exact .int _ _
/-- Where a text is cut: in front of the byte, behind it. -/
def cutL (c : UInt8) : List UInt8 → List UInt8
  | [] => []
  | b :: l => if b = c then [] else b :: cutL c l
def cutR (c : UInt8) : List UInt8 → List UInt8
  | [] => []
  | b :: l => if b = c then l else cutR c l
theorem cut_index (c : UInt8) : ∀ s : List UInt8, (c ∈ s → ∃ k : Nat, Lib.indexByte s c = k ∧ k < s.length ∧ s.take k = cutL c s ∧ s.drop (k + 1) = cutR c s) ∧ (c ∉ s → Lib.indexByte s c = -1 ∧ cutL c s = s ∧ cutR c s = [])
  | [] => ⟨fun h => absurd h List.not_mem_nil, fun _ => ⟨rfl, rfl, rfl⟩⟩
  | b :: l => by
    obtain ⟨i1, i2⟩ := cut_index c l
    by_cases e : b = c
    · subst e
      refine ⟨fun _ => ⟨0, ?_, by simp, by simp [cutL], by simp [cutR]⟩, fun h => absurd (List.mem_cons_self ..) h⟩
      simp [Lib.indexByte]
    · have e2 : ¬ c = b := fun h => e h.symm
      refine ⟨fun h => ?_, fun h => ?_⟩
      · obtain ⟨k, h1, h2, h3, h4⟩ := i1 ((List.mem_cons.1 h).resolve_left e2)
        refine ⟨k + 1, ?_, by simpa using h2, by simp [cutL, e, h3], by simp [cutR, e, h4]⟩
        simp only [Lib.indexByte, h1]
        rw [if_neg (by simpa using e), if_neg (by simp)]
        omega
      · obtain ⟨h1, h2, h3⟩ := i2 (fun h2 => h (List.mem_cons_of_mem _ h2))
        refine ⟨?_, by simp [cutL, e, h2], by simp [cutR, e, h3]⟩
        simp only [Lib.indexByte, h1]
        rw [if_neg (by simpa using e), if_pos (by decide)]
theorem index1_spec (s : List UInt8) (c : UInt8) (hs : s.length < 2 ^ 62) : Ctr Tryz.prog G 120 [.d (S s), .d (S [c])] [] (.d (.int .i64 (Lib.indexByte s c))) [] := by
  refine Ctr.pure (M := M0) hmix Tryz.func120 rfl go120 ?_
  simp (config := { maxSteps := 1000000 }) (disch := ((try simp only [awL]); omega)) only [nextC_more, nextC_over, bs_size, bs_extract, bs_toList, bs_append, byteAt_bs, bs_cells, nums_length, nums_getD, Tryz.f120, ↓awU, awV, awF, ofVal, ofVal0, isShift, aggK, forall_const, ↓reduceIte, ↓reduceDIte, ↓purePost, combine, idsA, cellsA, numsOf, srcA, calleeA, refsA, isScalar, scalarD, scalar0, AV.one, putL, unfA, implies_true, IntKind.signed, Nat.reduceAdd, Nat.reduceSub, Nat.reduceMul, Nat.reducePow, Nat.reduceDiv, Nat.reduceMod, Int.reduceAdd, Int.reduceSub, Int.reduceMul, Int.reducePow, Int.reduceNeg, Int.reduceToNat, Int.reduceLT, Int.reduceLE, Nat.reduceEqDiff, sidsB, Nat.reduceBEq, keyKD, isIntK]
  refine ⟨fun h => ?_, fun h => ?_⟩
  · rw [← h]; simp [Lib.indexByte]
  · refine CallC.pure (indexByte_spec s c) ?_
    simp (config := { maxSteps := 1000000 }) (disch := ((try simp only [awL]); omega)) only [nextC_more, nextC_over, bs_size, bs_extract, bs_toList, bs_append, byteAt_bs, bs_cells, nums_length, nums_getD, ↓awU, awV, awF, ofVal, ofVal0, isShift, aggK, forall_const, ↓reduceIte, ↓reduceDIte, ↓purePost, combine, idsA, cellsA, numsOf, srcA, calleeA, refsA, isScalar, scalarD, scalar0, AV.one, putL, unfA, implies_true, IntKind.signed, Nat.reduceAdd, Nat.reduceSub, Nat.reduceMul, Nat.reducePow, Nat.reduceDiv, Nat.reduceMod, Int.reduceAdd, Int.reduceSub, Int.reduceMul, Int.reducePow, Int.reduceNeg, Int.reduceToNat, Int.reduceLT, Int.reduceLE, Nat.reduceEqDiff, sidsB, Nat.reduceBEq, keyKD, isIntK]
theorem cutS_spec (s : List UInt8) (c : UInt8) (hs : s.length < 2 ^ 62) : Ctr Tryz.prog G 110 [.d (S s), .d (S [c])] [] (.d (.tup [S (cutL c s), S (cutR c s), .bool (decide (c ∈ s))])) [] := by
  refine Ctr.pure (M := M0) hmix Tryz.func110 rfl go110 ?_
  simp (config := { maxSteps := 1000000 }) (disch := ((try simp only [awL]); omega)) only [nextC_more, nextC_over, bs_size, bs_extract, bs_toList, bs_append, byteAt_bs, bs_cells, nums_length, nums_getD, Tryz.f110, ↓awU, awV, awF, ofVal, ofVal0, isShift, aggK, forall_const, ↓reduceIte, ↓reduceDIte, ↓purePost, combine, idsA, cellsA, numsOf, srcA, calleeA, refsA, isScalar, scalarD, scalar0, AV.one, putL, unfA, implies_true, IntKind.signed, Nat.reduceAdd, Nat.reduceSub, Nat.reduceMul, Nat.reducePow, Nat.reduceDiv, Nat.reduceMod, Int.reduceAdd, Int.reduceSub, Int.reduceMul, Int.reducePow, Int.reduceNeg, Int.reduceToNat, Int.reduceLT, Int.reduceLE, Nat.reduceEqDiff, sidsB, Nat.reduceBEq, keyKD, isIntK]
  refine CallC.pure (index1_spec s c hs) ?_
  obtain ⟨i1, i2⟩ := cut_index c s
  by_cases h : c ∈ s
  · obtain ⟨k, h1, h2, h3, h4⟩ := i1 h
    rw [h1, decide_eq_true h, ← h3, ← h4]
    simp (config := { maxSteps := 1000000 }) (disch := ((try simp only [awL]); omega)) only [nextC_more, nextC_over, bs_size, bs_extract, bs_toList, bs_append, byteAt_bs, bs_cells, nums_length, nums_getD, ↓awU, awV, awF, ofVal, ofVal0, isShift, aggK, forall_const, ↓reduceIte, ↓reduceDIte, ↓purePost, combine, idsA, cellsA, numsOf, srcA, calleeA, refsA, isScalar, scalarD, scalar0, AV.one, putL, unfA, implies_true, IntKind.signed, Nat.reduceAdd, Nat.reduceSub, Nat.reduceMul, Nat.reducePow, Nat.reduceDiv, Nat.reduceMod, Int.reduceAdd, Int.reduceSub, Int.reduceMul, Int.reducePow, Int.reduceNeg, Int.reduceToNat, Int.reduceLT, Int.reduceLE, Nat.reduceEqDiff, sidsB, Nat.reduceBEq, keyKD, isIntK]
    rfl
  · obtain ⟨h1, h3, h4⟩ := i2 h
    rw [h1, decide_eq_false h, h3, h4]
    simp (config := { maxSteps := 1000000 }) (disch := ((try simp only [awL]); omega)) only [nextC_more, nextC_over, bs_size, bs_extract, bs_toList, bs_append, byteAt_bs, bs_cells, nums_length, nums_getD, ↓awU, awV, awF, ofVal, ofVal0, isShift, aggK, forall_const, ↓reduceIte, ↓reduceDIte, ↓purePost, combine, idsA, cellsA, numsOf, srcA, calleeA, refsA, isScalar, scalarD, scalar0, AV.one, putL, unfA, implies_true, IntKind.signed, Nat.reduceAdd, Nat.reduceSub, Nat.reduceMul, Nat.reducePow, Nat.reduceDiv, Nat.reduceMod, Int.reduceAdd, Int.reduceSub, Int.reduceMul, Int.reducePow, Int.reduceNeg, Int.reduceToNat, Int.reduceLT, Int.reduceLE, Nat.reduceEqDiff, sidsB, Nat.reduceBEq, keyKD, isIntK]
theorem cut_spec (s : List UInt8) (c : UInt8) (hs : s.length < 2 ^ 62) : Ctr Tryz.prog G 87 [.d (S s), .d (S [c])] [] (.d (.tup [S (cutL c s), S (cutR c s), .bool (decide (c ∈ s))])) [] := by
  refine Ctr.pure (M := M0) hmix Tryz.func87 rfl go87 ?_
  simp (config := { maxSteps := 1000000 }) (disch := ((try simp only [awL]); omega)) only [nextC_more, nextC_over, bs_size, bs_extract, bs_toList, bs_append, byteAt_bs, bs_cells, nums_length, nums_getD, Tryz.f87, ↓awU, awV, awF, ofVal, ofVal0, isShift, aggK, forall_const, ↓reduceIte, ↓reduceDIte, ↓purePost, combine, idsA, cellsA, numsOf, srcA, calleeA, refsA, isScalar, scalarD, scalar0, AV.one, putL, unfA, implies_true, IntKind.signed, Nat.reduceAdd, Nat.reduceSub, Nat.reduceMul, Nat.reducePow, Nat.reduceDiv, Nat.reduceMod, Int.reduceAdd, Int.reduceSub, Int.reduceMul, Int.reducePow, Int.reduceNeg, Int.reduceToNat, Int.reduceLT, Int.reduceLE, Nat.reduceEqDiff, sidsB, Nat.reduceBEq, keyKD, isIntK]
  refine CallC.pure (cutS_spec s c hs) ?_
  simp (config := { maxSteps := 1000000 }) (disch := ((try simp only [awL]); omega)) only [nextC_more, nextC_over, bs_size, bs_extract, bs_toList, bs_append, byteAt_bs, bs_cells, nums_length, nums_getD, ↓awU, awV, awF, ofVal, ofVal0, isShift, aggK, forall_const, ↓reduceIte, ↓reduceDIte, ↓purePost, combine, idsA, cellsA, numsOf, srcA, calleeA, refsA, isScalar, scalarD, scalar0, AV.one, putL, unfA, implies_true, IntKind.signed, Nat.reduceAdd, Nat.reduceSub, Nat.reduceMul, Nat.reducePow, Nat.reduceDiv, Nat.reduceMod, Int.reduceAdd, Int.reduceSub, Int.reduceMul, Int.reducePow, Int.reduceNeg, Int.reduceToNat, Int.reduceLT, Int.reduceLE, Nat.reduceEqDiff, sidsB, Nat.reduceBEq, keyKD, isIntK]
end Go.Proofs.YtkppgdialedoeaaGreatDoor

namespace Go.Proofs.YtkppgdialedoeaaGreatDoor
open Go Go.Proofs Go.Abs
variable {G : Globals}
/-! Trimming by a set of bytes below 128. -/
def setD (l : List UInt8) : List D := (List.range 256).map fun i => .bool (l.any fun b => b.toNat == i)
def setB (l : List UInt8) : List AV := (setD l).map .d
theorem setB_length {l : List UInt8} : (setB l).length = 256 := by simp [setB, setD]
theorem setD_length {l : List UInt8} : (setD l).length = 256 := by simp [setD]
set_option maxRecDepth 10000 in
theorem setB_nil : setB [] = List.replicate 256 (.d (.bool false)) := by rfl
theorem setD_get {l : List UInt8} {c : UInt8} {d : D} : (setD l).getD c.toNat d = .bool (l.contains c) := by
  have hc := c.toNat_lt
  simp only [setD, List.getD_eq_getElem?_getD, List.getElem?_map, List.getElem?_range (show c.toNat < 256 by omega), Option.map_some, Option.getD_some]
  rw [List.contains_eq_any_beq]
  refine congrArg (fun f => D.bool (l.any f)) ?_
  funext b
  show (b.toNat == c.toNat) = _
  by_cases h : b = c
  · subst h; simp
  · have : ¬ b.toNat = c.toNat := fun e => h (UInt8.toNat_inj.1 e)
    have h' : ¬ c = b := fun e => h e.symm
    rw [beq_eq_false_iff_ne.2 this]; exact (beq_eq_false_iff_ne.2 h').symm
theorem setB_get {l : List UInt8} {c : UInt8} {d : AV} : (setB l).getD c.toNat d = .d (.bool (l.contains c)) := by
  have hc := c.toNat_lt
  have := @setD_get l c .nilp
  rw [List.getD_eq_getElem?_getD, List.getElem?_eq_getElem (by rw [setD_length]; omega)] at this
  rw [setB, List.getD_eq_getElem?_getD, List.getElem?_map, List.getElem?_eq_getElem (by rw [setD_length]; omega)]
  simp only [Option.getD_some] at this
  rw [Option.map_some, Option.getD_some, this]
theorem setB_set {l : List UInt8} {c : UInt8} : (setB l).set c.toNat (.d (.bool true)) = setB (l ++ [c]) := by
  have hc := c.toNat_lt
  apply List.ext_getElem
  · rw [List.length_set, setB_length, setB_length]
  · intro i h1 h2
    rw [List.length_set, setB_length] at h1
    rw [List.getElem_set]
    simp only [setB, setD, List.getElem_map, List.getElem_range, List.any_append, List.any_cons, List.any_nil, Bool.or_false]
    split
    · rename_i e; subst e; simp
    · rename_i e
      have : (c.toNat == i) = false := by simpa using e
      rw [this, Bool.or_false]
theorem SWeak_map {fl : List (Option Nat)} : ∀ l : List D, SWeak fl (l.map .d) (l.map .d)
  | [] => by simp [SWeak]
  | x :: l => by simp only [List.map_cons, SWeak]; exact ⟨by simp [AWeak], SWeak_map l⟩
theorem setB_weak {fl : List (Option Nat)} {l : List UInt8} : SWeak fl (setB l) (setB l) = True := eq_true (SWeak_map _)
theorem mem_getDU {α : Type} {l : List α} {i : Nat} {d : α} (h : i < l.length) : l.getD i d ∈ l := by
  rw [List.getD_eq_getElem?_getD, List.getElem?_eq_getElem h]; exact List.getElem_mem h
theorem setB_two (l : List UInt8) : ∃ a b cs, setB l = a :: b :: cs := by
  have := @setB_length l
  match h : setB l with
  | [] => rw [h] at this; cases this
  | [_] => rw [h] at this; cases this
  | a :: b :: cs => exact ⟨a, b, cs, rfl⟩
theorem setB_one {l : List UInt8} : (setB l).all AV.one = true := by
  simp [setB, setD, AV.one, D.one]
theorem setB_seal {H : List ABlk} {l : List UInt8} : sealL H (setB l) = some (setD l) := by
  have : ∀ m : List D, sealL H (m.map .d) = some m := fun m => by
    induction m with
    | nil => rfl
    | cons x m ih => simp only [List.map_cons, sealL, sealA, ih]
  exact this _
theorem setB_refs {l : List UInt8} : refsL (setB l) = [] := by
  have : ∀ m : List D, refsL (m.map .d) = [] := fun m => by
    induction m with
    | nil => rfl
    | cons x m ih => simp only [List.map_cons, refsL, refsA, ih, List.append_nil]
  exact this _
theorem setB_pass {H : List ABlk} {L : List Nat} {l : List UInt8} : passL H L (setB l) = some (setB l) := by
  have : ∀ m : List D, passL H L (m.map .d) = some (m.map .d) := fun m => by
    induction m with
    | nil => rfl
    | cons x m ih => simp only [List.map_cons, passL, passA, ih]
  exact this _
theorem setB_sids {H : List ABlk} {L : List Nat} {l : List UInt8} : sidsL H L (setB l) = [] := by
  have : ∀ m : List D, sidsL H L (m.map .d) = [] := fun m => by
    induction m with
    | nil => rfl
    | cons x m ih => simp only [List.map_cons, sidsL, sidsA, ih, List.append_nil]
  exact this _
theorem setB_ren {f : Nat → Nat} {l : List UInt8} : renL f (setB l) = setB l := by
  have : ∀ m : List D, renL f (m.map .d) = m.map .d := fun m => by
    induction m with
    | nil => rfl
    | cons x m ih => simp only [List.map_cons, renL, renA, ih]
  exact this _
theorem take_succ_getD {s : List UInt8} {i : Nat} (h : i < s.length) : s.take i ++ [s.getD i 0] = s.take (i + 1) := by
  rw [List.take_add_one, List.getElem?_eq_getElem h, List.getD_eq_getElem?_getD, List.getElem?_eq_getElem h]; rfl
theorem contains_spec (l : List UInt8) (c : UInt8) : Ctr Tryz.prog G 136 [.ptr 0 0, .d (.int .u8 c.toNat)] [.box (setB l)] (.d (.bool (l.contains c))) [.box (setB l)] := by
  have hc := c.toNat_lt
  have hl := @setB_length l
  refine Ctr.body (M := M0) hmix Tryz.func136 rfl go136 ?_
  simp (config := { maxSteps := 1000000 }) (disch := ((try simp only [awL]); omega)) only [nextC_more, nextC_over, bs_size, bs_extract, bs_toList, bs_append, byteAt_bs, bs_cells, nums_length, nums_getD, hl, setB_get, Tryz.f136, ↓awU, awV, awF, ofVal, ofVal0, isShift, aggK, forall_const, ↓reduceIte, ↓reduceDIte, ↓purePost, combine, idsA, cellsA, numsOf, srcA, calleeA, refsA, isScalar, scalarD, scalar0, AV.one, putL, unfA, implies_true, IntKind.signed, Nat.reduceAdd, Nat.reduceSub, Nat.reduceMul, Nat.reducePow, Nat.reduceDiv, Nat.reduceMod, Int.reduceAdd, Int.reduceSub, Int.reduceMul, Int.reducePow, Int.reduceNeg, Int.reduceToNat, Int.reduceLT, Int.reduceLE, Nat.reduceEqDiff, sidsB, Nat.reduceBEq, keyKD, isIntK]
  exact ⟨[some 0], rfl, by simp, by simp [HWeak, BWeak, setB_weak], .inl (by simp [AWeak])⟩
set_option maxRecDepth 100000 in
theorem makeSet_spec (l : List UInt8) (hl : l.length < 2 ^ 62) (ha : ∀ b ∈ l, b.toNat < 128) : Ctr Tryz.prog G 123 [.d (S l)] [] (.d (.tup [.agg (setD l), .bool true])) [] := by
  refine Ctr.pure (M := M0) hmix Tryz.func123 rfl go123 ?_
  simp (config := { maxSteps := 1000000 }) (disch := ((try simp only [awL]); omega)) only [nextC_more, nextC_over, bs_size, bs_extract, bs_toList, bs_append, byteAt_bs, bs_cells, nums_length, nums_getD, Tryz.f123, ↓awU, awV, awF, ofVal, ofVal0, isShift, aggK, forall_const, ↓reduceIte, ↓reduceDIte, ↓purePost, combine, idsA, cellsA, numsOf, srcA, calleeA, refsA, isScalar, scalarD, scalar0, AV.one, putL, unfA, implies_true, IntKind.signed, Nat.reduceAdd, Nat.reduceSub, Nat.reduceMul, Nat.reducePow, Nat.reduceDiv, Nat.reduceMod, Int.reduceAdd, Int.reduceSub, Int.reduceMul, Int.reducePow, Int.reduceNeg, Int.reduceToNat, Int.reduceLT, Int.reduceLE, Nat.reduceEqDiff, sidsB, Nat.reduceBEq, keyKD, isIntK]
  refine LoopC.fr 5 (α := Nat) (fun i => l.length - i) (fun i => [(4, .d (.int .i64 i))]) (fun i => [.box (setB (l.take i))]) (fun i => i ≤ l.length) 0 (Nat.zero_le _) ?_ ?_
  · refine ⟨[some 0], rfl, by simp, by simp [setsA, keepA, SWeak, AWeak], ?_⟩
    rw [List.take_zero, setB_nil]
    simp only [HWeak, BWeak, List.getElem?_cons_zero]
    refine ⟨SWeak_map (List.replicate 256 (.bool false)), trivial⟩
  · intro i hi
    have sl := @setB_length (l.take i)
    simp only [keepA_z8, keepA_z, keepA_cons, keepA_nil, setsA_nil, setsA_cons, List.set_cons_zero, List.set_cons_succ, set_8, Nat.reduceMod, Nat.reduceDiv, Nat.zero_mod, Nat.zero_ne_one, if_true, if_false, reduceIte]
    rcases Nat.lt_or_ge i l.length with h1 | h1
    · have hb := ha _ (mem_getDU (d := 0) h1)
      have hs := take_succ_getD h1
      simp (config := { maxSteps := 1000000 }) (disch := ((try simp only [awL]); omega)) only [nextC_more, nextC_over, bs_size, bs_extract, bs_toList, bs_append, byteAt_bs, bs_cells, nums_length, nums_getD, sl, ↓awU, awV, awF, ofVal, ofVal0, isShift, aggK, forall_const, ↓reduceIte, ↓reduceDIte, ↓purePost, combine, idsA, cellsA, numsOf, srcA, calleeA, refsA, isScalar, scalarD, scalar0, AV.one, putL, unfA, implies_true, IntKind.signed, Nat.reduceAdd, Nat.reduceSub, Nat.reduceMul, Nat.reducePow, Nat.reduceDiv, Nat.reduceMod, Int.reduceAdd, Int.reduceSub, Int.reduceMul, Int.reducePow, Int.reduceNeg, Int.reduceToNat, Int.reduceLT, Int.reduceLE, Nat.reduceEqDiff, sidsB, Nat.reduceBEq, keyKD, isIntK]
      exact ⟨i + 1, h1, by simp only; omega, [some 0], rfl, by simp, by simp [setsA, keepA, SWeak, AWeak], by simp only [HWeak, BWeak, List.getElem?_cons_zero]; rw [setB_set, hs]; exact ⟨by rw [setB_weak]; trivial, trivial⟩⟩
    · have sl := @setB_length l
      have tk : (setB l).take 256 = setB l := List.take_of_length_le (by omega)
      obtain ⟨a, b, cs, e⟩ := setB_two l
      have lc : cs.length = 254 := by rw [e] at sl; simpa using sl
      have tc : cs.take 254 = cs := List.take_of_length_le (by omega)
      have dc : cs.drop cs.length = [] := List.drop_length
      simp (config := { maxSteps := 1000000 }) (disch := ((try simp only [awL]); omega)) only [nextC_more, nextC_over, bs_size, bs_extract, bs_toList, bs_append, byteAt_bs, bs_cells, nums_length, nums_getD, sl, tk, ↓awU, awV, awF, ofVal, ofVal0, isShift, aggK, forall_const, ↓reduceIte, ↓reduceDIte, ↓purePost, combine, idsA, cellsA, numsOf, srcA, calleeA, refsA, isScalar, scalarD, scalar0, AV.one, putL, unfA, implies_true, IntKind.signed, Nat.reduceAdd, Nat.reduceSub, Nat.reduceMul, Nat.reducePow, Nat.reduceDiv, Nat.reduceMod, Int.reduceAdd, Int.reduceSub, Int.reduceMul, Int.reducePow, Int.reduceNeg, Int.reduceToNat, Int.reduceLT, Int.reduceLE, Nat.reduceEqDiff, sidsB, Nat.reduceBEq, keyKD, isIntK]
      refine ⟨setB_one, ?_⟩
      have pm : putL (setB l) 0 (setB l) = setB l := by
        rw [e]
        simp only [putL, putL, List.take_zero, List.nil_append, Nat.zero_add, List.length_cons, List.drop_succ_cons, dc, List.append_nil]
      simp only [putL, putL, List.take_zero, List.nil_append, Nat.zero_add] at pm
      rw [pm, sl, tk]
      simp only [Nat.le_refl, if_true, sealA, sealL, setB_seal]
      rfl
end Go.Proofs.YtkppgdialedoeaaGreatDoor

namespace Go.Proofs.YtkppgdialedoeaaGreatDoor
open Go Go.Proofs Go.Abs
variable {G : Globals}
/-! Trimming by a set of bytes below 128. -/
def trimL (l s : List UInt8) : List UInt8 := s.dropWhile l.contains
def trimR (l s : List UInt8) : List UInt8 := (s.reverse.dropWhile l.contains).reverse
theorem drop_cons' {s : List UInt8} {k : Nat} (h : k < s.length) : s.drop k = s.getD k 0 :: s.drop (k + 1) := by
  rw [List.drop_eq_getElem_cons h, List.getD_eq_getElem?_getD, List.getElem?_eq_getElem h]; rfl
theorem drop_head {s : List UInt8} {k : Nat} : (s.drop k).getD 0 0 = s.getD k 0 := by
  simp [List.getD_eq_getElem?_getD]
theorem take_snoc {s : List UInt8} {k : Nat} (h : k < s.length) : s.take (k + 1) = s.take k ++ [s.getD k 0] := (take_succ_getD h).symm
theorem trimR_snoc {l s : List UInt8} {c : UInt8} : trimR l (s ++ [c]) = if l.contains c then trimR l s else s ++ [c] := by
  simp only [trimR, List.reverse_append, List.reverse_cons, List.reverse_nil, List.nil_append, List.singleton_append, List.dropWhile_cons]
  split <;> simp
theorem trimLA_spec (l s : List UInt8) (hs : s.length < 2 ^ 62) : Ctr Tryz.prog G 124 [.d (S s), .ptr 0 0] [.box (setB l)] (.d (S (trimL l s))) [.box (setB l)] := by
  refine Ctr.body (M := M0) hmix Tryz.func124 rfl go124 ?_
  simp (config := { maxSteps := 1000000 }) (disch := ((try simp only [awL]); omega)) only [nextC_more, nextC_over, bs_size, bs_extract, bs_toList, bs_append, byteAt_bs, bs_cells, nums_length, nums_getD, setB_refs, setB_pass, setB_sids, setB_ren, Tryz.f124, ↓awU, awV, awF, ofVal, ofVal0, isShift, aggK, forall_const, ↓reduceIte, ↓reduceDIte, ↓purePost, combine, idsA, cellsA, numsOf, srcA, calleeA, refsA, isScalar, scalarD, scalar0, AV.one, putL, unfA, implies_true, IntKind.signed, Nat.reduceAdd, Nat.reduceSub, Nat.reduceMul, Nat.reducePow, Nat.reduceDiv, Nat.reduceMod, Int.reduceAdd, Int.reduceSub, Int.reduceMul, Int.reducePow, Int.reduceNeg, Int.reduceToNat, Int.reduceLT, Int.reduceLE, Nat.reduceEqDiff, sidsB, Nat.reduceBEq, keyKD, isIntK]
  refine LoopC.fr 2 (α := Nat) (fun k => s.length - k) (fun k => [(0, .d (S (s.drop k)))]) (fun _ => [.box (setB l)]) (fun k => k ≤ s.length ∧ trimL l (s.drop k) = trimL l s) 0 ⟨Nat.zero_le _, by rw [List.drop_zero]⟩ ?_ ?_
  · exact ⟨[some 0], rfl, by simp, by simp [setsA, keepA, SWeak, AWeak], by simp [HWeak, BWeak, setB_weak]⟩
  · rintro k ⟨hk, ht⟩
    simp only [keepA_z8, keepA_z, keepA_cons, keepA_nil, setsA_nil, setsA_cons, List.set_cons_zero, List.set_cons_succ, set_8, Nat.reduceMod, Nat.reduceDiv, Nat.zero_mod, Nat.zero_ne_one, if_true, if_false, reduceIte]
    rcases Nat.lt_or_ge k s.length with h1 | h1
    · have hd := drop_cons' h1
      simp (config := { maxSteps := 1000000 }) (disch := ((try simp only [awL]); omega)) only [nextC_more, nextC_over, bs_size, bs_extract, bs_toList, bs_append, byteAt_bs, bs_cells, nums_length, nums_getD, setB_refs, setB_pass, setB_sids, setB_ren, drop_head, ↓awU, awV, awF, ofVal, ofVal0, isShift, aggK, forall_const, ↓reduceIte, ↓reduceDIte, ↓purePost, combine, idsA, cellsA, numsOf, srcA, calleeA, refsA, isScalar, scalarD, scalar0, AV.one, putL, unfA, implies_true, IntKind.signed, Nat.reduceAdd, Nat.reduceSub, Nat.reduceMul, Nat.reducePow, Nat.reduceDiv, Nat.reduceMod, Int.reduceAdd, Int.reduceSub, Int.reduceMul, Int.reducePow, Int.reduceNeg, Int.reduceToNat, Int.reduceLT, Int.reduceLE, Nat.reduceEqDiff, sidsB, Nat.reduceBEq, keyKD, isIntK]
      refine CallC.by (contains_spec l (s.getD k 0)) (by rfl) (by rfl) (Nat.le_refl _) ?_
      cases hc : l.contains (s.getD k 0)
      · simp (config := { maxSteps := 1000000 }) (disch := ((try simp only [awL]); omega)) only [nextC_more, nextC_over, bs_size, bs_extract, bs_toList, bs_append, byteAt_bs, bs_cells, nums_length, nums_getD, setB_refs, setB_pass, setB_sids, setB_ren, ↓awU, awV, awF, ofVal, ofVal0, isShift, aggK, forall_const, ↓reduceIte, ↓reduceDIte, ↓purePost, combine, idsA, cellsA, numsOf, srcA, calleeA, refsA, isScalar, scalarD, scalar0, AV.one, putL, unfA, implies_true, IntKind.signed, Nat.reduceAdd, Nat.reduceSub, Nat.reduceMul, Nat.reducePow, Nat.reduceDiv, Nat.reduceMod, Int.reduceAdd, Int.reduceSub, Int.reduceMul, Int.reducePow, Int.reduceNeg, Int.reduceToNat, Int.reduceLT, Int.reduceLE, Nat.reduceEqDiff, sidsB, Nat.reduceBEq, keyKD, isIntK]
        rw [← ht, trimL, hd, List.dropWhile_cons, hc]
        exact ⟨[some 0], rfl, by simp, by simp [HWeak, BWeak, setB_weak], .inl (by simp [AWeak])⟩
      · simp (config := { maxSteps := 1000000 }) (disch := ((try simp only [awL]); omega)) only [nextC_more, nextC_over, bs_size, bs_extract, bs_toList, bs_append, byteAt_bs, bs_cells, nums_length, nums_getD, setB_refs, setB_pass, setB_sids, setB_ren, ↓awU, awV, awF, ofVal, ofVal0, isShift, aggK, forall_const, ↓reduceIte, ↓reduceDIte, ↓purePost, combine, idsA, cellsA, numsOf, srcA, calleeA, refsA, isScalar, scalarD, scalar0, AV.one, putL, unfA, implies_true, IntKind.signed, Nat.reduceAdd, Nat.reduceSub, Nat.reduceMul, Nat.reducePow, Nat.reduceDiv, Nat.reduceMod, Int.reduceAdd, Int.reduceSub, Int.reduceMul, Int.reducePow, Int.reduceNeg, Int.reduceToNat, Int.reduceLT, Int.reduceLE, Nat.reduceEqDiff, sidsB, Nat.reduceBEq, keyKD, isIntK]
        exact ⟨k + 1, ⟨h1, by rw [← ht, trimL, trimL, hd, List.dropWhile_cons, hc]; rfl⟩, by simp only; omega, [some 0], rfl, by simp, by simp [setsA, keepA, SWeak, AWeak], by simp [HWeak, BWeak, setB_weak]⟩
    · simp (config := { maxSteps := 1000000 }) (disch := ((try simp only [awL]); omega)) only [nextC_more, nextC_over, bs_size, bs_extract, bs_toList, bs_append, byteAt_bs, bs_cells, nums_length, nums_getD, setB_refs, setB_pass, setB_sids, setB_ren, ↓awU, awV, awF, ofVal, ofVal0, isShift, aggK, forall_const, ↓reduceIte, ↓reduceDIte, ↓purePost, combine, idsA, cellsA, numsOf, srcA, calleeA, refsA, isScalar, scalarD, scalar0, AV.one, putL, unfA, implies_true, IntKind.signed, Nat.reduceAdd, Nat.reduceSub, Nat.reduceMul, Nat.reducePow, Nat.reduceDiv, Nat.reduceMod, Int.reduceAdd, Int.reduceSub, Int.reduceMul, Int.reducePow, Int.reduceNeg, Int.reduceToNat, Int.reduceLT, Int.reduceLE, Nat.reduceEqDiff, sidsB, Nat.reduceBEq, keyKD, isIntK]
      have : s.drop k = [] := List.drop_eq_nil_of_le h1
      rw [← ht, this]
      exact ⟨[some 0], rfl, by simp, by simp [HWeak, BWeak, setB_weak], .inl (by simp [AWeak, trimL])⟩
theorem trimRA_spec (l s : List UInt8) (hs : s.length < 2 ^ 62) : Ctr Tryz.prog G 125 [.d (S s), .ptr 0 0] [.box (setB l)] (.d (S (trimR l s))) [.box (setB l)] := by
  refine Ctr.body (M := M0) hmix Tryz.func125 rfl go125 ?_
  simp (config := { maxSteps := 1000000 }) (disch := ((try simp only [awL]); omega)) only [nextC_more, nextC_over, bs_size, bs_extract, bs_toList, bs_append, byteAt_bs, bs_cells, nums_length, nums_getD, setB_refs, setB_pass, setB_sids, setB_ren, Tryz.f125, ↓awU, awV, awF, ofVal, ofVal0, isShift, aggK, forall_const, ↓reduceIte, ↓reduceDIte, ↓purePost, combine, idsA, cellsA, numsOf, srcA, calleeA, refsA, isScalar, scalarD, scalar0, AV.one, putL, unfA, implies_true, IntKind.signed, Nat.reduceAdd, Nat.reduceSub, Nat.reduceMul, Nat.reducePow, Nat.reduceDiv, Nat.reduceMod, Int.reduceAdd, Int.reduceSub, Int.reduceMul, Int.reducePow, Int.reduceNeg, Int.reduceToNat, Int.reduceLT, Int.reduceLE, Nat.reduceEqDiff, sidsB, Nat.reduceBEq, keyKD, isIntK]
  refine LoopC.fr 2 (α := Nat) (fun k => k) (fun k => [(0, .d (S (s.take k)))]) (fun _ => [.box (setB l)]) (fun k => k ≤ s.length ∧ trimR l (s.take k) = trimR l s) s.length ⟨Nat.le_refl _, by rw [List.take_length]⟩ ?_ ?_
  · exact ⟨[some 0], rfl, by simp, by simp [setsA, keepA, SWeak, AWeak], by simp [HWeak, BWeak, setB_weak]⟩
  · rintro k ⟨hk, ht⟩
    have lk : (s.take k).length = k := by rw [List.length_take]; omega
    simp only [keepA_z8, keepA_z, keepA_cons, keepA_nil, setsA_nil, setsA_cons, List.set_cons_zero, List.set_cons_succ, set_8, Nat.reduceMod, Nat.reduceDiv, Nat.zero_mod, Nat.zero_ne_one, if_true, if_false, reduceIte]
    rcases k with _ | k
    · rw [List.take_zero] at *
      simp (config := { maxSteps := 1000000 }) (disch := ((try simp only [awL]); omega)) only [nextC_more, nextC_over, bs_size, bs_extract, bs_toList, bs_append, byteAt_bs, bs_cells, nums_length, nums_getD, setB_refs, setB_pass, setB_sids, setB_ren, ↓awU, awV, awF, ofVal, ofVal0, isShift, aggK, forall_const, ↓reduceIte, ↓reduceDIte, ↓purePost, combine, idsA, cellsA, numsOf, srcA, calleeA, refsA, isScalar, scalarD, scalar0, AV.one, putL, unfA, implies_true, IntKind.signed, Nat.reduceAdd, Nat.reduceSub, Nat.reduceMul, Nat.reducePow, Nat.reduceDiv, Nat.reduceMod, Int.reduceAdd, Int.reduceSub, Int.reduceMul, Int.reducePow, Int.reduceNeg, Int.reduceToNat, Int.reduceLT, Int.reduceLE, Nat.reduceEqDiff, sidsB, Nat.reduceBEq, keyKD, isIntK]
      rw [← ht]
      exact ⟨[some 0], rfl, by simp, by simp [HWeak, BWeak, setB_weak], .inl (by simp [AWeak, trimR])⟩
    · have hd := take_snoc (show k < s.length by omega)
      have hg : (s.take (k + 1)).getD k 0 = s.getD k 0 := by
        rw [List.getD_eq_getElem?_getD, List.getElem?_take, if_pos (by omega), ← List.getD_eq_getElem?_getD]
      have hx : (s.take (k + 1)).take k = s.take k := by rw [List.take_take]; congr 1; omega
      simp (config := { maxSteps := 1000000 }) (disch := ((try simp only [awL]); omega)) only [nextC_more, nextC_over, bs_size, bs_extract, bs_toList, bs_append, byteAt_bs, bs_cells, nums_length, nums_getD, setB_refs, setB_pass, setB_sids, setB_ren, lk, hg, ↓awU, awV, awF, ofVal, ofVal0, isShift, aggK, forall_const, ↓reduceIte, ↓reduceDIte, ↓purePost, combine, idsA, cellsA, numsOf, srcA, calleeA, refsA, isScalar, scalarD, scalar0, AV.one, putL, unfA, implies_true, IntKind.signed, Nat.reduceAdd, Nat.reduceSub, Nat.reduceMul, Nat.reducePow, Nat.reduceDiv, Nat.reduceMod, Int.reduceAdd, Int.reduceSub, Int.reduceMul, Int.reducePow, Int.reduceNeg, Int.reduceToNat, Int.reduceLT, Int.reduceLE, Nat.reduceEqDiff, sidsB, Nat.reduceBEq, keyKD, isIntK]
      refine CallC.by (contains_spec l (s.getD k 0)) (by rfl) (by rfl) (Nat.le_refl _) ?_
      cases hc : l.contains (s.getD k 0)
      · simp (config := { maxSteps := 1000000 }) (disch := ((try simp only [awL]); omega)) only [nextC_more, nextC_over, bs_size, bs_extract, bs_toList, bs_append, byteAt_bs, bs_cells, nums_length, nums_getD, setB_refs, setB_pass, setB_sids, setB_ren, ↓awU, awV, awF, ofVal, ofVal0, isShift, aggK, forall_const, ↓reduceIte, ↓reduceDIte, ↓purePost, combine, idsA, cellsA, numsOf, srcA, calleeA, refsA, isScalar, scalarD, scalar0, AV.one, putL, unfA, implies_true, IntKind.signed, Nat.reduceAdd, Nat.reduceSub, Nat.reduceMul, Nat.reducePow, Nat.reduceDiv, Nat.reduceMod, Int.reduceAdd, Int.reduceSub, Int.reduceMul, Int.reducePow, Int.reduceNeg, Int.reduceToNat, Int.reduceLT, Int.reduceLE, Nat.reduceEqDiff, sidsB, Nat.reduceBEq, keyKD, isIntK]
        rw [← ht, hd, trimR_snoc, hc]
        exact ⟨[some 0], rfl, by simp, by simp [HWeak, BWeak, setB_weak], .inl (by simp [AWeak])⟩
      · simp (config := { maxSteps := 1000000 }) (disch := ((try simp only [awL]); omega)) only [nextC_more, nextC_over, bs_size, bs_extract, bs_toList, bs_append, byteAt_bs, bs_cells, nums_length, nums_getD, setB_refs, setB_pass, setB_sids, setB_ren, lk, hx, ↓awU, awV, awF, ofVal, ofVal0, isShift, aggK, forall_const, ↓reduceIte, ↓reduceDIte, ↓purePost, combine, idsA, cellsA, numsOf, srcA, calleeA, refsA, isScalar, scalarD, scalar0, AV.one, putL, unfA, implies_true, IntKind.signed, Nat.reduceAdd, Nat.reduceSub, Nat.reduceMul, Nat.reducePow, Nat.reduceDiv, Nat.reduceMod, Int.reduceAdd, Int.reduceSub, Int.reduceMul, Int.reducePow, Int.reduceNeg, Int.reduceToNat, Int.reduceLT, Int.reduceLE, Nat.reduceEqDiff, sidsB, Nat.reduceBEq, keyKD, isIntK]
        exact ⟨k, ⟨by omega, by rw [← ht, hd, trimR_snoc, hc]; rfl⟩, by simp only; omega, [some 0], rfl, by simp, by simp [setsA, keepA, SWeak, AWeak], by simp [HWeak, BWeak, setB_weak]⟩
end Go.Proofs.YtkppgdialedoeaaGreatDoor
