/-
  Contracts of the functions, one after another.
-/
import Derived.Test.YtkppgdialedoeaaGreatDoorMb1
import Derived.Test.YtkppgdialedoeaaGreatDoorCards
import Derived.Test.YtkppgdialedoeaaGreatDoorTie
set_option linter.all false
namespace Go.Proofs.YtkppgdialedoeaaGreatDoor
open Go Go.Proofs Go.Abs
variable {G : Globals}
set_option maxHeartbeats 4000000 in
set_option maxRecDepth 100000 in
theorem bigs_spec (a b : Int) : Ctr Tryz.prog G 68 [.d (.sl 2 false (bigL a ++ bigL b))] [] (.d (.bool (decide (sz a ≤ 256 ∧ sz b ≤ 256)))) [] := by
  refine Ctr.pure (M := M0) hmix Tryz.func68 rfl go68 ?_
  simp (config := { maxSteps := 1000000 }) (disch := ((try simp only [awL]); omega)) only [Tryz.f68, ↓awU, awV, awF, ofVal, ofVal0, isShift, aggK, forall_const, ↓reduceIte, ↓reduceDIte, ↓purePost, combine, idsA, cellsA, numsOf, srcA, calleeA, refsA, isScalar, scalarD, scalar0, AV.one, putL, unfA, implies_true, IntKind.signed, Nat.reduceAdd, Nat.reduceSub, Nat.reduceMul, Nat.reducePow, Nat.reduceDiv, Nat.reduceMod, Int.reduceAdd, Int.reduceSub, Int.reduceMul, Int.reducePow, Int.reduceNeg, Int.reduceToNat, Int.reduceLT, Int.reduceLE, Nat.reduceEqDiff, sidsB, Nat.reduceBEq, keyKD, isIntK]
  refine LoopC.fr 96 (α := Nat) (fun k => 2 - k) (fun k => [(7, .d (.int .i64 k))]) (fun _ => []) (fun k => k ≤ 2 ∧ (0 < k → sz a ≤ 256) ∧ (1 < k → sz b ≤ 256)) 0 ⟨by omega, by omega, by omega⟩ ?_ ?_
  · exact ⟨[], rfl, by simp, by simp [setsA, keepA, SWeak, AWeak], by simp [HWeak, BWeak, SWeak, AWeak]⟩
  · rintro k ⟨hk, ha, hb⟩
    simp only [keepA_z8, keepA_z, keepA_cons, keepA_nil, setsA_nil, setsA_cons, List.set_cons_zero, List.set_cons_succ, set_8, Nat.reduceMod, Nat.reduceDiv, Nat.zero_mod, Nat.zero_ne_one, if_true, if_false, reduceIte]
    rcases k with _ | _ | _ | k
    · simp (config := { maxSteps := 1000000 }) (disch := ((try simp only [awL]); omega)) only [↓awU, awV, awF, ofVal, ofVal0, isShift, aggK, forall_const, ↓reduceIte, ↓reduceDIte, ↓purePost, combine, idsA, cellsA, numsOf, srcA, calleeA, refsA, isScalar, scalarD, scalar0, AV.one, putL, unfA, implies_true, IntKind.signed, Nat.reduceAdd, Nat.reduceSub, Nat.reduceMul, Nat.reducePow, Nat.reduceDiv, Nat.reduceMod, Int.reduceAdd, Int.reduceSub, Int.reduceMul, Int.reducePow, Int.reduceNeg, Int.reduceToNat, Int.reduceLT, Int.reduceLE, Nat.reduceEqDiff, sidsB, Nat.reduceBEq, keyKD, isIntK]
      refine CallC.pure (validBig_spec a) ?_
      by_cases h : sz a ≤ 256
      · rw [decide_eq_true h]
        simp (config := { maxSteps := 1000000 }) (disch := ((try simp only [awL]); omega)) only [↓awU, awV, awF, ofVal, ofVal0, isShift, aggK, forall_const, ↓reduceIte, ↓reduceDIte, ↓purePost, combine, idsA, cellsA, numsOf, srcA, calleeA, refsA, isScalar, scalarD, scalar0, AV.one, putL, unfA, implies_true, IntKind.signed, Nat.reduceAdd, Nat.reduceSub, Nat.reduceMul, Nat.reducePow, Nat.reduceDiv, Nat.reduceMod, Int.reduceAdd, Int.reduceSub, Int.reduceMul, Int.reducePow, Int.reduceNeg, Int.reduceToNat, Int.reduceLT, Int.reduceLE, Nat.reduceEqDiff, sidsB, Nat.reduceBEq, keyKD, isIntK]
        exact ⟨1, by simp, by simp only; omega, ⟨[], rfl, by simp, by simp [setsA, keepA, SWeak, AWeak], by simp [HWeak, BWeak, SWeak, AWeak]⟩⟩
      · rw [decide_eq_false h]
        simp (config := { maxSteps := 1000000 }) (disch := ((try simp only [awL]); omega)) only [↓awU, awV, awF, ofVal, ofVal0, isShift, aggK, forall_const, ↓reduceIte, ↓reduceDIte, ↓purePost, combine, idsA, cellsA, numsOf, srcA, calleeA, refsA, isScalar, scalarD, scalar0, AV.one, putL, unfA, implies_true, IntKind.signed, Nat.reduceAdd, Nat.reduceSub, Nat.reduceMul, Nat.reducePow, Nat.reduceDiv, Nat.reduceMod, Int.reduceAdd, Int.reduceSub, Int.reduceMul, Int.reducePow, Int.reduceNeg, Int.reduceToNat, Int.reduceLT, Int.reduceLE, Nat.reduceEqDiff, sidsB, Nat.reduceBEq, keyKD, isIntK]
        try simp [h]
    · have ha := ha (by omega)
      simp (config := { maxSteps := 1000000 }) (disch := ((try simp only [awL]); omega)) only [↓awU, awV, awF, ofVal, ofVal0, isShift, aggK, forall_const, ↓reduceIte, ↓reduceDIte, ↓purePost, combine, idsA, cellsA, numsOf, srcA, calleeA, refsA, isScalar, scalarD, scalar0, AV.one, putL, unfA, implies_true, IntKind.signed, Nat.reduceAdd, Nat.reduceSub, Nat.reduceMul, Nat.reducePow, Nat.reduceDiv, Nat.reduceMod, Int.reduceAdd, Int.reduceSub, Int.reduceMul, Int.reducePow, Int.reduceNeg, Int.reduceToNat, Int.reduceLT, Int.reduceLE, Nat.reduceEqDiff, sidsB, Nat.reduceBEq, keyKD, isIntK]
      refine CallC.pure (validBig_spec b) ?_
      by_cases h : sz b ≤ 256
      · rw [decide_eq_true h]
        simp (config := { maxSteps := 1000000 }) (disch := ((try simp only [awL]); omega)) only [↓awU, awV, awF, ofVal, ofVal0, isShift, aggK, forall_const, ↓reduceIte, ↓reduceDIte, ↓purePost, combine, idsA, cellsA, numsOf, srcA, calleeA, refsA, isScalar, scalarD, scalar0, AV.one, putL, unfA, implies_true, IntKind.signed, Nat.reduceAdd, Nat.reduceSub, Nat.reduceMul, Nat.reducePow, Nat.reduceDiv, Nat.reduceMod, Int.reduceAdd, Int.reduceSub, Int.reduceMul, Int.reducePow, Int.reduceNeg, Int.reduceToNat, Int.reduceLT, Int.reduceLE, Nat.reduceEqDiff, sidsB, Nat.reduceBEq, keyKD, isIntK]
        exact ⟨2, by simp, by simp only; omega, ⟨[], rfl, by simp, by simp [setsA, keepA, SWeak, AWeak], by simp [HWeak, BWeak, SWeak, AWeak]⟩⟩
      · rw [decide_eq_false h]
        simp (config := { maxSteps := 1000000 }) (disch := ((try simp only [awL]); omega)) only [↓awU, awV, awF, ofVal, ofVal0, isShift, aggK, forall_const, ↓reduceIte, ↓reduceDIte, ↓purePost, combine, idsA, cellsA, numsOf, srcA, calleeA, refsA, isScalar, scalarD, scalar0, AV.one, putL, unfA, implies_true, IntKind.signed, Nat.reduceAdd, Nat.reduceSub, Nat.reduceMul, Nat.reducePow, Nat.reduceDiv, Nat.reduceMod, Int.reduceAdd, Int.reduceSub, Int.reduceMul, Int.reducePow, Int.reduceNeg, Int.reduceToNat, Int.reduceLT, Int.reduceLE, Nat.reduceEqDiff, sidsB, Nat.reduceBEq, keyKD, isIntK]
        try simp [h]
    · have ha := ha (by omega)
      have hb := hb (by omega)
      simp (config := { maxSteps := 1000000 }) (disch := ((try simp only [awL]); omega)) only [↓awU, awV, awF, ofVal, ofVal0, isShift, aggK, forall_const, ↓reduceIte, ↓reduceDIte, ↓purePost, combine, idsA, cellsA, numsOf, srcA, calleeA, refsA, isScalar, scalarD, scalar0, AV.one, putL, unfA, implies_true, IntKind.signed, Nat.reduceAdd, Nat.reduceSub, Nat.reduceMul, Nat.reducePow, Nat.reduceDiv, Nat.reduceMod, Int.reduceAdd, Int.reduceSub, Int.reduceMul, Int.reducePow, Int.reduceNeg, Int.reduceToNat, Int.reduceLT, Int.reduceLE, Nat.reduceEqDiff, sidsB, Nat.reduceBEq, keyKD, isIntK]
    · exact absurd hk (by omega)
theorem sign_mul {n d : Int} (hd : d ≠ 0) : d.sign * n = if ¬ decide (n < 0) = decide (d < 0) then -((n.natAbs : Nat) : Int) else ((n.natAbs : Nat) : Int) := by
  rcases Int.lt_or_gt_of_ne hd with h | h
  · rw [Int.sign_eq_neg_one_of_neg h]
    by_cases hn : n < 0 <;> simp [hn, h] <;> omega
  · rw [Int.sign_eq_one_of_pos h]
    by_cases hn : n < 0 <;> simp [hn, show ¬ d < 0 by omega] <;> omega
theorem neg_div {m g : Nat} (h : g ∣ m) : (-((m : Nat) : Int)) / (g : Int) = -((m / g : Nat) : Int) := by
  rw [Int.neg_ediv_of_dvd (Int.natCast_dvd_natCast.2 h)]; rfl
theorem div_len {a b : Nat} : (toW (a / b)).length ≤ (toW a).length := toW_len_mono (Nat.div_le_self _ _)
theorem Big_neg {n : Int} : Big n = .agg [.bool (decide (n < 0)), W (toW n.natAbs)] := rfl
set_option maxHeartbeats 4000000 in
set_option maxRecDepth 100000 in
theorem reduced_spec (n d : Int) (hd : d ≠ 0) (hn : sz n < 2 ^ 36) (hds : sz d < 2 ^ 36) : Ctr Tryz.prog G 73 [.d (Big n), .d (Big d)] [] (.d (Frac (Rat.divInt n d))) [] := by
  simp only [sz] at hn hds
  have hg0 : Nat.gcd n.natAbs d.natAbs ≠ 0 := by
    intro h; exact hd (Int.natAbs_eq_zero.1 (Nat.gcd_eq_zero_iff.1 h).2)
  have hgl : (toW (Nat.gcd n.natAbs d.natAbs)).length ≤ (toW d.natAbs).length := toW_len_mono (Nat.gcd_le_right _ (by omega))
  have hx := @div_len n.natAbs (Nat.gcd n.natAbs d.natAbs)
  have hy := @div_len d.natAbs (Nat.gcd n.natAbs d.natAbs)
  have e1 : (Rat.divInt n d).num = if ¬ decide (n < 0) = decide (d < 0) then -((n.natAbs / Nat.gcd n.natAbs d.natAbs : Nat) : Int) else ((n.natAbs / Nat.gcd n.natAbs d.natAbs : Nat) : Int) := by
    rw [Rat.num_divInt, sign_mul hd, Int.gcd, Nat.gcd_comm d.natAbs]
    split
    · exact neg_div (Nat.gcd_dvd_left _ _)
    · rfl
  have e2 : (Rat.divInt n d).den = d.natAbs / Nat.gcd n.natAbs d.natAbs := by
    rw [Rat.den_divInt, if_neg hd, Int.gcd, Nat.gcd_comm d.natAbs]
  refine Ctr.pure (M := M0) hmix Tryz.func73 rfl go73 ?_
  simp (config := { maxSteps := 1000000 }) (disch := ((try simp only [awL]); omega)) only [Tryz.f73, ↓awU, awV, awF, ofVal, ofVal0, isShift, aggK, forall_const, ↓reduceIte, ↓reduceDIte, ↓purePost, combine, idsA, cellsA, numsOf, srcA, calleeA, refsA, isScalar, scalarD, scalar0, AV.one, putL, unfA, implies_true, IntKind.signed, Nat.reduceAdd, Nat.reduceSub, Nat.reduceMul, Nat.reducePow, Nat.reduceDiv, Nat.reduceMod, Int.reduceAdd, Int.reduceSub, Int.reduceMul, Int.reducePow, Int.reduceNeg, Int.reduceToNat, Int.reduceLT, Int.reduceLE, Nat.reduceEqDiff, sidsB, Nat.reduceBEq, keyKD, isIntK]
  refine CallC.pure (common_spec _ _ (by omega) (by omega)) ?_
  generalize Nat.gcd n.natAbs d.natAbs = g at *
  simp (config := { maxSteps := 1000000 }) (disch := ((try simp only [awL]); omega)) only [↓awU, awV, awF, ofVal, ofVal0, isShift, aggK, forall_const, ↓reduceIte, ↓reduceDIte, ↓purePost, combine, idsA, cellsA, numsOf, srcA, calleeA, refsA, isScalar, scalarD, scalar0, AV.one, putL, unfA, implies_true, IntKind.signed, Nat.reduceAdd, Nat.reduceSub, Nat.reduceMul, Nat.reducePow, Nat.reduceDiv, Nat.reduceMod, Int.reduceAdd, Int.reduceSub, Int.reduceMul, Int.reducePow, Int.reduceNeg, Int.reduceToNat, Int.reduceLT, Int.reduceLE, Nat.reduceEqDiff, sidsB, Nat.reduceBEq, keyKD, isIntK]
  refine CallC.pure (over_spec _ g hg0 (by omega) (by omega)) ?_
  simp (config := { maxSteps := 1000000 }) (disch := ((try simp only [awL]); omega)) only [↓awU, awV, awF, ofVal, ofVal0, isShift, aggK, forall_const, ↓reduceIte, ↓reduceDIte, ↓purePost, combine, idsA, cellsA, numsOf, srcA, calleeA, refsA, isScalar, scalarD, scalar0, AV.one, putL, unfA, implies_true, IntKind.signed, Nat.reduceAdd, Nat.reduceSub, Nat.reduceMul, Nat.reducePow, Nat.reduceDiv, Nat.reduceMod, Int.reduceAdd, Int.reduceSub, Int.reduceMul, Int.reducePow, Int.reduceNeg, Int.reduceToNat, Int.reduceLT, Int.reduceLE, Nat.reduceEqDiff, sidsB, Nat.reduceBEq, keyKD, isIntK]
  refine CallC.pure (over_spec _ g hg0 (by omega) (by omega)) ?_
  simp (config := { maxSteps := 1000000 }) (disch := ((try simp only [awL]); omega)) only [↓awU, awV, awF, ofVal, ofVal0, isShift, aggK, forall_const, ↓reduceIte, ↓reduceDIte, ↓purePost, combine, idsA, cellsA, numsOf, srcA, calleeA, refsA, isScalar, scalarD, scalar0, AV.one, putL, unfA, implies_true, IntKind.signed, Nat.reduceAdd, Nat.reduceSub, Nat.reduceMul, Nat.reducePow, Nat.reduceDiv, Nat.reduceMod, Int.reduceAdd, Int.reduceSub, Int.reduceMul, Int.reducePow, Int.reduceNeg, Int.reduceToNat, Int.reduceLT, Int.reduceLE, Nat.reduceEqDiff, sidsB, Nat.reduceBEq, keyKD, isIntK]
  refine CallC.pure (signed_spec _ _ (by omega)) ?_
  simp (config := { maxSteps := 1000000 }) (disch := ((try simp only [awL]); omega)) only [↓awU, awV, awF, ofVal, ofVal0, isShift, aggK, forall_const, ↓reduceIte, ↓reduceDIte, ↓purePost, combine, idsA, cellsA, numsOf, srcA, calleeA, refsA, isScalar, scalarD, scalar0, AV.one, putL, unfA, implies_true, IntKind.signed, Nat.reduceAdd, Nat.reduceSub, Nat.reduceMul, Nat.reducePow, Nat.reduceDiv, Nat.reduceMod, Int.reduceAdd, Int.reduceSub, Int.reduceMul, Int.reducePow, Int.reduceNeg, Int.reduceToNat, Int.reduceLT, Int.reduceLE, Nat.reduceEqDiff, sidsB, Nat.reduceBEq, keyKD, isIntK]
  refine CallC.pure (signed_spec false _ (by omega)) ?_
  simp only [Frac]
  rw [e1, e2]
  simp (config := { maxSteps := 1000000 }) (disch := ((try simp only [awL]); omega)) only [↓awU, awV, awF, ofVal, ofVal0, isShift, aggK, forall_const, ↓reduceIte, ↓reduceDIte, ↓purePost, combine, idsA, cellsA, numsOf, srcA, calleeA, refsA, isScalar, scalarD, scalar0, AV.one, putL, unfA, implies_true, IntKind.signed, Nat.reduceAdd, Nat.reduceSub, Nat.reduceMul, Nat.reducePow, Nat.reduceDiv, Nat.reduceMod, Int.reduceAdd, Int.reduceSub, Int.reduceMul, Int.reducePow, Int.reduceNeg, Int.reduceToNat, Int.reduceLT, Int.reduceLE, Nat.reduceEqDiff, sidsB, Nat.reduceBEq, keyKD, isIntK]
/-- A fraction that has few enough words. -/
def FV (x : Rat) : Prop := sz x.num ≤ 256 ∧ (toW x.den).length ≤ 256
instance (x : Rat) : Decidable (FV x) := inferInstanceAs (Decidable (_ ∧ _))
/-- The program's variables: the number 1. -/
def HG (G : Globals) : Prop := G 0 = some [W [1]]
theorem toW_one : toW 1 = [1] := by rw [toW_pos (by decide), show 1 / B = 0 from rfl, toW_zero]; rfl
theorem cmpI_self {a : Int} : cmpI a a = 0 := cmpI_eq rfl
theorem bigL_nat {n : Nat} : bigL (n : Int) = [.bool false, W (toW n)] := by simp [bigL]
set_option maxHeartbeats 4000000 in
set_option maxRecDepth 100000 in
theorem valid_spec (hG : HG G) (x : Rat) (h1 : sz x.num < 2 ^ 36) (h2 : (toW x.den).length < 2 ^ 36) : Ctr Tryz.prog G 25 [.d (Frac x)] [] (.d (.bool (decide (FV x)))) [] := by
  have hd : 0 < (toW x.den).length := sz_pos.2 x.den_nz
  simp only [sz] at h1
  unfold HG at hG
  refine Ctr.pure (M := M0) hmix Tryz.func25 rfl go25 ?_
  simp (config := { maxSteps := 1000000 }) (disch := ((try simp only [awL]); omega)) only [Tryz.f25, ↓awU, awV, awF, ofVal, ofVal0, isShift, aggK, forall_const, ↓reduceIte, ↓reduceDIte, ↓purePost, combine, idsA, cellsA, numsOf, srcA, calleeA, refsA, isScalar, scalarD, scalar0, AV.one, putL, unfA, implies_true, IntKind.signed, Nat.reduceAdd, Nat.reduceSub, Nat.reduceMul, Nat.reducePow, Nat.reduceDiv, Nat.reduceMod, Int.reduceAdd, Int.reduceSub, Int.reduceMul, Int.reducePow, Int.reduceNeg, Int.reduceToNat, Int.reduceLT, Int.reduceLE, Nat.reduceEqDiff, sidsB, Nat.reduceBEq, keyKD, isIntK]
  refine CallC.by (bigs_spec x.num x.den) (by rw [bigL_nat]; simp [cut, bigL, W]) rfl (Nat.le_refl _) ?_
  simp only [sz, Int.natAbs_natCast]
  by_cases hv : FV x
  · have hv' := hv
    unfold FV at hv'
    simp only [sz] at hv'
    rw [decide_eq_true hv', decide_eq_true hv]
    simp (config := { maxSteps := 1000000 }) (disch := ((try simp only [awL]); omega)) only [hG, ↓awU, awV, awF, ofVal, ofVal0, isShift, aggK, forall_const, ↓reduceIte, ↓reduceDIte, ↓purePost, combine, idsA, cellsA, numsOf, srcA, calleeA, refsA, isScalar, scalarD, scalar0, AV.one, putL, unfA, implies_true, IntKind.signed, Nat.reduceAdd, Nat.reduceSub, Nat.reduceMul, Nat.reducePow, Nat.reduceDiv, Nat.reduceMod, Int.reduceAdd, Int.reduceSub, Int.reduceMul, Int.reducePow, Int.reduceNeg, Int.reduceToNat, Int.reduceLT, Int.reduceLE, Nat.reduceEqDiff, sidsB, Nat.reduceBEq, keyKD, isIntK]
    refine CallC.pure (common_spec _ _ (by omega) (by omega)) ?_
    have hgcd : Nat.gcd x.num.natAbs x.den = 1 := x.reduced
    rw [hgcd]
    simp (config := { maxSteps := 1000000 }) (disch := ((try simp only [awL]); omega)) only [hG, ↓awU, awV, awF, ofVal, ofVal0, isShift, aggK, forall_const, ↓reduceIte, ↓reduceDIte, ↓purePost, combine, idsA, cellsA, numsOf, srcA, calleeA, refsA, isScalar, scalarD, scalar0, AV.one, putL, unfA, implies_true, IntKind.signed, Nat.reduceAdd, Nat.reduceSub, Nat.reduceMul, Nat.reducePow, Nat.reduceDiv, Nat.reduceMod, Int.reduceAdd, Int.reduceSub, Int.reduceMul, Int.reducePow, Int.reduceNeg, Int.reduceToNat, Int.reduceLT, Int.reduceLE, Nat.reduceEqDiff, sidsB, Nat.reduceBEq, keyKD, isIntK]
    refine CallC.of (compare_spec 1 1 (by rw [toW_one]; decide) (by rw [toW_one]; decide)) (by rw [toW_one]; rfl) ?_
    rw [cmpI_self]
    simp (config := { maxSteps := 1000000 }) (disch := ((try simp only [awL]); omega)) only [hG, ↓awU, awV, awF, ofVal, ofVal0, isShift, aggK, forall_const, ↓reduceIte, ↓reduceDIte, ↓purePost, combine, idsA, cellsA, numsOf, srcA, calleeA, refsA, isScalar, scalarD, scalar0, AV.one, putL, unfA, implies_true, IntKind.signed, Nat.reduceAdd, Nat.reduceSub, Nat.reduceMul, Nat.reducePow, Nat.reduceDiv, Nat.reduceMod, Int.reduceAdd, Int.reduceSub, Int.reduceMul, Int.reducePow, Int.reduceNeg, Int.reduceToNat, Int.reduceLT, Int.reduceLE, Nat.reduceEqDiff, sidsB, Nat.reduceBEq, keyKD, isIntK]
    try rfl
  · have hv' := hv
    unfold FV at hv'
    simp only [sz] at hv'
    rw [decide_eq_false hv', decide_eq_false hv]
    simp (config := { maxSteps := 1000000 }) (disch := ((try simp only [awL]); omega)) only [hG, ↓awU, awV, awF, ofVal, ofVal0, isShift, aggK, forall_const, ↓reduceIte, ↓reduceDIte, ↓purePost, combine, idsA, cellsA, numsOf, srcA, calleeA, refsA, isScalar, scalarD, scalar0, AV.one, putL, unfA, implies_true, IntKind.signed, Nat.reduceAdd, Nat.reduceSub, Nat.reduceMul, Nat.reducePow, Nat.reduceDiv, Nat.reduceMod, Int.reduceAdd, Int.reduceSub, Int.reduceMul, Int.reducePow, Int.reduceNeg, Int.reduceToNat, Int.reduceLT, Int.reduceLE, Nat.reduceEqDiff, sidsB, Nat.reduceBEq, keyKD, isIntK]
    try rfl
abbrev Zf : D := .agg [.bool false, .sl 0 false [], .bool false, .sl 0 false []]
set_option maxHeartbeats 4000000 in
set_option maxRecDepth 100000 in
theorem make_spec (a b : Int) (ha : sz a ≤ 256) (hb : sz b ≤ 256) : Ctr Tryz.prog G 31 [.d (Big a), .d (Big b)] [] (.d (.tup [if b = 0 then Zf else Frac (Rat.divInt a b), .int .i64 (if b = 0 then 8 else 0)])) [] := by
  refine Ctr.pure (M := M0) hmix Tryz.func31 rfl go31 ?_
  simp (config := { maxSteps := 1000000 }) (disch := ((try simp only [awL]); omega)) only [Tryz.f31, ↓awU, awV, awF, ofVal, ofVal0, isShift, aggK, forall_const, ↓reduceIte, ↓reduceDIte, ↓purePost, combine, idsA, cellsA, numsOf, srcA, calleeA, refsA, isScalar, scalarD, scalar0, AV.one, putL, unfA, implies_true, IntKind.signed, Nat.reduceAdd, Nat.reduceSub, Nat.reduceMul, Nat.reducePow, Nat.reduceDiv, Nat.reduceMod, Int.reduceAdd, Int.reduceSub, Int.reduceMul, Int.reducePow, Int.reduceNeg, Int.reduceToNat, Int.reduceLT, Int.reduceLE, Nat.reduceEqDiff, sidsB, Nat.reduceBEq, keyKD, isIntK]
  refine CallC.by (bigs_spec a b) (by simp [cut, bigL, W]) rfl (Nat.le_refl _) ?_
  rw [decide_eq_true (p := sz a ≤ 256 ∧ sz b ≤ 256) ⟨ha, hb⟩]
  simp only [sz] at ha hb
  by_cases h0 : b = 0
  · subst h0
    have e : (toW (0 : Int).natAbs).length = 0 := by rw [show (0 : Int).natAbs = 0 from rfl, toW_zero]; rfl
    rw [if_pos rfl, if_pos rfl]
    simp (config := { maxSteps := 1000000 }) (disch := ((try simp only [awL]); omega)) only [e, ↓awU, awV, awF, ofVal, ofVal0, isShift, aggK, forall_const, ↓reduceIte, ↓reduceDIte, ↓purePost, combine, idsA, cellsA, numsOf, srcA, calleeA, refsA, isScalar, scalarD, scalar0, AV.one, putL, unfA, implies_true, IntKind.signed, Nat.reduceAdd, Nat.reduceSub, Nat.reduceMul, Nat.reducePow, Nat.reduceDiv, Nat.reduceMod, Int.reduceAdd, Int.reduceSub, Int.reduceMul, Int.reducePow, Int.reduceNeg, Int.reduceToNat, Int.reduceLT, Int.reduceLE, Nat.reduceEqDiff, sidsB, Nat.reduceBEq, keyKD, isIntK]
  · have e := (@sz_pos b.natAbs).2 (by omega)
    rw [if_neg h0, if_neg h0]
    simp (config := { maxSteps := 1000000 }) (disch := ((try simp only [awL]); omega)) only [↓awU, awV, awF, ofVal, ofVal0, isShift, aggK, forall_const, ↓reduceIte, ↓reduceDIte, ↓purePost, combine, idsA, cellsA, numsOf, srcA, calleeA, refsA, isScalar, scalarD, scalar0, AV.one, putL, unfA, implies_true, IntKind.signed, Nat.reduceAdd, Nat.reduceSub, Nat.reduceMul, Nat.reducePow, Nat.reduceDiv, Nat.reduceMod, Int.reduceAdd, Int.reduceSub, Int.reduceMul, Int.reducePow, Int.reduceNeg, Int.reduceToNat, Int.reduceLT, Int.reduceLE, Nat.reduceEqDiff, sidsB, Nat.reduceBEq, keyKD, isIntK]
    refine CallC.pure (reduced_spec a b h0 (by simp only [sz]; omega) (by simp only [sz]; omega)) ?_
    simp (config := { maxSteps := 1000000 }) (disch := ((try simp only [awL]); omega)) only [↓awU, awV, awF, ofVal, ofVal0, isShift, aggK, forall_const, ↓reduceIte, ↓reduceDIte, ↓purePost, combine, idsA, cellsA, numsOf, srcA, calleeA, refsA, isScalar, scalarD, scalar0, AV.one, putL, unfA, implies_true, IntKind.signed, Nat.reduceAdd, Nat.reduceSub, Nat.reduceMul, Nat.reducePow, Nat.reduceDiv, Nat.reduceMod, Int.reduceAdd, Int.reduceSub, Int.reduceMul, Int.reducePow, Int.reduceNeg, Int.reduceToNat, Int.reduceLT, Int.reduceLE, Nat.reduceEqDiff, sidsB, Nat.reduceBEq, keyKD, isIntK]
theorem sz_int {n : Int} (h1 : -9223372036854775808 ≤ n) (h2 : n ≤ 9223372036854775807) : sz n ≤ 2 := toW_length_le (by simp only [B]; omega)
theorem of_spec (a b : Int) (h1 : -9223372036854775808 ≤ a) (h2 : a ≤ 9223372036854775807) (h3 : -9223372036854775808 ≤ b) (h4 : b ≤ 9223372036854775807) :
    Ctr Tryz.prog G 29 [.d (.int .i64 a), .d (.int .i64 b)] [] (.d (.tup [if b = 0 then Zf else Frac (Rat.divInt a b), .int .i64 (if b = 0 then 8 else 0)])) [] := by
  have ka := sz_int h1 h2
  have kb := sz_int h3 h4
  refine Ctr.pure (M := M0) hmix Tryz.func29 rfl go29 ?_
  simp (config := { maxSteps := 1000000 }) (disch := ((try simp only [awL]); omega)) only [Tryz.f29, ↓awU, awV, awF, ofVal, ofVal0, isShift, aggK, forall_const, ↓reduceIte, ↓reduceDIte, ↓purePost, combine, idsA, cellsA, numsOf, srcA, calleeA, refsA, isScalar, scalarD, scalar0, AV.one, putL, unfA, implies_true, IntKind.signed, Nat.reduceAdd, Nat.reduceSub, Nat.reduceMul, Nat.reducePow, Nat.reduceDiv, Nat.reduceMod, Int.reduceAdd, Int.reduceSub, Int.reduceMul, Int.reducePow, Int.reduceNeg, Int.reduceToNat, Int.reduceLT, Int.reduceLE, Nat.reduceEqDiff, sidsB, Nat.reduceBEq, keyKD, isIntK]
  refine CallC.pure (fromInt_spec a h1 h2) ?_
  simp (config := { maxSteps := 1000000 }) (disch := ((try simp only [awL]); omega)) only [↓awU, awV, awF, ofVal, ofVal0, isShift, aggK, forall_const, ↓reduceIte, ↓reduceDIte, ↓purePost, combine, idsA, cellsA, numsOf, srcA, calleeA, refsA, isScalar, scalarD, scalar0, AV.one, putL, unfA, implies_true, IntKind.signed, Nat.reduceAdd, Nat.reduceSub, Nat.reduceMul, Nat.reducePow, Nat.reduceDiv, Nat.reduceMod, Int.reduceAdd, Int.reduceSub, Int.reduceMul, Int.reducePow, Int.reduceNeg, Int.reduceToNat, Int.reduceLT, Int.reduceLE, Nat.reduceEqDiff, sidsB, Nat.reduceBEq, keyKD, isIntK]
  refine CallC.pure (fromInt_spec b h3 h4) ?_
  simp (config := { maxSteps := 1000000 }) (disch := ((try simp only [awL]); omega)) only [↓awU, awV, awF, ofVal, ofVal0, isShift, aggK, forall_const, ↓reduceIte, ↓reduceDIte, ↓purePost, combine, idsA, cellsA, numsOf, srcA, calleeA, refsA, isScalar, scalarD, scalar0, AV.one, putL, unfA, implies_true, IntKind.signed, Nat.reduceAdd, Nat.reduceSub, Nat.reduceMul, Nat.reducePow, Nat.reduceDiv, Nat.reduceMod, Int.reduceAdd, Int.reduceSub, Int.reduceMul, Int.reducePow, Int.reduceNeg, Int.reduceToNat, Int.reduceLT, Int.reduceLE, Nat.reduceEqDiff, sidsB, Nat.reduceBEq, keyKD, isIntK]
  refine CallC.pure (make_spec a b (by omega) (by omega)) ?_
  by_cases h0 : b = 0
  · rw [if_pos h0, if_pos h0]
    simp (config := { maxSteps := 1000000 }) (disch := ((try simp only [awL]); omega)) only [↓awU, awV, awF, ofVal, ofVal0, isShift, aggK, forall_const, ↓reduceIte, ↓reduceDIte, ↓purePost, combine, idsA, cellsA, numsOf, srcA, calleeA, refsA, isScalar, scalarD, scalar0, AV.one, putL, unfA, implies_true, IntKind.signed, Nat.reduceAdd, Nat.reduceSub, Nat.reduceMul, Nat.reducePow, Nat.reduceDiv, Nat.reduceMod, Int.reduceAdd, Int.reduceSub, Int.reduceMul, Int.reducePow, Int.reduceNeg, Int.reduceToNat, Int.reduceLT, Int.reduceLE, Nat.reduceEqDiff, sidsB, Nat.reduceBEq, keyKD, isIntK]
  · rw [if_neg h0, if_neg h0]
    simp (config := { maxSteps := 1000000 }) (disch := ((try simp only [awL]); omega)) only [↓awU, awV, awF, ofVal, ofVal0, isShift, aggK, forall_const, ↓reduceIte, ↓reduceDIte, ↓purePost, combine, idsA, cellsA, numsOf, srcA, calleeA, refsA, isScalar, scalarD, scalar0, AV.one, putL, unfA, implies_true, IntKind.signed, Nat.reduceAdd, Nat.reduceSub, Nat.reduceMul, Nat.reducePow, Nat.reduceDiv, Nat.reduceMod, Int.reduceAdd, Int.reduceSub, Int.reduceMul, Int.reducePow, Int.reduceNeg, Int.reduceToNat, Int.reduceLT, Int.reduceLE, Nat.reduceEqDiff, sidsB, Nat.reduceBEq, keyKD, isIntK]
abbrev BigN (n : Nat) : D := .agg [.bool false, W (toW n)]
theorem Big_nat {n : Nat} : Big (n : Int) = BigN n := by rw [Big, bigL_nat]
/-- The numerator and the denominator of a sum, not reduced. -/
theorem plus'_spec (x y : Rat) (h1 : FV x) (h2 : FV y) : Ctr Tryz.prog G 58 [.d (Frac x), .d (Frac y)] [] (.d (.tup [Big (x.num * y.den + y.num * x.den), BigN (x.den * y.den)])) [] := by
  obtain ⟨a1, a2⟩ := h1
  obtain ⟨b1, b2⟩ := h2
  have c2 : sz (x.den : Int) ≤ 256 := by simpa [sz] using a2
  have d2 : sz (y.den : Int) ≤ 256 := by simpa [sz] using b2
  have m1 := @sz_mul x.num y.den
  have m2 := @sz_mul y.num x.den
  refine Ctr.pure (M := M0) hmix Tryz.func58 rfl go58 ?_
  simp (config := { maxSteps := 1000000 }) (disch := ((try simp only [awL]); omega)) only [Tryz.f58, ↓awU, awV, awF, ofVal, ofVal0, isShift, aggK, forall_const, ↓reduceIte, ↓reduceDIte, ↓purePost, combine, idsA, cellsA, numsOf, srcA, calleeA, refsA, isScalar, scalarD, scalar0, AV.one, putL, unfA, implies_true, IntKind.signed, Nat.reduceAdd, Nat.reduceSub, Nat.reduceMul, Nat.reducePow, Nat.reduceDiv, Nat.reduceMod, Int.reduceAdd, Int.reduceSub, Int.reduceMul, Int.reducePow, Int.reduceNeg, Int.reduceToNat, Int.reduceLT, Int.reduceLE, Nat.reduceEqDiff, sidsB, Nat.reduceBEq, keyKD, isIntK]
  refine CallC.of (product_spec x.num y.den (by omega) (by omega)) (by rw [Big_neg, Big, bigL_nat]) ?_
  simp (config := { maxSteps := 1000000 }) (disch := ((try simp only [awL]); omega)) only [↓awU, awV, awF, ofVal, ofVal0, isShift, aggK, forall_const, ↓reduceIte, ↓reduceDIte, ↓purePost, combine, idsA, cellsA, numsOf, srcA, calleeA, refsA, isScalar, scalarD, scalar0, AV.one, putL, unfA, implies_true, IntKind.signed, Nat.reduceAdd, Nat.reduceSub, Nat.reduceMul, Nat.reducePow, Nat.reduceDiv, Nat.reduceMod, Int.reduceAdd, Int.reduceSub, Int.reduceMul, Int.reducePow, Int.reduceNeg, Int.reduceToNat, Int.reduceLT, Int.reduceLE, Nat.reduceEqDiff, sidsB, Nat.reduceBEq, keyKD, isIntK]
  refine CallC.of (product_spec y.num x.den (by omega) (by omega)) (by rw [Big_neg, Big, bigL_nat]) ?_
  simp (config := { maxSteps := 1000000 }) (disch := ((try simp only [awL]); omega)) only [↓awU, awV, awF, ofVal, ofVal0, isShift, aggK, forall_const, ↓reduceIte, ↓reduceDIte, ↓purePost, combine, idsA, cellsA, numsOf, srcA, calleeA, refsA, isScalar, scalarD, scalar0, AV.one, putL, unfA, implies_true, IntKind.signed, Nat.reduceAdd, Nat.reduceSub, Nat.reduceMul, Nat.reducePow, Nat.reduceDiv, Nat.reduceMod, Int.reduceAdd, Int.reduceSub, Int.reduceMul, Int.reducePow, Int.reduceNeg, Int.reduceToNat, Int.reduceLT, Int.reduceLE, Nat.reduceEqDiff, sidsB, Nat.reduceBEq, keyKD, isIntK]
  refine CallC.pure (sum_spec _ _ (by omega) (by omega)) ?_
  simp (config := { maxSteps := 1000000 }) (disch := ((try simp only [awL]); omega)) only [↓awU, awV, awF, ofVal, ofVal0, isShift, aggK, forall_const, ↓reduceIte, ↓reduceDIte, ↓purePost, combine, idsA, cellsA, numsOf, srcA, calleeA, refsA, isScalar, scalarD, scalar0, AV.one, putL, unfA, implies_true, IntKind.signed, Nat.reduceAdd, Nat.reduceSub, Nat.reduceMul, Nat.reducePow, Nat.reduceDiv, Nat.reduceMod, Int.reduceAdd, Int.reduceSub, Int.reduceMul, Int.reducePow, Int.reduceNeg, Int.reduceToNat, Int.reduceLT, Int.reduceLE, Nat.reduceEqDiff, sidsB, Nat.reduceBEq, keyKD, isIntK]
  refine CallC.of (product_spec x.den y.den (by omega) (by omega)) (by rw [Big, bigL_nat, Big, bigL_nat]) ?_
  simp (config := { maxSteps := 1000000 }) (disch := ((try simp only [awL]); omega)) only [↓awU, awV, awF, ofVal, ofVal0, isShift, aggK, forall_const, ↓reduceIte, ↓reduceDIte, ↓purePost, combine, idsA, cellsA, numsOf, srcA, calleeA, refsA, isScalar, scalarD, scalar0, AV.one, putL, unfA, implies_true, IntKind.signed, Nat.reduceAdd, Nat.reduceSub, Nat.reduceMul, Nat.reducePow, Nat.reduceDiv, Nat.reduceMod, Int.reduceAdd, Int.reduceSub, Int.reduceMul, Int.reducePow, Int.reduceNeg, Int.reduceToNat, Int.reduceLT, Int.reduceLE, Nat.reduceEqDiff, sidsB, Nat.reduceBEq, keyKD, isIntK]
  rfl
theorem sz_add {a b : Int} : sz (a + b) ≤ max (sz a) (sz b) + 1 := by
  have h1 : (a + b).natAbs ≤ a.natAbs + b.natAbs := by omega
  exact Nat.le_trans (toW_len_mono h1) plus_len
set_option maxHeartbeats 4000000 in
set_option maxRecDepth 100000 in
theorem result_plus (hG : HG G) (x y : Rat) (h1 : FV x) (h2 : FV y) (h3 : FV (x + y)) :
    Ctr Tryz.prog G 59 [.d (.fn (.func 58) [] []), .d (Frac x), .d (Frac y)] [] (.d (.tup [Frac (x + y), .int .i64 0])) [] := by
  have h1' := h1
  have h2' := h2
  have h3' := h3
  obtain ⟨a1, a2⟩ := h1'
  obtain ⟨b1, b2⟩ := h2'
  obtain ⟨e1, e2⟩ := h3'
  refine Ctr.pure (M := M0) hmix Tryz.func59 rfl go59 ?_
  simp (config := { maxSteps := 1000000 }) (disch := ((try simp only [awL]); omega)) only [Tryz.f59, ↓awU, awV, awF, ofVal, ofVal0, isShift, aggK, forall_const, ↓reduceIte, ↓reduceDIte, ↓purePost, combine, idsA, cellsA, numsOf, srcA, calleeA, refsA, isScalar, scalarD, scalar0, AV.one, putL, unfA, implies_true, IntKind.signed, Nat.reduceAdd, Nat.reduceSub, Nat.reduceMul, Nat.reducePow, Nat.reduceDiv, Nat.reduceMod, Int.reduceAdd, Int.reduceSub, Int.reduceMul, Int.reducePow, Int.reduceNeg, Int.reduceToNat, Int.reduceLT, Int.reduceLE, Nat.reduceEqDiff, sidsB, Nat.reduceBEq, keyKD, isIntK]
  refine CallC.pure (valid_spec hG x (by omega) (by omega)) ?_
  rw [decide_eq_true h1]
  simp (config := { maxSteps := 1000000 }) (disch := ((try simp only [awL]); omega)) only [↓awU, awV, awF, ofVal, ofVal0, isShift, aggK, forall_const, ↓reduceIte, ↓reduceDIte, ↓purePost, combine, idsA, cellsA, numsOf, srcA, calleeA, refsA, isScalar, scalarD, scalar0, AV.one, putL, unfA, implies_true, IntKind.signed, Nat.reduceAdd, Nat.reduceSub, Nat.reduceMul, Nat.reducePow, Nat.reduceDiv, Nat.reduceMod, Int.reduceAdd, Int.reduceSub, Int.reduceMul, Int.reducePow, Int.reduceNeg, Int.reduceToNat, Int.reduceLT, Int.reduceLE, Nat.reduceEqDiff, sidsB, Nat.reduceBEq, keyKD, isIntK]
  refine CallC.pure (valid_spec hG y (by omega) (by omega)) ?_
  rw [decide_eq_true h2]
  simp (config := { maxSteps := 1000000 }) (disch := ((try simp only [awL]); omega)) only [↓awU, awV, awF, ofVal, ofVal0, isShift, aggK, forall_const, ↓reduceIte, ↓reduceDIte, ↓purePost, combine, idsA, cellsA, numsOf, srcA, calleeA, refsA, isScalar, scalarD, scalar0, AV.one, putL, unfA, implies_true, IntKind.signed, Nat.reduceAdd, Nat.reduceSub, Nat.reduceMul, Nat.reducePow, Nat.reduceDiv, Nat.reduceMod, Int.reduceAdd, Int.reduceSub, Int.reduceMul, Int.reducePow, Int.reduceNeg, Int.reduceToNat, Int.reduceLT, Int.reduceLE, Nat.reduceEqDiff, sidsB, Nat.reduceBEq, keyKD, isIntK]
  refine CallC.pure (plus'_spec x y h1 h2) ?_
  have hd : x.den * y.den ≠ 0 := Nat.mul_ne_zero x.den_nz y.den_nz
  have hp := sz_pos.2 hd
  have s1 := @sz_mul x.num y.den
  have s2 := @sz_mul y.num x.den
  have s3 := @sz_add (x.num * y.den) (y.num * x.den)
  have s4 := @times_len x.den y.den
  have c2 : sz (x.den : Int) ≤ 256 := by simpa [sz] using a2
  have d2 : sz (y.den : Int) ≤ 256 := by simpa [sz] using b2
  simp (config := { maxSteps := 1000000 }) (disch := ((try simp only [awL]); omega)) only [↓awU, awV, awF, ofVal, ofVal0, isShift, aggK, forall_const, ↓reduceIte, ↓reduceDIte, ↓purePost, combine, idsA, cellsA, numsOf, srcA, calleeA, refsA, isScalar, scalarD, scalar0, AV.one, putL, unfA, implies_true, IntKind.signed, Nat.reduceAdd, Nat.reduceSub, Nat.reduceMul, Nat.reducePow, Nat.reduceDiv, Nat.reduceMod, Int.reduceAdd, Int.reduceSub, Int.reduceMul, Int.reducePow, Int.reduceNeg, Int.reduceToNat, Int.reduceLT, Int.reduceLE, Nat.reduceEqDiff, sidsB, Nat.reduceBEq, keyKD, isIntK]
  simp only [sz] at e1
  have er : Rat.divInt (x.num * y.den + y.num * x.den) ((x.den * y.den : Nat) : Int) = x + y := by rw [Rat.divInt_ofNat, ← Rat.add_def']
  refine CallC.of (reduced_spec (x.num * y.den + y.num * x.den) ((x.den * y.den : Nat) : Int) (by omega) (by omega) (by simp only [sz, Int.natAbs_natCast]; omega)) (by rw [Big_nat]) ?_
  rw [er]
  simp (config := { maxSteps := 1000000 }) (disch := ((try simp only [awL]); omega)) only [↓awU, awV, awF, ofVal, ofVal0, isShift, aggK, forall_const, ↓reduceIte, ↓reduceDIte, ↓purePost, combine, idsA, cellsA, numsOf, srcA, calleeA, refsA, isScalar, scalarD, scalar0, AV.one, putL, unfA, implies_true, IntKind.signed, Nat.reduceAdd, Nat.reduceSub, Nat.reduceMul, Nat.reducePow, Nat.reduceDiv, Nat.reduceMod, Int.reduceAdd, Int.reduceSub, Int.reduceMul, Int.reducePow, Int.reduceNeg, Int.reduceToNat, Int.reduceLT, Int.reduceLE, Nat.reduceEqDiff, sidsB, Nat.reduceBEq, keyKD, isIntK]
theorem add_spec (hG : HG G) (x y : Rat) (h1 : FV x) (h2 : FV y) (h3 : FV (x + y)) :
    Ctr Tryz.prog G 14 [.d (Frac x), .d (Frac y)] [] (.d (.tup [Frac (x + y), .int .i64 0])) [] := by
  refine Ctr.pure (M := M0) hmix Tryz.func14 rfl go14 ?_
  simp (config := { maxSteps := 1000000 }) (disch := ((try simp only [awL]); omega)) only [Tryz.f14, ↓awU, awV, awF, ofVal, ofVal0, isShift, aggK, forall_const, ↓reduceIte, ↓reduceDIte, ↓purePost, combine, idsA, cellsA, numsOf, srcA, calleeA, refsA, isScalar, scalarD, scalar0, AV.one, putL, unfA, implies_true, IntKind.signed, Nat.reduceAdd, Nat.reduceSub, Nat.reduceMul, Nat.reducePow, Nat.reduceDiv, Nat.reduceMod, Int.reduceAdd, Int.reduceSub, Int.reduceMul, Int.reducePow, Int.reduceNeg, Int.reduceToNat, Int.reduceLT, Int.reduceLE, Nat.reduceEqDiff, sidsB, Nat.reduceBEq, keyKD, isIntK]
  refine CallC.pure (result_plus hG x y h1 h2 h3) ?_
  simp (config := { maxSteps := 1000000 }) (disch := ((try simp only [awL]); omega)) only [↓awU, awV, awF, ofVal, ofVal0, isShift, aggK, forall_const, ↓reduceIte, ↓reduceDIte, ↓purePost, combine, idsA, cellsA, numsOf, srcA, calleeA, refsA, isScalar, scalarD, scalar0, AV.one, putL, unfA, implies_true, IntKind.signed, Nat.reduceAdd, Nat.reduceSub, Nat.reduceMul, Nat.reducePow, Nat.reduceDiv, Nat.reduceMod, Int.reduceAdd, Int.reduceSub, Int.reduceMul, Int.reducePow, Int.reduceNeg, Int.reduceToNat, Int.reduceLT, Int.reduceLE, Nat.reduceEqDiff, sidsB, Nat.reduceBEq, keyKD, isIntK]
/-- The order of fractions. -/
def cmpQ (x y : Rat) : Int := if x < y then -1 else if y < x then 1 else 0
set_option maxHeartbeats 4000000 in
set_option maxRecDepth 100000 in
theorem cmpF_spec (hG : HG G) (x y : Rat) (h1 : FV x) (h2 : FV y) : Ctr Tryz.prog G 23 [.d (Frac x), .d (Frac y)] [] (.d (.int .i64 (cmpQ x y))) [] := by
  have h1' := h1
  have h2' := h2
  obtain ⟨a1, a2⟩ := h1'
  obtain ⟨b1, b2⟩ := h2'
  have s1 := @sz_mul x.num y.den
  have s2 := @sz_mul y.num x.den
  have c2 : sz (x.den : Int) ≤ 256 := by simpa [sz] using a2
  have d2 : sz (y.den : Int) ≤ 256 := by simpa [sz] using b2
  have sn : sz (-(y.num * x.den)) = sz (y.num * x.den) := by simp only [sz, Int.natAbs_neg]
  refine Ctr.pure (M := M0) hmix Tryz.func23 rfl go23 ?_
  simp (config := { maxSteps := 1000000 }) (disch := ((try simp only [awL]); omega)) only [Tryz.f23, ↓awU, awV, awF, ofVal, ofVal0, isShift, aggK, forall_const, ↓reduceIte, ↓reduceDIte, ↓purePost, combine, idsA, cellsA, numsOf, srcA, calleeA, refsA, isScalar, scalarD, scalar0, AV.one, putL, unfA, implies_true, IntKind.signed, Nat.reduceAdd, Nat.reduceSub, Nat.reduceMul, Nat.reducePow, Nat.reduceDiv, Nat.reduceMod, Int.reduceAdd, Int.reduceSub, Int.reduceMul, Int.reducePow, Int.reduceNeg, Int.reduceToNat, Int.reduceLT, Int.reduceLE, Nat.reduceEqDiff, sidsB, Nat.reduceBEq, keyKD, isIntK]
  refine CallC.pure (valid_spec hG x (by omega) (by omega)) ?_
  rw [decide_eq_true h1]
  simp (config := { maxSteps := 1000000 }) (disch := ((try simp only [awL]); omega)) only [↓awU, awV, awF, ofVal, ofVal0, isShift, aggK, forall_const, ↓reduceIte, ↓reduceDIte, ↓purePost, combine, idsA, cellsA, numsOf, srcA, calleeA, refsA, isScalar, scalarD, scalar0, AV.one, putL, unfA, implies_true, IntKind.signed, Nat.reduceAdd, Nat.reduceSub, Nat.reduceMul, Nat.reducePow, Nat.reduceDiv, Nat.reduceMod, Int.reduceAdd, Int.reduceSub, Int.reduceMul, Int.reducePow, Int.reduceNeg, Int.reduceToNat, Int.reduceLT, Int.reduceLE, Nat.reduceEqDiff, sidsB, Nat.reduceBEq, keyKD, isIntK]
  refine CallC.pure (valid_spec hG y (by omega) (by omega)) ?_
  rw [decide_eq_true h2]
  simp (config := { maxSteps := 1000000 }) (disch := ((try simp only [awL]); omega)) only [↓awU, awV, awF, ofVal, ofVal0, isShift, aggK, forall_const, ↓reduceIte, ↓reduceDIte, ↓purePost, combine, idsA, cellsA, numsOf, srcA, calleeA, refsA, isScalar, scalarD, scalar0, AV.one, putL, unfA, implies_true, IntKind.signed, Nat.reduceAdd, Nat.reduceSub, Nat.reduceMul, Nat.reducePow, Nat.reduceDiv, Nat.reduceMod, Int.reduceAdd, Int.reduceSub, Int.reduceMul, Int.reducePow, Int.reduceNeg, Int.reduceToNat, Int.reduceLT, Int.reduceLE, Nat.reduceEqDiff, sidsB, Nat.reduceBEq, keyKD, isIntK]
  refine CallC.of (product_spec x.num y.den (by omega) (by omega)) (by rw [Big_neg, Big, bigL_nat]) ?_
  simp (config := { maxSteps := 1000000 }) (disch := ((try simp only [awL]); omega)) only [↓awU, awV, awF, ofVal, ofVal0, isShift, aggK, forall_const, ↓reduceIte, ↓reduceDIte, ↓purePost, combine, idsA, cellsA, numsOf, srcA, calleeA, refsA, isScalar, scalarD, scalar0, AV.one, putL, unfA, implies_true, IntKind.signed, Nat.reduceAdd, Nat.reduceSub, Nat.reduceMul, Nat.reducePow, Nat.reduceDiv, Nat.reduceMod, Int.reduceAdd, Int.reduceSub, Int.reduceMul, Int.reducePow, Int.reduceNeg, Int.reduceToNat, Int.reduceLT, Int.reduceLE, Nat.reduceEqDiff, sidsB, Nat.reduceBEq, keyKD, isIntK]
  refine CallC.of (product_spec y.num x.den (by omega) (by omega)) (by rw [Big_neg, Big, bigL_nat]) ?_
  simp (config := { maxSteps := 1000000 }) (disch := ((try simp only [awL]); omega)) only [↓awU, awV, awF, ofVal, ofVal0, isShift, aggK, forall_const, ↓reduceIte, ↓reduceDIte, ↓purePost, combine, idsA, cellsA, numsOf, srcA, calleeA, refsA, isScalar, scalarD, scalar0, AV.one, putL, unfA, implies_true, IntKind.signed, Nat.reduceAdd, Nat.reduceSub, Nat.reduceMul, Nat.reducePow, Nat.reduceDiv, Nat.reduceMod, Int.reduceAdd, Int.reduceSub, Int.reduceMul, Int.reducePow, Int.reduceNeg, Int.reduceToNat, Int.reduceLT, Int.reduceLE, Nat.reduceEqDiff, sidsB, Nat.reduceBEq, keyKD, isIntK]
  refine CallC.pure (opposite_spec _) ?_
  simp (config := { maxSteps := 1000000 }) (disch := ((try simp only [awL]); omega)) only [↓awU, awV, awF, ofVal, ofVal0, isShift, aggK, forall_const, ↓reduceIte, ↓reduceDIte, ↓purePost, combine, idsA, cellsA, numsOf, srcA, calleeA, refsA, isScalar, scalarD, scalar0, AV.one, putL, unfA, implies_true, IntKind.signed, Nat.reduceAdd, Nat.reduceSub, Nat.reduceMul, Nat.reducePow, Nat.reduceDiv, Nat.reduceMod, Int.reduceAdd, Int.reduceSub, Int.reduceMul, Int.reducePow, Int.reduceNeg, Int.reduceToNat, Int.reduceLT, Int.reduceLE, Nat.reduceEqDiff, sidsB, Nat.reduceBEq, keyKD, isIntK]
  refine CallC.pure (sum_spec _ _ (by omega) (by omega)) ?_
  have hp := @sz_pos (x.num * y.den + -(y.num * x.den)).natAbs
  simp (config := { maxSteps := 1000000 }) (disch := ((try simp only [awL]); omega)) only [↓awU, awV, awF, ofVal, ofVal0, isShift, aggK, forall_const, ↓reduceIte, ↓reduceDIte, ↓purePost, combine, idsA, cellsA, numsOf, srcA, calleeA, refsA, isScalar, scalarD, scalar0, AV.one, putL, unfA, implies_true, IntKind.signed, Nat.reduceAdd, Nat.reduceSub, Nat.reduceMul, Nat.reducePow, Nat.reduceDiv, Nat.reduceMod, Int.reduceAdd, Int.reduceSub, Int.reduceMul, Int.reducePow, Int.reduceNeg, Int.reduceToNat, Int.reduceLT, Int.reduceLE, Nat.reduceEqDiff, sidsB, Nat.reduceBEq, keyKD, isIntK]
  have l1 := Rat.lt_iff x y
  have l2 := Rat.lt_iff y x
  refine ⟨by rfl, fun h => ?_, fun h => ⟨fun h' => ?_, fun h' => ?_⟩⟩
  · rw [cmpQ, if_pos (l1.2 (by omega))]
  · rw [cmpQ, if_neg (fun h2 => by have := l1.1 h2; omega), if_pos (l2.2 (by omega))]
  · rw [cmpQ, if_neg (fun h2 => by have := l1.1 h2; omega), if_neg (fun h2 => by have := l2.1 h2; omega)]
end Go.Proofs.YtkppgdialedoeaaGreatDoor

/-
  What every law of this seat needs: what the listed variable holds, and a world that lays it.
-/
namespace Go.Proofs.YtkppgdialedoeaaGreatDoor
open Go Go.Proofs Go.Abs Go.RowKit Go.ChangeShapes Go.WideShapes Go.ChangeAt
theorem mem_getD' {l : List Int} {i : Nat} {d : Int} (h : i < l.length) : l.getD i d ∈ l := by
  rw [List.getD_eq_getElem?_getD, List.getElem?_eq_getElem h]; exact List.getElem_mem h
theorem own : ownKnob Tryz.prog.godebug = none := by kernel_rfl
theorem laidOut : laidOutB Tryz.prog = true := by kernel_rfl
theorem gOne : Tryz.prog.globalNamed "tablefinder/fraction.one" = some 0 := by kernel_rfl
theorem tOne : (Tryz.prog.globals[0]?).map (·.type) = some 82 := by kernel_rfl
theorem cU8 : Tryz.prog.cellsOf 5 = 1 := by kernel_rfl
theorem cU32 : Tryz.prog.cellsOf 73 = 1 := by kernel_rfl
theorem cInt : Tryz.prog.cellsOf 3 = 1 := by kernel_rfl
/-- What the contracts are told of the variables. -/
def G1 : Globals := fun g => if g = 0 then some [W [1]] else none
theorem hG1 : HG G1 := by simp [HG, G1]
theorem globOK {X : World} (h : Lib.VarReads Tryz.prog X "tablefinder/fraction.one" Rows.laid_tablefinder_fraction_one) : GlobOK G1 X := by
  obtain ⟨g, t, cs, fuel, p, hg, ht, hv, hd⟩ := h
  obtain rfl := Option.some.inj (gOne.symm.trans hg)
  obtain rfl := Option.some.inj (tOne.symm.trans ht)
  rcases open_ints Tryz.underlying82 Tryz.underlying73 cU32 hd with ⟨_, hx⟩ | ⟨a, len, cap, zs, hcs, _, hl, hm, hz, hx, hcell, _⟩
  · simp [Rows.laid_tablefinder_fraction_one] at hx
  · have hz : zs.length = cap := by simpa using hz
    simp only [Rows.laid_tablefinder_fraction_one, Prod.mk.injEq, DataW.slice.injEq] at hx
    obtain ⟨⟨h1, h2⟩, _⟩ := hx
    have e1 : (zs.take len).length = 1 := by
      have := congrArg List.length h1; simpa [lits] using this.symm
    have e2 : (zs.drop len).length = 0 := by
      have := congrArg List.length h2; simpa [lits] using this.symm
    have e3 : len = 1 ∧ cap = 1 := by simp at e1 e2; omega
    obtain ⟨rfl, rfl⟩ := e3
    obtain ⟨z, rfl⟩ : ∃ z, zs = [z] := by
      match zs, hz with
      | [z], _ => exact ⟨z, rfl⟩
    have ez : z = 1 := by
      have := h1; simp [lits] at this; exact this.symm
    subst ez
    have h0 := World.var?_cell hg hv 0
    have e4 : cs[0]? = some (.slice (some a) 1 1) := by
      have : cs = #[.slice (some a) 1 1] := by rw [← Array.toArray_toList (xs := cs), hcs]
      rw [this]; rfl
    rw [e4] at h0
    rcases RD_ints (W := X) (k := .u32) hl (by simp) hcell with hr | hr
    · intro g ds hgd
      simp only [G1] at hgd
      split at hgd
      · rename_i hgg
        subst hgg
        cases hgd
        refine ⟨fun _ => .slice (some a) 1 1, fun i x hx => ?_, fun i x hx => ?_⟩
        · rcases i with _ | i
          · exact h0
          · simp at hx
        · rcases i with _ | i
          · simp at hx; subst hx; exact hr
          · simp at hx
      · cases hgd
    · cases hr
/-- A WORLD FOR THE WITNESS: the settled one, with one block more, to which the variable points, and with the tables of unicode/utf8. -/
noncomputable def laidWorld (os : Os) : World :=
  { World.holding Tryz.prog os ⟨#[.cells #[.int .u32 1] 73], #[], []⟩ with heap := ((((World.holding Tryz.prog os ⟨#[.cells #[.int .u32 1] 73], #[], []⟩).heap.modify 0 fun
      | .cells _ t frozen => .cells #[.slice (some ⟨(World.settled Tryz.prog os).heap.size, 0, none⟩) 1 1] t frozen
      | o => o).modify 5 fun
      | .cells _ t frozen => .cells #[.int .u8 128, .int .u8 191, .int .u8 160, .int .u8 191, .int .u8 128, .int .u8 159, .int .u8 144, .int .u8 191, .int .u8 128, .int .u8 143, .int .u8 0, .int .u8 0, .int .u8 0, .int .u8 0, .int .u8 0, .int .u8 0, .int .u8 0, .int .u8 0, .int .u8 0, .int .u8 0, .int .u8 0, .int .u8 0, .int .u8 0, .int .u8 0, .int .u8 0, .int .u8 0, .int .u8 0, .int .u8 0, .int .u8 0, .int .u8 0, .int .u8 0, .int .u8 0] t frozen
      | o => o).modify 4 fun
      | .cells _ t frozen => .cells (Go.Pinned.utf8FirstZ.map fun (n : Nat) => Value.int .u8 (n : Int)).toArray t frozen
      | o => o) }
set_option maxRecDepth 100000 in
theorem laid_met (os : Os) (args : Array Value) : laidMet Tryz.prog [("unicode/utf8.acceptRanges", Rows.laid_unicode_utf8_acceptRanges), ("tablefinder/fraction.one", Rows.laid_tablefinder_fraction_one), ("unicode/utf8.first", Rows.laid_unicode_utf8_first)] ((laidWorld os).forCall (fun _ _ => 0) ⟨#[], args, []⟩).memory :=
  laidMet_of_run' 8 (by kernel_rfl) (by kernel_rfl)
theorem list_u8 {l : List Int} (h : ∀ n ∈ l, (Lit.int .u8 n).wf = true) : ∀ i, 0 ≤ l.getD i 0 ∧ l.getD i 0 ≤ 255 := by
  intro i
  rcases Nat.lt_or_ge i l.length with hi | hi
  · have := h _ (mem_getD' (d := 0) hi)
    simp [Lit.wf, IntKind.min, IntKind.max, IntKind.bits, IntKind.signed] at this
    rw [List.getD_eq_getElem?_getD]
    omega
  · rw [List.getD_eq_getElem?_getD, List.getElem?_eq_none hi]; simp
end Go.Proofs.YtkppgdialedoeaaGreatDoor
