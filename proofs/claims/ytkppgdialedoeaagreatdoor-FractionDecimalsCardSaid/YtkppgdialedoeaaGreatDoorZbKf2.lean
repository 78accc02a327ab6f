/-
  Contracts of the functions, one after another.
-/
import Derived.Test.YtkppgdialedoeaaGreatDoorZbKf1
set_option linter.all false
namespace Go.Proofs.YtkppgdialedoeaaGreatDoor
open Go Go.Proofs Go.Abs
variable {G : Globals}
/-! Decimals. -/
def decNeg (s : List UInt8) : Bool := hasP s [45]
def decBody (s : List UInt8) : List UInt8 := if hasP s [45] then s.drop 1 else if hasP s [43] then s.drop 1 else s
def decF (s : List UInt8) : List UInt8 := cutL 46 (decBody s)
def decB (s : List UInt8) : List UInt8 := cutR 46 (decBody s)
def decOk (s : List UInt8) : Bool := digB (decF s) 15 && (!decide (46 ∈ decBody s) || digB (decB s) 9)
def decNum (l : List UInt8) : Nat := l.foldl (fun v b => v * 10 + (b.toNat - 48)) 0
def decVal (s : List UInt8) : Rat := Rat.divInt (if decNeg s then -(decNum (decF s ++ decB s) : Int) else (decNum (decF s ++ decB s) : Int)) ((10 ^ (decB s).length : Nat) : Int)
theorem decNum_push {l : List UInt8} {i : Nat} (h : i < l.length) : decNum (l.take i) * 10 + ((l.getD i 0).toNat - 48) = decNum (l.take (i + 1)) := by
  rw [take_snoc h, decNum, decNum, List.foldl_append]; rfl
theorem cutL_len {c : UInt8} : ∀ s : List UInt8, (cutL c s).length ≤ s.length
  | [] => Nat.le_refl _
  | b :: l => by
    have := cutL_len (c := c) l
    rw [cutL]; split <;> simp; exact this
theorem cutR_none {c : UInt8} {s : List UInt8} (h : c ∉ s) : cutR c s = [] := ((cut_index c s).2 h).2.2
theorem cutR_len {c : UInt8} : ∀ s : List UInt8, (cutR c s).length ≤ s.length
  | [] => Nat.le_refl _
  | b :: l => by
    have := cutR_len (c := c) l
    rw [cutR]; split <;> simp; omega
theorem dig_range {b : UInt8} (h : dig10.contains b = true) : 48 ≤ b.toNat ∧ b.toNat ≤ 57 := by
  have : b ∈ dig10 := by simpa using h
  simp only [dig10, List.mem_cons, List.not_mem_nil, or_false] at this
  rcases this with rfl | rfl | rfl | rfl | rfl | rfl | rfl | rfl | rfl | rfl <;> decide
theorem decNum_lt {l : List UInt8} (h : ∀ b ∈ l, dig10.contains b = true) : decNum l < 10 ^ l.length := by
  have key : ∀ (l : List UInt8) (v : Nat), (∀ b ∈ l, dig10.contains b = true) → l.foldl (fun v b => v * 10 + (b.toNat - 48)) v < (v + 1) * 10 ^ l.length := by
    intro l
    induction l with
    | nil => intro v _; simp
    | cons b l ih =>
      intro v hl
      have hb := dig_range (hl b (List.mem_cons_self ..))
      have := ih (v * 10 + (b.toNat - 48)) (fun c hc => hl c (List.mem_cons_of_mem _ hc))
      rw [List.foldl_cons, List.length_cons, Nat.pow_succ]
      refine Nat.lt_of_lt_of_le this ?_
      rw [Nat.mul_comm (10 ^ l.length) 10, ← Nat.mul_assoc]
      exact Nat.mul_le_mul_right _ (by omega)
  have := key l 0 h
  rw [Nat.zero_add, Nat.one_mul] at this
  exact this
theorem cells_nums {l : List UInt8} : (l.map fun b => D.int .u8 (b.toNat : Int)) = ints .u8 (nums l) := by simp [ints, nums]
theorem decOk_facts {s : List UInt8} (h : decOk s = true) : (∀ b ∈ decF s ++ decB s, dig10.contains b = true) ∧ (decF s ++ decB s).length ≤ 24 ∧ (decB s).length ≤ 9 := by
  unfold decOk at h
  rw [Bool.and_eq_true, Bool.or_eq_true] at h
  obtain ⟨h1, h2⟩ := h
  unfold digB at h1
  rw [Bool.and_eq_true, decide_eq_true_eq] at h1
  have hb : (decB s).length ≤ 9 ∧ ∀ b ∈ decB s, dig10.contains b = true := by
    rcases h2 with h2 | h2
    · have e : decB s = [] := cutR_none (by simpa using h2)
      rw [e]; exact ⟨by simp, fun b hb => by cases hb⟩
    · unfold digB at h2
      rw [Bool.and_eq_true, decide_eq_true_eq] at h2
      exact ⟨by omega, fun b hb => List.all_eq_true.1 h2.2 b hb⟩
  refine ⟨fun b hb' => ?_, by rw [List.length_append]; omega, hb.1⟩
  rcases List.mem_append.1 hb' with h | h
  · exact List.all_eq_true.1 h1.2 b h
  · exact hb.2 b h
theorem toW_10 : toW 10 = [10] := by rw [toW_pos (by decide), show 10 / B = 0 from rfl, toW_zero]; rfl
theorem sz_small {n k : Nat} (h : n < 10 ^ k) : (toW n).length ≤ k := toW_length_le (Nat.lt_of_lt_of_le h (Nat.pow_le_pow_left (by decide) _))
set_option maxHeartbeats 4000000 in
set_option maxRecDepth 100000 in
theorem decimalF_spec (hG : HG G) (s : List UInt8) (hs : s.length ≤ 1000) : Ctr Tryz.prog G 53 [.d (S s)] [] (.d (.tup [if decOk s = true then Frac (decVal s) else Zf, .bool (decOk s)])) [] := by
  have hG' := hG
  unfold HG at hG
  refine Ctr.pure (M := M0) hmix Tryz.func53 rfl go53 ?_
  simp (config := { maxSteps := 1000000 }) (disch := ((try simp only [awL]); omega)) only [nextC_more, nextC_over, bs_size, bs_extract, bs_toList, bs_append, byteAt_bs, bs_cells, nums_length, nums_getD, Tryz.f53, ↓awU, awV, awF, ofVal, ofVal0, isShift, aggK, forall_const, ↓reduceIte, ↓reduceDIte, ↓purePost, combine, idsA, cellsA, numsOf, srcA, calleeA, refsA, isScalar, scalarD, scalar0, AV.one, putL, unfA, implies_true, IntKind.signed, Nat.reduceAdd, Nat.reduceSub, Nat.reduceMul, Nat.reducePow, Nat.reduceDiv, Nat.reduceMod, Int.reduceAdd, Int.reduceSub, Int.reduceMul, Int.reducePow, Int.reduceNeg, Int.reduceToNat, Int.reduceLT, Int.reduceLE, Nat.reduceEqDiff, sidsB, Nat.reduceBEq, keyKD, isIntK]
  refine CallC.pure (cutPrefix_spec s [45]) ?_
  have hbody : (decBody s).length ≤ s.length := by
    unfold decBody
    split
    · simp
    · split <;> simp
  have l1 := cutL_len (c := 46) (decBody s)
  have l2 := cutR_len (c := 46) (decBody s)
  have hno : decide (46 ∈ decBody s) = false → decB s = [] := fun h => cutR_none (of_decide_eq_false h)
  have hok : decOk s = (digB (decF s) 15 && (!decide (46 ∈ decBody s) || digB (decB s) 9)) := rfl
  have hdv : decVal s = Rat.divInt (if decNeg s then -(decNum (decF s ++ decB s) : Int) else (decNum (decF s ++ decB s) : Int)) ((10 ^ (decB s).length : Nat) : Int) := rfl
  have f1 : cutL 46 (decBody s) = decF s := rfl
  have f2 : cutR 46 (decBody s) = decB s := rfl
  rw [f1] at l1
  rw [f2] at l2
  cases h45 : hasP s [45]
  · simp (config := { maxSteps := 1000000 }) (disch := ((try simp only [awL]); omega)) only [nextC_more, nextC_over, bs_size, bs_extract, bs_toList, bs_append, byteAt_bs, bs_cells, nums_length, nums_getD, ↓awU, awV, awF, ofVal, ofVal0, isShift, aggK, forall_const, ↓reduceIte, ↓reduceDIte, ↓purePost, combine, idsA, cellsA, numsOf, srcA, calleeA, refsA, isScalar, scalarD, scalar0, AV.one, putL, unfA, implies_true, IntKind.signed, Nat.reduceAdd, Nat.reduceSub, Nat.reduceMul, Nat.reducePow, Nat.reduceDiv, Nat.reduceMod, Int.reduceAdd, Int.reduceSub, Int.reduceMul, Int.reducePow, Int.reduceNeg, Int.reduceToNat, Int.reduceLT, Int.reduceLE, Nat.reduceEqDiff, sidsB, Nat.reduceBEq, keyKD, isIntK]
    refine CallC.pure (trimPrefix_spec s [43]) ?_
    have eb : (if hasP s [43] then s.drop ([43] : List UInt8).length else s) = decBody s := by rw [decBody, h45]; rfl
    have en : decNeg s = false := h45
    rw [eb]
    rw [en] at hdv
    simp (config := { maxSteps := 1000000 }) (disch := ((try simp only [awL]); omega)) only [nextC_more, nextC_over, bs_size, bs_extract, bs_toList, bs_append, byteAt_bs, bs_cells, nums_length, nums_getD, ↓awU, awV, awF, ofVal, ofVal0, isShift, aggK, forall_const, ↓reduceIte, ↓reduceDIte, ↓purePost, combine, idsA, cellsA, numsOf, srcA, calleeA, refsA, isScalar, scalarD, scalar0, AV.one, putL, unfA, implies_true, IntKind.signed, Nat.reduceAdd, Nat.reduceSub, Nat.reduceMul, Nat.reducePow, Nat.reduceDiv, Nat.reduceMod, Int.reduceAdd, Int.reduceSub, Int.reduceMul, Int.reducePow, Int.reduceNeg, Int.reduceToNat, Int.reduceLT, Int.reduceLE, Nat.reduceEqDiff, sidsB, Nat.reduceBEq, keyKD, isIntK]
    refine CallC.pure (cut_spec (decBody s) 46 (by omega)) ?_
    rw [f1, f2]
    simp (config := { maxSteps := 1000000 }) (disch := ((try simp only [awL]); omega)) only [nextC_more, nextC_over, bs_size, bs_extract, bs_toList, bs_append, byteAt_bs, bs_cells, nums_length, nums_getD, ↓awU, awV, awF, ofVal, ofVal0, isShift, aggK, forall_const, ↓reduceIte, ↓reduceDIte, ↓purePost, combine, idsA, cellsA, numsOf, srcA, calleeA, refsA, isScalar, scalarD, scalar0, AV.one, putL, unfA, implies_true, IntKind.signed, Nat.reduceAdd, Nat.reduceSub, Nat.reduceMul, Nat.reducePow, Nat.reduceDiv, Nat.reduceMod, Int.reduceAdd, Int.reduceSub, Int.reduceMul, Int.reducePow, Int.reduceNeg, Int.reduceToNat, Int.reduceLT, Int.reduceLE, Nat.reduceEqDiff, sidsB, Nat.reduceBEq, keyKD, isIntK]
    refine CallC.pure (digits_spec (decF s) 15 (by omega)) ?_
    cases d1 : digB (decF s) 15
    · rw [hok, d1, Bool.false_and]
      simp (config := { maxSteps := 1000000 }) (disch := ((try simp only [awL]); omega)) only [nextC_more, nextC_over, bs_size, bs_extract, bs_toList, bs_append, byteAt_bs, bs_cells, nums_length, nums_getD, ↓awU, awV, awF, ofVal, ofVal0, isShift, aggK, forall_const, ↓reduceIte, ↓reduceDIte, ↓purePost, combine, idsA, cellsA, numsOf, srcA, calleeA, refsA, isScalar, scalarD, scalar0, AV.one, putL, unfA, implies_true, IntKind.signed, Nat.reduceAdd, Nat.reduceSub, Nat.reduceMul, Nat.reducePow, Nat.reduceDiv, Nat.reduceMod, Int.reduceAdd, Int.reduceSub, Int.reduceMul, Int.reducePow, Int.reduceNeg, Int.reduceToNat, Int.reduceLT, Int.reduceLE, Nat.reduceEqDiff, sidsB, Nat.reduceBEq, keyKD, isIntK]
      first | done | rfl
    · rw [d1, Bool.true_and] at hok
      cases dp : decide (46 ∈ decBody s)
      · rw [dp, Bool.not_false, Bool.true_or] at hok
        obtain ⟨hall, hlen, hlb⟩ := decOk_facts hok
        have hsm : ∀ i, i ≤ (decF s ++ decB s).length → (toW (decNum ((decF s ++ decB s).take i))).length ≤ 30 := fun i hi => by
          have h := decNum_lt (l := (decF s ++ decB s).take i) fun b hb => hall b (List.mem_of_mem_take hb)
          exact sz_small (Nat.lt_of_lt_of_le h (Nat.pow_le_pow_right (by decide) (by rw [List.length_take]; omega)))
        have hlt : ∀ i, i ≤ (decF s ++ decB s).length → decNum ((decF s ++ decB s).take i) * 10 < 10 ^ 30 := fun i hi => by
          have h := decNum_lt (l := (decF s ++ decB s).take i) fun b hb => hall b (List.mem_of_mem_take hb)
          have h2 : 10 ^ ((decF s ++ decB s).take i).length ≤ 10 ^ 29 := Nat.pow_le_pow_right (by decide) (by rw [List.length_take]; omega)
          have h3 : (10 : Nat) ^ 30 = 10 ^ 29 * 10 := rfl
          omega
        rw [if_pos hok, hok]
        generalize hL : decF s ++ decB s = L at *
        simp (config := { maxSteps := 1000000 }) (disch := ((try simp only [awL]); omega)) only [hG, nextC_more, nextC_over, bs_size, bs_extract, bs_toList, bs_append, byteAt_bs, bs_cells, nums_length, nums_getD, ↓awU, awV, awF, ofVal, ofVal0, isShift, aggK, forall_const, ↓reduceIte, ↓reduceDIte, ↓purePost, combine, idsA, cellsA, numsOf, srcA, calleeA, refsA, isScalar, scalarD, scalar0, AV.one, putL, unfA, implies_true, IntKind.signed, Nat.reduceAdd, Nat.reduceSub, Nat.reduceMul, Nat.reducePow, Nat.reduceDiv, Nat.reduceMod, Int.reduceAdd, Int.reduceSub, Int.reduceMul, Int.reducePow, Int.reduceNeg, Int.reduceToNat, Int.reduceLT, Int.reduceLE, Nat.reduceEqDiff, sidsB, Nat.reduceBEq, keyKD, isIntK]
        refine CallC.of (clone_spec [1] (by decide)) (by rfl) ?_
        simp (config := { maxSteps := 1000000 }) (disch := ((try simp only [awL]); omega)) only [hG, nextC_more, nextC_over, bs_size, bs_extract, bs_toList, bs_append, byteAt_bs, bs_cells, nums_length, nums_getD, hL, cells_nums, ↓awU, awV, awF, ofVal, ofVal0, isShift, aggK, forall_const, ↓reduceIte, ↓reduceDIte, ↓purePost, combine, idsA, cellsA, numsOf, srcA, calleeA, refsA, isScalar, scalarD, scalar0, AV.one, putL, unfA, implies_true, IntKind.signed, Nat.reduceAdd, Nat.reduceSub, Nat.reduceMul, Nat.reducePow, Nat.reduceDiv, Nat.reduceMod, Int.reduceAdd, Int.reduceSub, Int.reduceMul, Int.reducePow, Int.reduceNeg, Int.reduceToNat, Int.reduceLT, Int.reduceLE, Nat.reduceEqDiff, sidsB, Nat.reduceBEq, keyKD, isIntK]
        refine LoopC.fr 422212465069220 (α := Nat) (fun i => L.length - i) (fun i => [(9, .d (W (toW (decNum (L.take i))))), (49, .d (.int .i64 i))])
          (fun _ => [.box [.d (.bool false), .d (.sl 0 true []), .d (.bool false), .d (.sl 0 true [])], .row true (nats .u32 [10]), .row false (ints .u8 (nums L))]) (fun i => i ≤ L.length) 0 (Nat.zero_le _) ?_ ?_
        · exact ⟨[some 0, some 1, some 2], rfl, by simp, by simp [setsA, keepA, SWeak, AWeak, decNum, toW_zero, nats], by simp [HWeak, BWeak, SWeak, AWeak, nats]⟩
        · intro i hi
          have lt := hsm i hi
          have nl := @nums_length L
          simp only [keepA_z8, keepA_z, keepA_cons, keepA_nil, setsA_nil, setsA_cons, List.set_cons_zero, List.set_cons_succ, set_8, Nat.reduceMod, Nat.reduceDiv, Nat.zero_mod, Nat.zero_ne_one, if_true, if_false, reduceIte]
          rcases Nat.lt_or_ge i L.length with h1 | h1
          · have hb := dig_range (hall _ (mem_getDU (d := 0) h1))
            have hp := decNum_push h1
            have ls := sz_small (n := (L.getD i 0).toNat - 48) (k := 2) (by omega)
            have e48 : ((L.getD i 0).toNat : Int) - 48 = (((L.getD i 0).toNat - 48 : Nat) : Int) := by omega
            have lm : (toW (decNum (L.take i) * 10)).length ≤ 40 := sz_small (Nat.lt_of_lt_of_le (hlt i hi) (by decide))
            simp (config := { maxSteps := 1000000 }) (disch := ((try simp only [awL]); omega)) only [hG, nextC_more, nextC_over, bs_size, bs_extract, bs_toList, bs_append, byteAt_bs, bs_cells, nums_length, nums_getD, nl, ↓awU, awV, awF, ofVal, ofVal0, isShift, aggK, forall_const, ↓reduceIte, ↓reduceDIte, ↓purePost, combine, idsA, cellsA, numsOf, srcA, calleeA, refsA, isScalar, scalarD, scalar0, AV.one, putL, unfA, implies_true, IntKind.signed, Nat.reduceAdd, Nat.reduceSub, Nat.reduceMul, Nat.reducePow, Nat.reduceDiv, Nat.reduceMod, Int.reduceAdd, Int.reduceSub, Int.reduceMul, Int.reducePow, Int.reduceNeg, Int.reduceToNat, Int.reduceLT, Int.reduceLE, Nat.reduceEqDiff, sidsB, Nat.reduceBEq, keyKD, isIntK]
            refine CallC.frozenE (times_spec (decNum (L.take i)) 10 (by omega) (by rw [toW_10]; decide)) (by rw [toW_10]; rfl) ?_
            simp (config := { maxSteps := 1000000 }) (disch := ((try simp only [awL]); omega)) only [hG, nextC_more, nextC_over, bs_size, bs_extract, bs_toList, bs_append, byteAt_bs, bs_cells, nums_length, nums_getD, nl, e48, ↓awU, awV, awF, ofVal, ofVal0, isShift, aggK, forall_const, ↓reduceIte, ↓reduceDIte, ↓purePost, combine, idsA, cellsA, numsOf, srcA, calleeA, refsA, isScalar, scalarD, scalar0, AV.one, putL, unfA, implies_true, IntKind.signed, Nat.reduceAdd, Nat.reduceSub, Nat.reduceMul, Nat.reducePow, Nat.reduceDiv, Nat.reduceMod, Int.reduceAdd, Int.reduceSub, Int.reduceMul, Int.reducePow, Int.reduceNeg, Int.reduceToNat, Int.reduceLT, Int.reduceLE, Nat.reduceEqDiff, sidsB, Nat.reduceBEq, keyKD, isIntK]
            refine CallC.pure (natural_spec ((L.getD i 0).toNat - 48) (by omega)) ?_
            simp (config := { maxSteps := 1000000 }) (disch := ((try simp only [awL]); omega)) only [hG, nextC_more, nextC_over, bs_size, bs_extract, bs_toList, bs_append, byteAt_bs, bs_cells, nums_length, nums_getD, nl, ↓awU, awV, awF, ofVal, ofVal0, isShift, aggK, forall_const, ↓reduceIte, ↓reduceDIte, ↓purePost, combine, idsA, cellsA, numsOf, srcA, calleeA, refsA, isScalar, scalarD, scalar0, AV.one, putL, unfA, implies_true, IntKind.signed, Nat.reduceAdd, Nat.reduceSub, Nat.reduceMul, Nat.reducePow, Nat.reduceDiv, Nat.reduceMod, Int.reduceAdd, Int.reduceSub, Int.reduceMul, Int.reducePow, Int.reduceNeg, Int.reduceToNat, Int.reduceLT, Int.reduceLE, Nat.reduceEqDiff, sidsB, Nat.reduceBEq, keyKD, isIntK]
            refine CallC.pure (plus_spec (decNum (L.take i) * 10) ((L.getD i 0).toNat - 48) (by omega) (by omega)) ?_
            rw [hp]
            simp (config := { maxSteps := 1000000 }) (disch := ((try simp only [awL]); omega)) only [hG, nextC_more, nextC_over, bs_size, bs_extract, bs_toList, bs_append, byteAt_bs, bs_cells, nums_length, nums_getD, nl, ↓awU, awV, awF, ofVal, ofVal0, isShift, aggK, forall_const, ↓reduceIte, ↓reduceDIte, ↓purePost, combine, idsA, cellsA, numsOf, srcA, calleeA, refsA, isScalar, scalarD, scalar0, AV.one, putL, unfA, implies_true, IntKind.signed, Nat.reduceAdd, Nat.reduceSub, Nat.reduceMul, Nat.reducePow, Nat.reduceDiv, Nat.reduceMod, Int.reduceAdd, Int.reduceSub, Int.reduceMul, Int.reducePow, Int.reduceNeg, Int.reduceToNat, Int.reduceLT, Int.reduceLE, Nat.reduceEqDiff, sidsB, Nat.reduceBEq, keyKD, isIntK]
            exact ⟨i + 1, h1, by simp only; omega, ⟨[some 0, some 1, some 2], rfl, by simp, by simp [setsA, keepA, SWeak, AWeak], by simp [HWeak, BWeak, SWeak, AWeak]⟩⟩
          · obtain rfl : i = L.length := by omega
            rw [List.take_length] at *
            simp (config := { maxSteps := 1000000 }) (disch := ((try simp only [awL]); omega)) only [hG, nextC_more, nextC_over, bs_size, bs_extract, bs_toList, bs_append, byteAt_bs, bs_cells, nums_length, nums_getD, nl, ↓awU, awV, awF, ofVal, ofVal0, isShift, aggK, forall_const, ↓reduceIte, ↓reduceDIte, ↓purePost, combine, idsA, cellsA, numsOf, srcA, calleeA, refsA, isScalar, scalarD, scalar0, AV.one, putL, unfA, implies_true, IntKind.signed, Nat.reduceAdd, Nat.reduceSub, Nat.reduceMul, Nat.reducePow, Nat.reduceDiv, Nat.reduceMod, Int.reduceAdd, Int.reduceSub, Int.reduceMul, Int.reducePow, Int.reduceNeg, Int.reduceToNat, Int.reduceLT, Int.reduceLE, Nat.reduceEqDiff, sidsB, Nat.reduceBEq, keyKD, isIntK]
            refine LoopC.fr 9223372036854777380 (α := Nat) (fun j => (decB s).length - j) (fun j => [(11, .d (W (toW (10 ^ j)))), (64, .d (.int .i64 j))])
              (fun _ => [.box [.d (.bool false), .d (.sl 0 true []), .d (.bool false), .d (.sl 0 true [])], .row true (nats .u32 [10]), .row false (ints .u8 (nums L))]) (fun j => j ≤ (decB s).length) 0 (Nat.zero_le _) ?_ ?_
            · exact ⟨[some 0, some 1, some 2], rfl, by simp, by simp [setsA, keepA, SWeak, AWeak, toW_one], by simp [HWeak, BWeak, SWeak, AWeak, nats]⟩
            · intro j hj
              have lj : (toW (10 ^ j)).length ≤ 10 := sz_small (Nat.pow_lt_pow_right (by decide) (by omega))
              simp only [keepA_z8, keepA_z, keepA_cons, keepA_nil, setsA_nil, setsA_cons, List.set_cons_zero, List.set_cons_succ, set_8, Nat.reduceMod, Nat.reduceDiv, Nat.zero_mod, Nat.zero_ne_one, if_true, if_false, reduceIte]
              rcases Nat.lt_or_ge j (decB s).length with h2 | h2
              · simp (config := { maxSteps := 1000000 }) (disch := ((try simp only [awL]); omega)) only [hG, nextC_more, nextC_over, bs_size, bs_extract, bs_toList, bs_append, byteAt_bs, bs_cells, nums_length, nums_getD, ↓awU, awV, awF, ofVal, ofVal0, isShift, aggK, forall_const, ↓reduceIte, ↓reduceDIte, ↓purePost, combine, idsA, cellsA, numsOf, srcA, calleeA, refsA, isScalar, scalarD, scalar0, AV.one, putL, unfA, implies_true, IntKind.signed, Nat.reduceAdd, Nat.reduceSub, Nat.reduceMul, Nat.reducePow, Nat.reduceDiv, Nat.reduceMod, Int.reduceAdd, Int.reduceSub, Int.reduceMul, Int.reducePow, Int.reduceNeg, Int.reduceToNat, Int.reduceLT, Int.reduceLE, Nat.reduceEqDiff, sidsB, Nat.reduceBEq, keyKD, isIntK]
                refine CallC.frozenE (times_spec (10 ^ j) 10 (by omega) (by rw [toW_10]; decide)) (by rw [toW_10]; rfl) ?_
                rw [← Nat.pow_succ]
                simp (config := { maxSteps := 1000000 }) (disch := ((try simp only [awL]); omega)) only [hG, nextC_more, nextC_over, bs_size, bs_extract, bs_toList, bs_append, byteAt_bs, bs_cells, nums_length, nums_getD, ↓awU, awV, awF, ofVal, ofVal0, isShift, aggK, forall_const, ↓reduceIte, ↓reduceDIte, ↓purePost, combine, idsA, cellsA, numsOf, srcA, calleeA, refsA, isScalar, scalarD, scalar0, AV.one, putL, unfA, implies_true, IntKind.signed, Nat.reduceAdd, Nat.reduceSub, Nat.reduceMul, Nat.reducePow, Nat.reduceDiv, Nat.reduceMod, Int.reduceAdd, Int.reduceSub, Int.reduceMul, Int.reducePow, Int.reduceNeg, Int.reduceToNat, Int.reduceLT, Int.reduceLE, Nat.reduceEqDiff, sidsB, Nat.reduceBEq, keyKD, isIntK]
                exact ⟨j + 1, h2, by simp only; omega, ⟨[some 0, some 1, some 2], rfl, by simp, by simp [setsA, keepA, SWeak, AWeak], by simp [HWeak, BWeak, SWeak, AWeak]⟩⟩
              · obtain rfl : j = (decB s).length := by omega
                have hd0 : ((10 ^ (decB s).length : Nat) : Int) ≠ 0 := by
                  have : 0 < 10 ^ (decB s).length := Nat.pow_pos (by decide)
                  omega
                simp (config := { maxSteps := 1000000 }) (disch := ((try simp only [awL]); omega)) only [hG, nextC_more, nextC_over, bs_size, bs_extract, bs_toList, bs_append, byteAt_bs, bs_cells, nums_length, nums_getD, ↓awU, awV, awF, ofVal, ofVal0, isShift, aggK, forall_const, ↓reduceIte, ↓reduceDIte, ↓purePost, combine, idsA, cellsA, numsOf, srcA, calleeA, refsA, isScalar, scalarD, scalar0, AV.one, putL, unfA, implies_true, IntKind.signed, Nat.reduceAdd, Nat.reduceSub, Nat.reduceMul, Nat.reducePow, Nat.reduceDiv, Nat.reduceMod, Int.reduceAdd, Int.reduceSub, Int.reduceMul, Int.reducePow, Int.reduceNeg, Int.reduceToNat, Int.reduceLT, Int.reduceLE, Nat.reduceEqDiff, sidsB, Nat.reduceBEq, keyKD, isIntK]
                refine CallC.pure (signed_spec false (decNum L) (by omega)) ?_
                simp (config := { maxSteps := 1000000 }) (disch := ((try simp only [awL]); omega)) only [hG, nextC_more, nextC_over, bs_size, bs_extract, bs_toList, bs_append, byteAt_bs, bs_cells, nums_length, nums_getD, ↓awU, awV, awF, ofVal, ofVal0, isShift, aggK, forall_const, ↓reduceIte, ↓reduceDIte, ↓purePost, combine, idsA, cellsA, numsOf, srcA, calleeA, refsA, isScalar, scalarD, scalar0, AV.one, putL, unfA, implies_true, IntKind.signed, Nat.reduceAdd, Nat.reduceSub, Nat.reduceMul, Nat.reducePow, Nat.reduceDiv, Nat.reduceMod, Int.reduceAdd, Int.reduceSub, Int.reduceMul, Int.reducePow, Int.reduceNeg, Int.reduceToNat, Int.reduceLT, Int.reduceLE, Nat.reduceEqDiff, sidsB, Nat.reduceBEq, keyKD, isIntK]
                refine CallC.pure (signed_spec false (10 ^ (decB s).length) (by omega)) ?_
                simp (config := { maxSteps := 1000000 }) (disch := ((try simp only [awL]); omega)) only [hG, nextC_more, nextC_over, bs_size, bs_extract, bs_toList, bs_append, byteAt_bs, bs_cells, nums_length, nums_getD, ↓awU, awV, awF, ofVal, ofVal0, isShift, aggK, forall_const, ↓reduceIte, ↓reduceDIte, ↓purePost, combine, idsA, cellsA, numsOf, srcA, calleeA, refsA, isScalar, scalarD, scalar0, AV.one, putL, unfA, implies_true, IntKind.signed, Nat.reduceAdd, Nat.reduceSub, Nat.reduceMul, Nat.reducePow, Nat.reduceDiv, Nat.reduceMod, Int.reduceAdd, Int.reduceSub, Int.reduceMul, Int.reducePow, Int.reduceNeg, Int.reduceToNat, Int.reduceLT, Int.reduceLE, Nat.reduceEqDiff, sidsB, Nat.reduceBEq, keyKD, isIntK]
                refine CallC.of (reduced_spec (if false = true then -(decNum L : Int) else (decNum L : Int)) ((10 ^ (decB s).length : Nat) : Int) hd0 (by simp only [sz]; split <;> simp <;> omega) (by simp only [sz, Int.natAbs_natCast]; omega)) (by rfl) ?_
                rw [← hdv]
                simp (config := { maxSteps := 1000000 }) (disch := ((try simp only [awL]); omega)) only [hG, nextC_more, nextC_over, bs_size, bs_extract, bs_toList, bs_append, byteAt_bs, bs_cells, nums_length, nums_getD, ↓awU, awV, awF, ofVal, ofVal0, isShift, aggK, forall_const, ↓reduceIte, ↓reduceDIte, ↓purePost, combine, idsA, cellsA, numsOf, srcA, calleeA, refsA, isScalar, scalarD, scalar0, AV.one, putL, unfA, implies_true, IntKind.signed, Nat.reduceAdd, Nat.reduceSub, Nat.reduceMul, Nat.reducePow, Nat.reduceDiv, Nat.reduceMod, Int.reduceAdd, Int.reduceSub, Int.reduceMul, Int.reducePow, Int.reduceNeg, Int.reduceToNat, Int.reduceLT, Int.reduceLE, Nat.reduceEqDiff, sidsB, Nat.reduceBEq, keyKD, isIntK]
                first | done | rfl
      · rw [dp, Bool.not_true, Bool.false_or] at hok
        simp (config := { maxSteps := 1000000 }) (disch := ((try simp only [awL]); omega)) only [nextC_more, nextC_over, bs_size, bs_extract, bs_toList, bs_append, byteAt_bs, bs_cells, nums_length, nums_getD, ↓awU, awV, awF, ofVal, ofVal0, isShift, aggK, forall_const, ↓reduceIte, ↓reduceDIte, ↓purePost, combine, idsA, cellsA, numsOf, srcA, calleeA, refsA, isScalar, scalarD, scalar0, AV.one, putL, unfA, implies_true, IntKind.signed, Nat.reduceAdd, Nat.reduceSub, Nat.reduceMul, Nat.reducePow, Nat.reduceDiv, Nat.reduceMod, Int.reduceAdd, Int.reduceSub, Int.reduceMul, Int.reducePow, Int.reduceNeg, Int.reduceToNat, Int.reduceLT, Int.reduceLE, Nat.reduceEqDiff, sidsB, Nat.reduceBEq, keyKD, isIntK]
        refine CallC.pure (digits_spec (decB s) 9 (by omega)) ?_
        cases d2 : digB (decB s) 9
        · rw [hok, d2]
          simp (config := { maxSteps := 1000000 }) (disch := ((try simp only [awL]); omega)) only [nextC_more, nextC_over, bs_size, bs_extract, bs_toList, bs_append, byteAt_bs, bs_cells, nums_length, nums_getD, ↓awU, awV, awF, ofVal, ofVal0, isShift, aggK, forall_const, ↓reduceIte, ↓reduceDIte, ↓purePost, combine, idsA, cellsA, numsOf, srcA, calleeA, refsA, isScalar, scalarD, scalar0, AV.one, putL, unfA, implies_true, IntKind.signed, Nat.reduceAdd, Nat.reduceSub, Nat.reduceMul, Nat.reducePow, Nat.reduceDiv, Nat.reduceMod, Int.reduceAdd, Int.reduceSub, Int.reduceMul, Int.reducePow, Int.reduceNeg, Int.reduceToNat, Int.reduceLT, Int.reduceLE, Nat.reduceEqDiff, sidsB, Nat.reduceBEq, keyKD, isIntK]
          first | done | rfl
        · rw [d2] at hok
          obtain ⟨hall, hlen, hlb⟩ := decOk_facts hok
          have hsm : ∀ i, i ≤ (decF s ++ decB s).length → (toW (decNum ((decF s ++ decB s).take i))).length ≤ 30 := fun i hi => by
            have h := decNum_lt (l := (decF s ++ decB s).take i) fun b hb => hall b (List.mem_of_mem_take hb)
            exact sz_small (Nat.lt_of_lt_of_le h (Nat.pow_le_pow_right (by decide) (by rw [List.length_take]; omega)))
          have hlt : ∀ i, i ≤ (decF s ++ decB s).length → decNum ((decF s ++ decB s).take i) * 10 < 10 ^ 30 := fun i hi => by
            have h := decNum_lt (l := (decF s ++ decB s).take i) fun b hb => hall b (List.mem_of_mem_take hb)
            have h2 : 10 ^ ((decF s ++ decB s).take i).length ≤ 10 ^ 29 := Nat.pow_le_pow_right (by decide) (by rw [List.length_take]; omega)
            have h3 : (10 : Nat) ^ 30 = 10 ^ 29 * 10 := rfl
            omega
          rw [if_pos hok, hok]
          generalize hL : decF s ++ decB s = L at *
          simp (config := { maxSteps := 1000000 }) (disch := ((try simp only [awL]); omega)) only [hG, nextC_more, nextC_over, bs_size, bs_extract, bs_toList, bs_append, byteAt_bs, bs_cells, nums_length, nums_getD, ↓awU, awV, awF, ofVal, ofVal0, isShift, aggK, forall_const, ↓reduceIte, ↓reduceDIte, ↓purePost, combine, idsA, cellsA, numsOf, srcA, calleeA, refsA, isScalar, scalarD, scalar0, AV.one, putL, unfA, implies_true, IntKind.signed, Nat.reduceAdd, Nat.reduceSub, Nat.reduceMul, Nat.reducePow, Nat.reduceDiv, Nat.reduceMod, Int.reduceAdd, Int.reduceSub, Int.reduceMul, Int.reducePow, Int.reduceNeg, Int.reduceToNat, Int.reduceLT, Int.reduceLE, Nat.reduceEqDiff, sidsB, Nat.reduceBEq, keyKD, isIntK]
          refine CallC.of (clone_spec [1] (by decide)) (by rfl) ?_
          simp (config := { maxSteps := 1000000 }) (disch := ((try simp only [awL]); omega)) only [hG, nextC_more, nextC_over, bs_size, bs_extract, bs_toList, bs_append, byteAt_bs, bs_cells, nums_length, nums_getD, hL, cells_nums, ↓awU, awV, awF, ofVal, ofVal0, isShift, aggK, forall_const, ↓reduceIte, ↓reduceDIte, ↓purePost, combine, idsA, cellsA, numsOf, srcA, calleeA, refsA, isScalar, scalarD, scalar0, AV.one, putL, unfA, implies_true, IntKind.signed, Nat.reduceAdd, Nat.reduceSub, Nat.reduceMul, Nat.reducePow, Nat.reduceDiv, Nat.reduceMod, Int.reduceAdd, Int.reduceSub, Int.reduceMul, Int.reducePow, Int.reduceNeg, Int.reduceToNat, Int.reduceLT, Int.reduceLE, Nat.reduceEqDiff, sidsB, Nat.reduceBEq, keyKD, isIntK]
          refine LoopC.fr 422212465069220 (α := Nat) (fun i => L.length - i) (fun i => [(9, .d (W (toW (decNum (L.take i))))), (49, .d (.int .i64 i))])
            (fun _ => [.box [.d (.bool false), .d (.sl 0 true []), .d (.bool false), .d (.sl 0 true [])], .row true (nats .u32 [10]), .row false (ints .u8 (nums L))]) (fun i => i ≤ L.length) 0 (Nat.zero_le _) ?_ ?_
          · exact ⟨[some 0, some 1, some 2], rfl, by simp, by simp [setsA, keepA, SWeak, AWeak, decNum, toW_zero, nats], by simp [HWeak, BWeak, SWeak, AWeak, nats]⟩
          · intro i hi
            have lt := hsm i hi
            have nl := @nums_length L
            simp only [keepA_z8, keepA_z, keepA_cons, keepA_nil, setsA_nil, setsA_cons, List.set_cons_zero, List.set_cons_succ, set_8, Nat.reduceMod, Nat.reduceDiv, Nat.zero_mod, Nat.zero_ne_one, if_true, if_false, reduceIte]
            rcases Nat.lt_or_ge i L.length with h1 | h1
            · have hb := dig_range (hall _ (mem_getDU (d := 0) h1))
              have hp := decNum_push h1
              have ls := sz_small (n := (L.getD i 0).toNat - 48) (k := 2) (by omega)
              have e48 : ((L.getD i 0).toNat : Int) - 48 = (((L.getD i 0).toNat - 48 : Nat) : Int) := by omega
              have lm : (toW (decNum (L.take i) * 10)).length ≤ 40 := sz_small (Nat.lt_of_lt_of_le (hlt i hi) (by decide))
              simp (config := { maxSteps := 1000000 }) (disch := ((try simp only [awL]); omega)) only [hG, nextC_more, nextC_over, bs_size, bs_extract, bs_toList, bs_append, byteAt_bs, bs_cells, nums_length, nums_getD, nl, ↓awU, awV, awF, ofVal, ofVal0, isShift, aggK, forall_const, ↓reduceIte, ↓reduceDIte, ↓purePost, combine, idsA, cellsA, numsOf, srcA, calleeA, refsA, isScalar, scalarD, scalar0, AV.one, putL, unfA, implies_true, IntKind.signed, Nat.reduceAdd, Nat.reduceSub, Nat.reduceMul, Nat.reducePow, Nat.reduceDiv, Nat.reduceMod, Int.reduceAdd, Int.reduceSub, Int.reduceMul, Int.reducePow, Int.reduceNeg, Int.reduceToNat, Int.reduceLT, Int.reduceLE, Nat.reduceEqDiff, sidsB, Nat.reduceBEq, keyKD, isIntK]
              refine CallC.frozenE (times_spec (decNum (L.take i)) 10 (by omega) (by rw [toW_10]; decide)) (by rw [toW_10]; rfl) ?_
              simp (config := { maxSteps := 1000000 }) (disch := ((try simp only [awL]); omega)) only [hG, nextC_more, nextC_over, bs_size, bs_extract, bs_toList, bs_append, byteAt_bs, bs_cells, nums_length, nums_getD, nl, e48, ↓awU, awV, awF, ofVal, ofVal0, isShift, aggK, forall_const, ↓reduceIte, ↓reduceDIte, ↓purePost, combine, idsA, cellsA, numsOf, srcA, calleeA, refsA, isScalar, scalarD, scalar0, AV.one, putL, unfA, implies_true, IntKind.signed, Nat.reduceAdd, Nat.reduceSub, Nat.reduceMul, Nat.reducePow, Nat.reduceDiv, Nat.reduceMod, Int.reduceAdd, Int.reduceSub, Int.reduceMul, Int.reducePow, Int.reduceNeg, Int.reduceToNat, Int.reduceLT, Int.reduceLE, Nat.reduceEqDiff, sidsB, Nat.reduceBEq, keyKD, isIntK]
              refine CallC.pure (natural_spec ((L.getD i 0).toNat - 48) (by omega)) ?_
              simp (config := { maxSteps := 1000000 }) (disch := ((try simp only [awL]); omega)) only [hG, nextC_more, nextC_over, bs_size, bs_extract, bs_toList, bs_append, byteAt_bs, bs_cells, nums_length, nums_getD, nl, ↓awU, awV, awF, ofVal, ofVal0, isShift, aggK, forall_const, ↓reduceIte, ↓reduceDIte, ↓purePost, combine, idsA, cellsA, numsOf, srcA, calleeA, refsA, isScalar, scalarD, scalar0, AV.one, putL, unfA, implies_true, IntKind.signed, Nat.reduceAdd, Nat.reduceSub, Nat.reduceMul, Nat.reducePow, Nat.reduceDiv, Nat.reduceMod, Int.reduceAdd, Int.reduceSub, Int.reduceMul, Int.reducePow, Int.reduceNeg, Int.reduceToNat, Int.reduceLT, Int.reduceLE, Nat.reduceEqDiff, sidsB, Nat.reduceBEq, keyKD, isIntK]
              refine CallC.pure (plus_spec (decNum (L.take i) * 10) ((L.getD i 0).toNat - 48) (by omega) (by omega)) ?_
              rw [hp]
              simp (config := { maxSteps := 1000000 }) (disch := ((try simp only [awL]); omega)) only [hG, nextC_more, nextC_over, bs_size, bs_extract, bs_toList, bs_append, byteAt_bs, bs_cells, nums_length, nums_getD, nl, ↓awU, awV, awF, ofVal, ofVal0, isShift, aggK, forall_const, ↓reduceIte, ↓reduceDIte, ↓purePost, combine, idsA, cellsA, numsOf, srcA, calleeA, refsA, isScalar, scalarD, scalar0, AV.one, putL, unfA, implies_true, IntKind.signed, Nat.reduceAdd, Nat.reduceSub, Nat.reduceMul, Nat.reducePow, Nat.reduceDiv, Nat.reduceMod, Int.reduceAdd, Int.reduceSub, Int.reduceMul, Int.reducePow, Int.reduceNeg, Int.reduceToNat, Int.reduceLT, Int.reduceLE, Nat.reduceEqDiff, sidsB, Nat.reduceBEq, keyKD, isIntK]
              exact ⟨i + 1, h1, by simp only; omega, ⟨[some 0, some 1, some 2], rfl, by simp, by simp [setsA, keepA, SWeak, AWeak], by simp [HWeak, BWeak, SWeak, AWeak]⟩⟩
            · obtain rfl : i = L.length := by omega
              rw [List.take_length] at *
              simp (config := { maxSteps := 1000000 }) (disch := ((try simp only [awL]); omega)) only [hG, nextC_more, nextC_over, bs_size, bs_extract, bs_toList, bs_append, byteAt_bs, bs_cells, nums_length, nums_getD, nl, ↓awU, awV, awF, ofVal, ofVal0, isShift, aggK, forall_const, ↓reduceIte, ↓reduceDIte, ↓purePost, combine, idsA, cellsA, numsOf, srcA, calleeA, refsA, isScalar, scalarD, scalar0, AV.one, putL, unfA, implies_true, IntKind.signed, Nat.reduceAdd, Nat.reduceSub, Nat.reduceMul, Nat.reducePow, Nat.reduceDiv, Nat.reduceMod, Int.reduceAdd, Int.reduceSub, Int.reduceMul, Int.reducePow, Int.reduceNeg, Int.reduceToNat, Int.reduceLT, Int.reduceLE, Nat.reduceEqDiff, sidsB, Nat.reduceBEq, keyKD, isIntK]
              refine LoopC.fr 9223372036854777380 (α := Nat) (fun j => (decB s).length - j) (fun j => [(11, .d (W (toW (10 ^ j)))), (64, .d (.int .i64 j))])
                (fun _ => [.box [.d (.bool false), .d (.sl 0 true []), .d (.bool false), .d (.sl 0 true [])], .row true (nats .u32 [10]), .row false (ints .u8 (nums L))]) (fun j => j ≤ (decB s).length) 0 (Nat.zero_le _) ?_ ?_
              · exact ⟨[some 0, some 1, some 2], rfl, by simp, by simp [setsA, keepA, SWeak, AWeak, toW_one], by simp [HWeak, BWeak, SWeak, AWeak, nats]⟩
              · intro j hj
                have lj : (toW (10 ^ j)).length ≤ 10 := sz_small (Nat.pow_lt_pow_right (by decide) (by omega))
                simp only [keepA_z8, keepA_z, keepA_cons, keepA_nil, setsA_nil, setsA_cons, List.set_cons_zero, List.set_cons_succ, set_8, Nat.reduceMod, Nat.reduceDiv, Nat.zero_mod, Nat.zero_ne_one, if_true, if_false, reduceIte]
                rcases Nat.lt_or_ge j (decB s).length with h2 | h2
                · simp (config := { maxSteps := 1000000 }) (disch := ((try simp only [awL]); omega)) only [hG, nextC_more, nextC_over, bs_size, bs_extract, bs_toList, bs_append, byteAt_bs, bs_cells, nums_length, nums_getD, ↓awU, awV, awF, ofVal, ofVal0, isShift, aggK, forall_const, ↓reduceIte, ↓reduceDIte, ↓purePost, combine, idsA, cellsA, numsOf, srcA, calleeA, refsA, isScalar, scalarD, scalar0, AV.one, putL, unfA, implies_true, IntKind.signed, Nat.reduceAdd, Nat.reduceSub, Nat.reduceMul, Nat.reducePow, Nat.reduceDiv, Nat.reduceMod, Int.reduceAdd, Int.reduceSub, Int.reduceMul, Int.reducePow, Int.reduceNeg, Int.reduceToNat, Int.reduceLT, Int.reduceLE, Nat.reduceEqDiff, sidsB, Nat.reduceBEq, keyKD, isIntK]
                  refine CallC.frozenE (times_spec (10 ^ j) 10 (by omega) (by rw [toW_10]; decide)) (by rw [toW_10]; rfl) ?_
                  rw [← Nat.pow_succ]
                  simp (config := { maxSteps := 1000000 }) (disch := ((try simp only [awL]); omega)) only [hG, nextC_more, nextC_over, bs_size, bs_extract, bs_toList, bs_append, byteAt_bs, bs_cells, nums_length, nums_getD, ↓awU, awV, awF, ofVal, ofVal0, isShift, aggK, forall_const, ↓reduceIte, ↓reduceDIte, ↓purePost, combine, idsA, cellsA, numsOf, srcA, calleeA, refsA, isScalar, scalarD, scalar0, AV.one, putL, unfA, implies_true, IntKind.signed, Nat.reduceAdd, Nat.reduceSub, Nat.reduceMul, Nat.reducePow, Nat.reduceDiv, Nat.reduceMod, Int.reduceAdd, Int.reduceSub, Int.reduceMul, Int.reducePow, Int.reduceNeg, Int.reduceToNat, Int.reduceLT, Int.reduceLE, Nat.reduceEqDiff, sidsB, Nat.reduceBEq, keyKD, isIntK]
                  exact ⟨j + 1, h2, by simp only; omega, ⟨[some 0, some 1, some 2], rfl, by simp, by simp [setsA, keepA, SWeak, AWeak], by simp [HWeak, BWeak, SWeak, AWeak]⟩⟩
                · obtain rfl : j = (decB s).length := by omega
                  have hd0 : ((10 ^ (decB s).length : Nat) : Int) ≠ 0 := by
                    have : 0 < 10 ^ (decB s).length := Nat.pow_pos (by decide)
                    omega
                  simp (config := { maxSteps := 1000000 }) (disch := ((try simp only [awL]); omega)) only [hG, nextC_more, nextC_over, bs_size, bs_extract, bs_toList, bs_append, byteAt_bs, bs_cells, nums_length, nums_getD, ↓awU, awV, awF, ofVal, ofVal0, isShift, aggK, forall_const, ↓reduceIte, ↓reduceDIte, ↓purePost, combine, idsA, cellsA, numsOf, srcA, calleeA, refsA, isScalar, scalarD, scalar0, AV.one, putL, unfA, implies_true, IntKind.signed, Nat.reduceAdd, Nat.reduceSub, Nat.reduceMul, Nat.reducePow, Nat.reduceDiv, Nat.reduceMod, Int.reduceAdd, Int.reduceSub, Int.reduceMul, Int.reducePow, Int.reduceNeg, Int.reduceToNat, Int.reduceLT, Int.reduceLE, Nat.reduceEqDiff, sidsB, Nat.reduceBEq, keyKD, isIntK]
                  refine CallC.pure (signed_spec false (decNum L) (by omega)) ?_
                  simp (config := { maxSteps := 1000000 }) (disch := ((try simp only [awL]); omega)) only [hG, nextC_more, nextC_over, bs_size, bs_extract, bs_toList, bs_append, byteAt_bs, bs_cells, nums_length, nums_getD, ↓awU, awV, awF, ofVal, ofVal0, isShift, aggK, forall_const, ↓reduceIte, ↓reduceDIte, ↓purePost, combine, idsA, cellsA, numsOf, srcA, calleeA, refsA, isScalar, scalarD, scalar0, AV.one, putL, unfA, implies_true, IntKind.signed, Nat.reduceAdd, Nat.reduceSub, Nat.reduceMul, Nat.reducePow, Nat.reduceDiv, Nat.reduceMod, Int.reduceAdd, Int.reduceSub, Int.reduceMul, Int.reducePow, Int.reduceNeg, Int.reduceToNat, Int.reduceLT, Int.reduceLE, Nat.reduceEqDiff, sidsB, Nat.reduceBEq, keyKD, isIntK]
                  refine CallC.pure (signed_spec false (10 ^ (decB s).length) (by omega)) ?_
                  simp (config := { maxSteps := 1000000 }) (disch := ((try simp only [awL]); omega)) only [hG, nextC_more, nextC_over, bs_size, bs_extract, bs_toList, bs_append, byteAt_bs, bs_cells, nums_length, nums_getD, ↓awU, awV, awF, ofVal, ofVal0, isShift, aggK, forall_const, ↓reduceIte, ↓reduceDIte, ↓purePost, combine, idsA, cellsA, numsOf, srcA, calleeA, refsA, isScalar, scalarD, scalar0, AV.one, putL, unfA, implies_true, IntKind.signed, Nat.reduceAdd, Nat.reduceSub, Nat.reduceMul, Nat.reducePow, Nat.reduceDiv, Nat.reduceMod, Int.reduceAdd, Int.reduceSub, Int.reduceMul, Int.reducePow, Int.reduceNeg, Int.reduceToNat, Int.reduceLT, Int.reduceLE, Nat.reduceEqDiff, sidsB, Nat.reduceBEq, keyKD, isIntK]
                  refine CallC.of (reduced_spec (if false = true then -(decNum L : Int) else (decNum L : Int)) ((10 ^ (decB s).length : Nat) : Int) hd0 (by simp only [sz]; split <;> simp <;> omega) (by simp only [sz, Int.natAbs_natCast]; omega)) (by rfl) ?_
                  rw [← hdv]
                  simp (config := { maxSteps := 1000000 }) (disch := ((try simp only [awL]); omega)) only [hG, nextC_more, nextC_over, bs_size, bs_extract, bs_toList, bs_append, byteAt_bs, bs_cells, nums_length, nums_getD, ↓awU, awV, awF, ofVal, ofVal0, isShift, aggK, forall_const, ↓reduceIte, ↓reduceDIte, ↓purePost, combine, idsA, cellsA, numsOf, srcA, calleeA, refsA, isScalar, scalarD, scalar0, AV.one, putL, unfA, implies_true, IntKind.signed, Nat.reduceAdd, Nat.reduceSub, Nat.reduceMul, Nat.reducePow, Nat.reduceDiv, Nat.reduceMod, Int.reduceAdd, Int.reduceSub, Int.reduceMul, Int.reducePow, Int.reduceNeg, Int.reduceToNat, Int.reduceLT, Int.reduceLE, Nat.reduceEqDiff, sidsB, Nat.reduceBEq, keyKD, isIntK]
                  first | done | rfl
  · have eb : s.drop 1 = decBody s := by rw [decBody, h45]; rfl
    have en : decNeg s = true := h45
    rw [en] at hdv
    simp (config := { maxSteps := 1000000 }) (disch := ((try simp only [awL]); omega)) only [nextC_more, nextC_over, bs_size, bs_extract, bs_toList, bs_append, byteAt_bs, bs_cells, nums_length, nums_getD, eb, ↓awU, awV, awF, ofVal, ofVal0, isShift, aggK, forall_const, ↓reduceIte, ↓reduceDIte, ↓purePost, combine, idsA, cellsA, numsOf, srcA, calleeA, refsA, isScalar, scalarD, scalar0, AV.one, putL, unfA, implies_true, IntKind.signed, Nat.reduceAdd, Nat.reduceSub, Nat.reduceMul, Nat.reducePow, Nat.reduceDiv, Nat.reduceMod, Int.reduceAdd, Int.reduceSub, Int.reduceMul, Int.reducePow, Int.reduceNeg, Int.reduceToNat, Int.reduceLT, Int.reduceLE, Nat.reduceEqDiff, sidsB, Nat.reduceBEq, keyKD, isIntK]
    refine CallC.pure (cut_spec (decBody s) 46 (by omega)) ?_
    rw [f1, f2]
    simp (config := { maxSteps := 1000000 }) (disch := ((try simp only [awL]); omega)) only [nextC_more, nextC_over, bs_size, bs_extract, bs_toList, bs_append, byteAt_bs, bs_cells, nums_length, nums_getD, ↓awU, awV, awF, ofVal, ofVal0, isShift, aggK, forall_const, ↓reduceIte, ↓reduceDIte, ↓purePost, combine, idsA, cellsA, numsOf, srcA, calleeA, refsA, isScalar, scalarD, scalar0, AV.one, putL, unfA, implies_true, IntKind.signed, Nat.reduceAdd, Nat.reduceSub, Nat.reduceMul, Nat.reducePow, Nat.reduceDiv, Nat.reduceMod, Int.reduceAdd, Int.reduceSub, Int.reduceMul, Int.reducePow, Int.reduceNeg, Int.reduceToNat, Int.reduceLT, Int.reduceLE, Nat.reduceEqDiff, sidsB, Nat.reduceBEq, keyKD, isIntK]
    refine CallC.pure (digits_spec (decF s) 15 (by omega)) ?_
    cases d1 : digB (decF s) 15
    · rw [hok, d1, Bool.false_and]
      simp (config := { maxSteps := 1000000 }) (disch := ((try simp only [awL]); omega)) only [nextC_more, nextC_over, bs_size, bs_extract, bs_toList, bs_append, byteAt_bs, bs_cells, nums_length, nums_getD, ↓awU, awV, awF, ofVal, ofVal0, isShift, aggK, forall_const, ↓reduceIte, ↓reduceDIte, ↓purePost, combine, idsA, cellsA, numsOf, srcA, calleeA, refsA, isScalar, scalarD, scalar0, AV.one, putL, unfA, implies_true, IntKind.signed, Nat.reduceAdd, Nat.reduceSub, Nat.reduceMul, Nat.reducePow, Nat.reduceDiv, Nat.reduceMod, Int.reduceAdd, Int.reduceSub, Int.reduceMul, Int.reducePow, Int.reduceNeg, Int.reduceToNat, Int.reduceLT, Int.reduceLE, Nat.reduceEqDiff, sidsB, Nat.reduceBEq, keyKD, isIntK]
      first | done | rfl
    · rw [d1, Bool.true_and] at hok
      cases dp : decide (46 ∈ decBody s)
      · rw [dp, Bool.not_false, Bool.true_or] at hok
        obtain ⟨hall, hlen, hlb⟩ := decOk_facts hok
        have hsm : ∀ i, i ≤ (decF s ++ decB s).length → (toW (decNum ((decF s ++ decB s).take i))).length ≤ 30 := fun i hi => by
          have h := decNum_lt (l := (decF s ++ decB s).take i) fun b hb => hall b (List.mem_of_mem_take hb)
          exact sz_small (Nat.lt_of_lt_of_le h (Nat.pow_le_pow_right (by decide) (by rw [List.length_take]; omega)))
        have hlt : ∀ i, i ≤ (decF s ++ decB s).length → decNum ((decF s ++ decB s).take i) * 10 < 10 ^ 30 := fun i hi => by
          have h := decNum_lt (l := (decF s ++ decB s).take i) fun b hb => hall b (List.mem_of_mem_take hb)
          have h2 : 10 ^ ((decF s ++ decB s).take i).length ≤ 10 ^ 29 := Nat.pow_le_pow_right (by decide) (by rw [List.length_take]; omega)
          have h3 : (10 : Nat) ^ 30 = 10 ^ 29 * 10 := rfl
          omega
        rw [if_pos hok, hok]
        generalize hL : decF s ++ decB s = L at *
        simp (config := { maxSteps := 1000000 }) (disch := ((try simp only [awL]); omega)) only [hG, nextC_more, nextC_over, bs_size, bs_extract, bs_toList, bs_append, byteAt_bs, bs_cells, nums_length, nums_getD, ↓awU, awV, awF, ofVal, ofVal0, isShift, aggK, forall_const, ↓reduceIte, ↓reduceDIte, ↓purePost, combine, idsA, cellsA, numsOf, srcA, calleeA, refsA, isScalar, scalarD, scalar0, AV.one, putL, unfA, implies_true, IntKind.signed, Nat.reduceAdd, Nat.reduceSub, Nat.reduceMul, Nat.reducePow, Nat.reduceDiv, Nat.reduceMod, Int.reduceAdd, Int.reduceSub, Int.reduceMul, Int.reducePow, Int.reduceNeg, Int.reduceToNat, Int.reduceLT, Int.reduceLE, Nat.reduceEqDiff, sidsB, Nat.reduceBEq, keyKD, isIntK]
        refine CallC.of (clone_spec [1] (by decide)) (by rfl) ?_
        simp (config := { maxSteps := 1000000 }) (disch := ((try simp only [awL]); omega)) only [hG, nextC_more, nextC_over, bs_size, bs_extract, bs_toList, bs_append, byteAt_bs, bs_cells, nums_length, nums_getD, hL, cells_nums, ↓awU, awV, awF, ofVal, ofVal0, isShift, aggK, forall_const, ↓reduceIte, ↓reduceDIte, ↓purePost, combine, idsA, cellsA, numsOf, srcA, calleeA, refsA, isScalar, scalarD, scalar0, AV.one, putL, unfA, implies_true, IntKind.signed, Nat.reduceAdd, Nat.reduceSub, Nat.reduceMul, Nat.reducePow, Nat.reduceDiv, Nat.reduceMod, Int.reduceAdd, Int.reduceSub, Int.reduceMul, Int.reducePow, Int.reduceNeg, Int.reduceToNat, Int.reduceLT, Int.reduceLE, Nat.reduceEqDiff, sidsB, Nat.reduceBEq, keyKD, isIntK]
        refine LoopC.fr 422212465069220 (α := Nat) (fun i => L.length - i) (fun i => [(9, .d (W (toW (decNum (L.take i))))), (49, .d (.int .i64 i))])
          (fun _ => [.box [.d (.bool false), .d (.sl 0 true []), .d (.bool false), .d (.sl 0 true [])], .row true (nats .u32 [10]), .row false (ints .u8 (nums L))]) (fun i => i ≤ L.length) 0 (Nat.zero_le _) ?_ ?_
        · exact ⟨[some 0, some 1, some 2], rfl, by simp, by simp [setsA, keepA, SWeak, AWeak, decNum, toW_zero, nats], by simp [HWeak, BWeak, SWeak, AWeak, nats]⟩
        · intro i hi
          have lt := hsm i hi
          have nl := @nums_length L
          simp only [keepA_z8, keepA_z, keepA_cons, keepA_nil, setsA_nil, setsA_cons, List.set_cons_zero, List.set_cons_succ, set_8, Nat.reduceMod, Nat.reduceDiv, Nat.zero_mod, Nat.zero_ne_one, if_true, if_false, reduceIte]
          rcases Nat.lt_or_ge i L.length with h1 | h1
          · have hb := dig_range (hall _ (mem_getDU (d := 0) h1))
            have hp := decNum_push h1
            have ls := sz_small (n := (L.getD i 0).toNat - 48) (k := 2) (by omega)
            have e48 : ((L.getD i 0).toNat : Int) - 48 = (((L.getD i 0).toNat - 48 : Nat) : Int) := by omega
            have lm : (toW (decNum (L.take i) * 10)).length ≤ 40 := sz_small (Nat.lt_of_lt_of_le (hlt i hi) (by decide))
            simp (config := { maxSteps := 1000000 }) (disch := ((try simp only [awL]); omega)) only [hG, nextC_more, nextC_over, bs_size, bs_extract, bs_toList, bs_append, byteAt_bs, bs_cells, nums_length, nums_getD, nl, ↓awU, awV, awF, ofVal, ofVal0, isShift, aggK, forall_const, ↓reduceIte, ↓reduceDIte, ↓purePost, combine, idsA, cellsA, numsOf, srcA, calleeA, refsA, isScalar, scalarD, scalar0, AV.one, putL, unfA, implies_true, IntKind.signed, Nat.reduceAdd, Nat.reduceSub, Nat.reduceMul, Nat.reducePow, Nat.reduceDiv, Nat.reduceMod, Int.reduceAdd, Int.reduceSub, Int.reduceMul, Int.reducePow, Int.reduceNeg, Int.reduceToNat, Int.reduceLT, Int.reduceLE, Nat.reduceEqDiff, sidsB, Nat.reduceBEq, keyKD, isIntK]
            refine CallC.frozenE (times_spec (decNum (L.take i)) 10 (by omega) (by rw [toW_10]; decide)) (by rw [toW_10]; rfl) ?_
            simp (config := { maxSteps := 1000000 }) (disch := ((try simp only [awL]); omega)) only [hG, nextC_more, nextC_over, bs_size, bs_extract, bs_toList, bs_append, byteAt_bs, bs_cells, nums_length, nums_getD, nl, e48, ↓awU, awV, awF, ofVal, ofVal0, isShift, aggK, forall_const, ↓reduceIte, ↓reduceDIte, ↓purePost, combine, idsA, cellsA, numsOf, srcA, calleeA, refsA, isScalar, scalarD, scalar0, AV.one, putL, unfA, implies_true, IntKind.signed, Nat.reduceAdd, Nat.reduceSub, Nat.reduceMul, Nat.reducePow, Nat.reduceDiv, Nat.reduceMod, Int.reduceAdd, Int.reduceSub, Int.reduceMul, Int.reducePow, Int.reduceNeg, Int.reduceToNat, Int.reduceLT, Int.reduceLE, Nat.reduceEqDiff, sidsB, Nat.reduceBEq, keyKD, isIntK]
            refine CallC.pure (natural_spec ((L.getD i 0).toNat - 48) (by omega)) ?_
            simp (config := { maxSteps := 1000000 }) (disch := ((try simp only [awL]); omega)) only [hG, nextC_more, nextC_over, bs_size, bs_extract, bs_toList, bs_append, byteAt_bs, bs_cells, nums_length, nums_getD, nl, ↓awU, awV, awF, ofVal, ofVal0, isShift, aggK, forall_const, ↓reduceIte, ↓reduceDIte, ↓purePost, combine, idsA, cellsA, numsOf, srcA, calleeA, refsA, isScalar, scalarD, scalar0, AV.one, putL, unfA, implies_true, IntKind.signed, Nat.reduceAdd, Nat.reduceSub, Nat.reduceMul, Nat.reducePow, Nat.reduceDiv, Nat.reduceMod, Int.reduceAdd, Int.reduceSub, Int.reduceMul, Int.reducePow, Int.reduceNeg, Int.reduceToNat, Int.reduceLT, Int.reduceLE, Nat.reduceEqDiff, sidsB, Nat.reduceBEq, keyKD, isIntK]
            refine CallC.pure (plus_spec (decNum (L.take i) * 10) ((L.getD i 0).toNat - 48) (by omega) (by omega)) ?_
            rw [hp]
            simp (config := { maxSteps := 1000000 }) (disch := ((try simp only [awL]); omega)) only [hG, nextC_more, nextC_over, bs_size, bs_extract, bs_toList, bs_append, byteAt_bs, bs_cells, nums_length, nums_getD, nl, ↓awU, awV, awF, ofVal, ofVal0, isShift, aggK, forall_const, ↓reduceIte, ↓reduceDIte, ↓purePost, combine, idsA, cellsA, numsOf, srcA, calleeA, refsA, isScalar, scalarD, scalar0, AV.one, putL, unfA, implies_true, IntKind.signed, Nat.reduceAdd, Nat.reduceSub, Nat.reduceMul, Nat.reducePow, Nat.reduceDiv, Nat.reduceMod, Int.reduceAdd, Int.reduceSub, Int.reduceMul, Int.reducePow, Int.reduceNeg, Int.reduceToNat, Int.reduceLT, Int.reduceLE, Nat.reduceEqDiff, sidsB, Nat.reduceBEq, keyKD, isIntK]
            exact ⟨i + 1, h1, by simp only; omega, ⟨[some 0, some 1, some 2], rfl, by simp, by simp [setsA, keepA, SWeak, AWeak], by simp [HWeak, BWeak, SWeak, AWeak]⟩⟩
          · obtain rfl : i = L.length := by omega
            rw [List.take_length] at *
            simp (config := { maxSteps := 1000000 }) (disch := ((try simp only [awL]); omega)) only [hG, nextC_more, nextC_over, bs_size, bs_extract, bs_toList, bs_append, byteAt_bs, bs_cells, nums_length, nums_getD, nl, ↓awU, awV, awF, ofVal, ofVal0, isShift, aggK, forall_const, ↓reduceIte, ↓reduceDIte, ↓purePost, combine, idsA, cellsA, numsOf, srcA, calleeA, refsA, isScalar, scalarD, scalar0, AV.one, putL, unfA, implies_true, IntKind.signed, Nat.reduceAdd, Nat.reduceSub, Nat.reduceMul, Nat.reducePow, Nat.reduceDiv, Nat.reduceMod, Int.reduceAdd, Int.reduceSub, Int.reduceMul, Int.reducePow, Int.reduceNeg, Int.reduceToNat, Int.reduceLT, Int.reduceLE, Nat.reduceEqDiff, sidsB, Nat.reduceBEq, keyKD, isIntK]
            refine LoopC.fr 9223372036854777380 (α := Nat) (fun j => (decB s).length - j) (fun j => [(11, .d (W (toW (10 ^ j)))), (64, .d (.int .i64 j))])
              (fun _ => [.box [.d (.bool false), .d (.sl 0 true []), .d (.bool false), .d (.sl 0 true [])], .row true (nats .u32 [10]), .row false (ints .u8 (nums L))]) (fun j => j ≤ (decB s).length) 0 (Nat.zero_le _) ?_ ?_
            · exact ⟨[some 0, some 1, some 2], rfl, by simp, by simp [setsA, keepA, SWeak, AWeak, toW_one], by simp [HWeak, BWeak, SWeak, AWeak, nats]⟩
            · intro j hj
              have lj : (toW (10 ^ j)).length ≤ 10 := sz_small (Nat.pow_lt_pow_right (by decide) (by omega))
              simp only [keepA_z8, keepA_z, keepA_cons, keepA_nil, setsA_nil, setsA_cons, List.set_cons_zero, List.set_cons_succ, set_8, Nat.reduceMod, Nat.reduceDiv, Nat.zero_mod, Nat.zero_ne_one, if_true, if_false, reduceIte]
              rcases Nat.lt_or_ge j (decB s).length with h2 | h2
              · simp (config := { maxSteps := 1000000 }) (disch := ((try simp only [awL]); omega)) only [hG, nextC_more, nextC_over, bs_size, bs_extract, bs_toList, bs_append, byteAt_bs, bs_cells, nums_length, nums_getD, ↓awU, awV, awF, ofVal, ofVal0, isShift, aggK, forall_const, ↓reduceIte, ↓reduceDIte, ↓purePost, combine, idsA, cellsA, numsOf, srcA, calleeA, refsA, isScalar, scalarD, scalar0, AV.one, putL, unfA, implies_true, IntKind.signed, Nat.reduceAdd, Nat.reduceSub, Nat.reduceMul, Nat.reducePow, Nat.reduceDiv, Nat.reduceMod, Int.reduceAdd, Int.reduceSub, Int.reduceMul, Int.reducePow, Int.reduceNeg, Int.reduceToNat, Int.reduceLT, Int.reduceLE, Nat.reduceEqDiff, sidsB, Nat.reduceBEq, keyKD, isIntK]
                refine CallC.frozenE (times_spec (10 ^ j) 10 (by omega) (by rw [toW_10]; decide)) (by rw [toW_10]; rfl) ?_
                rw [← Nat.pow_succ]
                simp (config := { maxSteps := 1000000 }) (disch := ((try simp only [awL]); omega)) only [hG, nextC_more, nextC_over, bs_size, bs_extract, bs_toList, bs_append, byteAt_bs, bs_cells, nums_length, nums_getD, ↓awU, awV, awF, ofVal, ofVal0, isShift, aggK, forall_const, ↓reduceIte, ↓reduceDIte, ↓purePost, combine, idsA, cellsA, numsOf, srcA, calleeA, refsA, isScalar, scalarD, scalar0, AV.one, putL, unfA, implies_true, IntKind.signed, Nat.reduceAdd, Nat.reduceSub, Nat.reduceMul, Nat.reducePow, Nat.reduceDiv, Nat.reduceMod, Int.reduceAdd, Int.reduceSub, Int.reduceMul, Int.reducePow, Int.reduceNeg, Int.reduceToNat, Int.reduceLT, Int.reduceLE, Nat.reduceEqDiff, sidsB, Nat.reduceBEq, keyKD, isIntK]
                exact ⟨j + 1, h2, by simp only; omega, ⟨[some 0, some 1, some 2], rfl, by simp, by simp [setsA, keepA, SWeak, AWeak], by simp [HWeak, BWeak, SWeak, AWeak]⟩⟩
              · obtain rfl : j = (decB s).length := by omega
                have hd0 : ((10 ^ (decB s).length : Nat) : Int) ≠ 0 := by
                  have : 0 < 10 ^ (decB s).length := Nat.pow_pos (by decide)
                  omega
                simp (config := { maxSteps := 1000000 }) (disch := ((try simp only [awL]); omega)) only [hG, nextC_more, nextC_over, bs_size, bs_extract, bs_toList, bs_append, byteAt_bs, bs_cells, nums_length, nums_getD, ↓awU, awV, awF, ofVal, ofVal0, isShift, aggK, forall_const, ↓reduceIte, ↓reduceDIte, ↓purePost, combine, idsA, cellsA, numsOf, srcA, calleeA, refsA, isScalar, scalarD, scalar0, AV.one, putL, unfA, implies_true, IntKind.signed, Nat.reduceAdd, Nat.reduceSub, Nat.reduceMul, Nat.reducePow, Nat.reduceDiv, Nat.reduceMod, Int.reduceAdd, Int.reduceSub, Int.reduceMul, Int.reducePow, Int.reduceNeg, Int.reduceToNat, Int.reduceLT, Int.reduceLE, Nat.reduceEqDiff, sidsB, Nat.reduceBEq, keyKD, isIntK]
                refine CallC.pure (signed_spec true (decNum L) (by omega)) ?_
                simp (config := { maxSteps := 1000000 }) (disch := ((try simp only [awL]); omega)) only [hG, nextC_more, nextC_over, bs_size, bs_extract, bs_toList, bs_append, byteAt_bs, bs_cells, nums_length, nums_getD, ↓awU, awV, awF, ofVal, ofVal0, isShift, aggK, forall_const, ↓reduceIte, ↓reduceDIte, ↓purePost, combine, idsA, cellsA, numsOf, srcA, calleeA, refsA, isScalar, scalarD, scalar0, AV.one, putL, unfA, implies_true, IntKind.signed, Nat.reduceAdd, Nat.reduceSub, Nat.reduceMul, Nat.reducePow, Nat.reduceDiv, Nat.reduceMod, Int.reduceAdd, Int.reduceSub, Int.reduceMul, Int.reducePow, Int.reduceNeg, Int.reduceToNat, Int.reduceLT, Int.reduceLE, Nat.reduceEqDiff, sidsB, Nat.reduceBEq, keyKD, isIntK]
                refine CallC.pure (signed_spec false (10 ^ (decB s).length) (by omega)) ?_
                simp (config := { maxSteps := 1000000 }) (disch := ((try simp only [awL]); omega)) only [hG, nextC_more, nextC_over, bs_size, bs_extract, bs_toList, bs_append, byteAt_bs, bs_cells, nums_length, nums_getD, ↓awU, awV, awF, ofVal, ofVal0, isShift, aggK, forall_const, ↓reduceIte, ↓reduceDIte, ↓purePost, combine, idsA, cellsA, numsOf, srcA, calleeA, refsA, isScalar, scalarD, scalar0, AV.one, putL, unfA, implies_true, IntKind.signed, Nat.reduceAdd, Nat.reduceSub, Nat.reduceMul, Nat.reducePow, Nat.reduceDiv, Nat.reduceMod, Int.reduceAdd, Int.reduceSub, Int.reduceMul, Int.reducePow, Int.reduceNeg, Int.reduceToNat, Int.reduceLT, Int.reduceLE, Nat.reduceEqDiff, sidsB, Nat.reduceBEq, keyKD, isIntK]
                refine CallC.of (reduced_spec (if true = true then -(decNum L : Int) else (decNum L : Int)) ((10 ^ (decB s).length : Nat) : Int) hd0 (by simp only [sz]; split <;> simp <;> omega) (by simp only [sz, Int.natAbs_natCast]; omega)) (by rfl) ?_
                rw [← hdv]
                simp (config := { maxSteps := 1000000 }) (disch := ((try simp only [awL]); omega)) only [hG, nextC_more, nextC_over, bs_size, bs_extract, bs_toList, bs_append, byteAt_bs, bs_cells, nums_length, nums_getD, ↓awU, awV, awF, ofVal, ofVal0, isShift, aggK, forall_const, ↓reduceIte, ↓reduceDIte, ↓purePost, combine, idsA, cellsA, numsOf, srcA, calleeA, refsA, isScalar, scalarD, scalar0, AV.one, putL, unfA, implies_true, IntKind.signed, Nat.reduceAdd, Nat.reduceSub, Nat.reduceMul, Nat.reducePow, Nat.reduceDiv, Nat.reduceMod, Int.reduceAdd, Int.reduceSub, Int.reduceMul, Int.reducePow, Int.reduceNeg, Int.reduceToNat, Int.reduceLT, Int.reduceLE, Nat.reduceEqDiff, sidsB, Nat.reduceBEq, keyKD, isIntK]
                first | done | rfl
      · rw [dp, Bool.not_true, Bool.false_or] at hok
        simp (config := { maxSteps := 1000000 }) (disch := ((try simp only [awL]); omega)) only [nextC_more, nextC_over, bs_size, bs_extract, bs_toList, bs_append, byteAt_bs, bs_cells, nums_length, nums_getD, ↓awU, awV, awF, ofVal, ofVal0, isShift, aggK, forall_const, ↓reduceIte, ↓reduceDIte, ↓purePost, combine, idsA, cellsA, numsOf, srcA, calleeA, refsA, isScalar, scalarD, scalar0, AV.one, putL, unfA, implies_true, IntKind.signed, Nat.reduceAdd, Nat.reduceSub, Nat.reduceMul, Nat.reducePow, Nat.reduceDiv, Nat.reduceMod, Int.reduceAdd, Int.reduceSub, Int.reduceMul, Int.reducePow, Int.reduceNeg, Int.reduceToNat, Int.reduceLT, Int.reduceLE, Nat.reduceEqDiff, sidsB, Nat.reduceBEq, keyKD, isIntK]
        refine CallC.pure (digits_spec (decB s) 9 (by omega)) ?_
        cases d2 : digB (decB s) 9
        · rw [hok, d2]
          simp (config := { maxSteps := 1000000 }) (disch := ((try simp only [awL]); omega)) only [nextC_more, nextC_over, bs_size, bs_extract, bs_toList, bs_append, byteAt_bs, bs_cells, nums_length, nums_getD, ↓awU, awV, awF, ofVal, ofVal0, isShift, aggK, forall_const, ↓reduceIte, ↓reduceDIte, ↓purePost, combine, idsA, cellsA, numsOf, srcA, calleeA, refsA, isScalar, scalarD, scalar0, AV.one, putL, unfA, implies_true, IntKind.signed, Nat.reduceAdd, Nat.reduceSub, Nat.reduceMul, Nat.reducePow, Nat.reduceDiv, Nat.reduceMod, Int.reduceAdd, Int.reduceSub, Int.reduceMul, Int.reducePow, Int.reduceNeg, Int.reduceToNat, Int.reduceLT, Int.reduceLE, Nat.reduceEqDiff, sidsB, Nat.reduceBEq, keyKD, isIntK]
          first | done | rfl
        · rw [d2] at hok
          obtain ⟨hall, hlen, hlb⟩ := decOk_facts hok
          have hsm : ∀ i, i ≤ (decF s ++ decB s).length → (toW (decNum ((decF s ++ decB s).take i))).length ≤ 30 := fun i hi => by
            have h := decNum_lt (l := (decF s ++ decB s).take i) fun b hb => hall b (List.mem_of_mem_take hb)
            exact sz_small (Nat.lt_of_lt_of_le h (Nat.pow_le_pow_right (by decide) (by rw [List.length_take]; omega)))
          have hlt : ∀ i, i ≤ (decF s ++ decB s).length → decNum ((decF s ++ decB s).take i) * 10 < 10 ^ 30 := fun i hi => by
            have h := decNum_lt (l := (decF s ++ decB s).take i) fun b hb => hall b (List.mem_of_mem_take hb)
            have h2 : 10 ^ ((decF s ++ decB s).take i).length ≤ 10 ^ 29 := Nat.pow_le_pow_right (by decide) (by rw [List.length_take]; omega)
            have h3 : (10 : Nat) ^ 30 = 10 ^ 29 * 10 := rfl
            omega
          rw [if_pos hok, hok]
          generalize hL : decF s ++ decB s = L at *
          simp (config := { maxSteps := 1000000 }) (disch := ((try simp only [awL]); omega)) only [hG, nextC_more, nextC_over, bs_size, bs_extract, bs_toList, bs_append, byteAt_bs, bs_cells, nums_length, nums_getD, ↓awU, awV, awF, ofVal, ofVal0, isShift, aggK, forall_const, ↓reduceIte, ↓reduceDIte, ↓purePost, combine, idsA, cellsA, numsOf, srcA, calleeA, refsA, isScalar, scalarD, scalar0, AV.one, putL, unfA, implies_true, IntKind.signed, Nat.reduceAdd, Nat.reduceSub, Nat.reduceMul, Nat.reducePow, Nat.reduceDiv, Nat.reduceMod, Int.reduceAdd, Int.reduceSub, Int.reduceMul, Int.reducePow, Int.reduceNeg, Int.reduceToNat, Int.reduceLT, Int.reduceLE, Nat.reduceEqDiff, sidsB, Nat.reduceBEq, keyKD, isIntK]
          refine CallC.of (clone_spec [1] (by decide)) (by rfl) ?_
          simp (config := { maxSteps := 1000000 }) (disch := ((try simp only [awL]); omega)) only [hG, nextC_more, nextC_over, bs_size, bs_extract, bs_toList, bs_append, byteAt_bs, bs_cells, nums_length, nums_getD, hL, cells_nums, ↓awU, awV, awF, ofVal, ofVal0, isShift, aggK, forall_const, ↓reduceIte, ↓reduceDIte, ↓purePost, combine, idsA, cellsA, numsOf, srcA, calleeA, refsA, isScalar, scalarD, scalar0, AV.one, putL, unfA, implies_true, IntKind.signed, Nat.reduceAdd, Nat.reduceSub, Nat.reduceMul, Nat.reducePow, Nat.reduceDiv, Nat.reduceMod, Int.reduceAdd, Int.reduceSub, Int.reduceMul, Int.reducePow, Int.reduceNeg, Int.reduceToNat, Int.reduceLT, Int.reduceLE, Nat.reduceEqDiff, sidsB, Nat.reduceBEq, keyKD, isIntK]
          refine LoopC.fr 422212465069220 (α := Nat) (fun i => L.length - i) (fun i => [(9, .d (W (toW (decNum (L.take i))))), (49, .d (.int .i64 i))])
            (fun _ => [.box [.d (.bool false), .d (.sl 0 true []), .d (.bool false), .d (.sl 0 true [])], .row true (nats .u32 [10]), .row false (ints .u8 (nums L))]) (fun i => i ≤ L.length) 0 (Nat.zero_le _) ?_ ?_
          · exact ⟨[some 0, some 1, some 2], rfl, by simp, by simp [setsA, keepA, SWeak, AWeak, decNum, toW_zero, nats], by simp [HWeak, BWeak, SWeak, AWeak, nats]⟩
          · intro i hi
            have lt := hsm i hi
            have nl := @nums_length L
            simp only [keepA_z8, keepA_z, keepA_cons, keepA_nil, setsA_nil, setsA_cons, List.set_cons_zero, List.set_cons_succ, set_8, Nat.reduceMod, Nat.reduceDiv, Nat.zero_mod, Nat.zero_ne_one, if_true, if_false, reduceIte]
            rcases Nat.lt_or_ge i L.length with h1 | h1
            · have hb := dig_range (hall _ (mem_getDU (d := 0) h1))
              have hp := decNum_push h1
              have ls := sz_small (n := (L.getD i 0).toNat - 48) (k := 2) (by omega)
              have e48 : ((L.getD i 0).toNat : Int) - 48 = (((L.getD i 0).toNat - 48 : Nat) : Int) := by omega
              have lm : (toW (decNum (L.take i) * 10)).length ≤ 40 := sz_small (Nat.lt_of_lt_of_le (hlt i hi) (by decide))
              simp (config := { maxSteps := 1000000 }) (disch := ((try simp only [awL]); omega)) only [hG, nextC_more, nextC_over, bs_size, bs_extract, bs_toList, bs_append, byteAt_bs, bs_cells, nums_length, nums_getD, nl, ↓awU, awV, awF, ofVal, ofVal0, isShift, aggK, forall_const, ↓reduceIte, ↓reduceDIte, ↓purePost, combine, idsA, cellsA, numsOf, srcA, calleeA, refsA, isScalar, scalarD, scalar0, AV.one, putL, unfA, implies_true, IntKind.signed, Nat.reduceAdd, Nat.reduceSub, Nat.reduceMul, Nat.reducePow, Nat.reduceDiv, Nat.reduceMod, Int.reduceAdd, Int.reduceSub, Int.reduceMul, Int.reducePow, Int.reduceNeg, Int.reduceToNat, Int.reduceLT, Int.reduceLE, Nat.reduceEqDiff, sidsB, Nat.reduceBEq, keyKD, isIntK]
              refine CallC.frozenE (times_spec (decNum (L.take i)) 10 (by omega) (by rw [toW_10]; decide)) (by rw [toW_10]; rfl) ?_
              simp (config := { maxSteps := 1000000 }) (disch := ((try simp only [awL]); omega)) only [hG, nextC_more, nextC_over, bs_size, bs_extract, bs_toList, bs_append, byteAt_bs, bs_cells, nums_length, nums_getD, nl, e48, ↓awU, awV, awF, ofVal, ofVal0, isShift, aggK, forall_const, ↓reduceIte, ↓reduceDIte, ↓purePost, combine, idsA, cellsA, numsOf, srcA, calleeA, refsA, isScalar, scalarD, scalar0, AV.one, putL, unfA, implies_true, IntKind.signed, Nat.reduceAdd, Nat.reduceSub, Nat.reduceMul, Nat.reducePow, Nat.reduceDiv, Nat.reduceMod, Int.reduceAdd, Int.reduceSub, Int.reduceMul, Int.reducePow, Int.reduceNeg, Int.reduceToNat, Int.reduceLT, Int.reduceLE, Nat.reduceEqDiff, sidsB, Nat.reduceBEq, keyKD, isIntK]
              refine CallC.pure (natural_spec ((L.getD i 0).toNat - 48) (by omega)) ?_
              simp (config := { maxSteps := 1000000 }) (disch := ((try simp only [awL]); omega)) only [hG, nextC_more, nextC_over, bs_size, bs_extract, bs_toList, bs_append, byteAt_bs, bs_cells, nums_length, nums_getD, nl, ↓awU, awV, awF, ofVal, ofVal0, isShift, aggK, forall_const, ↓reduceIte, ↓reduceDIte, ↓purePost, combine, idsA, cellsA, numsOf, srcA, calleeA, refsA, isScalar, scalarD, scalar0, AV.one, putL, unfA, implies_true, IntKind.signed, Nat.reduceAdd, Nat.reduceSub, Nat.reduceMul, Nat.reducePow, Nat.reduceDiv, Nat.reduceMod, Int.reduceAdd, Int.reduceSub, Int.reduceMul, Int.reducePow, Int.reduceNeg, Int.reduceToNat, Int.reduceLT, Int.reduceLE, Nat.reduceEqDiff, sidsB, Nat.reduceBEq, keyKD, isIntK]
              refine CallC.pure (plus_spec (decNum (L.take i) * 10) ((L.getD i 0).toNat - 48) (by omega) (by omega)) ?_
              rw [hp]
              simp (config := { maxSteps := 1000000 }) (disch := ((try simp only [awL]); omega)) only [hG, nextC_more, nextC_over, bs_size, bs_extract, bs_toList, bs_append, byteAt_bs, bs_cells, nums_length, nums_getD, nl, ↓awU, awV, awF, ofVal, ofVal0, isShift, aggK, forall_const, ↓reduceIte, ↓reduceDIte, ↓purePost, combine, idsA, cellsA, numsOf, srcA, calleeA, refsA, isScalar, scalarD, scalar0, AV.one, putL, unfA, implies_true, IntKind.signed, Nat.reduceAdd, Nat.reduceSub, Nat.reduceMul, Nat.reducePow, Nat.reduceDiv, Nat.reduceMod, Int.reduceAdd, Int.reduceSub, Int.reduceMul, Int.reducePow, Int.reduceNeg, Int.reduceToNat, Int.reduceLT, Int.reduceLE, Nat.reduceEqDiff, sidsB, Nat.reduceBEq, keyKD, isIntK]
              exact ⟨i + 1, h1, by simp only; omega, ⟨[some 0, some 1, some 2], rfl, by simp, by simp [setsA, keepA, SWeak, AWeak], by simp [HWeak, BWeak, SWeak, AWeak]⟩⟩
            · obtain rfl : i = L.length := by omega
              rw [List.take_length] at *
              simp (config := { maxSteps := 1000000 }) (disch := ((try simp only [awL]); omega)) only [hG, nextC_more, nextC_over, bs_size, bs_extract, bs_toList, bs_append, byteAt_bs, bs_cells, nums_length, nums_getD, nl, ↓awU, awV, awF, ofVal, ofVal0, isShift, aggK, forall_const, ↓reduceIte, ↓reduceDIte, ↓purePost, combine, idsA, cellsA, numsOf, srcA, calleeA, refsA, isScalar, scalarD, scalar0, AV.one, putL, unfA, implies_true, IntKind.signed, Nat.reduceAdd, Nat.reduceSub, Nat.reduceMul, Nat.reducePow, Nat.reduceDiv, Nat.reduceMod, Int.reduceAdd, Int.reduceSub, Int.reduceMul, Int.reducePow, Int.reduceNeg, Int.reduceToNat, Int.reduceLT, Int.reduceLE, Nat.reduceEqDiff, sidsB, Nat.reduceBEq, keyKD, isIntK]
              refine LoopC.fr 9223372036854777380 (α := Nat) (fun j => (decB s).length - j) (fun j => [(11, .d (W (toW (10 ^ j)))), (64, .d (.int .i64 j))])
                (fun _ => [.box [.d (.bool false), .d (.sl 0 true []), .d (.bool false), .d (.sl 0 true [])], .row true (nats .u32 [10]), .row false (ints .u8 (nums L))]) (fun j => j ≤ (decB s).length) 0 (Nat.zero_le _) ?_ ?_
              · exact ⟨[some 0, some 1, some 2], rfl, by simp, by simp [setsA, keepA, SWeak, AWeak, toW_one], by simp [HWeak, BWeak, SWeak, AWeak, nats]⟩
              · intro j hj
                have lj : (toW (10 ^ j)).length ≤ 10 := sz_small (Nat.pow_lt_pow_right (by decide) (by omega))
                simp only [keepA_z8, keepA_z, keepA_cons, keepA_nil, setsA_nil, setsA_cons, List.set_cons_zero, List.set_cons_succ, set_8, Nat.reduceMod, Nat.reduceDiv, Nat.zero_mod, Nat.zero_ne_one, if_true, if_false, reduceIte]
                rcases Nat.lt_or_ge j (decB s).length with h2 | h2
                · simp (config := { maxSteps := 1000000 }) (disch := ((try simp only [awL]); omega)) only [hG, nextC_more, nextC_over, bs_size, bs_extract, bs_toList, bs_append, byteAt_bs, bs_cells, nums_length, nums_getD, ↓awU, awV, awF, ofVal, ofVal0, isShift, aggK, forall_const, ↓reduceIte, ↓reduceDIte, ↓purePost, combine, idsA, cellsA, numsOf, srcA, calleeA, refsA, isScalar, scalarD, scalar0, AV.one, putL, unfA, implies_true, IntKind.signed, Nat.reduceAdd, Nat.reduceSub, Nat.reduceMul, Nat.reducePow, Nat.reduceDiv, Nat.reduceMod, Int.reduceAdd, Int.reduceSub, Int.reduceMul, Int.reducePow, Int.reduceNeg, Int.reduceToNat, Int.reduceLT, Int.reduceLE, Nat.reduceEqDiff, sidsB, Nat.reduceBEq, keyKD, isIntK]
                  refine CallC.frozenE (times_spec (10 ^ j) 10 (by omega) (by rw [toW_10]; decide)) (by rw [toW_10]; rfl) ?_
                  rw [← Nat.pow_succ]
                  simp (config := { maxSteps := 1000000 }) (disch := ((try simp only [awL]); omega)) only [hG, nextC_more, nextC_over, bs_size, bs_extract, bs_toList, bs_append, byteAt_bs, bs_cells, nums_length, nums_getD, ↓awU, awV, awF, ofVal, ofVal0, isShift, aggK, forall_const, ↓reduceIte, ↓reduceDIte, ↓purePost, combine, idsA, cellsA, numsOf, srcA, calleeA, refsA, isScalar, scalarD, scalar0, AV.one, putL, unfA, implies_true, IntKind.signed, Nat.reduceAdd, Nat.reduceSub, Nat.reduceMul, Nat.reducePow, Nat.reduceDiv, Nat.reduceMod, Int.reduceAdd, Int.reduceSub, Int.reduceMul, Int.reducePow, Int.reduceNeg, Int.reduceToNat, Int.reduceLT, Int.reduceLE, Nat.reduceEqDiff, sidsB, Nat.reduceBEq, keyKD, isIntK]
                  exact ⟨j + 1, h2, by simp only; omega, ⟨[some 0, some 1, some 2], rfl, by simp, by simp [setsA, keepA, SWeak, AWeak], by simp [HWeak, BWeak, SWeak, AWeak]⟩⟩
                · obtain rfl : j = (decB s).length := by omega
                  have hd0 : ((10 ^ (decB s).length : Nat) : Int) ≠ 0 := by
                    have : 0 < 10 ^ (decB s).length := Nat.pow_pos (by decide)
                    omega
                  simp (config := { maxSteps := 1000000 }) (disch := ((try simp only [awL]); omega)) only [hG, nextC_more, nextC_over, bs_size, bs_extract, bs_toList, bs_append, byteAt_bs, bs_cells, nums_length, nums_getD, ↓awU, awV, awF, ofVal, ofVal0, isShift, aggK, forall_const, ↓reduceIte, ↓reduceDIte, ↓purePost, combine, idsA, cellsA, numsOf, srcA, calleeA, refsA, isScalar, scalarD, scalar0, AV.one, putL, unfA, implies_true, IntKind.signed, Nat.reduceAdd, Nat.reduceSub, Nat.reduceMul, Nat.reducePow, Nat.reduceDiv, Nat.reduceMod, Int.reduceAdd, Int.reduceSub, Int.reduceMul, Int.reducePow, Int.reduceNeg, Int.reduceToNat, Int.reduceLT, Int.reduceLE, Nat.reduceEqDiff, sidsB, Nat.reduceBEq, keyKD, isIntK]
                  refine CallC.pure (signed_spec true (decNum L) (by omega)) ?_
                  simp (config := { maxSteps := 1000000 }) (disch := ((try simp only [awL]); omega)) only [hG, nextC_more, nextC_over, bs_size, bs_extract, bs_toList, bs_append, byteAt_bs, bs_cells, nums_length, nums_getD, ↓awU, awV, awF, ofVal, ofVal0, isShift, aggK, forall_const, ↓reduceIte, ↓reduceDIte, ↓purePost, combine, idsA, cellsA, numsOf, srcA, calleeA, refsA, isScalar, scalarD, scalar0, AV.one, putL, unfA, implies_true, IntKind.signed, Nat.reduceAdd, Nat.reduceSub, Nat.reduceMul, Nat.reducePow, Nat.reduceDiv, Nat.reduceMod, Int.reduceAdd, Int.reduceSub, Int.reduceMul, Int.reducePow, Int.reduceNeg, Int.reduceToNat, Int.reduceLT, Int.reduceLE, Nat.reduceEqDiff, sidsB, Nat.reduceBEq, keyKD, isIntK]
                  refine CallC.pure (signed_spec false (10 ^ (decB s).length) (by omega)) ?_
                  simp (config := { maxSteps := 1000000 }) (disch := ((try simp only [awL]); omega)) only [hG, nextC_more, nextC_over, bs_size, bs_extract, bs_toList, bs_append, byteAt_bs, bs_cells, nums_length, nums_getD, ↓awU, awV, awF, ofVal, ofVal0, isShift, aggK, forall_const, ↓reduceIte, ↓reduceDIte, ↓purePost, combine, idsA, cellsA, numsOf, srcA, calleeA, refsA, isScalar, scalarD, scalar0, AV.one, putL, unfA, implies_true, IntKind.signed, Nat.reduceAdd, Nat.reduceSub, Nat.reduceMul, Nat.reducePow, Nat.reduceDiv, Nat.reduceMod, Int.reduceAdd, Int.reduceSub, Int.reduceMul, Int.reducePow, Int.reduceNeg, Int.reduceToNat, Int.reduceLT, Int.reduceLE, Nat.reduceEqDiff, sidsB, Nat.reduceBEq, keyKD, isIntK]
                  refine CallC.of (reduced_spec (if true = true then -(decNum L : Int) else (decNum L : Int)) ((10 ^ (decB s).length : Nat) : Int) hd0 (by simp only [sz]; split <;> simp <;> omega) (by simp only [sz, Int.natAbs_natCast]; omega)) (by rfl) ?_
                  rw [← hdv]
                  simp (config := { maxSteps := 1000000 }) (disch := ((try simp only [awL]); omega)) only [hG, nextC_more, nextC_over, bs_size, bs_extract, bs_toList, bs_append, byteAt_bs, bs_cells, nums_length, nums_getD, ↓awU, awV, awF, ofVal, ofVal0, isShift, aggK, forall_const, ↓reduceIte, ↓reduceDIte, ↓purePost, combine, idsA, cellsA, numsOf, srcA, calleeA, refsA, isScalar, scalarD, scalar0, AV.one, putL, unfA, implies_true, IntKind.signed, Nat.reduceAdd, Nat.reduceSub, Nat.reduceMul, Nat.reducePow, Nat.reduceDiv, Nat.reduceMod, Int.reduceAdd, Int.reduceSub, Int.reduceMul, Int.reducePow, Int.reduceNeg, Int.reduceToNat, Int.reduceLT, Int.reduceLE, Nat.reduceEqDiff, sidsB, Nat.reduceBEq, keyKD, isIntK]
                  first | done | rfl
end Go.Proofs.YtkppgdialedoeaaGreatDoor

namespace Go.Proofs.YtkppgdialedoeaaGreatDoor
open Go Go.Proofs Go.Abs
variable {G : Globals}
/-! The reference's parts of a decimal. -/
def isD (c : UInt8) : Prop := 48 ≤ c.toNat ∧ c.toNat ≤ 57
theorem isD_iff {c : UInt8} : dig10.contains c = true ↔ isD c := by
  constructor
  · exact dig_range
  · intro h
    have hc : c = UInt8.ofNat c.toNat := by simp
    rw [hc]
    obtain ⟨h1, h2⟩ := h
    generalize c.toNat = n at *
    rcases (by omega : n = 48 ∨ n = 49 ∨ n = 50 ∨ n = 51 ∨ n = 52 ∨ n = 53 ∨ n = 54 ∨ n = 55 ∨ n = 56 ∨ n = 57) with rfl | rfl | rfl | rfl | rfl | rfl | rfl | rfl | rfl | rfl <;> rfl
theorem digB_iff {l : List UInt8} {m : Int} : digB l m = true ↔ 1 ≤ l.length ∧ (l.length : Int) ≤ m ∧ ∀ c ∈ l, isD c := by
  unfold digB
  rw [Bool.and_eq_true, decide_eq_true_eq, List.all_eq_true, and_assoc]
  constructor
  · rintro ⟨h1, h2, h3⟩; exact ⟨h1, h2, fun c hc => isD_iff.1 (h3 c hc)⟩
  · rintro ⟨h1, h2, h3⟩; exact ⟨h1, h2, fun c hc => isD_iff.2 (h3 c hc)⟩
theorem cut_first {c : UInt8} : ∀ {b : List UInt8} {k : Nat}, (∀ d ∈ b.take k, d ≠ c) → k < b.length → b.getD k 0 = c → c ∈ b ∧ cutL c b = b.take k ∧ cutR c b = b.drop (k + 1)
  | [], k, _, h, _ => by cases h
  | d :: l, 0, _, _, e => by
    obtain rfl : d = c := by simpa using e
    simp [cutL, cutR]
  | d :: l, k + 1, h, hk, e => by
    have hd : d ≠ c := h d (by simp)
    obtain ⟨h1, h2, h3⟩ := cut_first (b := l) (k := k) (fun x hx => h x (by simp [hx])) (by simpa using hk) (by simpa using e)
    simp [cutL, cutR, hd, h1, h2, h3]
theorem not_isD_46 {c : UInt8} (h : isD c) : c ≠ 46 := fun e => by subst e; obtain ⟨h1, _⟩ := h; exact absurd h1 (by decide)
theorem cut_all : ∀ {b : List UInt8}, (∀ d ∈ b, isD d) → (46 : UInt8) ∉ b ∧ cutL 46 b = b ∧ cutR 46 b = []
  | b, h => by
    have hm : (46 : UInt8) ∉ b := fun hm => not_isD_46 (h _ hm) rfl
    exact ⟨hm, ((cut_index 46 b).2 hm).2⟩
theorem cut_bad : ∀ {b : List UInt8} {k : Nat}, (∀ d ∈ b.take k, isD d) → k < b.length → ¬ isD (b.getD k 0) → b.getD k 0 ≠ 46 → ∃ c ∈ cutL 46 b, ¬ isD c
  | [], k, _, h, _, _ => by cases h
  | d :: l, 0, _, _, e, e2 => by
    have e2 : d ≠ 46 := by simpa using e2
    exact ⟨d, by simp [cutL, e2], by simpa using e⟩
  | d :: l, k + 1, h, hk, e, e2 => by
    have hd : d ≠ 46 := not_isD_46 (h d (by simp))
    obtain ⟨c, h1, h2⟩ := cut_bad (b := l) (k := k) (fun x hx => h x (by simp [hx])) (by simpa using hk) (by simpa using e) (by simpa using e2)
    exact ⟨c, by simp [cutL, hd, h1], h2⟩
def okB (b : List UInt8) : Bool := digB (cutL 46 b) 15 && (!decide (46 ∈ b) || digB (cutR 46 b) 9)
/-- Fewer than one digit, or more than 15, in front. -/
theorem ok_front {b : List UInt8} {k : Nat} (hk : k ≤ b.length) (h1 : ∀ c ∈ b.take k, isD c) (h2 : k < b.length → ¬ isD (b.getD k 0)) (h : k < 1 ∨ 15 < k) : okB b = false := by
  cases e : okB b with
  | false => rfl
  | true =>
    exfalso
    unfold okB at e
    rw [Bool.and_eq_true] at e
    obtain ⟨q1, q2, q3⟩ := digB_iff.1 e.1
    rcases Nat.lt_or_ge k b.length with hl | hl
    · by_cases h46 : b.getD k 0 = 46
      · obtain ⟨_, e1, _⟩ := cut_first (c := 46) (fun d hd => not_isD_46 (h1 d hd)) hl h46
        rw [e1, List.length_take] at q1 q2
        omega
      · obtain ⟨c, c1, c2⟩ := cut_bad h1 hl (h2 hl) h46
        exact c2 (q3 c c1)
    · obtain rfl : k = b.length := by omega
      rw [List.take_length] at h1
      obtain ⟨_, e1, _⟩ := cut_all h1
      rw [e1] at q1 q2
      omega
theorem ok_whole {b : List UInt8} (h1 : ∀ c ∈ b, isD c) (h3 : 1 ≤ b.length) (h4 : b.length ≤ 15) : okB b = true ∧ cutL 46 b = b ∧ cutR 46 b = [] := by
  obtain ⟨e1, e2, e3⟩ := cut_all h1
  refine ⟨?_, e2, e3⟩
  unfold okB
  rw [e2, digB_iff.2 ⟨h3, by omega, h1⟩, decide_eq_false e1]
  rfl
theorem ok_bad {b : List UInt8} {k : Nat} (h1 : ∀ c ∈ b.take k, isD c) (hl : k < b.length) (h2 : ¬ isD (b.getD k 0)) (h46 : b.getD k 0 ≠ 46) : okB b = false := by
  cases e : okB b with
  | false => rfl
  | true =>
    unfold okB at e
    rw [Bool.and_eq_true] at e
    obtain ⟨c, c1, c2⟩ := cut_bad h1 hl h2 h46
    exact absurd ((digB_iff.1 e.1).2.2 c c1) c2
theorem ok_point {b : List UInt8} {k : Nat} (h1 : ∀ c ∈ b.take k, isD c) (hl : k < b.length) (h46 : b.getD k 0 = 46) (h3 : 1 ≤ k) (h4 : k ≤ 15) :
    okB b = digB (b.drop (k + 1)) 9 ∧ cutL 46 b = b.take k ∧ cutR 46 b = b.drop (k + 1) := by
  obtain ⟨e0, e1, e2⟩ := cut_first (c := 46) (fun d hd => not_isD_46 (h1 d hd)) hl h46
  refine ⟨?_, e1, e2⟩
  unfold okB
  rw [e1, e2, digB_iff.2 ⟨by rw [List.length_take]; omega, by rw [List.length_take]; omega, h1⟩, decide_eq_true e0]
  simp
theorem take_next {b : List UInt8} {k : Nat} {p : UInt8 → Prop} (h : ∀ c ∈ b.take k, p c) (hk : k < b.length) (hp : p (b.getD k 0)) : ∀ c ∈ b.take (k + 1), p c := by
  rw [take_snoc hk]
  intro c hc
  rcases List.mem_append.1 hc with h' | h'
  · exact h c h'
  · simp at h'; subst h'
    simpa using hp
def partsD (neg : Bool) (b : List UInt8) : D := .tup [.bool (okB b && neg), S (if okB b = true then cutL 46 b else []), S (if okB b = true then cutR 46 b else []), .bool (okB b)]
set_option maxHeartbeats 4000000 in
set_option maxRecDepth 100000 in
theorem rparts_spec (s : List UInt8) (hs : s.length ≤ 1000) : Ctr Tryz.prog G 92 [.d (S s)] [] (.d (partsD (decNeg s) (decBody s))) [] := by
  refine Ctr.pure (M := M0) hmix Tryz.func92 rfl go92 ?_
  have hb : (decBody s).length ≤ s.length := by
    unfold decBody
    split
    · simp
    · split <;> simp
  have hcase : (s = [] ∧ decBody s = s ∧ decNeg s = false) ∨ (0 < s.length ∧ (s.getD 0 0).toNat = 45 ∧ decBody s = s.drop 1 ∧ decNeg s = true) ∨ (0 < s.length ∧ (s.getD 0 0).toNat = 43 ∧ decBody s = s.drop 1 ∧ decNeg s = false) ∨ (0 < s.length ∧ (s.getD 0 0).toNat ≠ 45 ∧ (s.getD 0 0).toNat ≠ 43 ∧ decBody s = s ∧ decNeg s = false) := by
    rcases s with _ | ⟨c, r⟩
    · exact .inl ⟨rfl, rfl, rfl⟩
    · by_cases e1 : c = 45
      · subst e1; exact .inr (.inl ⟨by simp, rfl, rfl, rfl⟩)
      · by_cases e2 : c = 43
        · subst e2; exact .inr (.inr (.inl ⟨by simp, rfl, rfl, rfl⟩))
        · have n1 : hasP (c :: r) [45] = false := by simp [hasP, e1]
          have n2 : hasP (c :: r) [43] = false := by simp [hasP, e2]
          refine .inr (.inr (.inr ⟨by simp, fun h => e1 (UInt8.toNat_inj.1 h), fun h => e2 (UInt8.toNat_inj.1 h), by simp [decBody, n1, n2], n1⟩))
  rcases hcase with ⟨c1, c2, c3⟩ | ⟨c0, c1, c2, c3⟩ | ⟨c0, c1, c2, c3⟩ | ⟨c0, c1, c1', c2, c3⟩
  · subst c1
    simp (config := { maxSteps := 1000000 }) (disch := ((try simp only [awL]); omega)) only [nextC_more, nextC_over, bs_size, bs_extract, bs_toList, bs_append, byteAt_bs, bs_cells, nums_length, nums_getD, Tryz.f92, ↓awU, awV, awF, ofVal, ofVal0, isShift, aggK, forall_const, ↓reduceIte, ↓reduceDIte, ↓purePost, combine, idsA, cellsA, numsOf, srcA, calleeA, refsA, isScalar, scalarD, scalar0, AV.one, putL, unfA, implies_true, IntKind.signed, Nat.reduceAdd, Nat.reduceSub, Nat.reduceMul, Nat.reducePow, Nat.reduceDiv, Nat.reduceMod, Int.reduceAdd, Int.reduceSub, Int.reduceMul, Int.reducePow, Int.reduceNeg, Int.reduceToNat, Int.reduceLT, Int.reduceLE, Nat.reduceEqDiff, sidsB, Nat.reduceBEq, keyKD, isIntK]
    have hb : ([] : List UInt8).length ≤ 0 := Nat.le_refl _
    rw [c2, c3]
    refine LoopC.fr 4642343326489650161095016453 (α := Nat) (fun k => 0 - k) (fun k => [(6, .d (.int .i64 k))]) (fun _ => []) (fun k => k = 0) 0 rfl ?_ ?_
    · exact ⟨[], rfl, by simp, by simp [setsA, keepA, SWeak, AWeak], by simp [HWeak, BWeak, SWeak, AWeak]⟩
    · rintro k rfl
      simp only [keepA_z8, keepA_z, keepA_cons, keepA_nil, setsA_nil, setsA_cons, List.set_cons_zero, List.set_cons_succ, set_8, Nat.reduceMod, Nat.reduceDiv, Nat.zero_mod, Nat.zero_ne_one, if_true, if_false, reduceIte]
      have e0 : okB [] = false := rfl
      unfold partsD
      rw [e0]
      simp (config := { maxSteps := 1000000 }) (disch := ((try simp only [awL]); omega)) only [nextC_more, nextC_over, bs_size, bs_extract, bs_toList, bs_append, byteAt_bs, bs_cells, nums_length, nums_getD, ↓awU, awV, awF, ofVal, ofVal0, isShift, aggK, forall_const, ↓reduceIte, ↓reduceDIte, ↓purePost, combine, idsA, cellsA, numsOf, srcA, calleeA, refsA, isScalar, scalarD, scalar0, AV.one, putL, unfA, implies_true, IntKind.signed, Nat.reduceAdd, Nat.reduceSub, Nat.reduceMul, Nat.reducePow, Nat.reduceDiv, Nat.reduceMod, Int.reduceAdd, Int.reduceSub, Int.reduceMul, Int.reducePow, Int.reduceNeg, Int.reduceToNat, Int.reduceLT, Int.reduceLE, Nat.reduceEqDiff, sidsB, Nat.reduceBEq, keyKD, isIntK]
      first | done | rfl
  · simp (config := { maxSteps := 1000000 }) (disch := ((try simp only [awL]); omega)) only [nextC_more, nextC_over, bs_size, bs_extract, bs_toList, bs_append, byteAt_bs, bs_cells, nums_length, nums_getD, Tryz.f92, ↓awU, awV, awF, ofVal, ofVal0, isShift, aggK, forall_const, ↓reduceIte, ↓reduceDIte, ↓purePost, combine, idsA, cellsA, numsOf, srcA, calleeA, refsA, isScalar, scalarD, scalar0, AV.one, putL, unfA, implies_true, IntKind.signed, Nat.reduceAdd, Nat.reduceSub, Nat.reduceMul, Nat.reducePow, Nat.reduceDiv, Nat.reduceMod, Int.reduceAdd, Int.reduceSub, Int.reduceMul, Int.reducePow, Int.reduceNeg, Int.reduceToNat, Int.reduceLT, Int.reduceLE, Nat.reduceEqDiff, sidsB, Nat.reduceBEq, keyKD, isIntK]
    refine ⟨by rfl, ?_⟩
    rw [c2] at hb
    generalize hB : List.drop 1 s = b at *
    rw [c2, c3]
    refine LoopC.fr 4642343326489650161095016453 (α := Nat) (fun k => b.length - k) (fun k => [(6, .d (.int .i64 k))]) (fun _ => []) (fun k => k ≤ b.length ∧ ∀ c ∈ b.take k, isD c) 0 ⟨Nat.zero_le _, by simp⟩ ?_ ?_
    · exact ⟨[], rfl, by simp, by simp [setsA, keepA, SWeak, AWeak], by simp [HWeak, BWeak, SWeak, AWeak]⟩
    · rintro k ⟨hk, hd⟩
      simp only [keepA_z8, keepA_z, keepA_cons, keepA_nil, setsA_nil, setsA_cons, List.set_cons_zero, List.set_cons_succ, set_8, Nat.reduceMod, Nat.reduceDiv, Nat.zero_mod, Nat.zero_ne_one, if_true, if_false, reduceIte]
      have fin : (k < b.length → ¬ isD (b.getD k 0)) → ∀ K : Prop, ((k < 1 ∨ 15 < k → okB b = false → K) ∧ (1 ≤ k → k ≤ 15 → k = b.length → okB b = true ∧ cutL 46 b = b ∧ cutR 46 b = [] → K) ∧ (1 ≤ k → k ≤ 15 → k < b.length → (b.getD k 0).toNat ≠ 46 → okB b = false → K) ∧
          (1 ≤ k → k ≤ 15 → k < b.length → (b.getD k 0).toNat = 46 → okB b = digB (b.drop (k + 1)) 9 → cutL 46 b = b.take k → cutR 46 b = b.drop (k + 1) → K)) → K := by
        rintro hn K ⟨k1, k2, k3, k4⟩
        by_cases q : k < 1 ∨ 15 < k
        · exact k1 q (ok_front hk hd hn q)
        · rcases Nat.lt_or_ge k b.length with hl | hl
          · by_cases h46 : b.getD k 0 = 46
            · obtain ⟨x1, x2, x3⟩ := ok_point hd hl h46 (by omega) (by omega)
              exact k4 (by omega) (by omega) hl (by rw [h46]; rfl) x1 x2 x3
            · exact k3 (by omega) (by omega) hl (fun e => h46 (UInt8.toNat_inj.1 e)) (ok_bad hd hl (hn hl) h46)
          · obtain rfl : k = b.length := by omega
            rw [List.take_length] at hd
            exact k2 (by omega) (by omega) rfl (ok_whole hd (by omega) (by omega))
      rcases Nat.lt_or_ge k b.length with hl | hl
      · by_cases hg : isD (b.getD k 0)
        · have hg1 := hg.1
          have hg2 := hg.2
          simp (config := { maxSteps := 1000000 }) (disch := ((try simp only [awL]); omega)) only [nextC_more, nextC_over, bs_size, bs_extract, bs_toList, bs_append, byteAt_bs, bs_cells, nums_length, nums_getD, ↓awU, awV, awF, ofVal, ofVal0, isShift, aggK, forall_const, ↓reduceIte, ↓reduceDIte, ↓purePost, combine, idsA, cellsA, numsOf, srcA, calleeA, refsA, isScalar, scalarD, scalar0, AV.one, putL, unfA, implies_true, IntKind.signed, Nat.reduceAdd, Nat.reduceSub, Nat.reduceMul, Nat.reducePow, Nat.reduceDiv, Nat.reduceMod, Int.reduceAdd, Int.reduceSub, Int.reduceMul, Int.reducePow, Int.reduceNeg, Int.reduceToNat, Int.reduceLT, Int.reduceLE, Nat.reduceEqDiff, sidsB, Nat.reduceBEq, keyKD, isIntK]
          exact ⟨k + 1, ⟨hl, take_next hd hl hg⟩, by simp only; omega, ⟨[], rfl, by simp, by simp [setsA, keepA, SWeak, AWeak], by simp [HWeak, BWeak, SWeak, AWeak]⟩⟩
        · have hg' : (b.getD k 0).toNat < 48 ∨ 57 < (b.getD k 0).toNat := by unfold isD at hg; omega
          rcases hg' with hg' | hg'
          · refine fin (fun _ => hg) _ ⟨fun q1 q2 => ?_, fun q1 q2 q3 => by omega, fun q1 q2 q3 q4 q5 => ?_, fun q1 q2 q3 q4 q5 q6 q7 => ?_⟩
            · rcases q1 with q1 | q1
              · unfold partsD
                rw [q2]
                simp (config := { maxSteps := 1000000 }) (disch := ((try simp only [awL]); omega)) only [nextC_more, nextC_over, bs_size, bs_extract, bs_toList, bs_append, byteAt_bs, bs_cells, nums_length, nums_getD, ↓awU, awV, awF, ofVal, ofVal0, isShift, aggK, forall_const, ↓reduceIte, ↓reduceDIte, ↓purePost, combine, idsA, cellsA, numsOf, srcA, calleeA, refsA, isScalar, scalarD, scalar0, AV.one, putL, unfA, implies_true, IntKind.signed, Nat.reduceAdd, Nat.reduceSub, Nat.reduceMul, Nat.reducePow, Nat.reduceDiv, Nat.reduceMod, Int.reduceAdd, Int.reduceSub, Int.reduceMul, Int.reducePow, Int.reduceNeg, Int.reduceToNat, Int.reduceLT, Int.reduceLE, Nat.reduceEqDiff, sidsB, Nat.reduceBEq, keyKD, isIntK]
                first | done | rfl
              · unfold partsD
                rw [q2]
                simp (config := { maxSteps := 1000000 }) (disch := ((try simp only [awL]); omega)) only [nextC_more, nextC_over, bs_size, bs_extract, bs_toList, bs_append, byteAt_bs, bs_cells, nums_length, nums_getD, ↓awU, awV, awF, ofVal, ofVal0, isShift, aggK, forall_const, ↓reduceIte, ↓reduceDIte, ↓purePost, combine, idsA, cellsA, numsOf, srcA, calleeA, refsA, isScalar, scalarD, scalar0, AV.one, putL, unfA, implies_true, IntKind.signed, Nat.reduceAdd, Nat.reduceSub, Nat.reduceMul, Nat.reducePow, Nat.reduceDiv, Nat.reduceMod, Int.reduceAdd, Int.reduceSub, Int.reduceMul, Int.reducePow, Int.reduceNeg, Int.reduceToNat, Int.reduceLT, Int.reduceLE, Nat.reduceEqDiff, sidsB, Nat.reduceBEq, keyKD, isIntK]
                first | done | rfl
            · unfold partsD
              rw [q5]
              simp (config := { maxSteps := 1000000 }) (disch := ((try simp only [awL]); omega)) only [nextC_more, nextC_over, bs_size, bs_extract, bs_toList, bs_append, byteAt_bs, bs_cells, nums_length, nums_getD, ↓awU, awV, awF, ofVal, ofVal0, isShift, aggK, forall_const, ↓reduceIte, ↓reduceDIte, ↓purePost, combine, idsA, cellsA, numsOf, srcA, calleeA, refsA, isScalar, scalarD, scalar0, AV.one, putL, unfA, implies_true, IntKind.signed, Nat.reduceAdd, Nat.reduceSub, Nat.reduceMul, Nat.reducePow, Nat.reduceDiv, Nat.reduceMod, Int.reduceAdd, Int.reduceSub, Int.reduceMul, Int.reducePow, Int.reduceNeg, Int.reduceToNat, Int.reduceLT, Int.reduceLE, Nat.reduceEqDiff, sidsB, Nat.reduceBEq, keyKD, isIntK]
              first | done | rfl
            · skip
              have hp3 : (b.drop (k + 1)).length = b.length - (k + 1) := List.length_drop ..
              have hlk : (b.take k).length = k := by rw [List.length_take]; omega
              unfold partsD
              rw [q5, q6, q7]
              generalize hP : b.drop (k + 1) = p at *
              by_cases hp1 : p.length < 1
              · have e0 : digB p 9 = false := by
                  cases e : digB p 9 with
                  | false => rfl
                  | true => have := (digB_iff.1 e).1; omega
                rw [e0]
                simp (config := { maxSteps := 1000000 }) (disch := ((try simp only [awL]); omega)) only [nextC_more, nextC_over, bs_size, bs_extract, bs_toList, bs_append, byteAt_bs, bs_cells, nums_length, nums_getD, hP, ↓awU, awV, awF, ofVal, ofVal0, isShift, aggK, forall_const, ↓reduceIte, ↓reduceDIte, ↓purePost, combine, idsA, cellsA, numsOf, srcA, calleeA, refsA, isScalar, scalarD, scalar0, AV.one, putL, unfA, implies_true, IntKind.signed, Nat.reduceAdd, Nat.reduceSub, Nat.reduceMul, Nat.reducePow, Nat.reduceDiv, Nat.reduceMod, Int.reduceAdd, Int.reduceSub, Int.reduceMul, Int.reducePow, Int.reduceNeg, Int.reduceToNat, Int.reduceLT, Int.reduceLE, Nat.reduceEqDiff, sidsB, Nat.reduceBEq, keyKD, isIntK]
                first | done | rfl
              · by_cases hp2 : 9 < p.length
                · have e0 : digB p 9 = false := by
                    cases e : digB p 9 with
                    | false => rfl
                    | true => have := (digB_iff.1 e).2.1; omega
                  rw [e0]
                  simp (config := { maxSteps := 1000000 }) (disch := ((try simp only [awL]); omega)) only [nextC_more, nextC_over, bs_size, bs_extract, bs_toList, bs_append, byteAt_bs, bs_cells, nums_length, nums_getD, hP, ↓awU, awV, awF, ofVal, ofVal0, isShift, aggK, forall_const, ↓reduceIte, ↓reduceDIte, ↓purePost, combine, idsA, cellsA, numsOf, srcA, calleeA, refsA, isScalar, scalarD, scalar0, AV.one, putL, unfA, implies_true, IntKind.signed, Nat.reduceAdd, Nat.reduceSub, Nat.reduceMul, Nat.reducePow, Nat.reduceDiv, Nat.reduceMod, Int.reduceAdd, Int.reduceSub, Int.reduceMul, Int.reducePow, Int.reduceNeg, Int.reduceToNat, Int.reduceLT, Int.reduceLE, Nat.reduceEqDiff, sidsB, Nat.reduceBEq, keyKD, isIntK]
                  first | done | rfl
                · simp (config := { maxSteps := 1000000 }) (disch := ((try simp only [awL]); omega)) only [nextC_more, nextC_over, bs_size, bs_extract, bs_toList, bs_append, byteAt_bs, bs_cells, nums_length, nums_getD, hP, ↓awU, awV, awF, ofVal, ofVal0, isShift, aggK, forall_const, ↓reduceIte, ↓reduceDIte, ↓purePost, combine, idsA, cellsA, numsOf, srcA, calleeA, refsA, isScalar, scalarD, scalar0, AV.one, putL, unfA, implies_true, IntKind.signed, Nat.reduceAdd, Nat.reduceSub, Nat.reduceMul, Nat.reducePow, Nat.reduceDiv, Nat.reduceMod, Int.reduceAdd, Int.reduceSub, Int.reduceMul, Int.reducePow, Int.reduceNeg, Int.reduceToNat, Int.reduceLT, Int.reduceLE, Nat.reduceEqDiff, sidsB, Nat.reduceBEq, keyKD, isIntK]
                  refine LoopC.fr 0 (α := Nat) (fun i => p.length - i) (fun i => [(2, .d (.bool true)), (3, .d (S (b.take k))), (4, .d (S p)), (7, .d (.int .i64 i))]) (fun _ => []) (fun i => i ≤ p.length ∧ ∀ c ∈ p.take i, isD c) 0 ⟨Nat.zero_le _, by simp⟩ ?_ ?_
                  · exact ⟨[], rfl, by simp, by simp [setsA, keepA, SWeak, AWeak], by simp [HWeak, BWeak, SWeak, AWeak]⟩
                  · rintro i ⟨hi, hdi⟩
                    simp only [keepA_z8, keepA_z, keepA_cons, keepA_nil, setsA_nil, setsA_cons, List.set_cons_zero, List.set_cons_succ, set_8, Nat.reduceMod, Nat.reduceDiv, Nat.zero_mod, Nat.zero_ne_one, if_true, if_false, reduceIte]
                    rcases Nat.lt_or_ge i p.length with hil | hil
                    · by_cases hgi : isD (p.getD i 0)
                      · have hg1 := hgi.1
                        have hg2 := hgi.2
                        simp (config := { maxSteps := 1000000 }) (disch := ((try simp only [awL]); omega)) only [nextC_more, nextC_over, bs_size, bs_extract, bs_toList, bs_append, byteAt_bs, bs_cells, nums_length, nums_getD, ↓awU, awV, awF, ofVal, ofVal0, isShift, aggK, forall_const, ↓reduceIte, ↓reduceDIte, ↓purePost, combine, idsA, cellsA, numsOf, srcA, calleeA, refsA, isScalar, scalarD, scalar0, AV.one, putL, unfA, implies_true, IntKind.signed, Nat.reduceAdd, Nat.reduceSub, Nat.reduceMul, Nat.reducePow, Nat.reduceDiv, Nat.reduceMod, Int.reduceAdd, Int.reduceSub, Int.reduceMul, Int.reducePow, Int.reduceNeg, Int.reduceToNat, Int.reduceLT, Int.reduceLE, Nat.reduceEqDiff, sidsB, Nat.reduceBEq, keyKD, isIntK]
                        exact ⟨i + 1, ⟨hil, take_next hdi hil hgi⟩, by simp only; omega, ⟨[], rfl, by simp, by simp [setsA, keepA, SWeak, AWeak], by simp [HWeak, BWeak, SWeak, AWeak]⟩⟩
                      · have e0 : digB p 9 = false := by
                          cases e : digB p 9 with
                          | false => rfl
                          | true => exact absurd ((digB_iff.1 e).2.2 _ (mem_getDU hil)) hgi
                        have hg' : (p.getD i 0).toNat < 48 ∨ 57 < (p.getD i 0).toNat := by unfold isD at hgi; omega
                        rw [e0]
                        rcases hg' with hg' | hg'
                        · simp (config := { maxSteps := 1000000 }) (disch := ((try simp only [awL]); omega)) only [nextC_more, nextC_over, bs_size, bs_extract, bs_toList, bs_append, byteAt_bs, bs_cells, nums_length, nums_getD, ↓awU, awV, awF, ofVal, ofVal0, isShift, aggK, forall_const, ↓reduceIte, ↓reduceDIte, ↓purePost, combine, idsA, cellsA, numsOf, srcA, calleeA, refsA, isScalar, scalarD, scalar0, AV.one, putL, unfA, implies_true, IntKind.signed, Nat.reduceAdd, Nat.reduceSub, Nat.reduceMul, Nat.reducePow, Nat.reduceDiv, Nat.reduceMod, Int.reduceAdd, Int.reduceSub, Int.reduceMul, Int.reducePow, Int.reduceNeg, Int.reduceToNat, Int.reduceLT, Int.reduceLE, Nat.reduceEqDiff, sidsB, Nat.reduceBEq, keyKD, isIntK]
                          first | done | rfl
                        · simp (config := { maxSteps := 1000000 }) (disch := ((try simp only [awL]); omega)) only [nextC_more, nextC_over, bs_size, bs_extract, bs_toList, bs_append, byteAt_bs, bs_cells, nums_length, nums_getD, ↓awU, awV, awF, ofVal, ofVal0, isShift, aggK, forall_const, ↓reduceIte, ↓reduceDIte, ↓purePost, combine, idsA, cellsA, numsOf, srcA, calleeA, refsA, isScalar, scalarD, scalar0, AV.one, putL, unfA, implies_true, IntKind.signed, Nat.reduceAdd, Nat.reduceSub, Nat.reduceMul, Nat.reducePow, Nat.reduceDiv, Nat.reduceMod, Int.reduceAdd, Int.reduceSub, Int.reduceMul, Int.reducePow, Int.reduceNeg, Int.reduceToNat, Int.reduceLT, Int.reduceLE, Nat.reduceEqDiff, sidsB, Nat.reduceBEq, keyKD, isIntK]
                          first | done | rfl
                    · obtain rfl : i = p.length := by omega
                      rw [List.take_length] at hdi
                      have e0 : digB p 9 = true := digB_iff.2 ⟨by omega, by omega, hdi⟩
                      rw [e0]
                      simp (config := { maxSteps := 1000000 }) (disch := ((try simp only [awL]); omega)) only [nextC_more, nextC_over, bs_size, bs_extract, bs_toList, bs_append, byteAt_bs, bs_cells, nums_length, nums_getD, ↓awU, awV, awF, ofVal, ofVal0, isShift, aggK, forall_const, ↓reduceIte, ↓reduceDIte, ↓purePost, combine, idsA, cellsA, numsOf, srcA, calleeA, refsA, isScalar, scalarD, scalar0, AV.one, putL, unfA, implies_true, IntKind.signed, Nat.reduceAdd, Nat.reduceSub, Nat.reduceMul, Nat.reducePow, Nat.reduceDiv, Nat.reduceMod, Int.reduceAdd, Int.reduceSub, Int.reduceMul, Int.reducePow, Int.reduceNeg, Int.reduceToNat, Int.reduceLT, Int.reduceLE, Nat.reduceEqDiff, sidsB, Nat.reduceBEq, keyKD, isIntK]
                      first | done | rfl
          · refine fin (fun _ => hg) _ ⟨fun q1 q2 => ?_, fun q1 q2 q3 => by omega, fun q1 q2 q3 q4 q5 => ?_, fun q1 q2 q3 q4 q5 q6 q7 => ?_⟩
            · rcases q1 with q1 | q1
              · unfold partsD
                rw [q2]
                simp (config := { maxSteps := 1000000 }) (disch := ((try simp only [awL]); omega)) only [nextC_more, nextC_over, bs_size, bs_extract, bs_toList, bs_append, byteAt_bs, bs_cells, nums_length, nums_getD, ↓awU, awV, awF, ofVal, ofVal0, isShift, aggK, forall_const, ↓reduceIte, ↓reduceDIte, ↓purePost, combine, idsA, cellsA, numsOf, srcA, calleeA, refsA, isScalar, scalarD, scalar0, AV.one, putL, unfA, implies_true, IntKind.signed, Nat.reduceAdd, Nat.reduceSub, Nat.reduceMul, Nat.reducePow, Nat.reduceDiv, Nat.reduceMod, Int.reduceAdd, Int.reduceSub, Int.reduceMul, Int.reducePow, Int.reduceNeg, Int.reduceToNat, Int.reduceLT, Int.reduceLE, Nat.reduceEqDiff, sidsB, Nat.reduceBEq, keyKD, isIntK]
                first | done | rfl
              · unfold partsD
                rw [q2]
                simp (config := { maxSteps := 1000000 }) (disch := ((try simp only [awL]); omega)) only [nextC_more, nextC_over, bs_size, bs_extract, bs_toList, bs_append, byteAt_bs, bs_cells, nums_length, nums_getD, ↓awU, awV, awF, ofVal, ofVal0, isShift, aggK, forall_const, ↓reduceIte, ↓reduceDIte, ↓purePost, combine, idsA, cellsA, numsOf, srcA, calleeA, refsA, isScalar, scalarD, scalar0, AV.one, putL, unfA, implies_true, IntKind.signed, Nat.reduceAdd, Nat.reduceSub, Nat.reduceMul, Nat.reducePow, Nat.reduceDiv, Nat.reduceMod, Int.reduceAdd, Int.reduceSub, Int.reduceMul, Int.reducePow, Int.reduceNeg, Int.reduceToNat, Int.reduceLT, Int.reduceLE, Nat.reduceEqDiff, sidsB, Nat.reduceBEq, keyKD, isIntK]
                first | done | rfl
            · unfold partsD
              rw [q5]
              simp (config := { maxSteps := 1000000 }) (disch := ((try simp only [awL]); omega)) only [nextC_more, nextC_over, bs_size, bs_extract, bs_toList, bs_append, byteAt_bs, bs_cells, nums_length, nums_getD, ↓awU, awV, awF, ofVal, ofVal0, isShift, aggK, forall_const, ↓reduceIte, ↓reduceDIte, ↓purePost, combine, idsA, cellsA, numsOf, srcA, calleeA, refsA, isScalar, scalarD, scalar0, AV.one, putL, unfA, implies_true, IntKind.signed, Nat.reduceAdd, Nat.reduceSub, Nat.reduceMul, Nat.reducePow, Nat.reduceDiv, Nat.reduceMod, Int.reduceAdd, Int.reduceSub, Int.reduceMul, Int.reducePow, Int.reduceNeg, Int.reduceToNat, Int.reduceLT, Int.reduceLE, Nat.reduceEqDiff, sidsB, Nat.reduceBEq, keyKD, isIntK]
              first | done | rfl
            · omega
      · obtain rfl : k = b.length := by omega
        refine fin (fun h => absurd h (Nat.lt_irrefl _)) _ ⟨fun q1 q2 => ?_, fun q1 q2 q3 q4 => ?_, fun q1 q2 q3 => by omega, fun q1 q2 q3 => by omega⟩
        · rcases q1 with q1 | q1
          · unfold partsD
            rw [q2]
            simp (config := { maxSteps := 1000000 }) (disch := ((try simp only [awL]); omega)) only [nextC_more, nextC_over, bs_size, bs_extract, bs_toList, bs_append, byteAt_bs, bs_cells, nums_length, nums_getD, ↓awU, awV, awF, ofVal, ofVal0, isShift, aggK, forall_const, ↓reduceIte, ↓reduceDIte, ↓purePost, combine, idsA, cellsA, numsOf, srcA, calleeA, refsA, isScalar, scalarD, scalar0, AV.one, putL, unfA, implies_true, IntKind.signed, Nat.reduceAdd, Nat.reduceSub, Nat.reduceMul, Nat.reducePow, Nat.reduceDiv, Nat.reduceMod, Int.reduceAdd, Int.reduceSub, Int.reduceMul, Int.reducePow, Int.reduceNeg, Int.reduceToNat, Int.reduceLT, Int.reduceLE, Nat.reduceEqDiff, sidsB, Nat.reduceBEq, keyKD, isIntK]
            first | done | rfl
          · unfold partsD
            rw [q2]
            simp (config := { maxSteps := 1000000 }) (disch := ((try simp only [awL]); omega)) only [nextC_more, nextC_over, bs_size, bs_extract, bs_toList, bs_append, byteAt_bs, bs_cells, nums_length, nums_getD, ↓awU, awV, awF, ofVal, ofVal0, isShift, aggK, forall_const, ↓reduceIte, ↓reduceDIte, ↓purePost, combine, idsA, cellsA, numsOf, srcA, calleeA, refsA, isScalar, scalarD, scalar0, AV.one, putL, unfA, implies_true, IntKind.signed, Nat.reduceAdd, Nat.reduceSub, Nat.reduceMul, Nat.reducePow, Nat.reduceDiv, Nat.reduceMod, Int.reduceAdd, Int.reduceSub, Int.reduceMul, Int.reducePow, Int.reduceNeg, Int.reduceToNat, Int.reduceLT, Int.reduceLE, Nat.reduceEqDiff, sidsB, Nat.reduceBEq, keyKD, isIntK]
            first | done | rfl
        · obtain ⟨x1, x2, x3⟩ := q4
          unfold partsD
          rw [x1, x2, x3]
          simp (config := { maxSteps := 1000000 }) (disch := ((try simp only [awL]); omega)) only [nextC_more, nextC_over, bs_size, bs_extract, bs_toList, bs_append, byteAt_bs, bs_cells, nums_length, nums_getD, List.take_length, ↓awU, awV, awF, ofVal, ofVal0, isShift, aggK, forall_const, ↓reduceIte, ↓reduceDIte, ↓purePost, combine, idsA, cellsA, numsOf, srcA, calleeA, refsA, isScalar, scalarD, scalar0, AV.one, putL, unfA, implies_true, IntKind.signed, Nat.reduceAdd, Nat.reduceSub, Nat.reduceMul, Nat.reducePow, Nat.reduceDiv, Nat.reduceMod, Int.reduceAdd, Int.reduceSub, Int.reduceMul, Int.reducePow, Int.reduceNeg, Int.reduceToNat, Int.reduceLT, Int.reduceLE, Nat.reduceEqDiff, sidsB, Nat.reduceBEq, keyKD, isIntK]
          first | done | rfl
  · simp (config := { maxSteps := 1000000 }) (disch := ((try simp only [awL]); omega)) only [nextC_more, nextC_over, bs_size, bs_extract, bs_toList, bs_append, byteAt_bs, bs_cells, nums_length, nums_getD, Tryz.f92, ↓awU, awV, awF, ofVal, ofVal0, isShift, aggK, forall_const, ↓reduceIte, ↓reduceDIte, ↓purePost, combine, idsA, cellsA, numsOf, srcA, calleeA, refsA, isScalar, scalarD, scalar0, AV.one, putL, unfA, implies_true, IntKind.signed, Nat.reduceAdd, Nat.reduceSub, Nat.reduceMul, Nat.reducePow, Nat.reduceDiv, Nat.reduceMod, Int.reduceAdd, Int.reduceSub, Int.reduceMul, Int.reducePow, Int.reduceNeg, Int.reduceToNat, Int.reduceLT, Int.reduceLE, Nat.reduceEqDiff, sidsB, Nat.reduceBEq, keyKD, isIntK]
    refine ⟨by rfl, ?_⟩
    rw [c2] at hb
    generalize hB : List.drop 1 s = b at *
    rw [c2, c3]
    refine LoopC.fr 4642343326489650161095016453 (α := Nat) (fun k => b.length - k) (fun k => [(6, .d (.int .i64 k))]) (fun _ => []) (fun k => k ≤ b.length ∧ ∀ c ∈ b.take k, isD c) 0 ⟨Nat.zero_le _, by simp⟩ ?_ ?_
    · exact ⟨[], rfl, by simp, by simp [setsA, keepA, SWeak, AWeak], by simp [HWeak, BWeak, SWeak, AWeak]⟩
    · rintro k ⟨hk, hd⟩
      simp only [keepA_z8, keepA_z, keepA_cons, keepA_nil, setsA_nil, setsA_cons, List.set_cons_zero, List.set_cons_succ, set_8, Nat.reduceMod, Nat.reduceDiv, Nat.zero_mod, Nat.zero_ne_one, if_true, if_false, reduceIte]
      have fin : (k < b.length → ¬ isD (b.getD k 0)) → ∀ K : Prop, ((k < 1 ∨ 15 < k → okB b = false → K) ∧ (1 ≤ k → k ≤ 15 → k = b.length → okB b = true ∧ cutL 46 b = b ∧ cutR 46 b = [] → K) ∧ (1 ≤ k → k ≤ 15 → k < b.length → (b.getD k 0).toNat ≠ 46 → okB b = false → K) ∧
          (1 ≤ k → k ≤ 15 → k < b.length → (b.getD k 0).toNat = 46 → okB b = digB (b.drop (k + 1)) 9 → cutL 46 b = b.take k → cutR 46 b = b.drop (k + 1) → K)) → K := by
        rintro hn K ⟨k1, k2, k3, k4⟩
        by_cases q : k < 1 ∨ 15 < k
        · exact k1 q (ok_front hk hd hn q)
        · rcases Nat.lt_or_ge k b.length with hl | hl
          · by_cases h46 : b.getD k 0 = 46
            · obtain ⟨x1, x2, x3⟩ := ok_point hd hl h46 (by omega) (by omega)
              exact k4 (by omega) (by omega) hl (by rw [h46]; rfl) x1 x2 x3
            · exact k3 (by omega) (by omega) hl (fun e => h46 (UInt8.toNat_inj.1 e)) (ok_bad hd hl (hn hl) h46)
          · obtain rfl : k = b.length := by omega
            rw [List.take_length] at hd
            exact k2 (by omega) (by omega) rfl (ok_whole hd (by omega) (by omega))
      rcases Nat.lt_or_ge k b.length with hl | hl
      · by_cases hg : isD (b.getD k 0)
        · have hg1 := hg.1
          have hg2 := hg.2
          simp (config := { maxSteps := 1000000 }) (disch := ((try simp only [awL]); omega)) only [nextC_more, nextC_over, bs_size, bs_extract, bs_toList, bs_append, byteAt_bs, bs_cells, nums_length, nums_getD, ↓awU, awV, awF, ofVal, ofVal0, isShift, aggK, forall_const, ↓reduceIte, ↓reduceDIte, ↓purePost, combine, idsA, cellsA, numsOf, srcA, calleeA, refsA, isScalar, scalarD, scalar0, AV.one, putL, unfA, implies_true, IntKind.signed, Nat.reduceAdd, Nat.reduceSub, Nat.reduceMul, Nat.reducePow, Nat.reduceDiv, Nat.reduceMod, Int.reduceAdd, Int.reduceSub, Int.reduceMul, Int.reducePow, Int.reduceNeg, Int.reduceToNat, Int.reduceLT, Int.reduceLE, Nat.reduceEqDiff, sidsB, Nat.reduceBEq, keyKD, isIntK]
          exact ⟨k + 1, ⟨hl, take_next hd hl hg⟩, by simp only; omega, ⟨[], rfl, by simp, by simp [setsA, keepA, SWeak, AWeak], by simp [HWeak, BWeak, SWeak, AWeak]⟩⟩
        · have hg' : (b.getD k 0).toNat < 48 ∨ 57 < (b.getD k 0).toNat := by unfold isD at hg; omega
          rcases hg' with hg' | hg'
          · refine fin (fun _ => hg) _ ⟨fun q1 q2 => ?_, fun q1 q2 q3 => by omega, fun q1 q2 q3 q4 q5 => ?_, fun q1 q2 q3 q4 q5 q6 q7 => ?_⟩
            · rcases q1 with q1 | q1
              · unfold partsD
                rw [q2]
                simp (config := { maxSteps := 1000000 }) (disch := ((try simp only [awL]); omega)) only [nextC_more, nextC_over, bs_size, bs_extract, bs_toList, bs_append, byteAt_bs, bs_cells, nums_length, nums_getD, ↓awU, awV, awF, ofVal, ofVal0, isShift, aggK, forall_const, ↓reduceIte, ↓reduceDIte, ↓purePost, combine, idsA, cellsA, numsOf, srcA, calleeA, refsA, isScalar, scalarD, scalar0, AV.one, putL, unfA, implies_true, IntKind.signed, Nat.reduceAdd, Nat.reduceSub, Nat.reduceMul, Nat.reducePow, Nat.reduceDiv, Nat.reduceMod, Int.reduceAdd, Int.reduceSub, Int.reduceMul, Int.reducePow, Int.reduceNeg, Int.reduceToNat, Int.reduceLT, Int.reduceLE, Nat.reduceEqDiff, sidsB, Nat.reduceBEq, keyKD, isIntK]
                first | done | rfl
              · unfold partsD
                rw [q2]
                simp (config := { maxSteps := 1000000 }) (disch := ((try simp only [awL]); omega)) only [nextC_more, nextC_over, bs_size, bs_extract, bs_toList, bs_append, byteAt_bs, bs_cells, nums_length, nums_getD, ↓awU, awV, awF, ofVal, ofVal0, isShift, aggK, forall_const, ↓reduceIte, ↓reduceDIte, ↓purePost, combine, idsA, cellsA, numsOf, srcA, calleeA, refsA, isScalar, scalarD, scalar0, AV.one, putL, unfA, implies_true, IntKind.signed, Nat.reduceAdd, Nat.reduceSub, Nat.reduceMul, Nat.reducePow, Nat.reduceDiv, Nat.reduceMod, Int.reduceAdd, Int.reduceSub, Int.reduceMul, Int.reducePow, Int.reduceNeg, Int.reduceToNat, Int.reduceLT, Int.reduceLE, Nat.reduceEqDiff, sidsB, Nat.reduceBEq, keyKD, isIntK]
                first | done | rfl
            · unfold partsD
              rw [q5]
              simp (config := { maxSteps := 1000000 }) (disch := ((try simp only [awL]); omega)) only [nextC_more, nextC_over, bs_size, bs_extract, bs_toList, bs_append, byteAt_bs, bs_cells, nums_length, nums_getD, ↓awU, awV, awF, ofVal, ofVal0, isShift, aggK, forall_const, ↓reduceIte, ↓reduceDIte, ↓purePost, combine, idsA, cellsA, numsOf, srcA, calleeA, refsA, isScalar, scalarD, scalar0, AV.one, putL, unfA, implies_true, IntKind.signed, Nat.reduceAdd, Nat.reduceSub, Nat.reduceMul, Nat.reducePow, Nat.reduceDiv, Nat.reduceMod, Int.reduceAdd, Int.reduceSub, Int.reduceMul, Int.reducePow, Int.reduceNeg, Int.reduceToNat, Int.reduceLT, Int.reduceLE, Nat.reduceEqDiff, sidsB, Nat.reduceBEq, keyKD, isIntK]
              first | done | rfl
            · skip
              have hp3 : (b.drop (k + 1)).length = b.length - (k + 1) := List.length_drop ..
              have hlk : (b.take k).length = k := by rw [List.length_take]; omega
              unfold partsD
              rw [q5, q6, q7]
              generalize hP : b.drop (k + 1) = p at *
              by_cases hp1 : p.length < 1
              · have e0 : digB p 9 = false := by
                  cases e : digB p 9 with
                  | false => rfl
                  | true => have := (digB_iff.1 e).1; omega
                rw [e0]
                simp (config := { maxSteps := 1000000 }) (disch := ((try simp only [awL]); omega)) only [nextC_more, nextC_over, bs_size, bs_extract, bs_toList, bs_append, byteAt_bs, bs_cells, nums_length, nums_getD, hP, ↓awU, awV, awF, ofVal, ofVal0, isShift, aggK, forall_const, ↓reduceIte, ↓reduceDIte, ↓purePost, combine, idsA, cellsA, numsOf, srcA, calleeA, refsA, isScalar, scalarD, scalar0, AV.one, putL, unfA, implies_true, IntKind.signed, Nat.reduceAdd, Nat.reduceSub, Nat.reduceMul, Nat.reducePow, Nat.reduceDiv, Nat.reduceMod, Int.reduceAdd, Int.reduceSub, Int.reduceMul, Int.reducePow, Int.reduceNeg, Int.reduceToNat, Int.reduceLT, Int.reduceLE, Nat.reduceEqDiff, sidsB, Nat.reduceBEq, keyKD, isIntK]
                first | done | rfl
              · by_cases hp2 : 9 < p.length
                · have e0 : digB p 9 = false := by
                    cases e : digB p 9 with
                    | false => rfl
                    | true => have := (digB_iff.1 e).2.1; omega
                  rw [e0]
                  simp (config := { maxSteps := 1000000 }) (disch := ((try simp only [awL]); omega)) only [nextC_more, nextC_over, bs_size, bs_extract, bs_toList, bs_append, byteAt_bs, bs_cells, nums_length, nums_getD, hP, ↓awU, awV, awF, ofVal, ofVal0, isShift, aggK, forall_const, ↓reduceIte, ↓reduceDIte, ↓purePost, combine, idsA, cellsA, numsOf, srcA, calleeA, refsA, isScalar, scalarD, scalar0, AV.one, putL, unfA, implies_true, IntKind.signed, Nat.reduceAdd, Nat.reduceSub, Nat.reduceMul, Nat.reducePow, Nat.reduceDiv, Nat.reduceMod, Int.reduceAdd, Int.reduceSub, Int.reduceMul, Int.reducePow, Int.reduceNeg, Int.reduceToNat, Int.reduceLT, Int.reduceLE, Nat.reduceEqDiff, sidsB, Nat.reduceBEq, keyKD, isIntK]
                  first | done | rfl
                · simp (config := { maxSteps := 1000000 }) (disch := ((try simp only [awL]); omega)) only [nextC_more, nextC_over, bs_size, bs_extract, bs_toList, bs_append, byteAt_bs, bs_cells, nums_length, nums_getD, hP, ↓awU, awV, awF, ofVal, ofVal0, isShift, aggK, forall_const, ↓reduceIte, ↓reduceDIte, ↓purePost, combine, idsA, cellsA, numsOf, srcA, calleeA, refsA, isScalar, scalarD, scalar0, AV.one, putL, unfA, implies_true, IntKind.signed, Nat.reduceAdd, Nat.reduceSub, Nat.reduceMul, Nat.reducePow, Nat.reduceDiv, Nat.reduceMod, Int.reduceAdd, Int.reduceSub, Int.reduceMul, Int.reducePow, Int.reduceNeg, Int.reduceToNat, Int.reduceLT, Int.reduceLE, Nat.reduceEqDiff, sidsB, Nat.reduceBEq, keyKD, isIntK]
                  refine LoopC.fr 0 (α := Nat) (fun i => p.length - i) (fun i => [(2, .d (.bool false)), (3, .d (S (b.take k))), (4, .d (S p)), (7, .d (.int .i64 i))]) (fun _ => []) (fun i => i ≤ p.length ∧ ∀ c ∈ p.take i, isD c) 0 ⟨Nat.zero_le _, by simp⟩ ?_ ?_
                  · exact ⟨[], rfl, by simp, by simp [setsA, keepA, SWeak, AWeak], by simp [HWeak, BWeak, SWeak, AWeak]⟩
                  · rintro i ⟨hi, hdi⟩
                    simp only [keepA_z8, keepA_z, keepA_cons, keepA_nil, setsA_nil, setsA_cons, List.set_cons_zero, List.set_cons_succ, set_8, Nat.reduceMod, Nat.reduceDiv, Nat.zero_mod, Nat.zero_ne_one, if_true, if_false, reduceIte]
                    rcases Nat.lt_or_ge i p.length with hil | hil
                    · by_cases hgi : isD (p.getD i 0)
                      · have hg1 := hgi.1
                        have hg2 := hgi.2
                        simp (config := { maxSteps := 1000000 }) (disch := ((try simp only [awL]); omega)) only [nextC_more, nextC_over, bs_size, bs_extract, bs_toList, bs_append, byteAt_bs, bs_cells, nums_length, nums_getD, ↓awU, awV, awF, ofVal, ofVal0, isShift, aggK, forall_const, ↓reduceIte, ↓reduceDIte, ↓purePost, combine, idsA, cellsA, numsOf, srcA, calleeA, refsA, isScalar, scalarD, scalar0, AV.one, putL, unfA, implies_true, IntKind.signed, Nat.reduceAdd, Nat.reduceSub, Nat.reduceMul, Nat.reducePow, Nat.reduceDiv, Nat.reduceMod, Int.reduceAdd, Int.reduceSub, Int.reduceMul, Int.reducePow, Int.reduceNeg, Int.reduceToNat, Int.reduceLT, Int.reduceLE, Nat.reduceEqDiff, sidsB, Nat.reduceBEq, keyKD, isIntK]
                        exact ⟨i + 1, ⟨hil, take_next hdi hil hgi⟩, by simp only; omega, ⟨[], rfl, by simp, by simp [setsA, keepA, SWeak, AWeak], by simp [HWeak, BWeak, SWeak, AWeak]⟩⟩
                      · have e0 : digB p 9 = false := by
                          cases e : digB p 9 with
                          | false => rfl
                          | true => exact absurd ((digB_iff.1 e).2.2 _ (mem_getDU hil)) hgi
                        have hg' : (p.getD i 0).toNat < 48 ∨ 57 < (p.getD i 0).toNat := by unfold isD at hgi; omega
                        rw [e0]
                        rcases hg' with hg' | hg'
                        · simp (config := { maxSteps := 1000000 }) (disch := ((try simp only [awL]); omega)) only [nextC_more, nextC_over, bs_size, bs_extract, bs_toList, bs_append, byteAt_bs, bs_cells, nums_length, nums_getD, ↓awU, awV, awF, ofVal, ofVal0, isShift, aggK, forall_const, ↓reduceIte, ↓reduceDIte, ↓purePost, combine, idsA, cellsA, numsOf, srcA, calleeA, refsA, isScalar, scalarD, scalar0, AV.one, putL, unfA, implies_true, IntKind.signed, Nat.reduceAdd, Nat.reduceSub, Nat.reduceMul, Nat.reducePow, Nat.reduceDiv, Nat.reduceMod, Int.reduceAdd, Int.reduceSub, Int.reduceMul, Int.reducePow, Int.reduceNeg, Int.reduceToNat, Int.reduceLT, Int.reduceLE, Nat.reduceEqDiff, sidsB, Nat.reduceBEq, keyKD, isIntK]
                          first | done | rfl
                        · simp (config := { maxSteps := 1000000 }) (disch := ((try simp only [awL]); omega)) only [nextC_more, nextC_over, bs_size, bs_extract, bs_toList, bs_append, byteAt_bs, bs_cells, nums_length, nums_getD, ↓awU, awV, awF, ofVal, ofVal0, isShift, aggK, forall_const, ↓reduceIte, ↓reduceDIte, ↓purePost, combine, idsA, cellsA, numsOf, srcA, calleeA, refsA, isScalar, scalarD, scalar0, AV.one, putL, unfA, implies_true, IntKind.signed, Nat.reduceAdd, Nat.reduceSub, Nat.reduceMul, Nat.reducePow, Nat.reduceDiv, Nat.reduceMod, Int.reduceAdd, Int.reduceSub, Int.reduceMul, Int.reducePow, Int.reduceNeg, Int.reduceToNat, Int.reduceLT, Int.reduceLE, Nat.reduceEqDiff, sidsB, Nat.reduceBEq, keyKD, isIntK]
                          first | done | rfl
                    · obtain rfl : i = p.length := by omega
                      rw [List.take_length] at hdi
                      have e0 : digB p 9 = true := digB_iff.2 ⟨by omega, by omega, hdi⟩
                      rw [e0]
                      simp (config := { maxSteps := 1000000 }) (disch := ((try simp only [awL]); omega)) only [nextC_more, nextC_over, bs_size, bs_extract, bs_toList, bs_append, byteAt_bs, bs_cells, nums_length, nums_getD, ↓awU, awV, awF, ofVal, ofVal0, isShift, aggK, forall_const, ↓reduceIte, ↓reduceDIte, ↓purePost, combine, idsA, cellsA, numsOf, srcA, calleeA, refsA, isScalar, scalarD, scalar0, AV.one, putL, unfA, implies_true, IntKind.signed, Nat.reduceAdd, Nat.reduceSub, Nat.reduceMul, Nat.reducePow, Nat.reduceDiv, Nat.reduceMod, Int.reduceAdd, Int.reduceSub, Int.reduceMul, Int.reducePow, Int.reduceNeg, Int.reduceToNat, Int.reduceLT, Int.reduceLE, Nat.reduceEqDiff, sidsB, Nat.reduceBEq, keyKD, isIntK]
                      first | done | rfl
          · refine fin (fun _ => hg) _ ⟨fun q1 q2 => ?_, fun q1 q2 q3 => by omega, fun q1 q2 q3 q4 q5 => ?_, fun q1 q2 q3 q4 q5 q6 q7 => ?_⟩
            · rcases q1 with q1 | q1
              · unfold partsD
                rw [q2]
                simp (config := { maxSteps := 1000000 }) (disch := ((try simp only [awL]); omega)) only [nextC_more, nextC_over, bs_size, bs_extract, bs_toList, bs_append, byteAt_bs, bs_cells, nums_length, nums_getD, ↓awU, awV, awF, ofVal, ofVal0, isShift, aggK, forall_const, ↓reduceIte, ↓reduceDIte, ↓purePost, combine, idsA, cellsA, numsOf, srcA, calleeA, refsA, isScalar, scalarD, scalar0, AV.one, putL, unfA, implies_true, IntKind.signed, Nat.reduceAdd, Nat.reduceSub, Nat.reduceMul, Nat.reducePow, Nat.reduceDiv, Nat.reduceMod, Int.reduceAdd, Int.reduceSub, Int.reduceMul, Int.reducePow, Int.reduceNeg, Int.reduceToNat, Int.reduceLT, Int.reduceLE, Nat.reduceEqDiff, sidsB, Nat.reduceBEq, keyKD, isIntK]
                first | done | rfl
              · unfold partsD
                rw [q2]
                simp (config := { maxSteps := 1000000 }) (disch := ((try simp only [awL]); omega)) only [nextC_more, nextC_over, bs_size, bs_extract, bs_toList, bs_append, byteAt_bs, bs_cells, nums_length, nums_getD, ↓awU, awV, awF, ofVal, ofVal0, isShift, aggK, forall_const, ↓reduceIte, ↓reduceDIte, ↓purePost, combine, idsA, cellsA, numsOf, srcA, calleeA, refsA, isScalar, scalarD, scalar0, AV.one, putL, unfA, implies_true, IntKind.signed, Nat.reduceAdd, Nat.reduceSub, Nat.reduceMul, Nat.reducePow, Nat.reduceDiv, Nat.reduceMod, Int.reduceAdd, Int.reduceSub, Int.reduceMul, Int.reducePow, Int.reduceNeg, Int.reduceToNat, Int.reduceLT, Int.reduceLE, Nat.reduceEqDiff, sidsB, Nat.reduceBEq, keyKD, isIntK]
                first | done | rfl
            · unfold partsD
              rw [q5]
              simp (config := { maxSteps := 1000000 }) (disch := ((try simp only [awL]); omega)) only [nextC_more, nextC_over, bs_size, bs_extract, bs_toList, bs_append, byteAt_bs, bs_cells, nums_length, nums_getD, ↓awU, awV, awF, ofVal, ofVal0, isShift, aggK, forall_const, ↓reduceIte, ↓reduceDIte, ↓purePost, combine, idsA, cellsA, numsOf, srcA, calleeA, refsA, isScalar, scalarD, scalar0, AV.one, putL, unfA, implies_true, IntKind.signed, Nat.reduceAdd, Nat.reduceSub, Nat.reduceMul, Nat.reducePow, Nat.reduceDiv, Nat.reduceMod, Int.reduceAdd, Int.reduceSub, Int.reduceMul, Int.reducePow, Int.reduceNeg, Int.reduceToNat, Int.reduceLT, Int.reduceLE, Nat.reduceEqDiff, sidsB, Nat.reduceBEq, keyKD, isIntK]
              first | done | rfl
            · omega
      · obtain rfl : k = b.length := by omega
        refine fin (fun h => absurd h (Nat.lt_irrefl _)) _ ⟨fun q1 q2 => ?_, fun q1 q2 q3 q4 => ?_, fun q1 q2 q3 => by omega, fun q1 q2 q3 => by omega⟩
        · rcases q1 with q1 | q1
          · unfold partsD
            rw [q2]
            simp (config := { maxSteps := 1000000 }) (disch := ((try simp only [awL]); omega)) only [nextC_more, nextC_over, bs_size, bs_extract, bs_toList, bs_append, byteAt_bs, bs_cells, nums_length, nums_getD, ↓awU, awV, awF, ofVal, ofVal0, isShift, aggK, forall_const, ↓reduceIte, ↓reduceDIte, ↓purePost, combine, idsA, cellsA, numsOf, srcA, calleeA, refsA, isScalar, scalarD, scalar0, AV.one, putL, unfA, implies_true, IntKind.signed, Nat.reduceAdd, Nat.reduceSub, Nat.reduceMul, Nat.reducePow, Nat.reduceDiv, Nat.reduceMod, Int.reduceAdd, Int.reduceSub, Int.reduceMul, Int.reducePow, Int.reduceNeg, Int.reduceToNat, Int.reduceLT, Int.reduceLE, Nat.reduceEqDiff, sidsB, Nat.reduceBEq, keyKD, isIntK]
            first | done | rfl
          · unfold partsD
            rw [q2]
            simp (config := { maxSteps := 1000000 }) (disch := ((try simp only [awL]); omega)) only [nextC_more, nextC_over, bs_size, bs_extract, bs_toList, bs_append, byteAt_bs, bs_cells, nums_length, nums_getD, ↓awU, awV, awF, ofVal, ofVal0, isShift, aggK, forall_const, ↓reduceIte, ↓reduceDIte, ↓purePost, combine, idsA, cellsA, numsOf, srcA, calleeA, refsA, isScalar, scalarD, scalar0, AV.one, putL, unfA, implies_true, IntKind.signed, Nat.reduceAdd, Nat.reduceSub, Nat.reduceMul, Nat.reducePow, Nat.reduceDiv, Nat.reduceMod, Int.reduceAdd, Int.reduceSub, Int.reduceMul, Int.reducePow, Int.reduceNeg, Int.reduceToNat, Int.reduceLT, Int.reduceLE, Nat.reduceEqDiff, sidsB, Nat.reduceBEq, keyKD, isIntK]
            first | done | rfl
        · obtain ⟨x1, x2, x3⟩ := q4
          unfold partsD
          rw [x1, x2, x3]
          simp (config := { maxSteps := 1000000 }) (disch := ((try simp only [awL]); omega)) only [nextC_more, nextC_over, bs_size, bs_extract, bs_toList, bs_append, byteAt_bs, bs_cells, nums_length, nums_getD, List.take_length, ↓awU, awV, awF, ofVal, ofVal0, isShift, aggK, forall_const, ↓reduceIte, ↓reduceDIte, ↓purePost, combine, idsA, cellsA, numsOf, srcA, calleeA, refsA, isScalar, scalarD, scalar0, AV.one, putL, unfA, implies_true, IntKind.signed, Nat.reduceAdd, Nat.reduceSub, Nat.reduceMul, Nat.reducePow, Nat.reduceDiv, Nat.reduceMod, Int.reduceAdd, Int.reduceSub, Int.reduceMul, Int.reducePow, Int.reduceNeg, Int.reduceToNat, Int.reduceLT, Int.reduceLE, Nat.reduceEqDiff, sidsB, Nat.reduceBEq, keyKD, isIntK]
          first | done | rfl
  · simp (config := { maxSteps := 1000000 }) (disch := ((try simp only [awL]); omega)) only [nextC_more, nextC_over, bs_size, bs_extract, bs_toList, bs_append, byteAt_bs, bs_cells, nums_length, nums_getD, Tryz.f92, ↓awU, awV, awF, ofVal, ofVal0, isShift, aggK, forall_const, ↓reduceIte, ↓reduceDIte, ↓purePost, combine, idsA, cellsA, numsOf, srcA, calleeA, refsA, isScalar, scalarD, scalar0, AV.one, putL, unfA, implies_true, IntKind.signed, Nat.reduceAdd, Nat.reduceSub, Nat.reduceMul, Nat.reducePow, Nat.reduceDiv, Nat.reduceMod, Int.reduceAdd, Int.reduceSub, Int.reduceMul, Int.reducePow, Int.reduceNeg, Int.reduceToNat, Int.reduceLT, Int.reduceLE, Nat.reduceEqDiff, sidsB, Nat.reduceBEq, keyKD, isIntK]
    rw [c2, c3]
    refine LoopC.fr 4642343326489650161095016453 (α := Nat) (fun k => s.length - k) (fun k => [(6, .d (.int .i64 k))]) (fun _ => []) (fun k => k ≤ s.length ∧ ∀ c ∈ s.take k, isD c) 0 ⟨Nat.zero_le _, by simp⟩ ?_ ?_
    · exact ⟨[], rfl, by simp, by simp [setsA, keepA, SWeak, AWeak], by simp [HWeak, BWeak, SWeak, AWeak]⟩
    · rintro k ⟨hk, hd⟩
      simp only [keepA_z8, keepA_z, keepA_cons, keepA_nil, setsA_nil, setsA_cons, List.set_cons_zero, List.set_cons_succ, set_8, Nat.reduceMod, Nat.reduceDiv, Nat.zero_mod, Nat.zero_ne_one, if_true, if_false, reduceIte]
      have fin : (k < s.length → ¬ isD (s.getD k 0)) → ∀ K : Prop, ((k < 1 ∨ 15 < k → okB s = false → K) ∧ (1 ≤ k → k ≤ 15 → k = s.length → okB s = true ∧ cutL 46 s = s ∧ cutR 46 s = [] → K) ∧ (1 ≤ k → k ≤ 15 → k < s.length → (s.getD k 0).toNat ≠ 46 → okB s = false → K) ∧
          (1 ≤ k → k ≤ 15 → k < s.length → (s.getD k 0).toNat = 46 → okB s = digB (s.drop (k + 1)) 9 → cutL 46 s = s.take k → cutR 46 s = s.drop (k + 1) → K)) → K := by
        rintro hn K ⟨k1, k2, k3, k4⟩
        by_cases q : k < 1 ∨ 15 < k
        · exact k1 q (ok_front hk hd hn q)
        · rcases Nat.lt_or_ge k s.length with hl | hl
          · by_cases h46 : s.getD k 0 = 46
            · obtain ⟨x1, x2, x3⟩ := ok_point hd hl h46 (by omega) (by omega)
              exact k4 (by omega) (by omega) hl (by rw [h46]; rfl) x1 x2 x3
            · exact k3 (by omega) (by omega) hl (fun e => h46 (UInt8.toNat_inj.1 e)) (ok_bad hd hl (hn hl) h46)
          · obtain rfl : k = s.length := by omega
            rw [List.take_length] at hd
            exact k2 (by omega) (by omega) rfl (ok_whole hd (by omega) (by omega))
      rcases Nat.lt_or_ge k s.length with hl | hl
      · by_cases hg : isD (s.getD k 0)
        · have hg1 := hg.1
          have hg2 := hg.2
          simp (config := { maxSteps := 1000000 }) (disch := ((try simp only [awL]); omega)) only [nextC_more, nextC_over, bs_size, bs_extract, bs_toList, bs_append, byteAt_bs, bs_cells, nums_length, nums_getD, ↓awU, awV, awF, ofVal, ofVal0, isShift, aggK, forall_const, ↓reduceIte, ↓reduceDIte, ↓purePost, combine, idsA, cellsA, numsOf, srcA, calleeA, refsA, isScalar, scalarD, scalar0, AV.one, putL, unfA, implies_true, IntKind.signed, Nat.reduceAdd, Nat.reduceSub, Nat.reduceMul, Nat.reducePow, Nat.reduceDiv, Nat.reduceMod, Int.reduceAdd, Int.reduceSub, Int.reduceMul, Int.reducePow, Int.reduceNeg, Int.reduceToNat, Int.reduceLT, Int.reduceLE, Nat.reduceEqDiff, sidsB, Nat.reduceBEq, keyKD, isIntK]
          exact ⟨k + 1, ⟨hl, take_next hd hl hg⟩, by simp only; omega, ⟨[], rfl, by simp, by simp [setsA, keepA, SWeak, AWeak], by simp [HWeak, BWeak, SWeak, AWeak]⟩⟩
        · have hg' : (s.getD k 0).toNat < 48 ∨ 57 < (s.getD k 0).toNat := by unfold isD at hg; omega
          rcases hg' with hg' | hg'
          · refine fin (fun _ => hg) _ ⟨fun q1 q2 => ?_, fun q1 q2 q3 => by omega, fun q1 q2 q3 q4 q5 => ?_, fun q1 q2 q3 q4 q5 q6 q7 => ?_⟩
            · rcases q1 with q1 | q1
              · unfold partsD
                rw [q2]
                simp (config := { maxSteps := 1000000 }) (disch := ((try simp only [awL]); omega)) only [nextC_more, nextC_over, bs_size, bs_extract, bs_toList, bs_append, byteAt_bs, bs_cells, nums_length, nums_getD, ↓awU, awV, awF, ofVal, ofVal0, isShift, aggK, forall_const, ↓reduceIte, ↓reduceDIte, ↓purePost, combine, idsA, cellsA, numsOf, srcA, calleeA, refsA, isScalar, scalarD, scalar0, AV.one, putL, unfA, implies_true, IntKind.signed, Nat.reduceAdd, Nat.reduceSub, Nat.reduceMul, Nat.reducePow, Nat.reduceDiv, Nat.reduceMod, Int.reduceAdd, Int.reduceSub, Int.reduceMul, Int.reducePow, Int.reduceNeg, Int.reduceToNat, Int.reduceLT, Int.reduceLE, Nat.reduceEqDiff, sidsB, Nat.reduceBEq, keyKD, isIntK]
                first | done | rfl
              · unfold partsD
                rw [q2]
                simp (config := { maxSteps := 1000000 }) (disch := ((try simp only [awL]); omega)) only [nextC_more, nextC_over, bs_size, bs_extract, bs_toList, bs_append, byteAt_bs, bs_cells, nums_length, nums_getD, ↓awU, awV, awF, ofVal, ofVal0, isShift, aggK, forall_const, ↓reduceIte, ↓reduceDIte, ↓purePost, combine, idsA, cellsA, numsOf, srcA, calleeA, refsA, isScalar, scalarD, scalar0, AV.one, putL, unfA, implies_true, IntKind.signed, Nat.reduceAdd, Nat.reduceSub, Nat.reduceMul, Nat.reducePow, Nat.reduceDiv, Nat.reduceMod, Int.reduceAdd, Int.reduceSub, Int.reduceMul, Int.reducePow, Int.reduceNeg, Int.reduceToNat, Int.reduceLT, Int.reduceLE, Nat.reduceEqDiff, sidsB, Nat.reduceBEq, keyKD, isIntK]
                first | done | rfl
            · unfold partsD
              rw [q5]
              simp (config := { maxSteps := 1000000 }) (disch := ((try simp only [awL]); omega)) only [nextC_more, nextC_over, bs_size, bs_extract, bs_toList, bs_append, byteAt_bs, bs_cells, nums_length, nums_getD, ↓awU, awV, awF, ofVal, ofVal0, isShift, aggK, forall_const, ↓reduceIte, ↓reduceDIte, ↓purePost, combine, idsA, cellsA, numsOf, srcA, calleeA, refsA, isScalar, scalarD, scalar0, AV.one, putL, unfA, implies_true, IntKind.signed, Nat.reduceAdd, Nat.reduceSub, Nat.reduceMul, Nat.reducePow, Nat.reduceDiv, Nat.reduceMod, Int.reduceAdd, Int.reduceSub, Int.reduceMul, Int.reducePow, Int.reduceNeg, Int.reduceToNat, Int.reduceLT, Int.reduceLE, Nat.reduceEqDiff, sidsB, Nat.reduceBEq, keyKD, isIntK]
              first | done | rfl
            · skip
              have hp3 : (s.drop (k + 1)).length = s.length - (k + 1) := List.length_drop ..
              have hlk : (s.take k).length = k := by rw [List.length_take]; omega
              unfold partsD
              rw [q5, q6, q7]
              generalize hP : s.drop (k + 1) = p at *
              by_cases hp1 : p.length < 1
              · have e0 : digB p 9 = false := by
                  cases e : digB p 9 with
                  | false => rfl
                  | true => have := (digB_iff.1 e).1; omega
                rw [e0]
                simp (config := { maxSteps := 1000000 }) (disch := ((try simp only [awL]); omega)) only [nextC_more, nextC_over, bs_size, bs_extract, bs_toList, bs_append, byteAt_bs, bs_cells, nums_length, nums_getD, hP, ↓awU, awV, awF, ofVal, ofVal0, isShift, aggK, forall_const, ↓reduceIte, ↓reduceDIte, ↓purePost, combine, idsA, cellsA, numsOf, srcA, calleeA, refsA, isScalar, scalarD, scalar0, AV.one, putL, unfA, implies_true, IntKind.signed, Nat.reduceAdd, Nat.reduceSub, Nat.reduceMul, Nat.reducePow, Nat.reduceDiv, Nat.reduceMod, Int.reduceAdd, Int.reduceSub, Int.reduceMul, Int.reducePow, Int.reduceNeg, Int.reduceToNat, Int.reduceLT, Int.reduceLE, Nat.reduceEqDiff, sidsB, Nat.reduceBEq, keyKD, isIntK]
                first | done | rfl
              · by_cases hp2 : 9 < p.length
                · have e0 : digB p 9 = false := by
                    cases e : digB p 9 with
                    | false => rfl
                    | true => have := (digB_iff.1 e).2.1; omega
                  rw [e0]
                  simp (config := { maxSteps := 1000000 }) (disch := ((try simp only [awL]); omega)) only [nextC_more, nextC_over, bs_size, bs_extract, bs_toList, bs_append, byteAt_bs, bs_cells, nums_length, nums_getD, hP, ↓awU, awV, awF, ofVal, ofVal0, isShift, aggK, forall_const, ↓reduceIte, ↓reduceDIte, ↓purePost, combine, idsA, cellsA, numsOf, srcA, calleeA, refsA, isScalar, scalarD, scalar0, AV.one, putL, unfA, implies_true, IntKind.signed, Nat.reduceAdd, Nat.reduceSub, Nat.reduceMul, Nat.reducePow, Nat.reduceDiv, Nat.reduceMod, Int.reduceAdd, Int.reduceSub, Int.reduceMul, Int.reducePow, Int.reduceNeg, Int.reduceToNat, Int.reduceLT, Int.reduceLE, Nat.reduceEqDiff, sidsB, Nat.reduceBEq, keyKD, isIntK]
                  first | done | rfl
                · simp (config := { maxSteps := 1000000 }) (disch := ((try simp only [awL]); omega)) only [nextC_more, nextC_over, bs_size, bs_extract, bs_toList, bs_append, byteAt_bs, bs_cells, nums_length, nums_getD, hP, ↓awU, awV, awF, ofVal, ofVal0, isShift, aggK, forall_const, ↓reduceIte, ↓reduceDIte, ↓purePost, combine, idsA, cellsA, numsOf, srcA, calleeA, refsA, isScalar, scalarD, scalar0, AV.one, putL, unfA, implies_true, IntKind.signed, Nat.reduceAdd, Nat.reduceSub, Nat.reduceMul, Nat.reducePow, Nat.reduceDiv, Nat.reduceMod, Int.reduceAdd, Int.reduceSub, Int.reduceMul, Int.reducePow, Int.reduceNeg, Int.reduceToNat, Int.reduceLT, Int.reduceLE, Nat.reduceEqDiff, sidsB, Nat.reduceBEq, keyKD, isIntK]
                  refine LoopC.fr 0 (α := Nat) (fun i => p.length - i) (fun i => [(2, .d (.bool false)), (3, .d (S (s.take k))), (4, .d (S p)), (7, .d (.int .i64 i))]) (fun _ => []) (fun i => i ≤ p.length ∧ ∀ c ∈ p.take i, isD c) 0 ⟨Nat.zero_le _, by simp⟩ ?_ ?_
                  · exact ⟨[], rfl, by simp, by simp [setsA, keepA, SWeak, AWeak], by simp [HWeak, BWeak, SWeak, AWeak]⟩
                  · rintro i ⟨hi, hdi⟩
                    simp only [keepA_z8, keepA_z, keepA_cons, keepA_nil, setsA_nil, setsA_cons, List.set_cons_zero, List.set_cons_succ, set_8, Nat.reduceMod, Nat.reduceDiv, Nat.zero_mod, Nat.zero_ne_one, if_true, if_false, reduceIte]
                    rcases Nat.lt_or_ge i p.length with hil | hil
                    · by_cases hgi : isD (p.getD i 0)
                      · have hg1 := hgi.1
                        have hg2 := hgi.2
                        simp (config := { maxSteps := 1000000 }) (disch := ((try simp only [awL]); omega)) only [nextC_more, nextC_over, bs_size, bs_extract, bs_toList, bs_append, byteAt_bs, bs_cells, nums_length, nums_getD, ↓awU, awV, awF, ofVal, ofVal0, isShift, aggK, forall_const, ↓reduceIte, ↓reduceDIte, ↓purePost, combine, idsA, cellsA, numsOf, srcA, calleeA, refsA, isScalar, scalarD, scalar0, AV.one, putL, unfA, implies_true, IntKind.signed, Nat.reduceAdd, Nat.reduceSub, Nat.reduceMul, Nat.reducePow, Nat.reduceDiv, Nat.reduceMod, Int.reduceAdd, Int.reduceSub, Int.reduceMul, Int.reducePow, Int.reduceNeg, Int.reduceToNat, Int.reduceLT, Int.reduceLE, Nat.reduceEqDiff, sidsB, Nat.reduceBEq, keyKD, isIntK]
                        exact ⟨i + 1, ⟨hil, take_next hdi hil hgi⟩, by simp only; omega, ⟨[], rfl, by simp, by simp [setsA, keepA, SWeak, AWeak], by simp [HWeak, BWeak, SWeak, AWeak]⟩⟩
                      · have e0 : digB p 9 = false := by
                          cases e : digB p 9 with
                          | false => rfl
                          | true => exact absurd ((digB_iff.1 e).2.2 _ (mem_getDU hil)) hgi
                        have hg' : (p.getD i 0).toNat < 48 ∨ 57 < (p.getD i 0).toNat := by unfold isD at hgi; omega
                        rw [e0]
                        rcases hg' with hg' | hg'
                        · simp (config := { maxSteps := 1000000 }) (disch := ((try simp only [awL]); omega)) only [nextC_more, nextC_over, bs_size, bs_extract, bs_toList, bs_append, byteAt_bs, bs_cells, nums_length, nums_getD, ↓awU, awV, awF, ofVal, ofVal0, isShift, aggK, forall_const, ↓reduceIte, ↓reduceDIte, ↓purePost, combine, idsA, cellsA, numsOf, srcA, calleeA, refsA, isScalar, scalarD, scalar0, AV.one, putL, unfA, implies_true, IntKind.signed, Nat.reduceAdd, Nat.reduceSub, Nat.reduceMul, Nat.reducePow, Nat.reduceDiv, Nat.reduceMod, Int.reduceAdd, Int.reduceSub, Int.reduceMul, Int.reducePow, Int.reduceNeg, Int.reduceToNat, Int.reduceLT, Int.reduceLE, Nat.reduceEqDiff, sidsB, Nat.reduceBEq, keyKD, isIntK]
                          first | done | rfl
                        · simp (config := { maxSteps := 1000000 }) (disch := ((try simp only [awL]); omega)) only [nextC_more, nextC_over, bs_size, bs_extract, bs_toList, bs_append, byteAt_bs, bs_cells, nums_length, nums_getD, ↓awU, awV, awF, ofVal, ofVal0, isShift, aggK, forall_const, ↓reduceIte, ↓reduceDIte, ↓purePost, combine, idsA, cellsA, numsOf, srcA, calleeA, refsA, isScalar, scalarD, scalar0, AV.one, putL, unfA, implies_true, IntKind.signed, Nat.reduceAdd, Nat.reduceSub, Nat.reduceMul, Nat.reducePow, Nat.reduceDiv, Nat.reduceMod, Int.reduceAdd, Int.reduceSub, Int.reduceMul, Int.reducePow, Int.reduceNeg, Int.reduceToNat, Int.reduceLT, Int.reduceLE, Nat.reduceEqDiff, sidsB, Nat.reduceBEq, keyKD, isIntK]
                          first | done | rfl
                    · obtain rfl : i = p.length := by omega
                      rw [List.take_length] at hdi
                      have e0 : digB p 9 = true := digB_iff.2 ⟨by omega, by omega, hdi⟩
                      rw [e0]
                      simp (config := { maxSteps := 1000000 }) (disch := ((try simp only [awL]); omega)) only [nextC_more, nextC_over, bs_size, bs_extract, bs_toList, bs_append, byteAt_bs, bs_cells, nums_length, nums_getD, ↓awU, awV, awF, ofVal, ofVal0, isShift, aggK, forall_const, ↓reduceIte, ↓reduceDIte, ↓purePost, combine, idsA, cellsA, numsOf, srcA, calleeA, refsA, isScalar, scalarD, scalar0, AV.one, putL, unfA, implies_true, IntKind.signed, Nat.reduceAdd, Nat.reduceSub, Nat.reduceMul, Nat.reducePow, Nat.reduceDiv, Nat.reduceMod, Int.reduceAdd, Int.reduceSub, Int.reduceMul, Int.reducePow, Int.reduceNeg, Int.reduceToNat, Int.reduceLT, Int.reduceLE, Nat.reduceEqDiff, sidsB, Nat.reduceBEq, keyKD, isIntK]
                      first | done | rfl
          · refine fin (fun _ => hg) _ ⟨fun q1 q2 => ?_, fun q1 q2 q3 => by omega, fun q1 q2 q3 q4 q5 => ?_, fun q1 q2 q3 q4 q5 q6 q7 => ?_⟩
            · rcases q1 with q1 | q1
              · unfold partsD
                rw [q2]
                simp (config := { maxSteps := 1000000 }) (disch := ((try simp only [awL]); omega)) only [nextC_more, nextC_over, bs_size, bs_extract, bs_toList, bs_append, byteAt_bs, bs_cells, nums_length, nums_getD, ↓awU, awV, awF, ofVal, ofVal0, isShift, aggK, forall_const, ↓reduceIte, ↓reduceDIte, ↓purePost, combine, idsA, cellsA, numsOf, srcA, calleeA, refsA, isScalar, scalarD, scalar0, AV.one, putL, unfA, implies_true, IntKind.signed, Nat.reduceAdd, Nat.reduceSub, Nat.reduceMul, Nat.reducePow, Nat.reduceDiv, Nat.reduceMod, Int.reduceAdd, Int.reduceSub, Int.reduceMul, Int.reducePow, Int.reduceNeg, Int.reduceToNat, Int.reduceLT, Int.reduceLE, Nat.reduceEqDiff, sidsB, Nat.reduceBEq, keyKD, isIntK]
                first | done | rfl
              · unfold partsD
                rw [q2]
                simp (config := { maxSteps := 1000000 }) (disch := ((try simp only [awL]); omega)) only [nextC_more, nextC_over, bs_size, bs_extract, bs_toList, bs_append, byteAt_bs, bs_cells, nums_length, nums_getD, ↓awU, awV, awF, ofVal, ofVal0, isShift, aggK, forall_const, ↓reduceIte, ↓reduceDIte, ↓purePost, combine, idsA, cellsA, numsOf, srcA, calleeA, refsA, isScalar, scalarD, scalar0, AV.one, putL, unfA, implies_true, IntKind.signed, Nat.reduceAdd, Nat.reduceSub, Nat.reduceMul, Nat.reducePow, Nat.reduceDiv, Nat.reduceMod, Int.reduceAdd, Int.reduceSub, Int.reduceMul, Int.reducePow, Int.reduceNeg, Int.reduceToNat, Int.reduceLT, Int.reduceLE, Nat.reduceEqDiff, sidsB, Nat.reduceBEq, keyKD, isIntK]
                first | done | rfl
            · unfold partsD
              rw [q5]
              simp (config := { maxSteps := 1000000 }) (disch := ((try simp only [awL]); omega)) only [nextC_more, nextC_over, bs_size, bs_extract, bs_toList, bs_append, byteAt_bs, bs_cells, nums_length, nums_getD, ↓awU, awV, awF, ofVal, ofVal0, isShift, aggK, forall_const, ↓reduceIte, ↓reduceDIte, ↓purePost, combine, idsA, cellsA, numsOf, srcA, calleeA, refsA, isScalar, scalarD, scalar0, AV.one, putL, unfA, implies_true, IntKind.signed, Nat.reduceAdd, Nat.reduceSub, Nat.reduceMul, Nat.reducePow, Nat.reduceDiv, Nat.reduceMod, Int.reduceAdd, Int.reduceSub, Int.reduceMul, Int.reducePow, Int.reduceNeg, Int.reduceToNat, Int.reduceLT, Int.reduceLE, Nat.reduceEqDiff, sidsB, Nat.reduceBEq, keyKD, isIntK]
              first | done | rfl
            · omega
      · obtain rfl : k = s.length := by omega
        refine fin (fun h => absurd h (Nat.lt_irrefl _)) _ ⟨fun q1 q2 => ?_, fun q1 q2 q3 q4 => ?_, fun q1 q2 q3 => by omega, fun q1 q2 q3 => by omega⟩
        · rcases q1 with q1 | q1
          · exfalso; omega
          · unfold partsD
            rw [q2]
            simp (config := { maxSteps := 1000000 }) (disch := ((try simp only [awL]); omega)) only [nextC_more, nextC_over, bs_size, bs_extract, bs_toList, bs_append, byteAt_bs, bs_cells, nums_length, nums_getD, ↓awU, awV, awF, ofVal, ofVal0, isShift, aggK, forall_const, ↓reduceIte, ↓reduceDIte, ↓purePost, combine, idsA, cellsA, numsOf, srcA, calleeA, refsA, isScalar, scalarD, scalar0, AV.one, putL, unfA, implies_true, IntKind.signed, Nat.reduceAdd, Nat.reduceSub, Nat.reduceMul, Nat.reducePow, Nat.reduceDiv, Nat.reduceMod, Int.reduceAdd, Int.reduceSub, Int.reduceMul, Int.reducePow, Int.reduceNeg, Int.reduceToNat, Int.reduceLT, Int.reduceLE, Nat.reduceEqDiff, sidsB, Nat.reduceBEq, keyKD, isIntK]
            first | done | rfl
        · obtain ⟨x1, x2, x3⟩ := q4
          unfold partsD
          rw [x1, x2, x3]
          simp (config := { maxSteps := 1000000 }) (disch := ((try simp only [awL]); omega)) only [nextC_more, nextC_over, bs_size, bs_extract, bs_toList, bs_append, byteAt_bs, bs_cells, nums_length, nums_getD, List.take_length, ↓awU, awV, awF, ofVal, ofVal0, isShift, aggK, forall_const, ↓reduceIte, ↓reduceDIte, ↓purePost, combine, idsA, cellsA, numsOf, srcA, calleeA, refsA, isScalar, scalarD, scalar0, AV.one, putL, unfA, implies_true, IntKind.signed, Nat.reduceAdd, Nat.reduceSub, Nat.reduceMul, Nat.reducePow, Nat.reduceDiv, Nat.reduceMod, Int.reduceAdd, Int.reduceSub, Int.reduceMul, Int.reducePow, Int.reduceNeg, Int.reduceToNat, Int.reduceLT, Int.reduceLE, Nat.reduceEqDiff, sidsB, Nat.reduceBEq, keyKD, isIntK]
          first | done | rfl
end Go.Proofs.YtkppgdialedoeaaGreatDoor

namespace Go.Proofs.YtkppgdialedoeaaGreatDoor
open Go Go.Proofs Go.Abs
variable {G : Globals}
/-! The reference's Decimal. -/
theorem nums_lt {l : List UInt8} (h : ∀ b ∈ l, isD b) {i : Nat} (hi : i < l.length) : 48 ≤ (l.getD i 0).toNat ∧ (l.getD i 0).toNat ≤ 57 := h _ (mem_getDU hi)
set_option maxHeartbeats 4000000 in
set_option maxRecDepth 100000 in
theorem rdecimal_spec (s : List UInt8) (hs : s.length ≤ 1000) : Ctr Tryz.prog G 54 [.d (S s)] [] (.d (.tup [if decOk s = true then Frac (decVal s) else Zf, .bool (decOk s)])) [] := by
  refine Ctr.pure (M := M0) hmix Tryz.func54 rfl go54 ?_
  simp (config := { maxSteps := 1000000 }) (disch := ((try simp only [awL]); omega)) only [nextC_more, nextC_over, bs_size, bs_extract, bs_toList, bs_append, byteAt_bs, bs_cells, nums_length, nums_getD, Tryz.f54, ↓awU, awV, awF, ofVal, ofVal0, isShift, aggK, forall_const, ↓reduceIte, ↓reduceDIte, ↓purePost, combine, idsA, cellsA, numsOf, srcA, calleeA, refsA, isScalar, scalarD, scalar0, AV.one, putL, unfA, implies_true, IntKind.signed, Nat.reduceAdd, Nat.reduceSub, Nat.reduceMul, Nat.reducePow, Nat.reduceDiv, Nat.reduceMod, Int.reduceAdd, Int.reduceSub, Int.reduceMul, Int.reducePow, Int.reduceNeg, Int.reduceToNat, Int.reduceLT, Int.reduceLE, Nat.reduceEqDiff, sidsB, Nat.reduceBEq, keyKD, isIntK]
  refine CallC.pure (rparts_spec s hs) ?_
  have hok : decOk s = okB (decBody s) := rfl
  have f1 : cutL 46 (decBody s) = decF s := rfl
  have f2 : cutR 46 (decBody s) = decB s := rfl
  have hdv : decVal s = Rat.divInt (if decNeg s then -(decNum (decF s ++ decB s) : Int) else (decNum (decF s ++ decB s) : Int)) ((10 ^ (decB s).length : Nat) : Int) := rfl
  unfold partsD
  rw [f1, f2, ← hok]
  cases ho : decOk s
  · simp (config := { maxSteps := 1000000 }) (disch := ((try simp only [awL]); omega)) only [nextC_more, nextC_over, bs_size, bs_extract, bs_toList, bs_append, byteAt_bs, bs_cells, nums_length, nums_getD, ↓awU, awV, awF, ofVal, ofVal0, isShift, aggK, forall_const, ↓reduceIte, ↓reduceDIte, ↓purePost, combine, idsA, cellsA, numsOf, srcA, calleeA, refsA, isScalar, scalarD, scalar0, AV.one, putL, unfA, implies_true, IntKind.signed, Nat.reduceAdd, Nat.reduceSub, Nat.reduceMul, Nat.reducePow, Nat.reduceDiv, Nat.reduceMod, Int.reduceAdd, Int.reduceSub, Int.reduceMul, Int.reducePow, Int.reduceNeg, Int.reduceToNat, Int.reduceLT, Int.reduceLE, Nat.reduceEqDiff, sidsB, Nat.reduceBEq, keyKD, isIntK]
    first | done | rfl
  · obtain ⟨hall, hlen, hlb⟩ := decOk_facts ho
    have hsm : ∀ i, i ≤ (decF s ++ decB s).length → (toW (decNum ((decF s ++ decB s).take i))).length ≤ 30 := fun i hi => by
      have h := decNum_lt (l := (decF s ++ decB s).take i) fun b hb => hall b (List.mem_of_mem_take hb)
      exact sz_small (Nat.lt_of_lt_of_le h (Nat.pow_le_pow_right (by decide) (by rw [List.length_take]; omega)))
    have hlt : ∀ i, i ≤ (decF s ++ decB s).length → decNum ((decF s ++ decB s).take i) * 10 < 10 ^ 30 := fun i hi => by
      have h := decNum_lt (l := (decF s ++ decB s).take i) fun b hb => hall b (List.mem_of_mem_take hb)
      have h2 : 10 ^ ((decF s ++ decB s).take i).length ≤ 10 ^ 29 := Nat.pow_le_pow_right (by decide) (by rw [List.length_take]; omega)
      have h3 : (10 : Nat) ^ 30 = 10 ^ 29 * 10 := rfl
      omega
    have hpl : ∀ b ∈ decB s, isD b := fun b hb => isD_iff.1 (hall b (List.mem_append_right _ hb))
    have hfl : (decF s).length ≤ 24 := by rw [List.length_append] at hlen; omega
    have hall' : ∀ b ∈ decF s ++ decB s, isD b := fun b hb => isD_iff.1 (hall b hb)
    generalize decNeg s = neg at *
    generalize hL : decF s ++ decB s = L at *
    generalize decB s = Bk at *
    simp (config := { maxSteps := 1000000 }) (disch := ((try simp only [awL]); omega)) only [nextC_more, nextC_over, bs_size, bs_extract, bs_toList, bs_append, byteAt_bs, bs_cells, nums_length, nums_getD, hL, ↓awU, awV, awF, ofVal, ofVal0, isShift, aggK, forall_const, ↓reduceIte, ↓reduceDIte, ↓purePost, combine, idsA, cellsA, numsOf, srcA, calleeA, refsA, isScalar, scalarD, scalar0, AV.one, putL, unfA, implies_true, IntKind.signed, Nat.reduceAdd, Nat.reduceSub, Nat.reduceMul, Nat.reducePow, Nat.reduceDiv, Nat.reduceMod, Int.reduceAdd, Int.reduceSub, Int.reduceMul, Int.reducePow, Int.reduceNeg, Int.reduceToNat, Int.reduceLT, Int.reduceLE, Nat.reduceEqDiff, sidsB, Nat.reduceBEq, keyKD, isIntK]
    first
    | refine CallC.of (rfromInt_spec 1 (by decide) (by decide)) (by rfl) ?_
    | refine ⟨by rfl, CallC.of (rfromInt_spec 1 (by decide) (by decide)) (by rfl) ?_⟩
    simp (config := { maxSteps := 1000000 }) (disch := ((try simp only [awL]); omega)) only [nextC_more, nextC_over, bs_size, bs_extract, bs_toList, bs_append, byteAt_bs, bs_cells, nums_length, nums_getD, hL, bigL, cells_nums, ↓awU, awV, awF, ofVal, ofVal0, isShift, aggK, forall_const, ↓reduceIte, ↓reduceDIte, ↓purePost, combine, idsA, cellsA, numsOf, srcA, calleeA, refsA, isScalar, scalarD, scalar0, AV.one, putL, unfA, implies_true, IntKind.signed, Nat.reduceAdd, Nat.reduceSub, Nat.reduceMul, Nat.reducePow, Nat.reduceDiv, Nat.reduceMod, Int.reduceAdd, Int.reduceSub, Int.reduceMul, Int.reducePow, Int.reduceNeg, Int.reduceToNat, Int.reduceLT, Int.reduceLE, Nat.reduceEqDiff, sidsB, Nat.reduceBEq, keyKD, isIntK]
    refine LoopC.fr 402654036 (α := Nat) (fun i => L.length - i) (fun i => [(29, .d (.int .i64 i))])
      (fun i => [.box [.d (.bool false), .d (.sl 0 true []), .d (.bool false), .d (.sl 0 true [])], .box [.d (.bool false), .d (W (toW (decNum (L.take i))))], .box [.d (.bool false), .d (W (toW 1))], .row false (ints .u8 (nums L))]) (fun i => i ≤ L.length) 0 (Nat.zero_le _) ?_ ?_
    · exact ⟨[some 0, some 1, some 2, some 3], rfl, by simp, by simp [setsA, keepA, SWeak, AWeak], by simp [HWeak, BWeak, SWeak, AWeak, decNum, toW_zero, nats]⟩
    · intro i hi
      have lt := hsm i hi
      have nl := @nums_length L
      simp only [keepA_z8, keepA_z, keepA_cons, keepA_nil, setsA_nil, setsA_cons, List.set_cons_zero, List.set_cons_succ, set_8, Nat.reduceMod, Nat.reduceDiv, Nat.zero_mod, Nat.zero_ne_one, if_true, if_false, reduceIte]
      rcases Nat.lt_or_ge i L.length with h1 | h1
      · obtain ⟨hb1, hb2⟩ := nums_lt hall' h1
        have hp := decNum_push h1
        have ls := sz_small (n := (L.getD i 0).toNat - 48) (k := 2) (by omega)
        have e48 : ((L.getD i 0).toNat : Int) - 48 = (((L.getD i 0).toNat - 48 : Nat) : Int) := by omega
        have lm : (toW (decNum (L.take i) * 10)).length ≤ 40 := sz_small (Nat.lt_of_lt_of_le (hlt i hi) (by decide))
        have sz1 : sz (decNum (L.take i) : Int) ≤ 30 := by simp only [sz, Int.natAbs_natCast]; exact lt
        have sz2 : sz ((decNum (L.take i) : Int) * 10) ≤ 40 := by
          rw [show ((decNum (L.take i) : Int) * 10) = ((decNum (L.take i) * 10 : Nat) : Int) by omega]; simp only [sz, Int.natAbs_natCast]; exact lm
        have sz3 : sz ((((L.getD i 0).toNat - 48 : Nat) : Int)) ≤ 2 := by simp only [sz, Int.natAbs_natCast]; exact ls
        have sz4 : sz (10 : Int) ≤ 2 := sz_int (by decide) (by decide)
        have hsum : (decNum (L.take i) : Int) * 10 + (((L.getD i 0).toNat - 48 : Nat) : Int) = (decNum (L.take (i + 1)) : Int) := by rw [← hp]; omega
        simp (config := { maxSteps := 1000000 }) (disch := ((try simp only [awL]); omega)) only [nextC_more, nextC_over, bs_size, bs_extract, bs_toList, bs_append, byteAt_bs, bs_cells, nums_length, nums_getD, nl, ↓awU, awV, awF, ofVal, ofVal0, isShift, aggK, forall_const, ↓reduceIte, ↓reduceDIte, ↓purePost, combine, idsA, cellsA, numsOf, srcA, calleeA, refsA, isScalar, scalarD, scalar0, AV.one, putL, unfA, implies_true, IntKind.signed, Nat.reduceAdd, Nat.reduceSub, Nat.reduceMul, Nat.reducePow, Nat.reduceDiv, Nat.reduceMod, Int.reduceAdd, Int.reduceSub, Int.reduceMul, Int.reducePow, Int.reduceNeg, Int.reduceToNat, Int.reduceLT, Int.reduceLE, Nat.reduceEqDiff, sidsB, Nat.reduceBEq, keyKD, isIntK]
        first
        | refine CallC.of (rfromInt_spec 10 (by decide) (by decide)) (by rfl) ?_
        | refine ⟨by rfl, CallC.of (rfromInt_spec 10 (by decide) (by decide)) (by rfl) ?_⟩
        simp (config := { maxSteps := 1000000 }) (disch := ((try simp only [awL]); omega)) only [nextC_more, nextC_over, bs_size, bs_extract, bs_toList, bs_append, byteAt_bs, bs_cells, nums_length, nums_getD, nl, ↓awU, awV, awF, ofVal, ofVal0, isShift, aggK, forall_const, ↓reduceIte, ↓reduceDIte, ↓purePost, combine, idsA, cellsA, numsOf, srcA, calleeA, refsA, isScalar, scalarD, scalar0, AV.one, putL, unfA, implies_true, IntKind.signed, Nat.reduceAdd, Nat.reduceSub, Nat.reduceMul, Nat.reducePow, Nat.reduceDiv, Nat.reduceMod, Int.reduceAdd, Int.reduceSub, Int.reduceMul, Int.reducePow, Int.reduceNeg, Int.reduceToNat, Int.reduceLT, Int.reduceLE, Nat.reduceEqDiff, sidsB, Nat.reduceBEq, keyKD, isIntK]
        first
        | refine CallC.of (rtimes_spec (decNum (L.take i) : Int) 10 (by omega) (by omega)) (by (try simp only [Big_nat]); try rfl) ?_
        | refine ⟨by rfl, CallC.of (rtimes_spec (decNum (L.take i) : Int) 10 (by omega) (by omega)) (by (try simp only [Big_nat]); try rfl) ?_⟩
        simp (config := { maxSteps := 1000000 }) (disch := ((try simp only [awL]); omega)) only [nextC_more, nextC_over, bs_size, bs_extract, bs_toList, bs_append, byteAt_bs, bs_cells, nums_length, nums_getD, nl, e48, ↓awU, awV, awF, ofVal, ofVal0, isShift, aggK, forall_const, ↓reduceIte, ↓reduceDIte, ↓purePost, combine, idsA, cellsA, numsOf, srcA, calleeA, refsA, isScalar, scalarD, scalar0, AV.one, putL, unfA, implies_true, IntKind.signed, Nat.reduceAdd, Nat.reduceSub, Nat.reduceMul, Nat.reducePow, Nat.reduceDiv, Nat.reduceMod, Int.reduceAdd, Int.reduceSub, Int.reduceMul, Int.reducePow, Int.reduceNeg, Int.reduceToNat, Int.reduceLT, Int.reduceLE, Nat.reduceEqDiff, sidsB, Nat.reduceBEq, keyKD, isIntK]
        first
        | refine CallC.of (rfromInt_spec (((L.getD i 0).toNat - 48 : Nat) : Int) (by omega) (by omega)) (by rfl) ?_
        | refine ⟨by rfl, CallC.of (rfromInt_spec (((L.getD i 0).toNat - 48 : Nat) : Int) (by omega) (by omega)) (by rfl) ?_⟩
        simp (config := { maxSteps := 1000000 }) (disch := ((try simp only [awL]); omega)) only [nextC_more, nextC_over, bs_size, bs_extract, bs_toList, bs_append, byteAt_bs, bs_cells, nums_length, nums_getD, nl, e48, ↓awU, awV, awF, ofVal, ofVal0, isShift, aggK, forall_const, ↓reduceIte, ↓reduceDIte, ↓purePost, combine, idsA, cellsA, numsOf, srcA, calleeA, refsA, isScalar, scalarD, scalar0, AV.one, putL, unfA, implies_true, IntKind.signed, Nat.reduceAdd, Nat.reduceSub, Nat.reduceMul, Nat.reducePow, Nat.reduceDiv, Nat.reduceMod, Int.reduceAdd, Int.reduceSub, Int.reduceMul, Int.reducePow, Int.reduceNeg, Int.reduceToNat, Int.reduceLT, Int.reduceLE, Nat.reduceEqDiff, sidsB, Nat.reduceBEq, keyKD, isIntK]
        first
        | refine CallC.of (rplus_spec ((decNum (L.take i) : Int) * 10) (((L.getD i 0).toNat - 48 : Nat) : Int) (by omega) (by omega)) (by rfl) ?_
        | refine ⟨by rfl, CallC.of (rplus_spec ((decNum (L.take i) : Int) * 10) (((L.getD i 0).toNat - 48 : Nat) : Int) (by omega) (by omega)) (by rfl) ?_⟩
        rw [hsum, Big_nat]
        simp (config := { maxSteps := 1000000 }) (disch := ((try simp only [awL]); omega)) only [nextC_more, nextC_over, bs_size, bs_extract, bs_toList, bs_append, byteAt_bs, bs_cells, nums_length, nums_getD, nl, ↓awU, awV, awF, ofVal, ofVal0, isShift, aggK, forall_const, ↓reduceIte, ↓reduceDIte, ↓purePost, combine, idsA, cellsA, numsOf, srcA, calleeA, refsA, isScalar, scalarD, scalar0, AV.one, putL, unfA, implies_true, IntKind.signed, Nat.reduceAdd, Nat.reduceSub, Nat.reduceMul, Nat.reducePow, Nat.reduceDiv, Nat.reduceMod, Int.reduceAdd, Int.reduceSub, Int.reduceMul, Int.reducePow, Int.reduceNeg, Int.reduceToNat, Int.reduceLT, Int.reduceLE, Nat.reduceEqDiff, sidsB, Nat.reduceBEq, keyKD, isIntK]
        exact ⟨by rfl, i + 1, h1, by simp only; omega, ⟨[some 0, some 1, some 2, some 3], rfl, by simp, by simp [setsA, keepA, SWeak, AWeak], by simp [HWeak, BWeak, SWeak, AWeak]⟩⟩
      · obtain rfl : i = L.length := by omega
        rw [List.take_length] at *
        simp (config := { maxSteps := 1000000 }) (disch := ((try simp only [awL]); omega)) only [nextC_more, nextC_over, bs_size, bs_extract, bs_toList, bs_append, byteAt_bs, bs_cells, nums_length, nums_getD, nl, ↓awU, awV, awF, ofVal, ofVal0, isShift, aggK, forall_const, ↓reduceIte, ↓reduceDIte, ↓purePost, combine, idsA, cellsA, numsOf, srcA, calleeA, refsA, isScalar, scalarD, scalar0, AV.one, putL, unfA, implies_true, IntKind.signed, Nat.reduceAdd, Nat.reduceSub, Nat.reduceMul, Nat.reducePow, Nat.reduceDiv, Nat.reduceMod, Int.reduceAdd, Int.reduceSub, Int.reduceMul, Int.reducePow, Int.reduceNeg, Int.reduceToNat, Int.reduceLT, Int.reduceLE, Nat.reduceEqDiff, sidsB, Nat.reduceBEq, keyKD, isIntK]
        refine LoopC.fr 8796093022996 (α := Nat) (fun j => Bk.length - j) (fun j => [])
          (fun j => [.box [.d (.bool false), .d (.sl 0 true []), .d (.bool false), .d (.sl 0 true [])], .box [.d (.bool false), .d (W (toW (decNum L)))], .box [.d (.bool false), .d (W (toW (10 ^ j)))], .row false (ints .u8 (nums L)), .iter (bs Bk) j]) (fun j => j ≤ Bk.length) 0 (Nat.zero_le _) ?_ ?_
        · exact ⟨[some 0, some 1, some 2, some 3, some 4], rfl, by simp, by simp [setsA, keepA, SWeak, AWeak], by simp [HWeak, BWeak, SWeak, AWeak]⟩
        · intro j hj
          have lj : (toW (10 ^ j)).length ≤ 10 := sz_small (Nat.pow_lt_pow_right (by decide) (by omega))
          have szj : sz ((10 ^ j : Nat) : Int) ≤ 10 := by simp only [sz, Int.natAbs_natCast]; exact lj
          have sz4 : sz (10 : Int) ≤ 2 := sz_int (by decide) (by decide)
          simp only [keepA_z8, keepA_z, keepA_cons, keepA_nil, setsA_nil, setsA_cons, List.set_cons_zero, List.set_cons_succ, set_8, Nat.reduceMod, Nat.reduceDiv, Nat.zero_mod, Nat.zero_ne_one, if_true, if_false, reduceIte]
          rcases Nat.lt_or_ge j Bk.length with h2 | h2
          · obtain ⟨hb1, hb2⟩ := nums_lt hpl h2
            have hdec := dec_ascii h2 (by omega)
            have hmul : ((10 ^ j : Nat) : Int) * 10 = ((10 ^ (j + 1) : Nat) : Int) := by rw [Nat.pow_succ]; omega
            simp (config := { maxSteps := 1000000 }) (disch := ((try simp only [awL]); omega)) only [nextC_more, nextC_over, bs_size, bs_extract, bs_toList, bs_append, byteAt_bs, bs_cells, nums_length, nums_getD, hdec, ↓awU, awV, awF, ofVal, ofVal0, isShift, aggK, forall_const, ↓reduceIte, ↓reduceDIte, ↓purePost, combine, idsA, cellsA, numsOf, srcA, calleeA, refsA, isScalar, scalarD, scalar0, AV.one, putL, unfA, implies_true, IntKind.signed, Nat.reduceAdd, Nat.reduceSub, Nat.reduceMul, Nat.reducePow, Nat.reduceDiv, Nat.reduceMod, Int.reduceAdd, Int.reduceSub, Int.reduceMul, Int.reducePow, Int.reduceNeg, Int.reduceToNat, Int.reduceLT, Int.reduceLE, Nat.reduceEqDiff, sidsB, Nat.reduceBEq, keyKD, isIntK]
            first
            | refine CallC.of (rfromInt_spec 10 (by decide) (by decide)) (by rfl) ?_
            | refine ⟨by rfl, CallC.of (rfromInt_spec 10 (by decide) (by decide)) (by rfl) ?_⟩
            simp (config := { maxSteps := 1000000 }) (disch := ((try simp only [awL]); omega)) only [nextC_more, nextC_over, bs_size, bs_extract, bs_toList, bs_append, byteAt_bs, bs_cells, nums_length, nums_getD, ↓awU, awV, awF, ofVal, ofVal0, isShift, aggK, forall_const, ↓reduceIte, ↓reduceDIte, ↓purePost, combine, idsA, cellsA, numsOf, srcA, calleeA, refsA, isScalar, scalarD, scalar0, AV.one, putL, unfA, implies_true, IntKind.signed, Nat.reduceAdd, Nat.reduceSub, Nat.reduceMul, Nat.reducePow, Nat.reduceDiv, Nat.reduceMod, Int.reduceAdd, Int.reduceSub, Int.reduceMul, Int.reducePow, Int.reduceNeg, Int.reduceToNat, Int.reduceLT, Int.reduceLE, Nat.reduceEqDiff, sidsB, Nat.reduceBEq, keyKD, isIntK]
            first
            | refine CallC.of (rtimes_spec ((10 ^ j : Nat) : Int) 10 (by omega) (by omega)) (by (try simp only [Big_nat]); try rfl) ?_
            | refine ⟨by rfl, CallC.of (rtimes_spec ((10 ^ j : Nat) : Int) 10 (by omega) (by omega)) (by (try simp only [Big_nat]); try rfl) ?_⟩
            rw [hmul, Big_nat]
            simp (config := { maxSteps := 1000000 }) (disch := ((try simp only [awL]); omega)) only [nextC_more, nextC_over, bs_size, bs_extract, bs_toList, bs_append, byteAt_bs, bs_cells, nums_length, nums_getD, ↓awU, awV, awF, ofVal, ofVal0, isShift, aggK, forall_const, ↓reduceIte, ↓reduceDIte, ↓purePost, combine, idsA, cellsA, numsOf, srcA, calleeA, refsA, isScalar, scalarD, scalar0, AV.one, putL, unfA, implies_true, IntKind.signed, Nat.reduceAdd, Nat.reduceSub, Nat.reduceMul, Nat.reducePow, Nat.reduceDiv, Nat.reduceMod, Int.reduceAdd, Int.reduceSub, Int.reduceMul, Int.reducePow, Int.reduceNeg, Int.reduceToNat, Int.reduceLT, Int.reduceLE, Nat.reduceEqDiff, sidsB, Nat.reduceBEq, keyKD, isIntK]
            exact ⟨by rfl, j + 1, h2, by simp only; omega, ⟨[some 0, some 1, some 2, some 3, some 4], rfl, by simp, by simp [setsA, keepA, SWeak, AWeak], by simp [HWeak, BWeak, SWeak, AWeak]⟩⟩
          · obtain rfl : j = Bk.length := by omega
            have hd0 : ((10 ^ Bk.length : Nat) : Int) ≠ 0 := by
              have : 0 < 10 ^ Bk.length := Nat.pow_pos (by decide)
              omega
            have szv : sz (decNum L : Int) ≤ 30 := by simp only [sz, Int.natAbs_natCast]; exact lt
            have szm : sz (-(decNum L : Int)) ≤ 30 := by simp only [sz, Int.natAbs_neg, Int.natAbs_natCast]; exact lt
            cases neg
            · rw [if_neg Bool.false_ne_true] at hdv
              simp (config := { maxSteps := 1000000 }) (disch := ((try simp only [awL]); omega)) only [nextC_more, nextC_over, bs_size, bs_extract, bs_toList, bs_append, byteAt_bs, bs_cells, nums_length, nums_getD, ↓awU, awV, awF, ofVal, ofVal0, isShift, aggK, forall_const, ↓reduceIte, ↓reduceDIte, ↓purePost, combine, idsA, cellsA, numsOf, srcA, calleeA, refsA, isScalar, scalarD, scalar0, AV.one, putL, unfA, implies_true, IntKind.signed, Nat.reduceAdd, Nat.reduceSub, Nat.reduceMul, Nat.reducePow, Nat.reduceDiv, Nat.reduceMod, Int.reduceAdd, Int.reduceSub, Int.reduceMul, Int.reducePow, Int.reduceNeg, Int.reduceToNat, Int.reduceLT, Int.reduceLE, Nat.reduceEqDiff, sidsB, Nat.reduceBEq, keyKD, isIntK]
              first
              | refine CallC.of (rlowest_spec (decNum L : Int) ((10 ^ Bk.length : Nat) : Int) hd0 (by omega) (by omega)) (by (try simp only [Big_nat]); try rfl) ?_
              | refine ⟨by rfl, CallC.of (rlowest_spec (decNum L : Int) ((10 ^ Bk.length : Nat) : Int) hd0 (by omega) (by omega)) (by (try simp only [Big_nat]); try rfl) ?_⟩
              rw [← hdv]
              simp (config := { maxSteps := 1000000 }) (disch := ((try simp only [awL]); omega)) only [nextC_more, nextC_over, bs_size, bs_extract, bs_toList, bs_append, byteAt_bs, bs_cells, nums_length, nums_getD, ↓awU, awV, awF, ofVal, ofVal0, isShift, aggK, forall_const, ↓reduceIte, ↓reduceDIte, ↓purePost, combine, idsA, cellsA, numsOf, srcA, calleeA, refsA, isScalar, scalarD, scalar0, AV.one, putL, unfA, implies_true, IntKind.signed, Nat.reduceAdd, Nat.reduceSub, Nat.reduceMul, Nat.reducePow, Nat.reduceDiv, Nat.reduceMod, Int.reduceAdd, Int.reduceSub, Int.reduceMul, Int.reducePow, Int.reduceNeg, Int.reduceToNat, Int.reduceLT, Int.reduceLE, Nat.reduceEqDiff, sidsB, Nat.reduceBEq, keyKD, isIntK]
              first | done | rfl
            · rw [if_pos rfl] at hdv
              simp (config := { maxSteps := 1000000 }) (disch := ((try simp only [awL]); omega)) only [nextC_more, nextC_over, bs_size, bs_extract, bs_toList, bs_append, byteAt_bs, bs_cells, nums_length, nums_getD, ↓awU, awV, awF, ofVal, ofVal0, isShift, aggK, forall_const, ↓reduceIte, ↓reduceDIte, ↓purePost, combine, idsA, cellsA, numsOf, srcA, calleeA, refsA, isScalar, scalarD, scalar0, AV.one, putL, unfA, implies_true, IntKind.signed, Nat.reduceAdd, Nat.reduceSub, Nat.reduceMul, Nat.reducePow, Nat.reduceDiv, Nat.reduceMod, Int.reduceAdd, Int.reduceSub, Int.reduceMul, Int.reducePow, Int.reduceNeg, Int.reduceToNat, Int.reduceLT, Int.reduceLE, Nat.reduceEqDiff, sidsB, Nat.reduceBEq, keyKD, isIntK]
              first
              | refine CallC.of (rminus_spec (decNum L : Int) (by omega)) (by (try simp only [Big_nat]); try rfl) ?_
              | refine ⟨by rfl, CallC.of (rminus_spec (decNum L : Int) (by omega)) (by (try simp only [Big_nat]); try rfl) ?_⟩
              simp (config := { maxSteps := 1000000 }) (disch := ((try simp only [awL]); omega)) only [nextC_more, nextC_over, bs_size, bs_extract, bs_toList, bs_append, byteAt_bs, bs_cells, nums_length, nums_getD, ↓awU, awV, awF, ofVal, ofVal0, isShift, aggK, forall_const, ↓reduceIte, ↓reduceDIte, ↓purePost, combine, idsA, cellsA, numsOf, srcA, calleeA, refsA, isScalar, scalarD, scalar0, AV.one, putL, unfA, implies_true, IntKind.signed, Nat.reduceAdd, Nat.reduceSub, Nat.reduceMul, Nat.reducePow, Nat.reduceDiv, Nat.reduceMod, Int.reduceAdd, Int.reduceSub, Int.reduceMul, Int.reducePow, Int.reduceNeg, Int.reduceToNat, Int.reduceLT, Int.reduceLE, Nat.reduceEqDiff, sidsB, Nat.reduceBEq, keyKD, isIntK]
              first
              | refine CallC.of (rlowest_spec (-(decNum L : Int)) ((10 ^ Bk.length : Nat) : Int) hd0 (by omega) (by omega)) (by (try simp only [Big_nat]); try rfl) ?_
              | refine ⟨by rfl, CallC.of (rlowest_spec (-(decNum L : Int)) ((10 ^ Bk.length : Nat) : Int) hd0 (by omega) (by omega)) (by (try simp only [Big_nat]); try rfl) ?_⟩
              rw [← hdv]
              simp (config := { maxSteps := 1000000 }) (disch := ((try simp only [awL]); omega)) only [nextC_more, nextC_over, bs_size, bs_extract, bs_toList, bs_append, byteAt_bs, bs_cells, nums_length, nums_getD, ↓awU, awV, awF, ofVal, ofVal0, isShift, aggK, forall_const, ↓reduceIte, ↓reduceDIte, ↓purePost, combine, idsA, cellsA, numsOf, srcA, calleeA, refsA, isScalar, scalarD, scalar0, AV.one, putL, unfA, implies_true, IntKind.signed, Nat.reduceAdd, Nat.reduceSub, Nat.reduceMul, Nat.reducePow, Nat.reduceDiv, Nat.reduceMod, Int.reduceAdd, Int.reduceSub, Int.reduceMul, Int.reducePow, Int.reduceNeg, Int.reduceToNat, Int.reduceLT, Int.reduceLE, Nat.reduceEqDiff, sidsB, Nat.reduceBEq, keyKD, isIntK]
              first | done | rfl
end Go.Proofs.YtkppgdialedoeaaGreatDoor

namespace Go.Proofs.YtkppgdialedoeaaGreatDoor
open Go Go.Proofs Go.Abs
variable {G : Globals}
/-! Sums, products, quotients, the order and the int of big integers. -/
theorem Big_zero : Big 0 = .agg [.bool false, .sl 0 false []] := by
  have e : toW (0 : Int).natAbs = [] := toW_zero
  simp only [Big, bigL, W, e]; rfl
theorem tdiv_sign (a b : Int) : (if (decide (a < 0) != decide (b < 0)) = true then -((a.natAbs / b.natAbs : Nat) : Int) else ((a.natAbs / b.natAbs : Nat) : Int)) = a.tdiv b := by
  rcases Int.lt_or_le a 0 with h1 | h1 <;> rcases Int.lt_or_le b 0 with h2 | h2
  · rw [decide_eq_true h1, decide_eq_true h2]
    obtain ⟨m, rfl⟩ : ∃ m : Nat, a = -(m : Int) := ⟨a.natAbs, by omega⟩
    obtain ⟨k, rfl⟩ : ∃ k : Nat, b = -(k : Int) := ⟨b.natAbs, by omega⟩
    simp
  · rw [decide_eq_true h1, decide_eq_false (by omega)]
    obtain ⟨m, rfl⟩ : ∃ m : Nat, a = -(m : Int) := ⟨a.natAbs, by omega⟩
    obtain ⟨k, rfl⟩ : ∃ k : Nat, b = (k : Int) := ⟨b.natAbs, by omega⟩
    simp
  · rw [decide_eq_false (by omega), decide_eq_true h2]
    obtain ⟨m, rfl⟩ : ∃ m : Nat, a = (m : Int) := ⟨a.natAbs, by omega⟩
    obtain ⟨k, rfl⟩ : ∃ k : Nat, b = -(k : Int) := ⟨b.natAbs, by omega⟩
    simp
  · rw [decide_eq_false (by omega), decide_eq_false (by omega)]
    obtain ⟨m, rfl⟩ : ∃ m : Nat, a = (m : Int) := ⟨a.natAbs, by omega⟩
    obtain ⟨k, rfl⟩ : ∃ k : Nat, b = (k : Int) := ⟨b.natAbs, by omega⟩
    simp
theorem tmod_sign (a b : Int) : (if decide (a < 0) = true then -((a.natAbs % b.natAbs : Nat) : Int) else ((a.natAbs % b.natAbs : Nat) : Int)) = a.tmod b := by
  rcases Int.lt_or_le a 0 with h1 | h1
  · rw [decide_eq_true h1]
    obtain ⟨m, rfl⟩ : ∃ m : Nat, a = -(m : Int) := ⟨a.natAbs, by omega⟩
    rcases Int.le_total 0 b with h2 | h2
    · obtain ⟨k, rfl⟩ : ∃ k : Nat, b = (k : Int) := ⟨b.natAbs, by omega⟩
      simp
      exact (Int.tmod_eq_emod_of_nonneg (by omega)).symm
    · obtain ⟨k, rfl⟩ : ∃ k : Nat, b = -(k : Int) := ⟨b.natAbs, by omega⟩
      simp
      exact (Int.tmod_eq_emod_of_nonneg (by omega)).symm
  · rw [decide_eq_false (by omega)]
    obtain ⟨m, rfl⟩ : ∃ m : Nat, a = (m : Int) := ⟨a.natAbs, by omega⟩
    rcases Int.le_total 0 b with h2 | h2
    · obtain ⟨k, rfl⟩ : ∃ k : Nat, b = (k : Int) := ⟨b.natAbs, by omega⟩
      simp
      exact (Int.tmod_eq_emod_of_nonneg (by omega)).symm
    · obtain ⟨k, rfl⟩ : ∃ k : Nat, b = -(k : Int) := ⟨b.natAbs, by omega⟩
      simp
      exact (Int.tmod_eq_emod_of_nonneg (by omega)).symm
set_option maxHeartbeats 2000000 in
theorem divBig_spec (a b : Int) (ha : sz a ≤ 256) (hb : sz b ≤ 256) : Ctr Tryz.prog G 50 [.d (Big a), .d (Big b)] [] (.d (.tup [Big (if b = 0 then 0 else a.tdiv b), Big (if b = 0 then 0 else a.tmod b), .int .i64 (if b = 0 then 8 else 0)])) [] := by
  refine Ctr.pure (M := M0) hmix Tryz.func50 rfl go50 ?_
  simp (config := { maxSteps := 1000000 }) (disch := ((try simp only [awL]); omega)) only [Tryz.f50, ↓awU, awV, awF, ofVal, ofVal0, isShift, aggK, forall_const, ↓reduceIte, ↓reduceDIte, ↓purePost, combine, idsA, cellsA, numsOf, srcA, calleeA, refsA, isScalar, scalarD, scalar0, AV.one, putL, unfA, implies_true, IntKind.signed, Nat.reduceAdd, Nat.reduceSub, Nat.reduceMul, Nat.reducePow, Nat.reduceDiv, Nat.reduceMod, Int.reduceAdd, Int.reduceSub, Int.reduceMul, Int.reducePow, Int.reduceNeg, Int.reduceToNat, Int.reduceLT, Int.reduceLE, Nat.reduceEqDiff, sidsB, Nat.reduceBEq, keyKD, isIntK]
  refine CallC.by (bigs_spec a b) (by simp [cut, bigL, W]) rfl (Nat.le_refl _) ?_
  rw [decide_eq_true (p := sz a ≤ 256 ∧ sz b ≤ 256) ⟨ha, hb⟩]
  have ha' := ha
  have hb' := hb
  simp only [sz] at ha' hb'
  by_cases h0 : b = 0
  · rw [if_pos h0, if_pos h0, if_pos h0, Big_zero]
    have e : (toW b.natAbs).length = 0 := by rw [h0]; show (toW 0).length = 0; rw [toW_zero]; rfl
    simp (config := { maxSteps := 1000000 }) (disch := ((try simp only [awL]); omega)) only [e, ↓awU, awV, awF, ofVal, ofVal0, isShift, aggK, forall_const, ↓reduceIte, ↓reduceDIte, ↓purePost, combine, idsA, cellsA, numsOf, srcA, calleeA, refsA, isScalar, scalarD, scalar0, AV.one, putL, unfA, implies_true, IntKind.signed, Nat.reduceAdd, Nat.reduceSub, Nat.reduceMul, Nat.reducePow, Nat.reduceDiv, Nat.reduceMod, Int.reduceAdd, Int.reduceSub, Int.reduceMul, Int.reducePow, Int.reduceNeg, Int.reduceToNat, Int.reduceLT, Int.reduceLE, Nat.reduceEqDiff, sidsB, Nat.reduceBEq, keyKD, isIntK]
    first | done | rfl
  · have e := (@sz_pos b.natAbs).2 (by omega)
    rw [if_neg h0, if_neg h0, if_neg h0]
    have l1 : (toW (a.natAbs / b.natAbs)).length ≤ (toW a.natAbs).length := toW_len_mono (Nat.div_le_self _ _)
    have l2 : (toW (a.natAbs % b.natAbs)).length ≤ (toW a.natAbs).length := toW_len_mono (Nat.mod_le _ _)
    simp (config := { maxSteps := 1000000 }) (disch := ((try simp only [awL]); omega)) only [↓awU, awV, awF, ofVal, ofVal0, isShift, aggK, forall_const, ↓reduceIte, ↓reduceDIte, ↓purePost, combine, idsA, cellsA, numsOf, srcA, calleeA, refsA, isScalar, scalarD, scalar0, AV.one, putL, unfA, implies_true, IntKind.signed, Nat.reduceAdd, Nat.reduceSub, Nat.reduceMul, Nat.reducePow, Nat.reduceDiv, Nat.reduceMod, Int.reduceAdd, Int.reduceSub, Int.reduceMul, Int.reducePow, Int.reduceNeg, Int.reduceToNat, Int.reduceLT, Int.reduceLE, Nat.reduceEqDiff, sidsB, Nat.reduceBEq, keyKD, isIntK]
    refine CallC.pure (over_spec a.natAbs b.natAbs (by omega) (by omega) (by omega)) ?_
    simp (config := { maxSteps := 1000000 }) (disch := ((try simp only [awL]); omega)) only [↓awU, awV, awF, ofVal, ofVal0, isShift, aggK, forall_const, ↓reduceIte, ↓reduceDIte, ↓purePost, combine, idsA, cellsA, numsOf, srcA, calleeA, refsA, isScalar, scalarD, scalar0, AV.one, putL, unfA, implies_true, IntKind.signed, Nat.reduceAdd, Nat.reduceSub, Nat.reduceMul, Nat.reducePow, Nat.reduceDiv, Nat.reduceMod, Int.reduceAdd, Int.reduceSub, Int.reduceMul, Int.reducePow, Int.reduceNeg, Int.reduceToNat, Int.reduceLT, Int.reduceLE, Nat.reduceEqDiff, sidsB, Nat.reduceBEq, keyKD, isIntK]
    refine CallC.pure (signed_spec _ _ (by omega)) ?_
    simp (config := { maxSteps := 1000000 }) (disch := ((try simp only [awL]); omega)) only [↓awU, awV, awF, ofVal, ofVal0, isShift, aggK, forall_const, ↓reduceIte, ↓reduceDIte, ↓purePost, combine, idsA, cellsA, numsOf, srcA, calleeA, refsA, isScalar, scalarD, scalar0, AV.one, putL, unfA, implies_true, IntKind.signed, Nat.reduceAdd, Nat.reduceSub, Nat.reduceMul, Nat.reducePow, Nat.reduceDiv, Nat.reduceMod, Int.reduceAdd, Int.reduceSub, Int.reduceMul, Int.reducePow, Int.reduceNeg, Int.reduceToNat, Int.reduceLT, Int.reduceLE, Nat.reduceEqDiff, sidsB, Nat.reduceBEq, keyKD, isIntK]
    refine CallC.pure (signed_spec _ _ (by omega)) ?_
    rw [← tdiv_sign, ← tmod_sign]
    simp (config := { maxSteps := 1000000 }) (disch := ((try simp only [awL]); omega)) only [↓awU, awV, awF, ofVal, ofVal0, isShift, aggK, forall_const, ↓reduceIte, ↓reduceDIte, ↓purePost, combine, idsA, cellsA, numsOf, srcA, calleeA, refsA, isScalar, scalarD, scalar0, AV.one, putL, unfA, implies_true, IntKind.signed, Nat.reduceAdd, Nat.reduceSub, Nat.reduceMul, Nat.reducePow, Nat.reduceDiv, Nat.reduceMod, Int.reduceAdd, Int.reduceSub, Int.reduceMul, Int.reducePow, Int.reduceNeg, Int.reduceToNat, Int.reduceLT, Int.reduceLE, Nat.reduceEqDiff, sidsB, Nat.reduceBEq, keyKD, isIntK]
    first | done | rfl
end Go.Proofs.YtkppgdialedoeaaGreatDoor

namespace Go.Proofs.YtkppgdialedoeaaGreatDoor
open Go Go.Proofs Go.Abs
variable {G : Globals}
/-! The fractions of the dice. -/
/-- Few words. -/
def Fw (k : Nat) (x : Rat) : Prop := sz x.num ≤ k ∧ (toW x.den).length ≤ k
theorem Fw.fv {k : Nat} {x : Rat} (h : Fw k x) (hk : k ≤ 256) : FV x := ⟨Nat.le_trans h.1 hk, Nat.le_trans h.2 hk⟩
theorem Fw.mono {k m : Nat} {x : Rat} (h : Fw k x) (hk : k ≤ m) : Fw m x := ⟨Nat.le_trans h.1 hk, Nat.le_trans h.2 hk⟩
theorem Fw_divInt {n d : Int} {k : Nat} (hd : d ≠ 0) (h1 : sz n ≤ k) (h2 : sz d ≤ k) : Fw k (Rat.divInt n d) := by
  have e1 : (Rat.divInt n d).num.natAbs ≤ n.natAbs := by
    rw [Rat.num_divInt]
    rw [Int.natAbs_ediv_of_dvd (Int.dvd_mul_of_dvd_right (Int.gcd_dvd_right _ _))]
    refine Nat.le_trans (Nat.div_le_self _ _) ?_
    rw [Int.natAbs_mul, Int.natAbs_sign]
    split <;> omega
  have e2 : (Rat.divInt n d).den ≤ d.natAbs := by
    rw [Rat.den_divInt]
    split
    · omega
    · exact Nat.div_le_self _ _
  simp only [sz] at h1 h2
  exact ⟨Nat.le_trans (toW_len_mono e1) h1, Nat.le_trans (toW_len_mono e2) h2⟩
end Go.Proofs.YtkppgdialedoeaaGreatDoor

namespace Go.Proofs.YtkppgdialedoeaaGreatDoor
open Go Go.Proofs Go.Abs
variable {G : Globals}
/-! The examples of the chapter. -/
def q12 : Rat := Rat.divInt 1 2
def q13 : Rat := Rat.divInt 1 3
theorem q_fv : FV q12 ∧ FV q13 ∧ FV (q12 + q13) := by decide +kernel
theorem q_text : textF (q12 + q13) = [53, 47, 54] := by decide +kernel
theorem q_t3 : textB (-3) = [45, 51] := by decide +kernel
theorem q_t1 : textB (-1) = [45, 49] := by decide +kernel
abbrev ex : List UInt8 := [45, 49, 50, 46, 53, 48]
theorem ex_ok : decOk ex = true ∧ FV (decVal ex) ∧ textF (decVal ex) = [45, 50, 53, 47, 50] := by decide +kernel
set_option maxHeartbeats 4000000 in
set_option maxRecDepth 100000 in
theorem sane_spec (hG : HG G) : Ctr Tryz.prog G 7 [] [] (.d (.bool true)) [] := by
  refine Ctr.pure (M := M0) hmix Tryz.func7 rfl go7 ?_
  obtain ⟨v1, v2, v3⟩ := q_fv
  obtain ⟨x1, x2, x3⟩ := ex_ok
  simp (config := { maxSteps := 1000000 }) (disch := ((try simp only [awL]); omega)) only [nextC_more, nextC_over, bs_size, bs_extract, bs_toList, bs_append, byteAt_bs, bs_cells, nums_length, nums_getD, Tryz.f7, ↓awU, awV, awF, ofVal, ofVal0, isShift, aggK, forall_const, ↓reduceIte, ↓reduceDIte, ↓purePost, combine, idsA, cellsA, numsOf, srcA, calleeA, refsA, isScalar, scalarD, scalar0, AV.one, putL, unfA, implies_true, IntKind.signed, Nat.reduceAdd, Nat.reduceSub, Nat.reduceMul, Nat.reducePow, Nat.reduceDiv, Nat.reduceMod, Int.reduceAdd, Int.reduceSub, Int.reduceMul, Int.reducePow, Int.reduceNeg, Int.reduceToNat, Int.reduceLT, Int.reduceLE, Nat.reduceEqDiff, sidsB, Nat.reduceBEq, keyKD, isIntK]
  refine CallC.pure (of_spec 1 2 (by decide) (by decide) (by decide) (by decide)) ?_
  rw [if_neg (by decide), if_neg (by decide), ← q12]
  simp (config := { maxSteps := 1000000 }) (disch := ((try simp only [awL]); omega)) only [nextC_more, nextC_over, bs_size, bs_extract, bs_toList, bs_append, byteAt_bs, bs_cells, nums_length, nums_getD, ↓awU, awV, awF, ofVal, ofVal0, isShift, aggK, forall_const, ↓reduceIte, ↓reduceDIte, ↓purePost, combine, idsA, cellsA, numsOf, srcA, calleeA, refsA, isScalar, scalarD, scalar0, AV.one, putL, unfA, implies_true, IntKind.signed, Nat.reduceAdd, Nat.reduceSub, Nat.reduceMul, Nat.reducePow, Nat.reduceDiv, Nat.reduceMod, Int.reduceAdd, Int.reduceSub, Int.reduceMul, Int.reducePow, Int.reduceNeg, Int.reduceToNat, Int.reduceLT, Int.reduceLE, Nat.reduceEqDiff, sidsB, Nat.reduceBEq, keyKD, isIntK]
  refine CallC.pure (of_spec 1 3 (by decide) (by decide) (by decide) (by decide)) ?_
  rw [if_neg (by decide), if_neg (by decide), ← q13]
  simp (config := { maxSteps := 1000000 }) (disch := ((try simp only [awL]); omega)) only [nextC_more, nextC_over, bs_size, bs_extract, bs_toList, bs_append, byteAt_bs, bs_cells, nums_length, nums_getD, ↓awU, awV, awF, ofVal, ofVal0, isShift, aggK, forall_const, ↓reduceIte, ↓reduceDIte, ↓purePost, combine, idsA, cellsA, numsOf, srcA, calleeA, refsA, isScalar, scalarD, scalar0, AV.one, putL, unfA, implies_true, IntKind.signed, Nat.reduceAdd, Nat.reduceSub, Nat.reduceMul, Nat.reducePow, Nat.reduceDiv, Nat.reduceMod, Int.reduceAdd, Int.reduceSub, Int.reduceMul, Int.reducePow, Int.reduceNeg, Int.reduceToNat, Int.reduceLT, Int.reduceLE, Nat.reduceEqDiff, sidsB, Nat.reduceBEq, keyKD, isIntK]
  refine CallC.pure (add_spec hG q12 q13 v1 v2 v3) ?_
  simp (config := { maxSteps := 1000000 }) (disch := ((try simp only [awL]); omega)) only [nextC_more, nextC_over, bs_size, bs_extract, bs_toList, bs_append, byteAt_bs, bs_cells, nums_length, nums_getD, ↓awU, awV, awF, ofVal, ofVal0, isShift, aggK, forall_const, ↓reduceIte, ↓reduceDIte, ↓purePost, combine, idsA, cellsA, numsOf, srcA, calleeA, refsA, isScalar, scalarD, scalar0, AV.one, putL, unfA, implies_true, IntKind.signed, Nat.reduceAdd, Nat.reduceSub, Nat.reduceMul, Nat.reducePow, Nat.reduceDiv, Nat.reduceMod, Int.reduceAdd, Int.reduceSub, Int.reduceMul, Int.reducePow, Int.reduceNeg, Int.reduceToNat, Int.reduceLT, Int.reduceLE, Nat.reduceEqDiff, sidsB, Nat.reduceBEq, keyKD, isIntK]
  refine CallC.pure (fromInt_spec (-7) (by decide) (by decide)) ?_
  simp (config := { maxSteps := 1000000 }) (disch := ((try simp only [awL]); omega)) only [nextC_more, nextC_over, bs_size, bs_extract, bs_toList, bs_append, byteAt_bs, bs_cells, nums_length, nums_getD, ↓awU, awV, awF, ofVal, ofVal0, isShift, aggK, forall_const, ↓reduceIte, ↓reduceDIte, ↓purePost, combine, idsA, cellsA, numsOf, srcA, calleeA, refsA, isScalar, scalarD, scalar0, AV.one, putL, unfA, implies_true, IntKind.signed, Nat.reduceAdd, Nat.reduceSub, Nat.reduceMul, Nat.reducePow, Nat.reduceDiv, Nat.reduceMod, Int.reduceAdd, Int.reduceSub, Int.reduceMul, Int.reducePow, Int.reduceNeg, Int.reduceToNat, Int.reduceLT, Int.reduceLE, Nat.reduceEqDiff, sidsB, Nat.reduceBEq, keyKD, isIntK]
  refine CallC.pure (fromInt_spec 2 (by decide) (by decide)) ?_
  simp (config := { maxSteps := 1000000 }) (disch := ((try simp only [awL]); omega)) only [nextC_more, nextC_over, bs_size, bs_extract, bs_toList, bs_append, byteAt_bs, bs_cells, nums_length, nums_getD, ↓awU, awV, awF, ofVal, ofVal0, isShift, aggK, forall_const, ↓reduceIte, ↓reduceDIte, ↓purePost, combine, idsA, cellsA, numsOf, srcA, calleeA, refsA, isScalar, scalarD, scalar0, AV.one, putL, unfA, implies_true, IntKind.signed, Nat.reduceAdd, Nat.reduceSub, Nat.reduceMul, Nat.reducePow, Nat.reduceDiv, Nat.reduceMod, Int.reduceAdd, Int.reduceSub, Int.reduceMul, Int.reducePow, Int.reduceNeg, Int.reduceToNat, Int.reduceLT, Int.reduceLE, Nat.reduceEqDiff, sidsB, Nat.reduceBEq, keyKD, isIntK]
  refine CallC.of (divBig_spec (-7) 2 (by decide +kernel) (by decide +kernel)) (by rfl) ?_
  rw [if_neg (by decide), if_neg (by decide), if_neg (by decide), show Int.tdiv (-7) 2 = -3 from rfl, show Int.tmod (-7) 2 = -1 from rfl]
  simp (config := { maxSteps := 1000000 }) (disch := ((try simp only [awL]); omega)) only [nextC_more, nextC_over, bs_size, bs_extract, bs_toList, bs_append, byteAt_bs, bs_cells, nums_length, nums_getD, ↓awU, awV, awF, ofVal, ofVal0, isShift, aggK, forall_const, ↓reduceIte, ↓reduceDIte, ↓purePost, combine, idsA, cellsA, numsOf, srcA, calleeA, refsA, isScalar, scalarD, scalar0, AV.one, putL, unfA, implies_true, IntKind.signed, Nat.reduceAdd, Nat.reduceSub, Nat.reduceMul, Nat.reducePow, Nat.reduceDiv, Nat.reduceMod, Int.reduceAdd, Int.reduceSub, Int.reduceMul, Int.reducePow, Int.reduceNeg, Int.reduceToNat, Int.reduceLT, Int.reduceLE, Nat.reduceEqDiff, sidsB, Nat.reduceBEq, keyKD, isIntK]
  refine CallC.pure (decimalF_spec hG ex (by decide)) ?_
  rw [x1, if_pos rfl]
  generalize decVal ex = y at *
  simp (config := { maxSteps := 1000000 }) (disch := ((try simp only [awL]); omega)) only [nextC_more, nextC_over, bs_size, bs_extract, bs_toList, bs_append, byteAt_bs, bs_cells, nums_length, nums_getD, ↓awU, awV, awF, ofVal, ofVal0, isShift, aggK, forall_const, ↓reduceIte, ↓reduceDIte, ↓purePost, combine, idsA, cellsA, numsOf, srcA, calleeA, refsA, isScalar, scalarD, scalar0, AV.one, putL, unfA, implies_true, IntKind.signed, Nat.reduceAdd, Nat.reduceSub, Nat.reduceMul, Nat.reducePow, Nat.reduceDiv, Nat.reduceMod, Int.reduceAdd, Int.reduceSub, Int.reduceMul, Int.reducePow, Int.reduceNeg, Int.reduceToNat, Int.reduceLT, Int.reduceLE, Nat.reduceEqDiff, sidsB, Nat.reduceBEq, keyKD, isIntK]
  refine CallC.pure (text_spec hG (q12 + q13) v3) ?_
  rw [q_text]
  simp (config := { maxSteps := 1000000 }) (disch := ((try simp only [awL]); omega)) only [nextC_more, nextC_over, bs_size, bs_extract, bs_toList, bs_append, byteAt_bs, bs_cells, nums_length, nums_getD, ↓awU, awV, awF, ofVal, ofVal0, isShift, aggK, forall_const, ↓reduceIte, ↓reduceDIte, ↓purePost, combine, idsA, cellsA, numsOf, srcA, calleeA, refsA, isScalar, scalarD, scalar0, AV.one, putL, unfA, implies_true, IntKind.signed, Nat.reduceAdd, Nat.reduceSub, Nat.reduceMul, Nat.reducePow, Nat.reduceDiv, Nat.reduceMod, Int.reduceAdd, Int.reduceSub, Int.reduceMul, Int.reducePow, Int.reduceNeg, Int.reduceToNat, Int.reduceLT, Int.reduceLE, Nat.reduceEqDiff, sidsB, Nat.reduceBEq, keyKD, isIntK]
  refine CallC.of (textBig_spec (-3)) (by rfl) ?_
  rw [q_t3]
  simp (config := { maxSteps := 1000000 }) (disch := ((try simp only [awL]); omega)) only [nextC_more, nextC_over, bs_size, bs_extract, bs_toList, bs_append, byteAt_bs, bs_cells, nums_length, nums_getD, ↓awU, awV, awF, ofVal, ofVal0, isShift, aggK, forall_const, ↓reduceIte, ↓reduceDIte, ↓purePost, combine, idsA, cellsA, numsOf, srcA, calleeA, refsA, isScalar, scalarD, scalar0, AV.one, putL, unfA, implies_true, IntKind.signed, Nat.reduceAdd, Nat.reduceSub, Nat.reduceMul, Nat.reducePow, Nat.reduceDiv, Nat.reduceMod, Int.reduceAdd, Int.reduceSub, Int.reduceMul, Int.reducePow, Int.reduceNeg, Int.reduceToNat, Int.reduceLT, Int.reduceLE, Nat.reduceEqDiff, sidsB, Nat.reduceBEq, keyKD, isIntK]
  refine CallC.of (textBig_spec (-1)) (by rfl) ?_
  rw [q_t1]
  simp (config := { maxSteps := 1000000 }) (disch := ((try simp only [awL]); omega)) only [nextC_more, nextC_over, bs_size, bs_extract, bs_toList, bs_append, byteAt_bs, bs_cells, nums_length, nums_getD, ↓awU, awV, awF, ofVal, ofVal0, isShift, aggK, forall_const, ↓reduceIte, ↓reduceDIte, ↓purePost, combine, idsA, cellsA, numsOf, srcA, calleeA, refsA, isScalar, scalarD, scalar0, AV.one, putL, unfA, implies_true, IntKind.signed, Nat.reduceAdd, Nat.reduceSub, Nat.reduceMul, Nat.reducePow, Nat.reduceDiv, Nat.reduceMod, Int.reduceAdd, Int.reduceSub, Int.reduceMul, Int.reducePow, Int.reduceNeg, Int.reduceToNat, Int.reduceLT, Int.reduceLE, Nat.reduceEqDiff, sidsB, Nat.reduceBEq, keyKD, isIntK]
  refine CallC.pure (text_spec hG y x2) ?_
  rw [x3]
  simp (config := { maxSteps := 1000000 }) (disch := ((try simp only [awL]); omega)) only [nextC_more, nextC_over, bs_size, bs_extract, bs_toList, bs_append, byteAt_bs, bs_cells, nums_length, nums_getD, ↓awU, awV, awF, ofVal, ofVal0, isShift, aggK, forall_const, ↓reduceIte, ↓reduceDIte, ↓purePost, combine, idsA, cellsA, numsOf, srcA, calleeA, refsA, isScalar, scalarD, scalar0, AV.one, putL, unfA, implies_true, IntKind.signed, Nat.reduceAdd, Nat.reduceSub, Nat.reduceMul, Nat.reducePow, Nat.reduceDiv, Nat.reduceMod, Int.reduceAdd, Int.reduceSub, Int.reduceMul, Int.reducePow, Int.reduceNeg, Int.reduceToNat, Int.reduceLT, Int.reduceLE, Nat.reduceEqDiff, sidsB, Nat.reduceBEq, keyKD, isIntK]
  first | done | rfl
end Go.Proofs.YtkppgdialedoeaaGreatDoor

namespace Go.Proofs.YtkppgdialedoeaaGreatDoor
open Go Go.Proofs Go.Abs
/-! Different numbers have different texts. -/
end Go.Proofs.YtkppgdialedoeaaGreatDoor

namespace Go.Proofs.YtkppgdialedoeaaGreatDoor
open Go Go.Proofs Go.Abs
variable {G : Globals}
/-! FractionOrder. -/
/-- The seeds are bytes. -/
def OkS (t : List Int) : Prop := ∀ i, 0 ≤ t.getD i 0 ∧ t.getD i 0 ≤ 255
theorem OkS.take {t : List Int} (h : OkS t) : OkM (t.take 300) := by
  refine ⟨by rw [List.length_take]; omega, fun i => ?_⟩
  rw [List.getD_eq_getElem?_getD, List.getElem?_take]
  split
  · rw [← List.getD_eq_getElem?_getD]; exact h i
  · simp
end Go.Proofs.YtkppgdialedoeaaGreatDoor

namespace Go.Proofs.YtkppgdialedoeaaGreatDoor
open Go Go.Proofs Go.Abs
variable {G : Globals}
/-! Products and quotients of fractions. -/
end Go.Proofs.YtkppgdialedoeaaGreatDoor

namespace Go.Proofs.YtkppgdialedoeaaGreatDoor
open Go Go.Proofs Go.Abs
variable {G : Globals}
/-! Big integers that may be none: a sign and digits. -/
structure RB where
  neg : Bool
  l : List Nat
def RB.ok (x : RB) : Bool := decide (x.l.length ≤ 256 ∧ (x.l = [] ∧ x.neg = false ∨ x.l ≠ [] ∧ x.l.getD (x.l.length - 1) 0 ≠ 0))
def RB.int (x : RB) : Int := if x.neg then -(val x.l : Int) else val x.l
structure RB.Dg (x : RB) : Prop where
  dig : Dig x.l
  len : x.l.length ≤ 1000
theorem RB.of (n : Int) (h : sz n ≤ 1000) : RB.Dg ⟨decide (n < 0), toW n.natAbs⟩ := ⟨dig_toW _, h⟩
end Go.Proofs.YtkppgdialedoeaaGreatDoor

namespace Go.Proofs.YtkppgdialedoeaaGreatDoor
open Go Go.Proofs Go.Abs
variable {G : Globals}
/-! Operations on big integers, valid or not, of both packages. -/
end Go.Proofs.YtkppgdialedoeaaGreatDoor

namespace Go.Proofs.YtkppgdialedoeaaGreatDoor
open Go Go.Proofs Go.Abs
variable {G : Globals}
/-! The int of a big integer, valid or not. -/
end Go.Proofs.YtkppgdialedoeaaGreatDoor

namespace Go.Proofs.YtkppgdialedoeaaGreatDoor
open Go Go.Proofs Go.Abs
variable {G : Globals}
/-! The reference's text of a big integer. -/
end Go.Proofs.YtkppgdialedoeaaGreatDoor

namespace Go.Proofs.YtkppgdialedoeaaGreatDoor
open Go Go.Proofs Go.Abs
variable {G : Globals}
/-! Texts of big integers that may be none; which are the same; odd ones. -/
set_option maxRecDepth 100000 in
theorem rsame_spec (n : Int) (hn : sz n ≤ 1000) : Ctr Tryz.prog G 38 [.d (Big n), .d (Big n)] [] (.d (.bool true)) [] := by
  simp only [sz] at hn
  refine Ctr.pure (M := M0) hmix Tryz.func38 rfl go38 ?_
  simp (config := { maxSteps := 1000000 }) (disch := ((try simp only [awL]); omega)) only [Tryz.f38, ↓awU, awV, awF, ofVal, ofVal0, isShift, aggK, forall_const, ↓reduceIte, ↓reduceDIte, ↓purePost, combine, idsA, cellsA, numsOf, srcA, calleeA, refsA, isScalar, scalarD, scalar0, AV.one, putL, unfA, implies_true, IntKind.signed, Nat.reduceAdd, Nat.reduceSub, Nat.reduceMul, Nat.reducePow, Nat.reduceDiv, Nat.reduceMod, Int.reduceAdd, Int.reduceSub, Int.reduceMul, Int.reducePow, Int.reduceNeg, Int.reduceToNat, Int.reduceLT, Int.reduceLE, Nat.reduceEqDiff, sidsB, Nat.reduceBEq, keyKD, isIntK]
  refine CallC.pure (rcmp_spec n.natAbs n.natAbs (by omega) (by omega)) ?_
  rw [cmpI_self]
  simp (config := { maxSteps := 1000000 }) (disch := ((try simp only [awL]); omega)) only [↓awU, awV, awF, ofVal, ofVal0, isShift, aggK, forall_const, ↓reduceIte, ↓reduceDIte, ↓purePost, combine, idsA, cellsA, numsOf, srcA, calleeA, refsA, isScalar, scalarD, scalar0, AV.one, putL, unfA, implies_true, IntKind.signed, Nat.reduceAdd, Nat.reduceSub, Nat.reduceMul, Nat.reducePow, Nat.reduceDiv, Nat.reduceMod, Int.reduceAdd, Int.reduceSub, Int.reduceMul, Int.reducePow, Int.reduceNeg, Int.reduceToNat, Int.reduceLT, Int.reduceLE, Nat.reduceEqDiff, sidsB, Nat.reduceBEq, keyKD, isIntK]
  try rfl
theorem mmod_spec (n m : Int) (hn1 : -9223372036854775808 ≤ n) (hn2 : n ≤ 9223372036854775807) (h0 : 0 < m) (h1 : m < 4611686018427387904) :
    Ctr Tryz.prog G 11 [.d (.int .i64 n), .d (.int .i64 m)] [] (.d (.int .i64 (n % m))) [] := by
  have e := Int.tmod_eq_emod (a := n) (b := m)
  have p1 := Int.emod_nonneg n (show m ≠ 0 by omega)
  have p2 := Int.emod_lt_of_pos n h0
  have c0 : -m < n.tmod m ∧ n.tmod m < m := ⟨Int.lt_tmod_of_pos n h0, Int.tmod_lt_of_pos n h0⟩
  have hh : (n.tmod m < 0 → n.tmod m + m = n % m) ∧ (¬ n.tmod m < 0 → n.tmod m = n % m) := by
    rw [e]
    split
    · exact ⟨fun h => by omega, fun _ => by omega⟩
    · exact ⟨fun h => by omega, fun h => by omega⟩
  clear e
  refine Ctr.pure (M := M0) hmix Tryz.func11 rfl go11 ?_
  simp (config := { maxSteps := 1000000 }) (disch := ((try simp only [awL]); omega)) only [Tryz.f11, ↓awU, awV, awF, ofVal, ofVal0, isShift, aggK, forall_const, ↓reduceIte, ↓reduceDIte, ↓purePost, combine, idsA, cellsA, numsOf, srcA, calleeA, refsA, isScalar, scalarD, scalar0, AV.one, putL, unfA, implies_true, IntKind.signed, Nat.reduceAdd, Nat.reduceSub, Nat.reduceMul, Nat.reducePow, Nat.reduceDiv, Nat.reduceMod, Int.reduceAdd, Int.reduceSub, Int.reduceMul, Int.reducePow, Int.reduceNeg, Int.reduceToNat, Int.reduceLT, Int.reduceLE, Nat.reduceEqDiff, sidsB, Nat.reduceBEq, keyKD, isIntK]
end Go.Proofs.YtkppgdialedoeaaGreatDoor

namespace Go.Proofs.YtkppgdialedoeaaGreatDoor
open Go Go.Proofs Go.Abs
variable {G : Globals}
/-! Fractions that may be none: which are valid. -/
structure RF where
  n : RB
  d : RB
abbrev FrI (p q : Int) : D := .agg [.bool (decide (p < 0)), W (toW p.natAbs), .bool (decide (q < 0)), W (toW q.natAbs)]
def okI (p q : Int) : Bool := decide (0 < q ∧ Nat.gcd p.natAbs q.natAbs = 1)
end Go.Proofs.YtkppgdialedoeaaGreatDoor

namespace Go.Proofs.YtkppgdialedoeaaGreatDoor
open Go Go.Proofs Go.Abs
variable {G : Globals}
/-! The reference: which fractions are valid. -/
end Go.Proofs.YtkppgdialedoeaaGreatDoor

namespace Go.Proofs.YtkppgdialedoeaaGreatDoor
open Go Go.Proofs Go.Abs
variable {G : Globals}
/-! Fractions that may be none: valid ones are fractions in lowest terms. -/
structure RF.Dg (x : RF) : Prop where
  n : x.n.Dg
  d : x.d.Dg
def RF.ok (x : RF) : Bool := (x.n.ok && x.d.ok) && okI x.n.int x.d.int
end Go.Proofs.YtkppgdialedoeaaGreatDoor

namespace Go.Proofs.YtkppgdialedoeaaGreatDoor
open Go Go.Proofs Go.Abs
variable {G : Globals}
/-! Operations on fractions that may be none, of both packages. -/
set_option maxRecDepth 100000 in
theorem rsameF_spec (p q : Int) (hp : sz p ≤ 1000) (hq : sz q ≤ 1000) : Ctr Tryz.prog G 16 [.d (FrI p q), .d (FrI p q)] [] (.d (.bool true)) [] := by
  refine Ctr.pure (M := M0) hmix Tryz.func16 rfl go16 ?_
  simp (config := { maxSteps := 1000000 }) (disch := ((try simp only [awL]); omega)) only [Tryz.f16, ↓awU, awV, awF, ofVal, ofVal0, isShift, aggK, forall_const, ↓reduceIte, ↓reduceDIte, ↓purePost, combine, idsA, cellsA, numsOf, srcA, calleeA, refsA, isScalar, scalarD, scalar0, AV.one, putL, unfA, implies_true, IntKind.signed, Nat.reduceAdd, Nat.reduceSub, Nat.reduceMul, Nat.reducePow, Nat.reduceDiv, Nat.reduceMod, Int.reduceAdd, Int.reduceSub, Int.reduceMul, Int.reducePow, Int.reduceNeg, Int.reduceToNat, Int.reduceLT, Int.reduceLE, Nat.reduceEqDiff, sidsB, Nat.reduceBEq, keyKD, isIntK]
  refine CallC.of (rsame_spec p hp) (by rfl) ?_
  simp (config := { maxSteps := 1000000 }) (disch := ((try simp only [awL]); omega)) only [↓awU, awV, awF, ofVal, ofVal0, isShift, aggK, forall_const, ↓reduceIte, ↓reduceDIte, ↓purePost, combine, idsA, cellsA, numsOf, srcA, calleeA, refsA, isScalar, scalarD, scalar0, AV.one, putL, unfA, implies_true, IntKind.signed, Nat.reduceAdd, Nat.reduceSub, Nat.reduceMul, Nat.reducePow, Nat.reduceDiv, Nat.reduceMod, Int.reduceAdd, Int.reduceSub, Int.reduceMul, Int.reducePow, Int.reduceNeg, Int.reduceToNat, Int.reduceLT, Int.reduceLE, Nat.reduceEqDiff, sidsB, Nat.reduceBEq, keyKD, isIntK]
  refine CallC.of (rsame_spec q hq) (by rfl) ?_
  simp (config := { maxSteps := 1000000 }) (disch := ((try simp only [awL]); omega)) only [↓awU, awV, awF, ofVal, ofVal0, isShift, aggK, forall_const, ↓reduceIte, ↓reduceDIte, ↓purePost, combine, idsA, cellsA, numsOf, srcA, calleeA, refsA, isScalar, scalarD, scalar0, AV.one, putL, unfA, implies_true, IntKind.signed, Nat.reduceAdd, Nat.reduceSub, Nat.reduceMul, Nat.reducePow, Nat.reduceDiv, Nat.reduceMod, Int.reduceAdd, Int.reduceSub, Int.reduceMul, Int.reducePow, Int.reduceNeg, Int.reduceToNat, Int.reduceLT, Int.reduceLE, Nat.reduceEqDiff, sidsB, Nat.reduceBEq, keyKD, isIntK]
  try rfl
/-- What is the same as itself. -/
def SmF (d : D) : Prop := ∃ p q, d = FrI p q ∧ sz p ≤ 1000 ∧ sz q ≤ 1000
set_option maxRecDepth 100000 in
theorem sz0 : sz 0 ≤ 1000 := by have e : toW (0 : Int).natAbs = [] := toW_zero; simp only [sz, e]; decide
set_option maxRecDepth 100000 in
theorem SmF_Zf : SmF Zf := ⟨0, 0, by have e : toW (0 : Int).natAbs = [] := toW_zero; simp only [FrI, W, e]; rfl, sz0, sz0⟩
set_option maxRecDepth 100000 in
theorem SmF_Frac {x : Rat} (h : FV x) : SmF (Frac x) := ⟨x.num, x.den, by simp [FrI], by have := h.1; omega, by have := h.2; simp only [sz, Int.natAbs_natCast]; omega⟩
end Go.Proofs.YtkppgdialedoeaaGreatDoor

namespace Go.Proofs.YtkppgdialedoeaaGreatDoor
open Go Go.Proofs Go.Abs
variable {G : Globals}
/-! Pairs of fractions that may be none; few words; Make and Of. -/
/-- At most six words. -/
structure RF.Sm (x : RF) : Prop where
  n : Dig x.n.l
  d : Dig x.d.l
  ln : x.n.l.length ≤ 6
  ld : x.d.l.length ≤ 6
theorem RF.Sm.dg {x : RF} (h : x.Sm) : x.Dg := ⟨⟨h.n, by have := h.ln; omega⟩, ⟨h.d, by have := h.ld; omega⟩⟩
end Go.Proofs.YtkppgdialedoeaaGreatDoor

namespace Go.Proofs.YtkppgdialedoeaaGreatDoor
open Go Go.Proofs Go.Abs
variable {G : Globals}
/-! FractionDecimals. -/
theorem dec_sm (s : List UInt8) : SmF (if decOk s = true then Frac (decVal s) else Zf) := by
  split
  · rename_i h
    obtain ⟨hall, hlen, hlb⟩ := decOk_facts h
    refine SmF_Frac ?_
    have h0 : ((10 ^ (decB s).length : Nat) : Int) ≠ 0 := by
      have : 0 < 10 ^ (decB s).length := Nat.pow_pos (by decide)
      omega
    have s1 : (toW (decNum (decF s ++ decB s))).length ≤ 24 := sz_small (Nat.lt_of_lt_of_le (decNum_lt hall) (Nat.pow_le_pow_right (by decide) hlen))
    have s2 : (toW (10 ^ (decB s).length)).length ≤ 24 := sz_small (Nat.pow_lt_pow_right (by decide) (by omega))
    refine (Fw_divInt (k := 24) h0 ?_ (by simp only [sz, Int.natAbs_natCast]; exact s2)).fv (by decide)
    split <;> (simp only [sz, Int.natAbs_neg, Int.natAbs_natCast]; exact s1)
  · exact SmF_Zf
theorem cut_nums {l : List UInt8} : cut (ints .u8 (nums l)) 0 l.length = ints .u8 (nums l) := by
  unfold cut
  rw [List.drop_zero]
  exact List.take_of_length_le (by simp [ints, nums])
theorem nums_set {l : List UInt8} {i : Nat} {c : UInt8} : (nums l).set i (c.toNat : Int) = nums (l.set i c) := by simp [nums, List.map_set]
def decTexts (r r2 x : List UInt8) : List (List UInt8) := [r, r2, x, [49, 50, 51, 52, 53, 54, 55, 56, 57, 48, 49, 50, 51, 52, 53, 46, 49, 50, 51, 52, 53, 54, 55, 56, 57], [49, 50, 51, 52, 53, 54, 55, 56, 57, 48, 49, 50, 51, 52, 53, 54], [49, 46, 49, 50, 51, 52, 53, 54, 55, 56, 57, 48], [49, 46], [46, 53], [43], []]
set_option maxHeartbeats 8000000 in
set_option maxRecDepth 100000 in
theorem decimals_law (hG : HG G) (t : List Int) (ht : OkS t) (hl : t.length ≤ 9223372036854775807) (x : List UInt8) (hx : x.length ≤ 9223372036854775807) (u : Int) (hu1 : -9223372036854775808 ≤ u) (hu2 : u ≤ 9223372036854775807) (c : UInt8) :
    Ctr Tryz.prog G 6 [.d (.sl t.length false (ints .u8 t)), .d (S x), .d (.int .i64 u), .d (.int .u8 (c.toNat : Int))] [] (.d (.bool true)) [] := by
  refine Ctr.pure (M := M0) hmix Tryz.func6 rfl go6 ?_
  have hmm := ht.take
  simp (config := { maxSteps := 1000000 }) (disch := ((try simp only [awL]); omega)) only [nextC_more, nextC_over, bs_size, bs_extract, bs_toList, bs_append, byteAt_bs, bs_cells, nums_length, nums_getD, Tryz.f6, ↓awU, awV, awF, ofVal, ofVal0, isShift, aggK, forall_const, ↓reduceIte, ↓reduceDIte, ↓purePost, combine, idsA, cellsA, numsOf, srcA, calleeA, refsA, isScalar, scalarD, scalar0, AV.one, putL, unfA, implies_true, IntKind.signed, Nat.reduceAdd, Nat.reduceSub, Nat.reduceMul, Nat.reducePow, Nat.reduceDiv, Nat.reduceMod, Int.reduceAdd, Int.reduceSub, Int.reduceMul, Int.reducePow, Int.reduceNeg, Int.reduceToNat, Int.reduceLT, Int.reduceLE, Nat.reduceEqDiff, sidsB, Nat.reduceBEq, keyKD, isIntK]
  refine CallC.pure (sane_spec hG) ?_
  rcases Nat.lt_or_ge 40 x.length with hx2 | hx2
  · simp (config := { maxSteps := 1000000 }) (disch := ((try simp only [awL]); omega)) only [nextC_more, nextC_over, bs_size, bs_extract, bs_toList, bs_append, byteAt_bs, bs_cells, nums_length, nums_getD, ↓awU, awV, awF, ofVal, ofVal0, isShift, aggK, forall_const, ↓reduceIte, ↓reduceDIte, ↓purePost, combine, idsA, cellsA, numsOf, srcA, calleeA, refsA, isScalar, scalarD, scalar0, AV.one, putL, unfA, implies_true, IntKind.signed, Nat.reduceAdd, Nat.reduceSub, Nat.reduceMul, Nat.reducePow, Nat.reduceDiv, Nat.reduceMod, Int.reduceAdd, Int.reduceSub, Int.reduceMul, Int.reducePow, Int.reduceNeg, Int.reduceToNat, Int.reduceLT, Int.reduceLE, Nat.reduceEqDiff, sidsB, Nat.reduceBEq, keyKD, isIntK]
    first | done | rfl
  simp (config := { maxSteps := 1000000 }) (disch := ((try simp only [awL]); omega)) only [nextC_more, nextC_over, bs_size, bs_extract, bs_toList, bs_append, byteAt_bs, bs_cells, nums_length, nums_getD, ↓awU, awV, awF, ofVal, ofVal0, isShift, aggK, forall_const, ↓reduceIte, ↓reduceDIte, ↓purePost, combine, idsA, cellsA, numsOf, srcA, calleeA, refsA, isScalar, scalarD, scalar0, AV.one, putL, unfA, implies_true, IntKind.signed, Nat.reduceAdd, Nat.reduceSub, Nat.reduceMul, Nat.reducePow, Nat.reduceDiv, Nat.reduceMod, Int.reduceAdd, Int.reduceSub, Int.reduceMul, Int.reducePow, Int.reduceNeg, Int.reduceToNat, Int.reduceLT, Int.reduceLE, Nat.reduceEqDiff, sidsB, Nat.reduceBEq, keyKD, isIntK]
  refine CallC.by (new_spec t hl) (by rfl) (by rfl) (Nat.zero_le _) ?_
  generalize t.take 300 = s at *
  simp (config := { maxSteps := 1000000 }) (disch := ((try simp only [awL]); omega)) only [nextC_more, nextC_over, bs_size, bs_extract, bs_toList, bs_append, byteAt_bs, bs_cells, nums_length, nums_getD, ↓awU, awV, awF, ofVal, ofVal0, isShift, aggK, forall_const, ↓reduceIte, ↓reduceDIte, ↓purePost, combine, idsA, cellsA, numsOf, srcA, calleeA, refsA, isScalar, scalarD, scalar0, AV.one, putL, unfA, implies_true, IntKind.signed, Nat.reduceAdd, Nat.reduceSub, Nat.reduceMul, Nat.reducePow, Nat.reduceDiv, Nat.reduceMod, Int.reduceAdd, Int.reduceSub, Int.reduceMul, Int.reducePow, Int.reduceNeg, Int.reduceToNat, Int.reduceLT, Int.reduceLE, Nat.reduceEqDiff, sidsB, Nat.reduceBEq, keyKD, isIntK]
  refine CallC.by (number_spec s 0 hmm) (by rfl) (by rfl) (Nat.le_refl _) ?_
  have lr := numM_len s 0
  generalize numM s 0 = r at *
  generalize numK s 0 = K at *
  have nl := @nums_length r
  obtain ⟨j, hj, hj2⟩ : ∃ j : Nat, u % (r.length : Int) = j ∧ j < r.length := ⟨(u % (r.length : Int)).toNat, by have := Int.emod_nonneg u (show (r.length : Int) ≠ 0 by omega); omega, by have := Int.emod_lt_of_pos u (show 0 < (r.length : Int) by omega); omega⟩
  simp (config := { maxSteps := 1000000 }) (disch := ((try simp only [awL]); omega)) only [nextC_more, nextC_over, bs_size, bs_extract, bs_toList, bs_append, byteAt_bs, bs_cells, nums_length, nums_getD, nl, cells_nums, cut_nums, ↓awU, awV, awF, ofVal, ofVal0, isShift, aggK, forall_const, ↓reduceIte, ↓reduceDIte, ↓purePost, combine, idsA, cellsA, numsOf, srcA, calleeA, refsA, isScalar, scalarD, scalar0, AV.one, putL, unfA, implies_true, IntKind.signed, Nat.reduceAdd, Nat.reduceSub, Nat.reduceMul, Nat.reducePow, Nat.reduceDiv, Nat.reduceMod, Int.reduceAdd, Int.reduceSub, Int.reduceMul, Int.reducePow, Int.reduceNeg, Int.reduceToNat, Int.reduceLT, Int.reduceLE, Nat.reduceEqDiff, sidsB, Nat.reduceBEq, keyKD, isIntK]
  refine CallC.pure (mmod_spec u r.length hu1 hu2 (by omega) (by omega)) ?_
  rw [hj]
  have ht2 : (nums (r.set j c)).take r.length = nums (r.set j c) := List.take_of_length_le (by simp [nums])
  simp (config := { maxSteps := 1000000 }) (disch := ((try simp only [awL]); omega)) only [nextC_more, nextC_over, bs_size, bs_extract, bs_toList, bs_append, byteAt_bs, bs_cells, nums_length, nums_getD, nl, cells_nums, cut_nums, numsOf_ints, strOfNums_nums, nums_set, ht2, ↓awU, awV, awF, ofVal, ofVal0, isShift, aggK, forall_const, ↓reduceIte, ↓reduceDIte, ↓purePost, combine, idsA, cellsA, numsOf, srcA, calleeA, refsA, isScalar, scalarD, scalar0, AV.one, putL, unfA, implies_true, IntKind.signed, Nat.reduceAdd, Nat.reduceSub, Nat.reduceMul, Nat.reducePow, Nat.reduceDiv, Nat.reduceMod, Int.reduceAdd, Int.reduceSub, Int.reduceMul, Int.reducePow, Int.reduceNeg, Int.reduceToNat, Int.reduceLT, Int.reduceLE, Nat.reduceEqDiff, sidsB, Nat.reduceBEq, keyKD, isIntK]
  have hrow : [D.str (bs r), D.str (bs (r.set j c)), D.str (bs x), D.str (bs [49, 50, 51, 52, 53, 54, 55, 56, 57, 48, 49, 50, 51, 52, 53, 46, 49, 50, 51, 52, 53, 54, 55, 56, 57]), D.str (bs [49, 50, 51, 52, 53, 54, 55, 56, 57, 48, 49, 50, 51, 52, 53, 54]), D.str (bs [49, 46, 49, 50, 51, 52, 53, 54, 55, 56, 57, 48]), D.str (bs [49, 46]), D.str (bs [46, 53]), D.str (bs [43]), D.str (bs [])] = strs (decTexts r (r.set j c) x) := rfl
  have hL : (decTexts r (r.set j c) x).length = 10 := rfl
  have hlen : ∀ s ∈ decTexts r (r.set j c) x, s.length ≤ 40 := by
    intro s hs
    simp only [decTexts, List.mem_cons, List.not_mem_nil, or_false] at hs
    rcases hs with rfl | rfl | rfl | rfl | rfl | rfl | rfl | rfl | rfl | rfl
    · omega
    · rw [List.length_set]; omega
    · omega
    all_goals simp
  rw [hrow]
  generalize decTexts r (r.set j c) x = L at *
  refine LoopC.fr 26388279066624 (α := Nat) (fun k => 10 - k) (fun k => [(45, .d (.int .i64 k))])
    (fun _ => [.dead, .dead, .dead, .dead, .row false (strs L)]) (fun k => k ≤ 10) 0 (Nat.zero_le _) ?_ ?_
  · exact ⟨[some 0, some 1, some 2, some 3, some 4], rfl, by simp, by simp [setsA, keepA, SWeak, AWeak], by simp [HWeak, BWeak, SWeak, AWeak]⟩
  · intro k hk
    have sl := @strs_length L
    simp only [keepA_z8, keepA_z, keepA_cons, keepA_nil, setsA_nil, setsA_cons, List.set_cons_zero, List.set_cons_succ, set_8, Nat.reduceMod, Nat.reduceDiv, Nat.zero_mod, Nat.zero_ne_one, if_true, if_false, reduceIte]
    rcases Nat.lt_or_ge k 10 with h1 | h1
    · have gs := strs_getD (l := L) (i := k) (by omega)
      have gl := get_len hlen k
      obtain ⟨p, q, e, hp, hq⟩ := dec_sm (L.getD k [])
      generalize L.getD k [] = y at *
      simp (config := { maxSteps := 1000000 }) (disch := ((try simp only [awL]); omega)) only [nextC_more, nextC_over, bs_size, bs_extract, bs_toList, bs_append, byteAt_bs, bs_cells, nums_length, nums_getD, sl, hL, gs, ↓awU, awV, awF, ofVal, ofVal0, isShift, aggK, forall_const, ↓reduceIte, ↓reduceDIte, ↓purePost, combine, idsA, cellsA, numsOf, srcA, calleeA, refsA, isScalar, scalarD, scalar0, AV.one, putL, unfA, implies_true, IntKind.signed, Nat.reduceAdd, Nat.reduceSub, Nat.reduceMul, Nat.reducePow, Nat.reduceDiv, Nat.reduceMod, Int.reduceAdd, Int.reduceSub, Int.reduceMul, Int.reducePow, Int.reduceNeg, Int.reduceToNat, Int.reduceLT, Int.reduceLE, Nat.reduceEqDiff, sidsB, Nat.reduceBEq, keyKD, isIntK]
      first
      | refine CallC.of (decimalF_spec hG y (by omega)) (by rfl) ?_
      | refine ⟨by rfl, CallC.of (decimalF_spec hG y (by omega)) (by rfl) ?_⟩
      rw [e]
      simp (config := { maxSteps := 1000000 }) (disch := ((try simp only [awL]); omega)) only [nextC_more, nextC_over, bs_size, bs_extract, bs_toList, bs_append, byteAt_bs, bs_cells, nums_length, nums_getD, sl, hL, gs, ↓awU, awV, awF, ofVal, ofVal0, isShift, aggK, forall_const, ↓reduceIte, ↓reduceDIte, ↓purePost, combine, idsA, cellsA, numsOf, srcA, calleeA, refsA, isScalar, scalarD, scalar0, AV.one, putL, unfA, implies_true, IntKind.signed, Nat.reduceAdd, Nat.reduceSub, Nat.reduceMul, Nat.reducePow, Nat.reduceDiv, Nat.reduceMod, Int.reduceAdd, Int.reduceSub, Int.reduceMul, Int.reducePow, Int.reduceNeg, Int.reduceToNat, Int.reduceLT, Int.reduceLE, Nat.reduceEqDiff, sidsB, Nat.reduceBEq, keyKD, isIntK]
      first
      | refine CallC.of (rdecimal_spec y (by omega)) (by rfl) ?_
      | refine ⟨by rfl, CallC.of (rdecimal_spec y (by omega)) (by rfl) ?_⟩
      rw [e]
      clear e
      generalize decOk y = ok at *
      simp (config := { maxSteps := 1000000 }) (disch := ((try simp only [awL]); omega)) only [nextC_more, nextC_over, bs_size, bs_extract, bs_toList, bs_append, byteAt_bs, bs_cells, nums_length, nums_getD, sl, hL, gs, ↓awU, awV, awF, ofVal, ofVal0, isShift, aggK, forall_const, ↓reduceIte, ↓reduceDIte, ↓purePost, combine, idsA, cellsA, numsOf, srcA, calleeA, refsA, isScalar, scalarD, scalar0, AV.one, putL, unfA, implies_true, IntKind.signed, Nat.reduceAdd, Nat.reduceSub, Nat.reduceMul, Nat.reducePow, Nat.reduceDiv, Nat.reduceMod, Int.reduceAdd, Int.reduceSub, Int.reduceMul, Int.reducePow, Int.reduceNeg, Int.reduceToNat, Int.reduceLT, Int.reduceLE, Nat.reduceEqDiff, sidsB, Nat.reduceBEq, keyKD, isIntK]
      first
      | refine CallC.of (rsameF_spec p q hp hq) (by rfl) ?_
      | refine ⟨by rfl, CallC.of (rsameF_spec p q hp hq) (by rfl) ?_⟩
      simp (config := { maxSteps := 1000000 }) (disch := ((try simp only [awL]); omega)) only [nextC_more, nextC_over, bs_size, bs_extract, bs_toList, bs_append, byteAt_bs, bs_cells, nums_length, nums_getD, sl, hL, gs, ↓awU, awV, awF, ofVal, ofVal0, isShift, aggK, forall_const, ↓reduceIte, ↓reduceDIte, ↓purePost, combine, idsA, cellsA, numsOf, srcA, calleeA, refsA, isScalar, scalarD, scalar0, AV.one, putL, unfA, implies_true, IntKind.signed, Nat.reduceAdd, Nat.reduceSub, Nat.reduceMul, Nat.reducePow, Nat.reduceDiv, Nat.reduceMod, Int.reduceAdd, Int.reduceSub, Int.reduceMul, Int.reducePow, Int.reduceNeg, Int.reduceToNat, Int.reduceLT, Int.reduceLE, Nat.reduceEqDiff, sidsB, Nat.reduceBEq, keyKD, isIntK]
      first
      | exact ⟨k + 1, h1, by simp only; omega, ⟨[some 0, some 1, some 2, some 3, some 4], rfl, by simp, by simp [setsA, keepA, SWeak, AWeak], by simp [HWeak, BWeak, SWeak, AWeak]⟩⟩
      | exact ⟨by rfl, k + 1, h1, by simp only; omega, ⟨[some 0, some 1, some 2, some 3, some 4], rfl, by simp, by simp [setsA, keepA, SWeak, AWeak], by simp [HWeak, BWeak, SWeak, AWeak]⟩⟩
    · obtain rfl : k = 10 := by omega
      simp (config := { maxSteps := 1000000 }) (disch := ((try simp only [awL]); omega)) only [nextC_more, nextC_over, bs_size, bs_extract, bs_toList, bs_append, byteAt_bs, bs_cells, nums_length, nums_getD, sl, hL, ↓awU, awV, awF, ofVal, ofVal0, isShift, aggK, forall_const, ↓reduceIte, ↓reduceDIte, ↓purePost, combine, idsA, cellsA, numsOf, srcA, calleeA, refsA, isScalar, scalarD, scalar0, AV.one, putL, unfA, implies_true, IntKind.signed, Nat.reduceAdd, Nat.reduceSub, Nat.reduceMul, Nat.reducePow, Nat.reduceDiv, Nat.reduceMod, Int.reduceAdd, Int.reduceSub, Int.reduceMul, Int.reducePow, Int.reduceNeg, Int.reduceToNat, Int.reduceLT, Int.reduceLE, Nat.reduceEqDiff, sidsB, Nat.reduceBEq, keyKD, isIntK]
      first | done | rfl
end Go.Proofs.YtkppgdialedoeaaGreatDoor
