/-
  Contracts of the functions, one after another.
-/
import Derived.Test.YtjjanbljkoaojaaDoorMb2
set_option linter.all false
namespace Go.Proofs.YtjjanbljkoaojaaDoor
open Go Go.Proofs Go.Abs
variable {G : Globals}
/-! The reference: writing a file. -/
abbrev Bt (l : List UInt8) : List D := ints .u8 (nums l)
theorem Bt_length {l : List UInt8} : (Bt l).length = l.length := by rw [ints_length, nums_length]
theorem Bt_push {a : List UInt8} {c : UInt8} : Bt a ++ [.int .u8 c.toNat] = Bt (a ++ [c]) := by simp [Bt, ints, nums]
theorem Bt_app {a b : List UInt8} : Bt a ++ Bt b = Bt (a ++ b) := by simp [Bt, ints, nums]
theorem dbl_step (q : UInt8) {x : List UInt8} {k : Nat} (h : k < x.length) : dblL q (x.drop k) = (if (x.getD k 0).toNat = q.toNat then [q] else []) ++ [x.getD k 0] ++ dblL q (x.drop (k + 1)) := by
  rw [drop_at h]
  have e0 : dblL q (x.getD k 0 :: x.drop (k + 1)) = (if x.getD k 0 = q then [q, q] else [x.getD k 0]) ++ dblL q (x.drop (k + 1)) := rfl
  rw [e0]
  simp only [← u8_eq]
  split
  · rename_i h; rw [h]; rfl
  · rfl
abbrev BoxD (d : Dia) : ABlk := .box [.d (.int .u8 d.del.toNat), .d (.int .u8 d.quo.toNat), .d (.bool d.trim)]
set_option maxHeartbeats 8000000 in
set_option maxRecDepth 100000 in
theorem rformat_spec (hT : HT G) (d : Dia) (g : List Row) (full : Bool) (hg : okGrid g) :
    Ctr Tryd.prog G 12 [.d d.D, .d (.agg [Gr g full])] [] (.d (textE (formL d g))) [] := by
  refine Ctr.pure (M := M0) hmix Tryd.func12 rfl go12 ?_
  obtain ⟨r, hr⟩ : ∃ r, r = formL d g := ⟨_, rfl⟩
  rw [← hr]
  unfold formL at hr
  have gl := @rowsD_length g
  have hgl := hg.1
  simp (config := { maxSteps := 1000000 }) (disch := ((try simp only [awL]); omega)) only [Option.toList_some, Option.toList_none, nextC_more, nextC_over, bs_size, bs_extract, bs_toList, bs_append, byteAt_bs, bs_cells, nums_length, nums_getD, Tryd.f12, ↓awU, awV, awF, ofVal, ofVal0, isShift, aggK, forall_const, ↓reduceIte, ↓reduceDIte, ↓purePost, combine, idsA, cellsA, numsOf, srcA, calleeA, refsA, isScalar, scalarD, scalar0, AV.one, putL, unfA, implies_true, IntKind.signed, Nat.reduceAdd, Nat.reduceSub, Nat.reduceMul, Nat.reducePow, Nat.reduceDiv, Nat.reduceMod, Int.reduceAdd, Int.reduceSub, Int.reduceMul, Int.reducePow, Int.reduceNeg, Int.reduceToNat, Int.reduceLT, Int.reduceLE, Nat.reduceEqDiff, sidsB, Nat.reduceBEq, keyKD, isIntK, aggD, aggL, eqKs]
  refine CallC.pure (drvalid_spec d) ?_
  cases h2 : okDia d
  · rw [if_pos (.inr h2)] at hr
    simp (config := { maxSteps := 1000000 }) (disch := ((try simp only [awL]); omega)) only [Option.toList_some, Option.toList_none, nextC_more, nextC_over, bs_size, bs_extract, bs_toList, bs_append, byteAt_bs, bs_cells, nums_length, nums_getD, ↓awU, awV, awF, ofVal, ofVal0, isShift, aggK, forall_const, ↓reduceIte, ↓reduceDIte, ↓purePost, combine, idsA, cellsA, numsOf, srcA, calleeA, refsA, isScalar, scalarD, scalar0, AV.one, putL, unfA, implies_true, IntKind.signed, Nat.reduceAdd, Nat.reduceSub, Nat.reduceMul, Nat.reducePow, Nat.reduceDiv, Nat.reduceMod, Int.reduceAdd, Int.reduceSub, Int.reduceMul, Int.reducePow, Int.reduceNeg, Int.reduceToNat, Int.reduceLT, Int.reduceLE, Nat.reduceEqDiff, sidsB, Nat.reduceBEq, keyKD, isIntK, aggD, aggL, eqKs]
    rw [hr]; rfl
  · have hq := okDia_quo h2
    simp (config := { maxSteps := 1000000 }) (disch := ((try simp only [awL]); omega)) only [Option.toList_some, Option.toList_none, nextC_more, nextC_over, bs_size, bs_extract, bs_toList, bs_append, byteAt_bs, bs_cells, nums_length, nums_getD, gl, ↓awU, awV, awF, ofVal, ofVal0, isShift, aggK, forall_const, ↓reduceIte, ↓reduceDIte, ↓purePost, combine, idsA, cellsA, numsOf, srcA, calleeA, refsA, isScalar, scalarD, scalar0, AV.one, putL, unfA, implies_true, IntKind.signed, Nat.reduceAdd, Nat.reduceSub, Nat.reduceMul, Nat.reducePow, Nat.reduceDiv, Nat.reduceMod, Int.reduceAdd, Int.reduceSub, Int.reduceMul, Int.reducePow, Int.reduceNeg, Int.reduceToNat, Int.reduceLT, Int.reduceLE, Nat.reduceEqDiff, sidsB, Nat.reduceBEq, keyKD, isIntK, aggD, aggL, eqKs]
    refine LoopC.fx 3145740 (α := Nat) (β := Unit) (fun i => g.length - i) (fun i => [(22, .d (.int .i64 i))]) (fun _ => [BoxD d, .box [.d (Gr g full)]]) (fun i => i ≤ g.length ∧ g.any badR = (g.drop i).any badR) 12 (fun _ => []) (fun _ => [BoxD d, .box [.d (Gr g full)]]) (fun _ => g.any badR = false) 0 ⟨Nat.zero_le _, by simp⟩ ?_ ?_ ?_
    · exact ⟨[some 0, some 1], rfl, by simp, by simp [setsA, keepA, SWeak, AWeak], by simp [HWeak, BWeak, SWeak, AWeak]⟩
    · rintro i ⟨i1, i2⟩
      simp only [awK, Nat.reduceMod, Nat.reduceDiv, reduceIte]
      rcases Nat.lt_or_ge i g.length with h | h
      · have gg := rowsD_getD h
        rw [any_step (x := []) h] at i2
        obtain ⟨r1, r2⟩ := hg.2 _ (memD (d := []) h)
        generalize g.getD i [] = row at *
        have sl := @strs_length row
        have bad : badR row = true → g.any badR = true := fun e => by rw [i2, e]; rfl
        rcases Nat.eq_zero_or_pos row.length with h4 | h4
        · have := bad (by unfold badR; rw [decide_eq_true h4]; rfl)
          rw [if_pos (.inl this)] at hr
          simp (config := { maxSteps := 1000000 }) (disch := ((try simp only [awL]); omega)) only [Option.toList_some, Option.toList_none, nextC_more, nextC_over, bs_size, bs_extract, bs_toList, bs_append, byteAt_bs, bs_cells, nums_length, nums_getD, gl, gg, sl, ↓awU, awV, awF, ofVal, ofVal0, isShift, aggK, forall_const, ↓reduceIte, ↓reduceDIte, ↓purePost, combine, idsA, cellsA, numsOf, srcA, calleeA, refsA, isScalar, scalarD, scalar0, AV.one, putL, unfA, implies_true, IntKind.signed, Nat.reduceAdd, Nat.reduceSub, Nat.reduceMul, Nat.reducePow, Nat.reduceDiv, Nat.reduceMod, Int.reduceAdd, Int.reduceSub, Int.reduceMul, Int.reducePow, Int.reduceNeg, Int.reduceToNat, Int.reduceLT, Int.reduceLE, Nat.reduceEqDiff, sidsB, Nat.reduceBEq, keyKD, isIntK, aggD, aggL, eqKs]
          rw [hr]; rfl
        · simp (config := { maxSteps := 1000000 }) (disch := ((try simp only [awL]); omega)) only [Option.toList_some, Option.toList_none, nextC_more, nextC_over, bs_size, bs_extract, bs_toList, bs_append, byteAt_bs, bs_cells, nums_length, nums_getD, gl, gg, sl, ↓awU, awV, awF, ofVal, ofVal0, isShift, aggK, forall_const, ↓reduceIte, ↓reduceDIte, ↓purePost, combine, idsA, cellsA, numsOf, srcA, calleeA, refsA, isScalar, scalarD, scalar0, AV.one, putL, unfA, implies_true, IntKind.signed, Nat.reduceAdd, Nat.reduceSub, Nat.reduceMul, Nat.reducePow, Nat.reduceDiv, Nat.reduceMod, Int.reduceAdd, Int.reduceSub, Int.reduceMul, Int.reducePow, Int.reduceNeg, Int.reduceToNat, Int.reduceLT, Int.reduceLE, Nat.reduceEqDiff, sidsB, Nat.reduceBEq, keyKD, isIntK, aggD, aggL, eqKs]
          refine LoopC.fr 1617952780 (α := Nat) (fun j => row.length - j) (fun j => [(31, .d (.int .i64 j))]) (fun _ => [BoxD d, .box [.d (Gr g full)]]) (fun j => j ≤ row.length ∧ row.any badF = (row.drop j).any badF) 0 ⟨Nat.zero_le _, by simp⟩ ?_ ?_
          · exact ⟨[some 0, some 1], rfl, by simp, by simp [setsA, keepA, SWeak, AWeak], by simp [HWeak, BWeak, SWeak, AWeak]⟩
          · rintro j ⟨j1, j2⟩
            simp only [awK, Nat.reduceMod, Nat.reduceDiv, reduceIte]
            rcases Nat.lt_or_ge j row.length with h5 | h5
            · have sg := strs_getD h5
              rw [any_step (x := []) h5] at j2
              have sz := r2 _ (memD (d := []) h5)
              generalize row.getD j [] = fld at *
              simp (config := { maxSteps := 1000000 }) (disch := ((try simp only [awL]); omega)) only [Option.toList_some, Option.toList_none, nextC_more, nextC_over, bs_size, bs_extract, bs_toList, bs_append, byteAt_bs, bs_cells, nums_length, nums_getD, sl, sg, ↓awU, awV, awF, ofVal, ofVal0, isShift, aggK, forall_const, ↓reduceIte, ↓reduceDIte, ↓purePost, combine, idsA, cellsA, numsOf, srcA, calleeA, refsA, isScalar, scalarD, scalar0, AV.one, putL, unfA, implies_true, IntKind.signed, Nat.reduceAdd, Nat.reduceSub, Nat.reduceMul, Nat.reducePow, Nat.reduceDiv, Nat.reduceMod, Int.reduceAdd, Int.reduceSub, Int.reduceMul, Int.reducePow, Int.reduceNeg, Int.reduceToNat, Int.reduceLT, Int.reduceLE, Nat.reduceEqDiff, sidsB, Nat.reduceBEq, keyKD, isIntK, aggD, aggL, eqKs]
              refine CallC.pure (rvalidS_spec hT fld (by omega)) ?_
              cases hv : Lib.validD fld
              · have e1 : badF fld = true := by unfold badF; rw [hv]; rfl
                have := bad (by unfold badR; rw [j2, e1]; simp)
                rw [if_pos (.inl this)] at hr
                simp (config := { maxSteps := 1000000 }) (disch := ((try simp only [awL]); omega)) only [Option.toList_some, Option.toList_none, nextC_more, nextC_over, bs_size, bs_extract, bs_toList, bs_append, byteAt_bs, bs_cells, nums_length, nums_getD, ↓awU, awV, awF, ofVal, ofVal0, isShift, aggK, forall_const, ↓reduceIte, ↓reduceDIte, ↓purePost, combine, idsA, cellsA, numsOf, srcA, calleeA, refsA, isScalar, scalarD, scalar0, AV.one, putL, unfA, implies_true, IntKind.signed, Nat.reduceAdd, Nat.reduceSub, Nat.reduceMul, Nat.reducePow, Nat.reduceDiv, Nat.reduceMod, Int.reduceAdd, Int.reduceSub, Int.reduceMul, Int.reducePow, Int.reduceNeg, Int.reduceToNat, Int.reduceLT, Int.reduceLE, Nat.reduceEqDiff, sidsB, Nat.reduceBEq, keyKD, isIntK, aggD, aggL, eqKs]
                rw [hr]; rfl
              · have e1 : badF fld = false := by unfold badF; rw [hv]; rfl
                simp (config := { maxSteps := 1000000 }) (disch := ((try simp only [awL]); omega)) only [Option.toList_some, Option.toList_none, nextC_more, nextC_over, bs_size, bs_extract, bs_toList, bs_append, byteAt_bs, bs_cells, nums_length, nums_getD, ↓awU, awV, awF, ofVal, ofVal0, isShift, aggK, forall_const, ↓reduceIte, ↓reduceDIte, ↓purePost, combine, idsA, cellsA, numsOf, srcA, calleeA, refsA, isScalar, scalarD, scalar0, AV.one, putL, unfA, implies_true, IntKind.signed, Nat.reduceAdd, Nat.reduceSub, Nat.reduceMul, Nat.reducePow, Nat.reduceDiv, Nat.reduceMod, Int.reduceAdd, Int.reduceSub, Int.reduceMul, Int.reducePow, Int.reduceNeg, Int.reduceToNat, Int.reduceLT, Int.reduceLE, Nat.reduceEqDiff, sidsB, Nat.reduceBEq, keyKD, isIntK, aggD, aggL, eqKs]
                exact ⟨j + 1, ⟨h5, by rw [j2, e1]; rfl⟩, by simp only; omega, ⟨[some 0, some 1], rfl, by simp, by simp [setsA, keepA, SWeak, AWeak], by simp [HWeak, BWeak, SWeak, AWeak]⟩⟩
            · rw [List.drop_eq_nil_of_le h5] at j2
              have : badR row = false := by unfold badR; rw [j2, decide_eq_false (by omega)]; rfl
              simp (config := { maxSteps := 1000000 }) (disch := ((try simp only [awL]); omega)) only [Option.toList_some, Option.toList_none, nextC_more, nextC_over, bs_size, bs_extract, bs_toList, bs_append, byteAt_bs, bs_cells, nums_length, nums_getD, ↓awU, awV, awF, ofVal, ofVal0, isShift, aggK, forall_const, ↓reduceIte, ↓reduceDIte, ↓purePost, combine, idsA, cellsA, numsOf, srcA, calleeA, refsA, isScalar, scalarD, scalar0, AV.one, putL, unfA, implies_true, IntKind.signed, Nat.reduceAdd, Nat.reduceSub, Nat.reduceMul, Nat.reducePow, Nat.reduceDiv, Nat.reduceMod, Int.reduceAdd, Int.reduceSub, Int.reduceMul, Int.reducePow, Int.reduceNeg, Int.reduceToNat, Int.reduceLT, Int.reduceLE, Nat.reduceEqDiff, sidsB, Nat.reduceBEq, keyKD, isIntK, aggD, aggL, eqKs]
              exact ⟨i + 1, ⟨h, by rw [i2, this]; rfl⟩, by simp only; omega, ⟨[some 0, some 1], rfl, by simp, by simp [setsA, keepA, SWeak, AWeak], by simp [HWeak, BWeak, SWeak, AWeak]⟩⟩
      · rw [List.drop_eq_nil_of_le h] at i2
        simp (config := { maxSteps := 1000000 }) (disch := ((try simp only [awL]); omega)) only [Option.toList_some, Option.toList_none, nextC_more, nextC_over, bs_size, bs_extract, bs_toList, bs_append, byteAt_bs, bs_cells, nums_length, nums_getD, ↓awU, awV, awF, ofVal, ofVal0, isShift, aggK, forall_const, ↓reduceIte, ↓reduceDIte, ↓purePost, combine, idsA, cellsA, numsOf, srcA, calleeA, refsA, isScalar, scalarD, scalar0, AV.one, putL, unfA, implies_true, IntKind.signed, Nat.reduceAdd, Nat.reduceSub, Nat.reduceMul, Nat.reducePow, Nat.reduceDiv, Nat.reduceMod, Int.reduceAdd, Int.reduceSub, Int.reduceMul, Int.reducePow, Int.reduceNeg, Int.reduceToNat, Int.reduceLT, Int.reduceLE, Nat.reduceEqDiff, sidsB, Nat.reduceBEq, keyKD, isIntK, aggD, aggL, eqKs]
        exact ⟨(), i2, ⟨[some 0, some 1], rfl, by simp, by simp [setsA, keepA, SWeak, AWeak], by simp [HWeak, BWeak, SWeak, AWeak]⟩⟩
    · rintro _ h1
      rw [if_neg (by simp [h1, h2])] at hr
      simp only [awK, Nat.reduceMod, Nat.reduceDiv, reduceIte]
      simp (config := { maxSteps := 1000000 }) (disch := ((try simp only [awL]); omega)) only [Option.toList_some, Option.toList_none, nextC_more, nextC_over, bs_size, bs_extract, bs_toList, bs_append, byteAt_bs, bs_cells, nums_length, nums_getD, gl, ↓awU, awV, awF, ofVal, ofVal0, isShift, aggK, forall_const, ↓reduceIte, ↓reduceDIte, ↓purePost, combine, idsA, cellsA, numsOf, srcA, calleeA, refsA, isScalar, scalarD, scalar0, AV.one, putL, unfA, implies_true, IntKind.signed, Nat.reduceAdd, Nat.reduceSub, Nat.reduceMul, Nat.reducePow, Nat.reduceDiv, Nat.reduceMod, Int.reduceAdd, Int.reduceSub, Int.reduceMul, Int.reducePow, Int.reduceNeg, Int.reduceToNat, Int.reduceLT, Int.reduceLE, Nat.reduceEqDiff, sidsB, Nat.reduceBEq, keyKD, isIntK, aggD, aggL, eqKs]
      refine CallC.of (limited_spec g false hg) (by rfl) ?_
      cases h3 : bigG g
      · rw [if_neg (by simp [h3])] at hr
        obtain ⟨sg, sr⟩ := small_grid h3
        have tl := text_len d g sr
        simp (config := { maxSteps := 1000000 }) (disch := ((try simp only [awL]); omega)) only [Option.toList_some, Option.toList_none, nextC_more, nextC_over, bs_size, bs_extract, bs_toList, bs_append, byteAt_bs, bs_cells, nums_length, nums_getD, gl, ↓awU, awV, awF, ofVal, ofVal0, isShift, aggK, forall_const, ↓reduceIte, ↓reduceDIte, ↓purePost, combine, idsA, cellsA, numsOf, srcA, calleeA, refsA, isScalar, scalarD, scalar0, AV.one, putL, unfA, implies_true, IntKind.signed, Nat.reduceAdd, Nat.reduceSub, Nat.reduceMul, Nat.reducePow, Nat.reduceDiv, Nat.reduceMod, Int.reduceAdd, Int.reduceSub, Int.reduceMul, Int.reducePow, Int.reduceNeg, Int.reduceToNat, Int.reduceLT, Int.reduceLE, Nat.reduceEqDiff, sidsB, Nat.reduceBEq, keyKD, isIntK, aggD, aggL, eqKs]
        refine LoopC.fr 52776558133252 (α := Nat × List UInt8) (fun x => g.length - x.1) (fun x => [(46, .d (.int .i64 x.1)), (10, .lsl 2 1 0 x.2.length)]) (fun x => [BoxD d, .dead, .row false (Bt x.2)])
          (fun x => x.1 ≤ g.length ∧ x.2 ++ textL d (g.drop x.1) = textL d g ∧ g.all (okR d) = (g.drop x.1).all (okR d)) (0, []) ⟨Nat.zero_le _, by simp, by simp⟩ ?_ ?_
        · exact ⟨[some 0, some 1, none], rfl, by simp, by simp [setsA, keepA, SWeak, AWeak], by simp [HWeak, BWeak, SWeak, AWeak, ints, nums]⟩
        · rintro ⟨i, out⟩ ⟨b1, b2, b3⟩
          simp only at b1 b2 b3
          have ol : out.length ≤ (textL d g).length := by rw [← b2, List.length_append]; omega
          have bl := @Bt_length out
          simp only [awK, Nat.reduceMod, Nat.reduceDiv, reduceIte]
          rcases Nat.lt_or_ge i g.length with h | h
          · have gg := rowsD_getD h
            rw [text_step d h] at b2
            rw [all_step (x := []) h] at b3
            have mem := memD (d := []) h
            generalize g.getD i [] = row at *
            obtain ⟨r1, r2⟩ := sr row mem
            have sl := @strs_length row
            simp (config := { maxSteps := 1000000 }) (disch := ((try simp only [awL]); omega)) only [Option.toList_some, Option.toList_none, nextC_more, nextC_over, bs_size, bs_extract, bs_toList, bs_append, byteAt_bs, bs_cells, nums_length, nums_getD, gl, gg, ↓awU, awV, awF, ofVal, ofVal0, isShift, aggK, forall_const, ↓reduceIte, ↓reduceDIte, ↓purePost, combine, idsA, cellsA, numsOf, srcA, calleeA, refsA, isScalar, scalarD, scalar0, AV.one, putL, unfA, implies_true, IntKind.signed, Nat.reduceAdd, Nat.reduceSub, Nat.reduceMul, Nat.reducePow, Nat.reduceDiv, Nat.reduceMod, Int.reduceAdd, Int.reduceSub, Int.reduceMul, Int.reducePow, Int.reduceNeg, Int.reduceToNat, Int.reduceLT, Int.reduceLE, Nat.reduceEqDiff, sidsB, Nat.reduceBEq, keyKD, isIntK, aggD, aggL, eqKs]
            refine LoopC.fr 3500845022838788 (α := Nat × List UInt8) (fun x => row.length - x.1) (fun x => [(52, .d (.int .i64 x.1)), (10, .lsl 2 1 0 x.2.length)]) (fun x => [BoxD d, .dead, .row false (Bt x.2)])
              (fun x => x.1 ≤ row.length ∧ x.2 ++ jnL d (decide (x.1 = 0)) (row.drop x.1) ++ [10] ++ textL d (g.drop (i + 1)) = textL d g ∧ okR d row = (row.drop x.1).all (okW d)) (0, out) ⟨Nat.zero_le _, by simp only [List.drop_zero, decide_true, List.append_assoc] at b2 ⊢; exact b2, by simp [okR]⟩ ?_ ?_
            · exact ⟨[some 0, some 1, some 2], rfl, by simp, by simp [setsA, keepA, SWeak, AWeak], by simp [HWeak, BWeak, SWeak, AWeak]⟩
            · rintro ⟨j, out2⟩ ⟨c1, c2, c3⟩
              simp only at c1 c2 c3
              have ol2 : out2.length ≤ (textL d g).length := by rw [← c2]; simp only [List.length_append]; omega
              have bl2 := @Bt_length out2
              simp only [awK, Nat.reduceMod, Nat.reduceDiv, reduceIte]
              rcases Nat.lt_or_ge j row.length with hj | hj
              · have sg2 := strs_getD hj
                have mem2 := r2 _ (memD (d := []) hj)
                rw [jn_step d hj] at c2
                rw [all_step (x := []) hj] at c3
                generalize row.getD j [] = fld at *
                by_cases j0 : j = 0
                · rw [if_pos j0, List.nil_append] at c2
                  simp (config := { maxSteps := 1000000 }) (disch := ((try simp only [awL]); omega)) only [Option.toList_some, Option.toList_none, nextC_more, nextC_over, bs_size, bs_extract, bs_toList, bs_append, byteAt_bs, bs_cells, nums_length, nums_getD, sl, sg2, ↓awU, awV, awF, ofVal, ofVal0, isShift, aggK, forall_const, ↓reduceIte, ↓reduceDIte, ↓purePost, combine, idsA, cellsA, numsOf, srcA, calleeA, refsA, isScalar, scalarD, scalar0, AV.one, putL, unfA, implies_true, IntKind.signed, Nat.reduceAdd, Nat.reduceSub, Nat.reduceMul, Nat.reducePow, Nat.reduceDiv, Nat.reduceMod, Int.reduceAdd, Int.reduceSub, Int.reduceMul, Int.reducePow, Int.reduceNeg, Int.reduceToNat, Int.reduceLT, Int.reduceLE, Nat.reduceEqDiff, sidsB, Nat.reduceBEq, keyKD, isIntK, aggD, aggL, eqKs]
                  refine CallC.pure (rfits_spec hT d fld (by omega)) ?_
                  cases hf : fitsL d fld
                  · by_cases q0 : d.quo.toNat = 0
                    · have e4 : okW d fld = false := by unfold okW; rw [hf, show d.quo = 0 from UInt8.toNat_inj.1 q0]; rfl
                      rw [if_pos (by rw [b3, c3, e4]; rfl)] at hr
                      simp (config := { maxSteps := 1000000 }) (disch := ((try simp only [awL]); omega)) only [Option.toList_some, Option.toList_none, nextC_more, nextC_over, bs_size, bs_extract, bs_toList, bs_append, byteAt_bs, bs_cells, nums_length, nums_getD, ↓awU, awV, awF, ofVal, ofVal0, isShift, aggK, forall_const, ↓reduceIte, ↓reduceDIte, ↓purePost, combine, idsA, cellsA, numsOf, srcA, calleeA, refsA, isScalar, scalarD, scalar0, AV.one, putL, unfA, implies_true, IntKind.signed, Nat.reduceAdd, Nat.reduceSub, Nat.reduceMul, Nat.reducePow, Nat.reduceDiv, Nat.reduceMod, Int.reduceAdd, Int.reduceSub, Int.reduceMul, Int.reducePow, Int.reduceNeg, Int.reduceToNat, Int.reduceLT, Int.reduceLE, Nat.reduceEqDiff, sidsB, Nat.reduceBEq, keyKD, isIntK, aggD, aggL, eqKs]
                      rw [hr]; rfl
                    · have e4 : okW d fld = true := by unfold okW; rw [hf]; simp; exact fun e => q0 (by rw [e]; rfl)
                      rw [e4, Bool.true_and] at c3
                      have ew : wrL d fld = quoL d fld := by unfold wrL; rw [hf]; rfl
                      rw [ew] at c2
                      have dll := dblL_len d.quo fld
                      have sp2 := @Bt_push out2 d.quo
                      generalize hb2 : out2 ++ [d.quo] = out5 at *
                      have lb2 : out5.length = out2.length + 1 := by rw [← hb2, List.length_append]; rfl
                      simp (config := { maxSteps := 1000000 }) (disch := ((try simp only [awL]); omega)) only [Option.toList_some, Option.toList_none, nextC_more, nextC_over, bs_size, bs_extract, bs_toList, bs_append, byteAt_bs, bs_cells, nums_length, nums_getD, bl2, sp2, ↓awU, awV, awF, ofVal, ofVal0, isShift, aggK, forall_const, ↓reduceIte, ↓reduceDIte, ↓purePost, combine, idsA, cellsA, numsOf, srcA, calleeA, refsA, isScalar, scalarD, scalar0, AV.one, putL, unfA, implies_true, IntKind.signed, Nat.reduceAdd, Nat.reduceSub, Nat.reduceMul, Nat.reducePow, Nat.reduceDiv, Nat.reduceMod, Int.reduceAdd, Int.reduceSub, Int.reduceMul, Int.reducePow, Int.reduceNeg, Int.reduceToNat, Int.reduceLT, Int.reduceLE, Nat.reduceEqDiff, sidsB, Nat.reduceBEq, keyKD, isIntK, aggD, aggL, eqKs]
                      refine LoopC.fx 8004444650225668 (α := Nat × List UInt8) (β := List UInt8) (fun x => fld.length - x.1) (fun x => [(15, .d (.int .i64 x.1)), (10, .lsl 2 1 0 x.2.length)]) (fun x => [BoxD d, .dead, .row false (Bt x.2)])
                        (fun x => x.1 ≤ fld.length ∧ x.2.length ≤ out5.length + 2 * x.1 ∧ x.2 ++ dblL d.quo (fld.drop x.1) = out5 ++ dblL d.quo fld) 8004444650209284 (fun x => [(10, .lsl 2 1 0 x.length)]) (fun x => [BoxD d, .dead, .row false (Bt x)])
                        (fun x => x = out5 ++ dblL d.quo fld) (0, out5) ⟨Nat.zero_le _, by simp, by simp⟩ ?_ ?_ ?_
                      · exact ⟨[some 0, some 1, some 4], rfl, by simp, by simp [setsA, keepA, SWeak, AWeak, lb2], by simp [HWeak, BWeak, SWeak, AWeak]⟩
                      · rintro ⟨k, out6⟩ ⟨d1, d2, d3⟩
                        simp only at d1 d2 d3
                        have bl6 := @Bt_length out6
                        simp only [awK, Nat.reduceMod, Nat.reduceDiv, reduceIte]
                        rcases Nat.lt_or_ge k fld.length with hk | hk
                        · rw [dbl_step d.quo hk] at d3
                          by_cases h7 : (fld.getD k 0).toNat = d.quo.toNat
                          · rw [if_pos h7] at d3
                            have sp7 := @Bt_push out6 d.quo
                            have sp8 := @Bt_push (out6 ++ [d.quo]) (fld.getD k 0)
                            rw [h7] at sp8
                            have l7 := @Bt_length (out6 ++ [d.quo])
                            have l7' : (out6 ++ [d.quo]).length = out6.length + 1 := by simp
                            have l8' : ((out6 ++ [d.quo]) ++ [fld.getD k 0]).length = out6.length + 2 := by simp
                            generalize h9 : (out6 ++ [d.quo]) ++ [fld.getD k 0] = out8 at *
                            generalize h10 : out6 ++ [d.quo] = out7 at *
                            simp (config := { maxSteps := 1000000 }) (disch := ((try simp only [awL]); omega)) only [Option.toList_some, Option.toList_none, nextC_more, nextC_over, bs_size, bs_extract, bs_toList, bs_append, byteAt_bs, bs_cells, nums_length, nums_getD, bl6, sp7, sp8, l7, h7, ↓awU, awV, awF, ofVal, ofVal0, isShift, aggK, forall_const, ↓reduceIte, ↓reduceDIte, ↓purePost, combine, idsA, cellsA, numsOf, srcA, calleeA, refsA, isScalar, scalarD, scalar0, AV.one, putL, unfA, implies_true, IntKind.signed, Nat.reduceAdd, Nat.reduceSub, Nat.reduceMul, Nat.reducePow, Nat.reduceDiv, Nat.reduceMod, Int.reduceAdd, Int.reduceSub, Int.reduceMul, Int.reducePow, Int.reduceNeg, Int.reduceToNat, Int.reduceLT, Int.reduceLE, Nat.reduceEqDiff, sidsB, Nat.reduceBEq, keyKD, isIntK, aggD, aggL, eqKs]
                            refine ⟨by rfl, (k + 1, out8), ⟨hk, by simp only; omega, by simp only [← h9, ← h10]; simpa only [List.append_assoc] using d3⟩, by simp only; omega, ⟨[some 0, some 1, some 6], rfl, by simp, by simp [setsA, keepA, SWeak, AWeak, l7', l8'], by simp [HWeak, BWeak, SWeak, AWeak]⟩⟩
                          · rw [if_neg h7, List.nil_append] at d3
                            have sp8 := @Bt_push out6 (fld.getD k 0)
                            have l8' : (out6 ++ [fld.getD k 0]).length = out6.length + 1 := by simp
                            generalize h9 : out6 ++ [fld.getD k 0] = out8 at *
                            simp (config := { maxSteps := 1000000 }) (disch := ((try simp only [awL]); omega)) only [Option.toList_some, Option.toList_none, nextC_more, nextC_over, bs_size, bs_extract, bs_toList, bs_append, byteAt_bs, bs_cells, nums_length, nums_getD, bl6, sp8, ↓awU, awV, awF, ofVal, ofVal0, isShift, aggK, forall_const, ↓reduceIte, ↓reduceDIte, ↓purePost, combine, idsA, cellsA, numsOf, srcA, calleeA, refsA, isScalar, scalarD, scalar0, AV.one, putL, unfA, implies_true, IntKind.signed, Nat.reduceAdd, Nat.reduceSub, Nat.reduceMul, Nat.reducePow, Nat.reduceDiv, Nat.reduceMod, Int.reduceAdd, Int.reduceSub, Int.reduceMul, Int.reducePow, Int.reduceNeg, Int.reduceToNat, Int.reduceLT, Int.reduceLE, Nat.reduceEqDiff, sidsB, Nat.reduceBEq, keyKD, isIntK, aggD, aggL, eqKs]
                            refine ⟨by rfl, (k + 1, out8), ⟨hk, by simp only; omega, by simp only [← h9]; simpa only [List.append_assoc] using d3⟩, by simp only; omega, ⟨[some 0, some 1, some 4], rfl, by simp, by simp [setsA, keepA, SWeak, AWeak, l8'], by simp [HWeak, BWeak, SWeak, AWeak]⟩⟩
                        · rw [List.drop_eq_nil_of_le hk] at d3
                          simp (config := { maxSteps := 1000000 }) (disch := ((try simp only [awL]); omega)) only [Option.toList_some, Option.toList_none, nextC_more, nextC_over, bs_size, bs_extract, bs_toList, bs_append, byteAt_bs, bs_cells, nums_length, nums_getD, ↓awU, awV, awF, ofVal, ofVal0, isShift, aggK, forall_const, ↓reduceIte, ↓reduceDIte, ↓purePost, combine, idsA, cellsA, numsOf, srcA, calleeA, refsA, isScalar, scalarD, scalar0, AV.one, putL, unfA, implies_true, IntKind.signed, Nat.reduceAdd, Nat.reduceSub, Nat.reduceMul, Nat.reducePow, Nat.reduceDiv, Nat.reduceMod, Int.reduceAdd, Int.reduceSub, Int.reduceMul, Int.reducePow, Int.reduceNeg, Int.reduceToNat, Int.reduceLT, Int.reduceLE, Nat.reduceEqDiff, sidsB, Nat.reduceBEq, keyKD, isIntK, aggD, aggL, eqKs]
                          exact ⟨out6, by simpa [dblL] using d3, ⟨[some 0, some 1, some 2], rfl, by simp, by simp [setsA, keepA, SWeak, AWeak], by simp [HWeak, BWeak, SWeak, AWeak]⟩⟩
                      · rintro out6 d1
                        have bl6 := @Bt_length out6
                        have sp7 := @Bt_push out6 d.quo
                        have lx : out6.length ≤ out5.length + 2 * fld.length := by rw [d1, List.length_append]; omega
                        have l7' : (out6 ++ [d.quo]).length = out6.length + 1 := by simp
                        generalize h9 : out6 ++ [d.quo] = out7 at *
                        simp only [awK, Nat.reduceMod, Nat.reduceDiv, reduceIte]
                        simp (config := { maxSteps := 1000000 }) (disch := ((try simp only [awL]); omega)) only [Option.toList_some, Option.toList_none, nextC_more, nextC_over, bs_size, bs_extract, bs_toList, bs_append, byteAt_bs, bs_cells, nums_length, nums_getD, bl6, sp7, ↓awU, awV, awF, ofVal, ofVal0, isShift, aggK, forall_const, ↓reduceIte, ↓reduceDIte, ↓purePost, combine, idsA, cellsA, numsOf, srcA, calleeA, refsA, isScalar, scalarD, scalar0, AV.one, putL, unfA, implies_true, IntKind.signed, Nat.reduceAdd, Nat.reduceSub, Nat.reduceMul, Nat.reducePow, Nat.reduceDiv, Nat.reduceMod, Int.reduceAdd, Int.reduceSub, Int.reduceMul, Int.reducePow, Int.reduceNeg, Int.reduceToNat, Int.reduceLT, Int.reduceLE, Nat.reduceEqDiff, sidsB, Nat.reduceBEq, keyKD, isIntK, aggD, aggL, eqKs]
                        refine ⟨(j + 1, out7), ⟨hj, ?_, c3⟩, by simp only; omega, ⟨[some 0, some 1, some 4], rfl, by simp, by simp [setsA, keepA, SWeak, AWeak, l7'], by simp [HWeak, BWeak, SWeak, AWeak]⟩⟩
                        rw [← h9, d1, ← hb2]
                        simpa only [quoL, List.append_assoc, List.cons_append, List.nil_append] using c2
                  · have e4 : okW d fld = true := by unfold okW; rw [hf]; rfl
                    rw [e4, Bool.true_and] at c3
                    have ew : wrL d fld = fld := by unfold wrL; rw [hf]; rfl
                    rw [ew] at c2
                    have sp2 := @Bt_app out2 fld
                    have lb2 : (out2 ++ fld).length = out2.length + fld.length := by simp
                    have lf := @Bt_length fld
                    have sm : (fld.map fun b => D.int .u8 b.toNat) = Bt fld := by simp [Bt, ints, nums]
                    generalize hb2 : out2 ++ fld = out5 at *
                    simp (config := { maxSteps := 1000000 }) (disch := ((try simp only [awL]); omega)) only [Option.toList_some, Option.toList_none, nextC_more, nextC_over, bs_size, bs_extract, bs_toList, bs_append, byteAt_bs, bs_cells, nums_length, nums_getD, bl2, sp2, lf, sm, ↓awU, awV, awF, ofVal, ofVal0, isShift, aggK, forall_const, ↓reduceIte, ↓reduceDIte, ↓purePost, combine, idsA, cellsA, numsOf, srcA, calleeA, refsA, isScalar, scalarD, scalar0, AV.one, putL, unfA, implies_true, IntKind.signed, Nat.reduceAdd, Nat.reduceSub, Nat.reduceMul, Nat.reducePow, Nat.reduceDiv, Nat.reduceMod, Int.reduceAdd, Int.reduceSub, Int.reduceMul, Int.reducePow, Int.reduceNeg, Int.reduceToNat, Int.reduceLT, Int.reduceLE, Nat.reduceEqDiff, sidsB, Nat.reduceBEq, keyKD, isIntK, aggD, aggL, eqKs]
                    refine ⟨(j + 1, out5), ⟨hj, ?_, c3⟩, by simp only; omega, ⟨[some 0, some 1, some 3], rfl, by simp, by simp [setsA, keepA, SWeak, AWeak, lb2], by simp [HWeak, BWeak, SWeak, AWeak]⟩⟩
                    rw [← hb2]
                    simpa only [List.append_assoc, List.cons_append, List.nil_append] using c2
                · rw [if_neg j0] at c2
                  have sp := @Bt_push out2 d.del
                  have lb : (out2 ++ [d.del]).length = out2.length + 1 := by simp
                  generalize hb : out2 ++ [d.del] = out4 at *
                  have bl4 := @Bt_length out4
                  simp (config := { maxSteps := 1000000 }) (disch := ((try simp only [awL]); omega)) only [Option.toList_some, Option.toList_none, nextC_more, nextC_over, bs_size, bs_extract, bs_toList, bs_append, byteAt_bs, bs_cells, nums_length, nums_getD, sl, sg2, bl2, sp, ↓awU, awV, awF, ofVal, ofVal0, isShift, aggK, forall_const, ↓reduceIte, ↓reduceDIte, ↓purePost, combine, idsA, cellsA, numsOf, srcA, calleeA, refsA, isScalar, scalarD, scalar0, AV.one, putL, unfA, implies_true, IntKind.signed, Nat.reduceAdd, Nat.reduceSub, Nat.reduceMul, Nat.reducePow, Nat.reduceDiv, Nat.reduceMod, Int.reduceAdd, Int.reduceSub, Int.reduceMul, Int.reducePow, Int.reduceNeg, Int.reduceToNat, Int.reduceLT, Int.reduceLE, Nat.reduceEqDiff, sidsB, Nat.reduceBEq, keyKD, isIntK, aggD, aggL, eqKs]
                  refine CallC.pure (rfits_spec hT d fld (by omega)) ?_
                  cases hf : fitsL d fld
                  · by_cases q0 : d.quo.toNat = 0
                    · have e4 : okW d fld = false := by unfold okW; rw [hf, show d.quo = 0 from UInt8.toNat_inj.1 q0]; rfl
                      rw [if_pos (by rw [b3, c3, e4]; rfl)] at hr
                      simp (config := { maxSteps := 1000000 }) (disch := ((try simp only [awL]); omega)) only [Option.toList_some, Option.toList_none, nextC_more, nextC_over, bs_size, bs_extract, bs_toList, bs_append, byteAt_bs, bs_cells, nums_length, nums_getD, ↓awU, awV, awF, ofVal, ofVal0, isShift, aggK, forall_const, ↓reduceIte, ↓reduceDIte, ↓purePost, combine, idsA, cellsA, numsOf, srcA, calleeA, refsA, isScalar, scalarD, scalar0, AV.one, putL, unfA, implies_true, IntKind.signed, Nat.reduceAdd, Nat.reduceSub, Nat.reduceMul, Nat.reducePow, Nat.reduceDiv, Nat.reduceMod, Int.reduceAdd, Int.reduceSub, Int.reduceMul, Int.reducePow, Int.reduceNeg, Int.reduceToNat, Int.reduceLT, Int.reduceLE, Nat.reduceEqDiff, sidsB, Nat.reduceBEq, keyKD, isIntK, aggD, aggL, eqKs]
                      rw [hr]; rfl
                    · have e4 : okW d fld = true := by unfold okW; rw [hf]; simp; exact fun e => q0 (by rw [e]; rfl)
                      rw [e4, Bool.true_and] at c3
                      have ew : wrL d fld = quoL d fld := by unfold wrL; rw [hf]; rfl
                      rw [ew] at c2
                      have dll := dblL_len d.quo fld
                      have sp2 := @Bt_push out4 d.quo
                      generalize hb2 : out4 ++ [d.quo] = out5 at *
                      have lb2 : out5.length = out4.length + 1 := by rw [← hb2, List.length_append]; rfl
                      simp (config := { maxSteps := 1000000 }) (disch := ((try simp only [awL]); omega)) only [Option.toList_some, Option.toList_none, nextC_more, nextC_over, bs_size, bs_extract, bs_toList, bs_append, byteAt_bs, bs_cells, nums_length, nums_getD, bl4, sp2, ↓awU, awV, awF, ofVal, ofVal0, isShift, aggK, forall_const, ↓reduceIte, ↓reduceDIte, ↓purePost, combine, idsA, cellsA, numsOf, srcA, calleeA, refsA, isScalar, scalarD, scalar0, AV.one, putL, unfA, implies_true, IntKind.signed, Nat.reduceAdd, Nat.reduceSub, Nat.reduceMul, Nat.reducePow, Nat.reduceDiv, Nat.reduceMod, Int.reduceAdd, Int.reduceSub, Int.reduceMul, Int.reducePow, Int.reduceNeg, Int.reduceToNat, Int.reduceLT, Int.reduceLE, Nat.reduceEqDiff, sidsB, Nat.reduceBEq, keyKD, isIntK, aggD, aggL, eqKs]
                      refine LoopC.fx 8004444650225668 (α := Nat × List UInt8) (β := List UInt8) (fun x => fld.length - x.1) (fun x => [(15, .d (.int .i64 x.1)), (10, .lsl 2 1 0 x.2.length)]) (fun x => [BoxD d, .dead, .row false (Bt x.2)])
                        (fun x => x.1 ≤ fld.length ∧ x.2.length ≤ out5.length + 2 * x.1 ∧ x.2 ++ dblL d.quo (fld.drop x.1) = out5 ++ dblL d.quo fld) 8004444650209284 (fun x => [(10, .lsl 2 1 0 x.length)]) (fun x => [BoxD d, .dead, .row false (Bt x)])
                        (fun x => x = out5 ++ dblL d.quo fld) (0, out5) ⟨Nat.zero_le _, by simp, by simp⟩ ?_ ?_ ?_
                      · exact ⟨[some 0, some 1, some 6], rfl, by simp, by simp [setsA, keepA, SWeak, AWeak, lb2, lb], by simp [HWeak, BWeak, SWeak, AWeak]⟩
                      · rintro ⟨k, out6⟩ ⟨d1, d2, d3⟩
                        simp only at d1 d2 d3
                        have bl6 := @Bt_length out6
                        simp only [awK, Nat.reduceMod, Nat.reduceDiv, reduceIte]
                        rcases Nat.lt_or_ge k fld.length with hk | hk
                        · rw [dbl_step d.quo hk] at d3
                          by_cases h7 : (fld.getD k 0).toNat = d.quo.toNat
                          · rw [if_pos h7] at d3
                            have sp7 := @Bt_push out6 d.quo
                            have sp8 := @Bt_push (out6 ++ [d.quo]) (fld.getD k 0)
                            rw [h7] at sp8
                            have l7 := @Bt_length (out6 ++ [d.quo])
                            have l7' : (out6 ++ [d.quo]).length = out6.length + 1 := by simp
                            have l8' : ((out6 ++ [d.quo]) ++ [fld.getD k 0]).length = out6.length + 2 := by simp
                            generalize h9 : (out6 ++ [d.quo]) ++ [fld.getD k 0] = out8 at *
                            generalize h10 : out6 ++ [d.quo] = out7 at *
                            simp (config := { maxSteps := 1000000 }) (disch := ((try simp only [awL]); omega)) only [Option.toList_some, Option.toList_none, nextC_more, nextC_over, bs_size, bs_extract, bs_toList, bs_append, byteAt_bs, bs_cells, nums_length, nums_getD, bl6, sp7, sp8, l7, h7, ↓awU, awV, awF, ofVal, ofVal0, isShift, aggK, forall_const, ↓reduceIte, ↓reduceDIte, ↓purePost, combine, idsA, cellsA, numsOf, srcA, calleeA, refsA, isScalar, scalarD, scalar0, AV.one, putL, unfA, implies_true, IntKind.signed, Nat.reduceAdd, Nat.reduceSub, Nat.reduceMul, Nat.reducePow, Nat.reduceDiv, Nat.reduceMod, Int.reduceAdd, Int.reduceSub, Int.reduceMul, Int.reducePow, Int.reduceNeg, Int.reduceToNat, Int.reduceLT, Int.reduceLE, Nat.reduceEqDiff, sidsB, Nat.reduceBEq, keyKD, isIntK, aggD, aggL, eqKs]
                            refine ⟨by rfl, (k + 1, out8), ⟨hk, by simp only; omega, by simp only [← h9, ← h10]; simpa only [List.append_assoc] using d3⟩, by simp only; omega, ⟨[some 0, some 1, some 6], rfl, by simp, by simp [setsA, keepA, SWeak, AWeak, l7', l8'], by simp [HWeak, BWeak, SWeak, AWeak]⟩⟩
                          · rw [if_neg h7, List.nil_append] at d3
                            have sp8 := @Bt_push out6 (fld.getD k 0)
                            have l8' : (out6 ++ [fld.getD k 0]).length = out6.length + 1 := by simp
                            generalize h9 : out6 ++ [fld.getD k 0] = out8 at *
                            simp (config := { maxSteps := 1000000 }) (disch := ((try simp only [awL]); omega)) only [Option.toList_some, Option.toList_none, nextC_more, nextC_over, bs_size, bs_extract, bs_toList, bs_append, byteAt_bs, bs_cells, nums_length, nums_getD, bl6, sp8, ↓awU, awV, awF, ofVal, ofVal0, isShift, aggK, forall_const, ↓reduceIte, ↓reduceDIte, ↓purePost, combine, idsA, cellsA, numsOf, srcA, calleeA, refsA, isScalar, scalarD, scalar0, AV.one, putL, unfA, implies_true, IntKind.signed, Nat.reduceAdd, Nat.reduceSub, Nat.reduceMul, Nat.reducePow, Nat.reduceDiv, Nat.reduceMod, Int.reduceAdd, Int.reduceSub, Int.reduceMul, Int.reducePow, Int.reduceNeg, Int.reduceToNat, Int.reduceLT, Int.reduceLE, Nat.reduceEqDiff, sidsB, Nat.reduceBEq, keyKD, isIntK, aggD, aggL, eqKs]
                            refine ⟨by rfl, (k + 1, out8), ⟨hk, by simp only; omega, by simp only [← h9]; simpa only [List.append_assoc] using d3⟩, by simp only; omega, ⟨[some 0, some 1, some 4], rfl, by simp, by simp [setsA, keepA, SWeak, AWeak, l8'], by simp [HWeak, BWeak, SWeak, AWeak]⟩⟩
                        · rw [List.drop_eq_nil_of_le hk] at d3
                          simp (config := { maxSteps := 1000000 }) (disch := ((try simp only [awL]); omega)) only [Option.toList_some, Option.toList_none, nextC_more, nextC_over, bs_size, bs_extract, bs_toList, bs_append, byteAt_bs, bs_cells, nums_length, nums_getD, ↓awU, awV, awF, ofVal, ofVal0, isShift, aggK, forall_const, ↓reduceIte, ↓reduceDIte, ↓purePost, combine, idsA, cellsA, numsOf, srcA, calleeA, refsA, isScalar, scalarD, scalar0, AV.one, putL, unfA, implies_true, IntKind.signed, Nat.reduceAdd, Nat.reduceSub, Nat.reduceMul, Nat.reducePow, Nat.reduceDiv, Nat.reduceMod, Int.reduceAdd, Int.reduceSub, Int.reduceMul, Int.reducePow, Int.reduceNeg, Int.reduceToNat, Int.reduceLT, Int.reduceLE, Nat.reduceEqDiff, sidsB, Nat.reduceBEq, keyKD, isIntK, aggD, aggL, eqKs]
                          exact ⟨out6, by simpa [dblL] using d3, ⟨[some 0, some 1, some 2], rfl, by simp, by simp [setsA, keepA, SWeak, AWeak], by simp [HWeak, BWeak, SWeak, AWeak]⟩⟩
                      · rintro out6 d1
                        have bl6 := @Bt_length out6
                        have sp7 := @Bt_push out6 d.quo
                        have lx : out6.length ≤ out5.length + 2 * fld.length := by rw [d1, List.length_append]; omega
                        have l7' : (out6 ++ [d.quo]).length = out6.length + 1 := by simp
                        generalize h9 : out6 ++ [d.quo] = out7 at *
                        simp only [awK, Nat.reduceMod, Nat.reduceDiv, reduceIte]
                        simp (config := { maxSteps := 1000000 }) (disch := ((try simp only [awL]); omega)) only [Option.toList_some, Option.toList_none, nextC_more, nextC_over, bs_size, bs_extract, bs_toList, bs_append, byteAt_bs, bs_cells, nums_length, nums_getD, bl6, sp7, ↓awU, awV, awF, ofVal, ofVal0, isShift, aggK, forall_const, ↓reduceIte, ↓reduceDIte, ↓purePost, combine, idsA, cellsA, numsOf, srcA, calleeA, refsA, isScalar, scalarD, scalar0, AV.one, putL, unfA, implies_true, IntKind.signed, Nat.reduceAdd, Nat.reduceSub, Nat.reduceMul, Nat.reducePow, Nat.reduceDiv, Nat.reduceMod, Int.reduceAdd, Int.reduceSub, Int.reduceMul, Int.reducePow, Int.reduceNeg, Int.reduceToNat, Int.reduceLT, Int.reduceLE, Nat.reduceEqDiff, sidsB, Nat.reduceBEq, keyKD, isIntK, aggD, aggL, eqKs]
                        refine ⟨(j + 1, out7), ⟨hj, ?_, c3⟩, by simp only; omega, ⟨[some 0, some 1, some 4], rfl, by simp, by simp [setsA, keepA, SWeak, AWeak, l7'], by simp [HWeak, BWeak, SWeak, AWeak]⟩⟩
                        rw [← h9, d1, ← hb2, ← hb]
                        simpa only [quoL, List.append_assoc, List.cons_append, List.nil_append] using c2
                  · have e4 : okW d fld = true := by unfold okW; rw [hf]; rfl
                    rw [e4, Bool.true_and] at c3
                    have ew : wrL d fld = fld := by unfold wrL; rw [hf]; rfl
                    rw [ew] at c2
                    have sp2 := @Bt_app out4 fld
                    have lb2 : (out4 ++ fld).length = out4.length + fld.length := by simp
                    have lf := @Bt_length fld
                    have sm : (fld.map fun b => D.int .u8 b.toNat) = Bt fld := by simp [Bt, ints, nums]
                    generalize hb2 : out4 ++ fld = out5 at *
                    simp (config := { maxSteps := 1000000 }) (disch := ((try simp only [awL]); omega)) only [Option.toList_some, Option.toList_none, nextC_more, nextC_over, bs_size, bs_extract, bs_toList, bs_append, byteAt_bs, bs_cells, nums_length, nums_getD, bl4, sp2, lf, sm, ↓awU, awV, awF, ofVal, ofVal0, isShift, aggK, forall_const, ↓reduceIte, ↓reduceDIte, ↓purePost, combine, idsA, cellsA, numsOf, srcA, calleeA, refsA, isScalar, scalarD, scalar0, AV.one, putL, unfA, implies_true, IntKind.signed, Nat.reduceAdd, Nat.reduceSub, Nat.reduceMul, Nat.reducePow, Nat.reduceDiv, Nat.reduceMod, Int.reduceAdd, Int.reduceSub, Int.reduceMul, Int.reducePow, Int.reduceNeg, Int.reduceToNat, Int.reduceLT, Int.reduceLE, Nat.reduceEqDiff, sidsB, Nat.reduceBEq, keyKD, isIntK, aggD, aggL, eqKs]
                    refine ⟨(j + 1, out5), ⟨hj, ?_, c3⟩, by simp only; omega, ⟨[some 0, some 1, some 5], rfl, by simp, by simp [setsA, keepA, SWeak, AWeak, lb2, lb], by simp [HWeak, BWeak, SWeak, AWeak]⟩⟩
                    rw [← hb2, ← hb]
                    simpa only [List.append_assoc, List.cons_append, List.nil_append] using c2
              · obtain rfl : j = row.length := by omega
                rw [List.drop_length] at c2 c3
                simp only [jnL, List.append_nil] at c2
                have sp : Bt out2 ++ [.int .u8 10] = Bt (out2 ++ [10]) := @Bt_push out2 10
                have lb : (out2 ++ [10]).length = out2.length + 1 := by simp
                generalize hb : out2 ++ [10] = out4 at *
                simp (config := { maxSteps := 1000000 }) (disch := ((try simp only [awL]); omega)) only [Option.toList_some, Option.toList_none, nextC_more, nextC_over, bs_size, bs_extract, bs_toList, bs_append, byteAt_bs, bs_cells, nums_length, nums_getD, bl2, sp, ↓awU, awV, awF, ofVal, ofVal0, isShift, aggK, forall_const, ↓reduceIte, ↓reduceDIte, ↓purePost, combine, idsA, cellsA, numsOf, srcA, calleeA, refsA, isScalar, scalarD, scalar0, AV.one, putL, unfA, implies_true, IntKind.signed, Nat.reduceAdd, Nat.reduceSub, Nat.reduceMul, Nat.reducePow, Nat.reduceDiv, Nat.reduceMod, Int.reduceAdd, Int.reduceSub, Int.reduceMul, Int.reducePow, Int.reduceNeg, Int.reduceToNat, Int.reduceLT, Int.reduceLE, Nat.reduceEqDiff, sidsB, Nat.reduceBEq, keyKD, isIntK, aggD, aggL, eqKs]
                exact ⟨(i + 1, out4), ⟨h, c2, by rw [b3, c3]; rfl⟩, by simp only; omega, ⟨[some 0, some 1, some 4], rfl, by simp, by simp [setsA, keepA, SWeak, AWeak, lb], by simp [HWeak, BWeak, SWeak, AWeak]⟩⟩
          · obtain rfl : i = g.length := by omega
            rw [List.drop_length] at b2 b3
            simp only [textL, List.append_nil] at b2
            rw [if_neg (by rw [b3]; simp), ← b2] at hr
            have cu : cut (Bt out) 0 out.length = Bt out := cut_all bl.symm
            rcases Nat.lt_or_ge 1048576 out.length with h4 | h4
            · rw [if_pos h4] at hr
              simp (config := { maxSteps := 1000000 }) (disch := ((try simp only [awL]); omega)) only [Option.toList_some, Option.toList_none, nextC_more, nextC_over, bs_size, bs_extract, bs_toList, bs_append, byteAt_bs, bs_cells, nums_length, nums_getD, bl, cu, ↓awU, awV, awF, ofVal, ofVal0, isShift, aggK, forall_const, ↓reduceIte, ↓reduceDIte, ↓purePost, combine, idsA, cellsA, numsOf, srcA, calleeA, refsA, isScalar, scalarD, scalar0, AV.one, putL, unfA, implies_true, IntKind.signed, Nat.reduceAdd, Nat.reduceSub, Nat.reduceMul, Nat.reducePow, Nat.reduceDiv, Nat.reduceMod, Int.reduceAdd, Int.reduceSub, Int.reduceMul, Int.reducePow, Int.reduceNeg, Int.reduceToNat, Int.reduceLT, Int.reduceLE, Nat.reduceEqDiff, sidsB, Nat.reduceBEq, keyKD, isIntK, aggD, aggL, eqKs]
              rw [hr]; rfl
            · rw [if_neg (by omega)] at hr
              simp (config := { maxSteps := 1000000 }) (disch := ((try simp only [awL]); omega)) only [Option.toList_some, Option.toList_none, nextC_more, nextC_over, bs_size, bs_extract, bs_toList, bs_append, byteAt_bs, bs_cells, nums_length, nums_getD, bl, cu, numsOf_ints, strOfNums_nums, ↓awU, awV, awF, ofVal, ofVal0, isShift, aggK, forall_const, ↓reduceIte, ↓reduceDIte, ↓purePost, combine, idsA, cellsA, numsOf, srcA, calleeA, refsA, isScalar, scalarD, scalar0, AV.one, putL, unfA, implies_true, IntKind.signed, Nat.reduceAdd, Nat.reduceSub, Nat.reduceMul, Nat.reducePow, Nat.reduceDiv, Nat.reduceMod, Int.reduceAdd, Int.reduceSub, Int.reduceMul, Int.reducePow, Int.reduceNeg, Int.reduceToNat, Int.reduceLT, Int.reduceLE, Nat.reduceEqDiff, sidsB, Nat.reduceBEq, keyKD, isIntK, aggD, aggL, eqKs]
              rw [hr]; rfl
      · rw [if_pos h3] at hr
        simp (config := { maxSteps := 1000000 }) (disch := ((try simp only [awL]); omega)) only [Option.toList_some, Option.toList_none, nextC_more, nextC_over, bs_size, bs_extract, bs_toList, bs_append, byteAt_bs, bs_cells, nums_length, nums_getD, ↓awU, awV, awF, ofVal, ofVal0, isShift, aggK, forall_const, ↓reduceIte, ↓reduceDIte, ↓purePost, combine, idsA, cellsA, numsOf, srcA, calleeA, refsA, isScalar, scalarD, scalar0, AV.one, putL, unfA, implies_true, IntKind.signed, Nat.reduceAdd, Nat.reduceSub, Nat.reduceMul, Nat.reducePow, Nat.reduceDiv, Nat.reduceMod, Int.reduceAdd, Int.reduceSub, Int.reduceMul, Int.reducePow, Int.reduceNeg, Int.reduceToNat, Int.reduceLT, Int.reduceLE, Nat.reduceEqDiff, sidsB, Nat.reduceBEq, keyKD, isIntK, aggD, aggL, eqKs]
        rw [hr]; rfl
end Go.Proofs.YtjjanbljkoaojaaDoor

namespace Go.Proofs.YtjjanbljkoaojaaDoor
open Go Go.Proofs Go.Abs
variable {G : Globals}
/-! Small numbers as texts; the dice's numbers. -/
end Go.Proofs.YtjjanbljkoaojaaDoor

namespace Go.Proofs.YtjjanbljkoaojaaDoor
open Go Go.Proofs Go.Abs
variable {G : Globals}
/-! The dice's dates, fields, grids of odd fields. -/
end Go.Proofs.YtjjanbljkoaojaaDoor

namespace Go.Proofs.YtjjanbljkoaojaaDoor
open Go Go.Proofs Go.Abs
variable {G : Globals}
/-! The dice's grids of odd fields. -/
end Go.Proofs.YtjjanbljkoaojaaDoor

namespace Go.Proofs.YtjjanbljkoaojaaDoor
open Go Go.Proofs Go.Abs
/-! What was written is read back. -/
structure Dok (d : Dia) : Prop where
  del : d.del.toNat ≠ 10 ∧ d.del.toNat ≠ 13 ∧ d.del.toNat < 128
  quo : d.quo.toNat = 0 ∨ d.quo.toNat = 34 ∨ d.quo.toNat = 39
  ne : d.del ≠ d.quo
  trim : d.trim = true → d.del.toNat ≠ 32
theorem okDia_dok {d : Dia} (h : okDia d = true) : Dok d := by
  rw [okDia_nat] at h
  obtain ⟨h1, h2, h3, h4⟩ := of_decide_eq_true h
  exact ⟨by omega, h2, fun e => h3 (by rw [e]), fun ht e => h4 ⟨ht, e⟩⟩
/-- What may stand behind a field. -/
structure Tl (d : Dia) (u : List UInt8) : Prop where
  stop : stopL d u = true
  trim : d.trim = true → u.head? ≠ some 32
  quo : d.quo ≠ 0 → u.head? ≠ some d.quo
theorem Tl_nil (d : Dia) : Tl d [] := ⟨by simp [stopL], fun _ => by simp, fun _ => by simp⟩
theorem Tl_del {d : Dia} (h : Dok d) (x : List UInt8) : Tl d (d.del :: x) :=
  ⟨by simp [stopL], fun ht e => h.trim ht (by simp at e; rw [e]; rfl), fun _ e => h.ne (by simpa using e)⟩
theorem quo_ne {d : Dia} (h : Dok d) {n : Nat} (hn : n = 10 ∨ n = 13 ∨ n = 32) (hq : d.quo ≠ 0) : d.quo.toNat ≠ n := by
  have := h.quo
  have h0 : d.quo.toNat ≠ 0 := fun e => hq (u8_eq.2 e)
  omega
theorem Tl_lf {d : Dia} (h : Dok d) (x : List UInt8) : Tl d (10 :: x) :=
  ⟨by simp [stopL, endL], fun _ e => by simp at e, fun hq e => quo_ne h (.inl rfl) hq (by simp at e; rw [← e]; rfl)⟩
theorem Tl_crlf {d : Dia} (h : Dok d) (x : List UInt8) : Tl d (13 :: 10 :: x) :=
  ⟨by simp [stopL, endL], fun _ e => by simp at e, fun hq e => quo_ne h (.inr (.inl rfl)) hq (by simp at e; rw [← e]; rfl)⟩
theorem fits_parts {d : Dia} {s : List UInt8} (h : fitsL d s = true) : Lib.validD s = true ∧ (∀ c ∈ s, c.toNat ≠ 10 ∧ c.toNat ≠ 13 ∧ c ≠ d.del) ∧ ¬ (d.quo ≠ 0 ∧ s.head? = some d.quo) ∧ ¬ (d.trim = true ∧ padL s) := by
  unfold fitsL hasNl at h
  simp only [Bool.and_eq_true, Bool.not_eq_true', decide_eq_false_iff_not] at h
  obtain ⟨_, h2, h3, h4, h5, h6⟩ := h
  refine ⟨h2, fun c hc => ⟨fun e => h3 (.inl ?_), fun e => h3 (.inr ?_), fun e => h4 (e ▸ hc)⟩, h5, h6⟩
  · rw [← show c = 10 from u8_eq.2 e]; exact hc
  · rw [← show c = 13 from u8_eq.2 e]; exact hc
theorem plainL_fit {d : Dia} {u : List UInt8} (hu : stopL d u = true) : ∀ {s : List UInt8}, (∀ c ∈ s, c.toNat ≠ 10 ∧ c.toNat ≠ 13 ∧ c ≠ d.del) → plainL d (s ++ u) = s
  | [], _ => plainL_end hu
  | c :: r, h => by
    obtain ⟨h1, h2, h3⟩ := h c (by simp)
    have e10 : c ≠ 10 := fun e => h1 (by rw [e]; rfl)
    have e13 : c ≠ 13 := fun e => h2 (by rw [e]; rfl)
    have : stopL d (c :: (r ++ u)) = false := by simp [stopL, endL, e10, e13, h3]
    rw [List.cons_append, plainL, this, if_neg (by decide), plainL_fit hu fun x hx => h x (by simp [hx])]
theorem skipL_head {d : Dia} {l : List UInt8} (h : d.trim = true → l.head? ≠ some 32) : skipL d l = l := by
  unfold skipL
  split
  · rename_i ht
    rw [dropWhile_self]
    intro c hc
    rw [beq_eq_false_iff_ne]
    intro e; rw [e] at hc; exact h ht hc
  · rfl
theorem field_fit {d : Dia} {s u : List UInt8} (h : fitsL d s = true) (hu : Tl d u) : fieldL d (s ++ u) = some (s, u) := by
  obtain ⟨_, h2, h3, h4⟩ := fits_parts h
  have hh : (s ++ u).head? = if s = [] then u.head? else s.head? := by cases s <;> simp
  have sk : skipL d (s ++ u) = s ++ u := skipL_head fun ht e => by
    rw [hh] at e
    split at e
    · exact hu.trim ht e
    · exact h4 ⟨ht, .inl e⟩
  have nq : ¬ (d.quo ≠ 0 ∧ (s ++ u).head? = some d.quo) := by
    rintro ⟨hq, e⟩
    rw [hh] at e
    split at e
    · exact hu.quo hq e
    · exact h3 ⟨hq, e⟩
  have tr : trimR d s = s := by
    rcases Nat.eq_zero_or_pos s.length with h0 | h0
    · exact trimR_over (.inr (.inl h0))
    · cases ht : d.trim with
      | false => exact trimR_over (.inl ht)
      | true => exact trimR_over (.inr (.inr fun e => h4 ⟨ht, (pad_at h0).2 (.inr e)⟩))
  unfold fieldL
  rw [sk, if_neg nq, plainL_fit hu.stop h2, tr, List.drop_left]
theorem quotL_dbl {q : UInt8} {u : List UInt8} (hu : u.head? ≠ some q) : ∀ s : List UInt8, quotL q (dblL q s ++ q :: u) = some (s, u)
  | [] => by
    show quotL q (q :: u) = _
    cases u with
    | nil => simp [quotL]
    | cons c r =>
      have : ¬ c = q := fun e => hu (by rw [e]; rfl)
      simp [quotL, this]
  | c :: r => by
    have ih := quotL_dbl hu r
    have e0 : dblL q (c :: r) = (if c = q then [q, q] else [c]) ++ dblL q r := rfl
    rw [e0]
    by_cases e : c = q
    · subst e
      rw [if_pos rfl]
      show quotL c (c :: c :: (dblL c r ++ c :: u)) = _
      rw [quotL, if_pos rfl, if_pos rfl, ih]; rfl
    · rw [if_neg e]
      show quotL q (c :: (dblL q r ++ q :: u)) = _
      obtain ⟨x, y, hxy⟩ : ∃ x y, dblL q r ++ q :: u = x :: y := by cases h : dblL q r <;> simp
      rw [hxy] at ih ⊢
      rw [quotL, if_neg e, ih]; rfl
theorem field_quo {d : Dia} (hd : Dok d) {s u : List UInt8} (hq : d.quo ≠ 0) (hu : Tl d u) : fieldL d (quoL d s ++ u) = some (s, u) := by
  have sk : skipL d (quoL d s ++ u) = quoL d s ++ u := skipL_head fun _ e => quo_ne hd (.inr (.inr rfl)) hq (by
    have : d.quo = 32 := by simpa [quoL] using e
    rw [this]; rfl)
  unfold fieldL
  rw [sk, if_pos ⟨hq, by simp [quoL]⟩]
  have e1 : (quoL d s ++ u).drop 1 = dblL d.quo s ++ d.quo :: u := by simp [quoL]
  rw [e1, quotL_dbl (hu.quo hq) s]
  simp only [skipL_head hu.trim, if_pos hu.stop]
theorem field_wr {d : Dia} (hd : Dok d) {s u : List UInt8} (h : okW d s = true) (hu : Tl d u) : fieldL d (wrL d s ++ u) = some (s, u) := by
  unfold wrL
  unfold okW at h
  split
  · rename_i hf; exact field_fit hf hu
  · rename_i hf
    rw [Bool.or_eq_true] at h
    exact field_quo hd (of_decide_eq_true (h.resolve_left hf)) hu
theorem jn_false (d : Dia) (s : List UInt8) (r : Row) : jnL d false (s :: r) = d.del :: jnL d true (s :: r) := by simp [jnL]
theorem rec_jn {d : Dia} (hd : Dok d) {u : List UInt8} (hu : Tl d u) (hn : u.head? ≠ some d.del) : ∀ (r : Row) (s : List UInt8), okR d (s :: r) = true → recL d (jnL d true (s :: r) ++ u) = some (s :: r, u.drop (endL u))
  | [], s, h => by
    have h1 : okW d s = true := by simpa [okR] using h
    have e : jnL d true [s] ++ u = wrL d s ++ u := by simp [jnL]
    rw [e, recL_eq, field_wr hd h1 hu]
    simp only [if_neg hn]
  | s2 :: r, s, h => by
    have h1 : okW d s = true := by simp [okR] at h; exact h.1
    have h2 : okR d (s2 :: r) = true := by simp [okR] at h ⊢; exact h.2
    have e : jnL d true (s :: s2 :: r) ++ u = wrL d s ++ d.del :: (jnL d true (s2 :: r) ++ u) := by
      rw [show jnL d true (s :: s2 :: r) = wrL d s ++ jnL d false (s2 :: r) from by simp [jnL], jn_false]; simp
    rw [e, recL_eq, field_wr hd h1 (Tl_del hd _)]
    simp only [List.head?_cons, if_true, List.drop_succ_cons, List.drop_zero, rec_jn hd hu hn r s2 h2, Option.map_some]
/-- A text with some line end. -/
def textN (d : Dia) (nl : List UInt8) (g : List Row) : List UInt8 := g.flatMap fun r => jnL d true r ++ nl
def okG (d : Dia) (g : List Row) : Prop := ∀ r ∈ g, r ≠ [] ∧ okR d r = true
theorem rows_text {d : Dia} (hd : Dok d) {nl : List UInt8} (hnl : nl = [10] ∨ nl = [13, 10]) (w : List UInt8) : ∀ g : List Row, okG d g → rowsL d (textN d nl g ++ w) = (rowsL d w).map fun x => g ++ x
  | [], _ => by simp [textN]
  | r :: g, h => by
    obtain ⟨h1, h2⟩ := h r (by simp)
    have ih := rows_text hd hnl w g fun x hx => h x (by simp [hx])
    have e : textN d nl (r :: g) ++ w = jnL d true r ++ (nl ++ (textN d nl g ++ w)) := by simp [textN]
    rw [e]
    match r, h1 with
    | s :: r, _ =>
      have hu : Tl d (nl ++ (textN d nl g ++ w)) ∧ (nl ++ (textN d nl g ++ w)).head? ≠ some d.del ∧ (nl ++ (textN d nl g ++ w)).drop (endL (nl ++ (textN d nl g ++ w))) = textN d nl g ++ w ∧ nl ++ (textN d nl g ++ w) ≠ [] := by
        have hdl := hd.del
        rcases hnl with rfl | rfl
        · exact ⟨Tl_lf hd _, fun e => hdl.1 (by simp at e; rw [← e]; rfl), by simp [endL], by simp⟩
        · exact ⟨Tl_crlf hd _, fun e => hdl.2.1 (by simp at e; rw [← e]; rfl), by simp [endL], by simp⟩
      obtain ⟨u1, u2, u3, u4⟩ := hu
      rw [rowsL_eq d (by simp at u4 ⊢; intro _; exact u4), rec_jn hd u1 u2 r s h2]
      simp only [u3, ih, Option.map_map]
      rfl
/-! Texts that are written are valid. -/
end Go.Proofs.YtjjanbljkoaojaaDoor

namespace Go.Proofs.YtjjanbljkoaojaaDoor
open Go Go.Proofs Go.Abs
/-! What the dice make is valid and short. -/
theorem valid_ascii : ∀ s : List UInt8, (∀ c ∈ s, c.toNat < 128) → Lib.validD s = true
  | [], _ => rfl
  | c :: r, h => by rw [Lib.validD_cons _ _ (h c (by simp))]; exact valid_ascii r fun x hx => h x (by simp [hx])
def asciiL (s : List UInt8) : Prop := ∀ c ∈ s, c.toNat < 128
theorem ascii_app {a b : List UInt8} (ha : asciiL a) (hb : asciiL b) : asciiL (a ++ b) := fun c hc => by
  rcases List.mem_append.1 hc with h | h
  · exact ha c h
  · exact hb c h
theorem ascii_nil : asciiL [] := fun c h => by cases h
theorem ascii_cons {c : UInt8} {r : List UInt8} (hc : c.toNat < 128) (hr : asciiL r) : asciiL (c :: r) := fun x hx => by
  rcases List.mem_cons.1 hx with rfl | h
  · exact hc
  · exact hr x h
def okT (s : List UInt8) : Prop := Lib.validD s = true ∧ s.length ≤ 30
instance (s : List UInt8) : Decidable (okT s) := by unfold okT; exact inferInstance
/-- A grid of the dice. -/
structure OddG (g : List Row) (m n : Nat) : Prop where
  len : g.length ≤ m
  row : ∀ r ∈ g, r ≠ [] ∧ r.length ≤ n
  txt : ∀ r ∈ g, ∀ s ∈ r, okT s
theorem OddG.bad {g : List Row} {m n : Nat} (h : OddG g m n) : g.any badR = false := by
  rw [List.any_eq_false]
  intro r hr
  have : badR r = false := by
    unfold badR
    rw [Bool.or_eq_false_iff]
    refine ⟨decide_eq_false fun e => (h.row r hr).1 (List.eq_nil_of_length_eq_zero e), List.any_eq_false.2 fun s hs => ?_⟩
    unfold badF
    rw [(h.txt r hr s hs).1]; decide
  rw [this]; decide
end Go.Proofs.YtjjanbljkoaojaaDoor

namespace Go.Proofs.YtjjanbljkoaojaaDoor
open Go Go.Proofs Go.Abs
variable {G : Globals}
/-! The sanity check; what is read and written of the dice's grids. -/
def OkS (t : List Int) : Prop := ∀ i, 0 ≤ t.getD i 0 ∧ t.getD i 0 ≤ 255
theorem OkS.take {t : List Int} (h : OkS t) : OkM (t.take 300) := by
  refine ⟨by rw [List.length_take]; omega, fun i => ?_⟩
  rcases Nat.lt_or_ge i 300 with h1 | h1
  · have := h i
    rw [List.getD_eq_getElem?_getD, List.getElem?_take, if_pos h1, ← List.getD_eq_getElem?_getD]
    exact this
  · rw [List.getD_eq_getElem?_getD, List.getElem?_take, if_neg (by omega)]; decide
def saneT : List UInt8 := [97, 44, 34, 98, 44, 34, 34, 99, 34, 34, 34, 44]
def saneG : List Row := [[[97], [98, 44, 34, 99, 34], []]]
set_option maxRecDepth 100000 in
theorem sane_parse : parseL ⟨44, 34, false⟩ saneT = (saneG, 0) := by decide +kernel
set_option maxHeartbeats 4000000 in
set_option maxRecDepth 100000 in
theorem sane_spec (hT : HT G) : Ctr Tryd.prog G 6 [] [] (.d (.bool true)) [] := by
  refine Ctr.pure (M := M0) hmix Tryd.func6 rfl go6 ?_
  simp (config := { maxSteps := 1000000 }) (disch := ((try simp only [awL]); omega)) only [Option.toList_some, Option.toList_none, nextC_more, nextC_over, bs_size, bs_extract, bs_toList, bs_append, byteAt_bs, bs_cells, nums_length, nums_getD, Tryd.f6, ↓awU, awV, awF, ofVal, ofVal0, isShift, aggK, forall_const, ↓reduceIte, ↓reduceDIte, ↓purePost, combine, idsA, cellsA, numsOf, srcA, calleeA, refsA, isScalar, scalarD, scalar0, AV.one, putL, unfA, implies_true, IntKind.signed, Nat.reduceAdd, Nat.reduceSub, Nat.reduceMul, Nat.reducePow, Nat.reduceDiv, Nat.reduceMod, Int.reduceAdd, Int.reduceSub, Int.reduceMul, Int.reducePow, Int.reduceNeg, Int.reduceToNat, Int.reduceLT, Int.reduceLE, Nat.reduceEqDiff, sidsB, Nat.reduceBEq, keyKD, isIntK, aggD, aggL, eqKs]
  have ps := parse_spec hT ⟨44, 34, false⟩ saneT (by decide)
  rw [sane_parse] at ps
  refine CallC.of ps (by rfl) ?_
  obtain ⟨g, hg⟩ : ∃ g, g = saneG := ⟨_, rfl⟩
  obtain ⟨row, hrow⟩ : ∃ row : Row, row = [[97], [98, 44, 34, 99, 34], []] := ⟨_, rfl⟩
  have gl : (rowsD g).length = 1 := by rw [hg]; rfl
  have gl2 : g.length = 1 := by rw [hg]; rfl
  have gg : (rowsD g).getD 0 .nilp = Ss row false := by rw [hg, hrow]; rfl
  have sl : (strs row).length = 3 := by rw [hrow]; rfl
  have sl2 : row.length = 3 := by rw [hrow]; rfl
  have s1 : (strs row).getD 1 .nilp = S [98, 44, 34, 99, 34] := by rw [hrow]; rfl
  have s2 : (strs row).getD 2 .nilp = S [] := by rw [hrow]; rfl
  rw [← hg]
  unfold gridE
  simp (config := { maxSteps := 1000000 }) (disch := ((try simp only [awL]); omega)) only [Option.toList_some, Option.toList_none, nextC_more, nextC_over, bs_size, bs_extract, bs_toList, bs_append, byteAt_bs, bs_cells, nums_length, nums_getD, gl, gl2, gg, sl, sl2, s1, s2, ↓awU, awV, awF, ofVal, ofVal0, isShift, aggK, forall_const, ↓reduceIte, ↓reduceDIte, ↓purePost, combine, idsA, cellsA, numsOf, srcA, calleeA, refsA, isScalar, scalarD, scalar0, AV.one, putL, unfA, implies_true, IntKind.signed, Nat.reduceAdd, Nat.reduceSub, Nat.reduceMul, Nat.reducePow, Nat.reduceDiv, Nat.reduceMod, Int.reduceAdd, Int.reduceSub, Int.reduceMul, Int.reducePow, Int.reduceNeg, Int.reduceToNat, Int.reduceLT, Int.reduceLE, Nat.reduceEqDiff, sidsB, Nat.reduceBEq, keyKD, isIntK, aggD, aggL, eqKs]
  try rfl
theorem parse_of {d : Dia} {l : List UInt8} {g : List Row} (h1 : okDia d = true) (h2 : l.length ≤ 1048576) (h3 : Lib.validD l = true) (h4 : rowsL d l = some g) (h5 : bigG g = false) : parseL d l = (g, 0) := by
  unfold parseL
  rw [if_neg (by rw [h1]; decide), if_neg (by omega), if_neg (by rw [h3]; decide), h4]
  simp only [h5, Bool.false_eq_true, if_false]
end Go.Proofs.YtjjanbljkoaojaaDoor

namespace Go.Proofs.YtjjanbljkoaojaaDoor
open Go Go.Proofs Go.Abs
variable {G : Globals}
/-! Files that are put one behind the other. -/
end Go.Proofs.YtjjanbljkoaojaaDoor

namespace Go.Proofs.YtjjanbljkoaojaaDoor
open Go Go.Proofs Go.Abs
/-! The other line end; the last line without one. -/
end Go.Proofs.YtjjanbljkoaojaaDoor

namespace Go.Proofs.YtjjanbljkoaojaaDoor
open Go Go.Proofs Go.Abs
variable {G : Globals}
/-! What was written is read back: the law. -/
end Go.Proofs.YtjjanbljkoaojaaDoor

namespace Go.Proofs.YtjjanbljkoaojaaDoor
open Go Go.Proofs Go.Abs
variable {G : Globals}
/-! The limits: plain. -/
abbrev lD : Dia := ⟨44, 34, false⟩
theorem lD_ok : okDia lD = true := by decide
def longL (k : Nat) : List UInt8 := List.replicate (1024 + k) 0
theorem longL_len (k : Nat) : (longL k).length = 1024 + k := by simp [longL]
theorem longL_mem {k : Nat} {c : UInt8} (h : c ∈ longL k) : c = 0 := (List.mem_replicate.1 h).2
theorem long_fits (k : Nat) : fitsL lD (longL k) = true := by
  have h1 : Lib.validD (longL k) = true := valid_ascii _ fun c h => by rw [longL_mem h]; decide
  have h2 : hasNl (longL k) = false := by
    unfold hasNl
    exact decide_eq_false fun h => by rcases h with h | h <;> (have := longL_mem h; revert this; decide)
  have h3 : decide (lD.del ∈ longL k) = false := decide_eq_false fun h => by have := longL_mem h; revert this; decide
  have h4 : decide (lD.quo ≠ 0 ∧ (longL k).head? = some lD.quo) = false := decide_eq_false fun h => by
    have := h.2
    have h5 : (longL k).head? = some 0 := by rw [longL, Nat.add_comm, List.replicate_succ]; rfl
    rw [h5] at this; revert this; decide
  unfold fitsL
  rw [lD_ok, h1, h2, h3, h4]
  simp
def limX (quoted : Bool) (k : Nat) : List UInt8 := if quoted then 34 :: longL k ++ [34] else longL k
theorem limX_field (quoted : Bool) (k : Nat) {u : List UInt8} (hu : Tl lD u) : fieldL lD (limX quoted k ++ u) = some (longL k, u) := by
  cases quoted
  · exact field_fit (long_fits k) hu
  · have hd : Dok lD := okDia_dok lD_ok
    have := field_quo hd (s := longL k) (u := u) (by decide) hu
    rw [quoL, dblL_none _ _ (fun h => by have := longL_mem h; revert this; decide)] at this
    exact this
theorem limX_len (quoted : Bool) (k : Nat) : 1024 + k ≤ (limX quoted k).length ∧ (limX quoted k).length ≤ 1026 + k := by
  have := longL_len k
  unfold limX
  split
  · simp; omega
  · omega
theorem limX_ne (quoted : Bool) (k : Nat) : limX quoted k ≠ [] := fun e => by have := (limX_len quoted k).1; rw [e] at this; simp at this
theorem limX_ascii (quoted : Bool) (k : Nat) : asciiL (limX quoted k) := by
  have hl : asciiL (longL k) := fun c h => by rw [longL_mem h]; decide
  unfold limX
  split
  · exact ascii_cons (by decide) (ascii_app hl (ascii_cons (by decide) ascii_nil))
  · exact hl
theorem lim1 (quoted : Bool) (k : Nat) : rowsL lD (limX quoted k) = some [[longL k]] := by
  have h := limX_field quoted k (Tl_nil lD)
  rw [List.append_nil] at h
  rw [rowsL_eq lD (limX_ne quoted k), recL_eq, h]
  simp [endL, rowsL_nil]
def limY (quoted : Bool) (k : Nat) : List UInt8 := [97, 44] ++ limX quoted k ++ [10, 98]
theorem lim2 (quoted : Bool) (k : Nat) : rowsL lD (limY quoted k) = some [[[97], longL k], [[98]]] := by
  have hd : Dok lD := okDia_dok lD_ok
  have f1 : fieldL lD ([97] ++ 44 :: (limX quoted k ++ [10, 98])) = some ([97], 44 :: (limX quoted k ++ [10, 98])) := field_fit (by decide) (Tl_del hd _)
  have f2 := limX_field quoted k (Tl_lf hd [98])
  have f3 : rowsL lD [98] = some [[[98]]] := by decide
  have e : limY quoted k = [97] ++ 44 :: (limX quoted k ++ [10, 98]) := by simp [limY]
  have r1 : recL lD (limX quoted k ++ [10, 98]) = some ([longL k], [98]) := by
    rw [recL_eq, f2]
    simp [endL]
  rw [e, rowsL_eq lD (by simp), recL_eq, f1]
  simp only [List.head?_cons, if_true, List.drop_succ_cons, List.drop_zero, r1, Option.map_some, f3]
def limZ (k : Nat) : List UInt8 := List.replicate (4096 + k) 10
theorem textN_empty (n : Nat) : textN lD [10] (List.replicate n [[]]) = List.replicate n 10 := by
  induction n with
  | zero => rfl
  | succ n ih =>
    have e : textN lD [10] (List.replicate (n + 1) [[]]) = jnL lD true [[]] ++ [10] ++ textN lD [10] (List.replicate n [[]]) := by simp [textN, List.replicate_succ]
    rw [e, ih, show jnL lD true [[]] = [] by decide, List.replicate_succ]; rfl
theorem lim3 (k : Nat) : rowsL lD (limZ k) = some (List.replicate (4096 + k) [[]]) := by
  have h := rows_text (okDia_dok lD_ok) (nl := [10]) (.inl rfl) [] (List.replicate (4096 + k) [[]]) fun r hr => by rw [(List.mem_replicate.1 hr).2]; exact ⟨by simp, by decide⟩
  rw [List.append_nil, textN_empty, rowsL_nil, Option.map_some, List.append_nil] at h
  exact h
def limT (quoted : Bool) (k : Nat) : Row := [limX quoted k, limY quoted k, limZ k]
theorem lim_parse (quoted : Bool) (k : Nat) (hk : k = 0 ∨ k = 1) (i : Nat) (hi : i < 3) :
    ((limT quoted k).getD i []).length ≤ 10000 ∧ ∃ g, okGrid g ∧ parseL lD ((limT quoted k).getD i []) = (g, if k = 0 then 0 else 3) := by
  have hx := limX_len quoted k
  have ax := limX_ascii quoted k
  have key : ∀ (l : List UInt8) (g : List Row), l.length ≤ 10000 → asciiL l → rowsL lD l = some g → bigG g = decide (k = 1) → l.length ≤ 10000 ∧ ∃ g, okGrid g ∧ parseL lD l = (g, if k = 0 then 0 else 3) := by
    intro l g h1 h2 h3 h4
    have ok := rowsL_ok (d := lD) (by omega) h3
    refine ⟨h1, ?_⟩
    rcases hk with rfl | rfl
    · exact ⟨g, ok, parse_of lD_ok (by omega) (valid_ascii _ h2) h3 (by rw [h4]; rfl)⟩
    · refine ⟨[], ⟨by simp, by simp⟩, ?_⟩
      unfold parseL
      rw [if_neg (by rw [lD_ok]; decide), if_neg (by omega), if_neg (by rw [valid_ascii _ h2]; decide), h3]
      simp only [h4, decide_true, if_true]
      rfl
  have bf : bigF (longL k) = decide (k = 1) := by
    unfold bigF
    rw [longL_len, decide_eq_decide]; omega
  rcases (by omega : i = 0 ∨ i = 1 ∨ i = 2) with rfl | rfl | rfl
  · exact key _ _ (by show (limX quoted k).length ≤ _; omega) ax (lim1 quoted k) (by simp [bigG, bigR, bf])
  · refine key _ _ (by show (limY quoted k).length ≤ _; simp [limY]; omega) ?_ (lim2 quoted k) (by simp [bigG, bigR, bf, show bigF [97] = false by decide, show bigF [98] = false by decide])
    exact ascii_app (ascii_app (ascii_cons (by decide) (ascii_cons (by decide) ascii_nil)) ax) (ascii_cons (by decide) (ascii_cons (by decide) ascii_nil))
  · refine key _ _ (by show (limZ k).length ≤ _; simp [limZ]; omega) (fun c h => by rw [(List.mem_replicate.1 h).2]; decide) (lim3 k) ?_
    have : (List.replicate (4096 + k) ([[]] : Row)).any bigR = false := by
      rw [List.any_eq_false]; intro r hr; rw [(List.mem_replicate.1 hr).2]; decide
    unfold bigG
    rw [this, Bool.or_false, List.length_replicate, decide_eq_decide]; omega
/-- Values that stand for the same. -/
theorem ctr_args {P : Program} {f : FuncId} {as1 as2 : List AV} {H H' : List ABlk} {res : AV} (c : Ctr P G f as2 H res H') (h : ∀ (hd : Held) (ρ : Abs.Place) (vs : Array Value), RL hd ρ vs as1 → RL hd ρ vs as2) : Ctr P G f as1 H res H' :=
  ⟨c.1, fun hd ρ w vs s r => c.2 hd ρ w vs s (h hd ρ vs r)⟩
set_option maxRecDepth 100000 in
theorem mmod_spec (n m : Int) (hn1 : -9223372036854775808 ≤ n) (hn2 : n ≤ 9223372036854775807) (h0 : 0 < m) (h1 : m < 4611686018427387904) :
    Ctr Tryd.prog G 7 [.d (.int .i64 n), .d (.int .i64 m)] [] (.d (.int .i64 (n % m))) [] := by
  have e := Int.tmod_eq_emod (a := n) (b := m)
  have p1 := Int.emod_nonneg n (show m ≠ 0 by omega)
  have p2 := Int.emod_lt_of_pos n h0
  have c0 : -m < n.tmod m ∧ n.tmod m < m := ⟨Int.lt_tmod_of_pos n h0, Int.tmod_lt_of_pos n h0⟩
  have hh : (n.tmod m < 0 → n.tmod m + m = n % m) ∧ (¬ n.tmod m < 0 → n.tmod m = n % m) := by
    rw [e]
    split
    · exact ⟨fun h => by omega, fun _ => by omega⟩
    · exact ⟨fun h => by omega, fun h => by omega⟩
  clear e
  refine Ctr.pure (M := M0) hmix Tryd.func7 rfl go7 ?_
  simp (config := { maxSteps := 1000000 }) (disch := ((try simp only [awL]); omega)) only [Tryd.f7, ↓awU, awV, awF, ofVal, ofVal0, isShift, aggK, forall_const, ↓reduceIte, ↓reduceDIte, ↓purePost, combine, idsA, cellsA, numsOf, srcA, calleeA, refsA, isScalar, scalarD, scalar0, AV.one, putL, unfA, implies_true, IntKind.signed, Nat.reduceAdd, Nat.reduceSub, Nat.reduceMul, Nat.reducePow, Nat.reduceDiv, Nat.reduceMod, Int.reduceAdd, Int.reduceSub, Int.reduceMul, Int.reducePow, Int.reduceNeg, Int.reduceToNat, Int.reduceLT, Int.reduceLE, Nat.reduceEqDiff, sidsB, Nat.reduceBEq, keyKD, isIntK, aggD, aggL, eqKs]
end Go.Proofs.YtjjanbljkoaojaaDoor

namespace Go.Proofs.YtjjanbljkoaojaaDoor
open Go Go.Proofs Go.Abs
variable {G : Globals}
/-! The limits: the law. -/
def fillB (n i : Nat) : List UInt8 := List.replicate i 10 ++ List.replicate (n - i) 0
theorem fillB_len {n i : Nat} (h : i ≤ n) : (fillB n i).length = n := by simp [fillB]; omega
theorem fillB_set {n i : Nat} (h : i < n) : (Bt (fillB n i)).set i (.int .u8 10) = Bt (fillB n (i + 1)) := by
  have e : fillB n (i + 1) = (fillB n i).set i 10 := by
    unfold fillB
    rw [List.set_append_right _ _ (by simp), List.length_replicate, Nat.sub_self, show n - i = (n - (i + 1)) + 1 by omega, List.replicate_succ', List.append_assoc]
    rfl
  rw [e]
  show (ints .u8 (nums (fillB n i))).set i (.int .u8 10) = ints .u8 (nums ((fillB n i).set i 10))
  rw [ints_set]
  congr 1
  simp [nums, List.map_set]
def limG (k : Nat) : List D := [Gr [List.replicate (64 + k) []] false, Gr [[longL k]] false, .sl 1 false [.sl 0 true []]]
theorem RD_nil {hd : Held} {v : Value} (r : RD hd v (.sl 0 true [])) : RD hd v (.sl 0 false []) := by
  cases r with
  | sl0 b => exact .sl0 b _
  | sl g off n cap full cells vs hn hf => exact .sl g off 0 cap false [] vs hn (fun h => by cases h) (by simp) (by simp) (by simp)
theorem RD_nilrow {hd : Held} {v : Value} (r : RD hd v (.sl 1 false [.sl 0 true []])) : RD hd v (Gr [[]] false) := by
  cases r with
  | sl g off n cap full cells vs hn hf hh hr h1 =>
    refine .sl g off 1 cap false _ vs hn hf (fun i x hx => ?_) (fun i x hx => ?_) (fun i x hx => ?_)
    · rcases i with _ | i
      · exact hh 0 _ rfl
      · simp [rowsD] at hx
    · rcases i with _ | i
      · have : x = .sl 0 false [] := by simp [rowsD, strs] at hx; exact hx.symm
        subst this
        exact RD_nil (hr 0 _ rfl)
      · simp [rowsD] at hx
    · rcases i with _ | i
      · have : x = .sl 0 false [] := by simp [rowsD, strs] at hx; exact hx.symm
        subst this; rfl
      · simp [rowsD] at hx
theorem lim_forms (hT : HT G) (hM : HM G) (k : Nat) (hk : k = 0 ∨ k = 1) (i : Nat) (hi : i < 3) : ∃ n cs r, ((limG k).drop i).take 1 = [.sl n false cs] ∧ Ctr Tryd.prog G 11 [.d lD.D, .d (.agg [.sl n false cs])] [] (.d (textE r)) [] ∧ Ctr Tryd.prog G 12 [.d lD.D, .d (.agg [.sl n false cs])] [] (.d (textE r)) [] := by
  have key : ∀ g : List Row, okGrid g → ∃ r, Ctr Tryd.prog G 11 [.d lD.D, .d (.agg [Gr g false])] [] (.d (textE r)) [] ∧ Ctr Tryd.prog G 12 [.d lD.D, .d (.agg [Gr g false])] [] (.d (textE r)) [] :=
    fun g h => ⟨formL lD g, format_spec hT hM lD g false h, rformat_spec hT lD g false h⟩
  have ll := longL_len k
  rcases (by omega : i = 0 ∨ i = 1 ∨ i = 2) with rfl | rfl | rfl
  · obtain ⟨r, h⟩ := key [List.replicate (64 + k) []] ⟨by simp, fun r hr => by rw [List.mem_singleton.1 hr]; exact ⟨by simp; omega, fun s hs => by rw [(List.mem_replicate.1 hs).2]; simp⟩⟩
    exact ⟨_, _, r, rfl, h⟩
  · obtain ⟨r, h⟩ := key [[longL k]] ⟨by simp, fun r hr => by rw [List.mem_singleton.1 hr]; exact ⟨by simp, fun s hs => by rw [List.mem_singleton.1 hs]; omega⟩⟩
    exact ⟨_, _, r, rfl, h⟩
  · obtain ⟨r, h1, h2⟩ := key [[]] ⟨by simp, fun r hr => by rw [List.mem_singleton.1 hr]; exact ⟨by simp, by simp⟩⟩
    have wk : ∀ (hd : Held) (ρ : Abs.Place) (vs : Array Value), RL hd ρ vs [.d lD.D, .d (.agg [.sl 1 false [.sl 0 true []]])] → RL hd ρ vs [.d lD.D, .d (.agg [Gr [[]] false])] := fun hd ρ vs q => by
      obtain ⟨v, u, rfl, hv, hu⟩ := q.inv2
      refine RL.two hv ?_
      cases hu with
      | d _ _ hx =>
        refine .d _ _ ?_
        cases hx with
        | agg us cells hl hr =>
          refine .agg us _ (by rw [hl]; rfl) fun i w x hw hx => ?_
          rcases i with _ | i
          · simp at hx; subst hx
            exact RD_nilrow (hr 0 w _ hw rfl)
          · simp at hx
    exact ⟨_, _, r, rfl, ctr_args h1 wk, ctr_args h2 wk⟩
set_option maxHeartbeats 16000000 in
set_option maxRecDepth 100000 in
theorem limits_law (hT : HT G) (hM : HM G) (n : Int) (h1 : -9223372036854775808 ≤ n) (h2 : n ≤ 9223372036854775807) (quoted : Bool) :
    Ctr Tryd.prog G 3 [.d (.int .i64 n), .d (.bool quoted)] [] (.d (.bool true)) [] := by
  refine Ctr.pure (M := M0) hmix Tryd.func3 rfl go3 ?_
  simp (config := { maxSteps := 1000000 }) (disch := ((try simp only [awL]); omega)) only [Option.toList_some, Option.toList_none, nextC_more, nextC_over, bs_size, bs_extract, bs_toList, bs_append, byteAt_bs, bs_cells, nums_length, nums_getD, Tryd.f3, ↓awU, awV, awF, ofVal, ofVal0, isShift, aggK, forall_const, ↓reduceIte, ↓reduceDIte, ↓purePost, combine, idsA, cellsA, numsOf, srcA, calleeA, refsA, isScalar, scalarD, scalar0, AV.one, putL, unfA, implies_true, IntKind.signed, Nat.reduceAdd, Nat.reduceSub, Nat.reduceMul, Nat.reducePow, Nat.reduceDiv, Nat.reduceMod, Int.reduceAdd, Int.reduceSub, Int.reduceMul, Int.reducePow, Int.reduceNeg, Int.reduceToNat, Int.reduceLT, Int.reduceLE, Nat.reduceEqDiff, sidsB, Nat.reduceBEq, keyKD, isIntK, aggD, aggL, eqKs]
  refine CallC.pure (sane_spec hT) ?_
  simp (config := { maxSteps := 1000000 }) (disch := ((try simp only [awL]); omega)) only [Option.toList_some, Option.toList_none, nextC_more, nextC_over, bs_size, bs_extract, bs_toList, bs_append, byteAt_bs, bs_cells, nums_length, nums_getD, ↓awU, awV, awF, ofVal, ofVal0, isShift, aggK, forall_const, ↓reduceIte, ↓reduceDIte, ↓purePost, combine, idsA, cellsA, numsOf, srcA, calleeA, refsA, isScalar, scalarD, scalar0, AV.one, putL, unfA, implies_true, IntKind.signed, Nat.reduceAdd, Nat.reduceSub, Nat.reduceMul, Nat.reducePow, Nat.reduceDiv, Nat.reduceMod, Int.reduceAdd, Int.reduceSub, Int.reduceMul, Int.reducePow, Int.reduceNeg, Int.reduceToNat, Int.reduceLT, Int.reduceLE, Nat.reduceEqDiff, sidsB, Nat.reduceBEq, keyKD, isIntK, aggD, aggL, eqKs]
  refine CallC.pure (mmod_spec n 2 h1 h2 (by decide) (by decide)) ?_
  obtain ⟨k, hk, hk2⟩ : ∃ k : Nat, n % 2 = k ∧ (k = 0 ∨ k = 1) := ⟨(n % 2).toNat, by omega, by omega⟩
  rw [hk]
  have e1 : (1024 + (k : Int)).toNat = 1024 + k := by omega
  have e2 : (64 + (k : Int)).toNat = 64 + k := by omega
  have e3 : (4096 + (k : Int)).toNat = 4096 + k := by omega
  have z1 : nats .u8 (List.replicate (1024 + k) 0) = Bt (longL k) := by simp [nats, Bt, ints, nums, longL]
  have z2 : zerosD [D.str ByteArray.empty] (64 + k) = strs (List.replicate (64 + k) []) := by rw [zerosD_one]; simp [strs]; rfl
  have z3 : nats .u8 (List.replicate (4096 + k) 0) = Bt (fillB (4096 + k) 0) := by simp [nats, Bt, ints, nums, fillB]
  have ll := longL_len k
  have tk : (nums (longL k)).take (1024 + k) = nums (longL k) := List.take_of_length_le (by rw [nums_length, ll]; exact Nat.le_refl _)
  have bl := @Bt_length (longL k)
  simp (config := { maxSteps := 1000000 }) (disch := ((try simp only [awL]); omega)) only [Option.toList_some, Option.toList_none, nextC_more, nextC_over, bs_size, bs_extract, bs_toList, bs_append, byteAt_bs, bs_cells, nums_length, nums_getD, e1, e2, e3, z1, z2, z3, ll, bl, tk, numsOf_ints, strOfNums_nums, List.length_replicate, ↓awU, awV, awF, ofVal, ofVal0, isShift, aggK, forall_const, ↓reduceIte, ↓reduceDIte, ↓purePost, combine, idsA, cellsA, numsOf, srcA, calleeA, refsA, isScalar, scalarD, scalar0, AV.one, putL, unfA, implies_true, IntKind.signed, Nat.reduceAdd, Nat.reduceSub, Nat.reduceMul, Nat.reducePow, Nat.reduceDiv, Nat.reduceMod, Int.reduceAdd, Int.reduceSub, Int.reduceMul, Int.reducePow, Int.reduceNeg, Int.reduceToNat, Int.reduceLT, Int.reduceLE, Nat.reduceEqDiff, sidsB, Nat.reduceBEq, keyKD, isIntK, aggD, aggL, eqKs]
  refine LoopC.fr 1099511628770 (α := Nat) (fun i => 4096 + k - i) (fun i => [(41, .d (.int .i64 i))]) (fun i => [.box [.d (.int .u8 44), .d (.int .u8 34), .d (.bool false)], .dead, .row false (strs (List.replicate (64 + k) [])), .row false (Bt (fillB (4096 + k) i))]) (fun i => i ≤ 4096 + k) 0 (Nat.zero_le _) ?_ ?_
  · exact ⟨[some 0, some 1, some 2, some 3], rfl, by simp, by simp [setsA, keepA, SWeak, AWeak], by simp [HWeak, BWeak, SWeak, AWeak]⟩
  · intro i hi
    have fl := @Bt_length (fillB (4096 + k) i)
    have fl2 := fillB_len hi
    simp only [awK, Nat.reduceMod, Nat.reduceDiv, reduceIte]
    rcases Nat.lt_or_ge i (4096 + k) with h | h
    · have st := fillB_set h
      simp (config := { maxSteps := 1000000 }) (disch := ((try simp only [awL]); omega)) only [Option.toList_some, Option.toList_none, nextC_more, nextC_over, bs_size, bs_extract, bs_toList, bs_append, byteAt_bs, bs_cells, nums_length, nums_getD, fl, fl2, st, ↓awU, awV, awF, ofVal, ofVal0, isShift, aggK, forall_const, ↓reduceIte, ↓reduceDIte, ↓purePost, combine, idsA, cellsA, numsOf, srcA, calleeA, refsA, isScalar, scalarD, scalar0, AV.one, putL, unfA, implies_true, IntKind.signed, Nat.reduceAdd, Nat.reduceSub, Nat.reduceMul, Nat.reducePow, Nat.reduceDiv, Nat.reduceMod, Int.reduceAdd, Int.reduceSub, Int.reduceMul, Int.reducePow, Int.reduceNeg, Int.reduceToNat, Int.reduceLT, Int.reduceLE, Nat.reduceEqDiff, sidsB, Nat.reduceBEq, keyKD, isIntK, aggD, aggL, eqKs]
      exact ⟨i + 1, h, by simp only; omega, ⟨[some 0, some 1, some 2, some 3], rfl, by simp, by simp [setsA, keepA, SWeak, AWeak], by simp [HWeak, BWeak, SWeak, AWeak]⟩⟩
    · obtain rfl : i = 4096 + k := by omega
      have lz : fillB (4096 + k) (4096 + k) = limZ k := by simp [fillB, limZ]
      have zl : (limZ k).length = 4096 + k := by simp [limZ]
      have zl2 := @Bt_length (limZ k)
      have cu : cut (Bt (limZ k)) 0 (4096 + k) = Bt (limZ k) := cut_all (by rw [zl2, zl])
      rw [lz]
      obtain ⟨ts, hts⟩ : ∃ ts, ts = limT quoted k := ⟨_, rfl⟩
      have tl : ts.length = 3 := by rw [hts]; rfl
      have tsl := @strs_length ts
      have tp : ∀ i, i < 3 → (ts.getD i []).length ≤ 10000 ∧ ∃ g, okGrid g ∧ parseL lD (ts.getD i []) = (g, if k = 0 then 0 else 3) := by rw [hts]; exact lim_parse quoted k hk2
      cases quoted
      · have row : [S (longL k), S ([97, 44] ++ longL k ++ [10, 98]), S (limZ k)] = strs ts := by rw [hts]; rfl
        simp (config := { maxSteps := 1000000 }) (disch := ((try simp only [awL]); omega)) only [Option.toList_some, Option.toList_none, nextC_more, nextC_over, bs_size, bs_extract, bs_toList, bs_append, byteAt_bs, bs_cells, nums_length, nums_getD, fl, cu, zl, zl2, ll, tk, row, numsOf_ints, strOfNums_nums, ↓awU, awV, awF, ofVal, ofVal0, isShift, aggK, forall_const, ↓reduceIte, ↓reduceDIte, ↓purePost, combine, idsA, cellsA, numsOf, srcA, calleeA, refsA, isScalar, scalarD, scalar0, AV.one, putL, unfA, implies_true, IntKind.signed, Nat.reduceAdd, Nat.reduceSub, Nat.reduceMul, Nat.reducePow, Nat.reduceDiv, Nat.reduceMod, Int.reduceAdd, Int.reduceSub, Int.reduceMul, Int.reducePow, Int.reduceNeg, Int.reduceToNat, Int.reduceLT, Int.reduceLE, Nat.reduceEqDiff, sidsB, Nat.reduceBEq, keyKD, isIntK, aggD, aggL, eqKs]
        refine LoopC.fr 1729382256910270944 (α := Nat) (fun i => 3 - i) (fun i => [(61, .d (.int .i64 i))]) (fun _ => [.box [.d (.int .u8 44), .d (.int .u8 34), .d (.bool false)], .dead, .row false (strs (List.replicate (64 + k) [])), .dead, .row false (strs ts)]) (fun i => i ≤ 3) 0 (Nat.zero_le _) ?_ ?_
        · exact ⟨[some 0, some 1, some 2, some 3, some 4], rfl, by simp, by simp [setsA, keepA, SWeak, AWeak], by simp [HWeak, BWeak, SWeak, AWeak, ← row]⟩
        · intro i hi
          simp only [awK, Nat.reduceMod, Nat.reduceDiv, reduceIte]
          rcases Nat.lt_or_ge i 3 with h3 | h3
          · have sg := strs_getD (l := ts) (i := i) (by omega)
            obtain ⟨p1, g, p2, p3⟩ := tp i h3
            have ps := parse_spec hT lD (ts.getD i []) (by omega)
            have rps := rparse_spec hT lD (ts.getD i []) (by omega)
            rw [p3] at ps rps
            generalize ts.getD i [] = tx at *
            simp (config := { maxSteps := 1000000 }) (disch := ((try simp only [awL]); omega)) only [Option.toList_some, Option.toList_none, nextC_more, nextC_over, bs_size, bs_extract, bs_toList, bs_append, byteAt_bs, bs_cells, nums_length, nums_getD, tsl, tl, sg, ↓awU, awV, awF, ofVal, ofVal0, isShift, aggK, forall_const, ↓reduceIte, ↓reduceDIte, ↓purePost, combine, idsA, cellsA, numsOf, srcA, calleeA, refsA, isScalar, scalarD, scalar0, AV.one, putL, unfA, implies_true, IntKind.signed, Nat.reduceAdd, Nat.reduceSub, Nat.reduceMul, Nat.reducePow, Nat.reduceDiv, Nat.reduceMod, Int.reduceAdd, Int.reduceSub, Int.reduceMul, Int.reducePow, Int.reduceNeg, Int.reduceToNat, Int.reduceLT, Int.reduceLE, Nat.reduceEqDiff, sidsB, Nat.reduceBEq, keyKD, isIntK, aggD, aggL, eqKs]
            refine CallC.of ps (by rfl) ?_
            unfold gridE
            simp (config := { maxSteps := 1000000 }) (disch := ((try simp only [awL]); omega)) only [Option.toList_some, Option.toList_none, nextC_more, nextC_over, bs_size, bs_extract, bs_toList, bs_append, byteAt_bs, bs_cells, nums_length, nums_getD, ↓awU, awV, awF, ofVal, ofVal0, isShift, aggK, forall_const, ↓reduceIte, ↓reduceDIte, ↓purePost, combine, idsA, cellsA, numsOf, srcA, calleeA, refsA, isScalar, scalarD, scalar0, AV.one, putL, unfA, implies_true, IntKind.signed, Nat.reduceAdd, Nat.reduceSub, Nat.reduceMul, Nat.reducePow, Nat.reduceDiv, Nat.reduceMod, Int.reduceAdd, Int.reduceSub, Int.reduceMul, Int.reducePow, Int.reduceNeg, Int.reduceToNat, Int.reduceLT, Int.reduceLE, Nat.reduceEqDiff, sidsB, Nat.reduceBEq, keyKD, isIntK, aggD, aggL, eqKs]
            refine CallC.of rps (by rfl) ?_
            unfold gridE
            rcases hk2 with rfl | rfl
            · rw [if_pos rfl]
              simp (config := { maxSteps := 1000000 }) (disch := ((try simp only [awL]); omega)) only [Option.toList_some, Option.toList_none, nextC_more, nextC_over, bs_size, bs_extract, bs_toList, bs_append, byteAt_bs, bs_cells, nums_length, nums_getD, ↓awU, awV, awF, ofVal, ofVal0, isShift, aggK, forall_const, ↓reduceIte, ↓reduceDIte, ↓purePost, combine, idsA, cellsA, numsOf, srcA, calleeA, refsA, isScalar, scalarD, scalar0, AV.one, putL, unfA, implies_true, IntKind.signed, Nat.reduceAdd, Nat.reduceSub, Nat.reduceMul, Nat.reducePow, Nat.reduceDiv, Nat.reduceMod, Int.reduceAdd, Int.reduceSub, Int.reduceMul, Int.reducePow, Int.reduceNeg, Int.reduceToNat, Int.reduceLT, Int.reduceLE, Nat.reduceEqDiff, sidsB, Nat.reduceBEq, keyKD, isIntK, aggD, aggL, eqKs]
              refine CallC.of (sameG_spec g g false false p2 p2) (by rfl) ?_
              rw [decide_eq_true rfl]
              simp (config := { maxSteps := 1000000 }) (disch := ((try simp only [awL]); omega)) only [Option.toList_some, Option.toList_none, nextC_more, nextC_over, bs_size, bs_extract, bs_toList, bs_append, byteAt_bs, bs_cells, nums_length, nums_getD, ↓awU, awV, awF, ofVal, ofVal0, isShift, aggK, forall_const, ↓reduceIte, ↓reduceDIte, ↓purePost, combine, idsA, cellsA, numsOf, srcA, calleeA, refsA, isScalar, scalarD, scalar0, AV.one, putL, unfA, implies_true, IntKind.signed, Nat.reduceAdd, Nat.reduceSub, Nat.reduceMul, Nat.reducePow, Nat.reduceDiv, Nat.reduceMod, Int.reduceAdd, Int.reduceSub, Int.reduceMul, Int.reducePow, Int.reduceNeg, Int.reduceToNat, Int.reduceLT, Int.reduceLE, Nat.reduceEqDiff, sidsB, Nat.reduceBEq, keyKD, isIntK, aggD, aggL, eqKs]
              exact ⟨i + 1, h3, by simp only; omega, ⟨[some 0, some 1, some 2, some 3, some 4], rfl, by simp, by simp [setsA, keepA, SWeak, AWeak], by simp [HWeak, BWeak, SWeak, AWeak]⟩⟩
            · rw [if_neg (by decide)]
              simp (config := { maxSteps := 1000000 }) (disch := ((try simp only [awL]); omega)) only [Option.toList_some, Option.toList_none, nextC_more, nextC_over, bs_size, bs_extract, bs_toList, bs_append, byteAt_bs, bs_cells, nums_length, nums_getD, ↓awU, awV, awF, ofVal, ofVal0, isShift, aggK, forall_const, ↓reduceIte, ↓reduceDIte, ↓purePost, combine, idsA, cellsA, numsOf, srcA, calleeA, refsA, isScalar, scalarD, scalar0, AV.one, putL, unfA, implies_true, IntKind.signed, Nat.reduceAdd, Nat.reduceSub, Nat.reduceMul, Nat.reducePow, Nat.reduceDiv, Nat.reduceMod, Int.reduceAdd, Int.reduceSub, Int.reduceMul, Int.reducePow, Int.reduceNeg, Int.reduceToNat, Int.reduceLT, Int.reduceLE, Nat.reduceEqDiff, sidsB, Nat.reduceBEq, keyKD, isIntK, aggD, aggL, eqKs]
              refine CallC.of (sameG_spec g g false false p2 p2) (by rfl) ?_
              rw [decide_eq_true rfl]
              simp (config := { maxSteps := 1000000 }) (disch := ((try simp only [awL]); omega)) only [Option.toList_some, Option.toList_none, nextC_more, nextC_over, bs_size, bs_extract, bs_toList, bs_append, byteAt_bs, bs_cells, nums_length, nums_getD, ↓awU, awV, awF, ofVal, ofVal0, isShift, aggK, forall_const, ↓reduceIte, ↓reduceDIte, ↓purePost, combine, idsA, cellsA, numsOf, srcA, calleeA, refsA, isScalar, scalarD, scalar0, AV.one, putL, unfA, implies_true, IntKind.signed, Nat.reduceAdd, Nat.reduceSub, Nat.reduceMul, Nat.reducePow, Nat.reduceDiv, Nat.reduceMod, Int.reduceAdd, Int.reduceSub, Int.reduceMul, Int.reducePow, Int.reduceNeg, Int.reduceToNat, Int.reduceLT, Int.reduceLE, Nat.reduceEqDiff, sidsB, Nat.reduceBEq, keyKD, isIntK, aggD, aggL, eqKs]
              exact ⟨i + 1, h3, by simp only; omega, ⟨[some 0, some 1, some 2, some 3, some 4], rfl, by simp, by simp [setsA, keepA, SWeak, AWeak], by simp [HWeak, BWeak, SWeak, AWeak]⟩⟩
          · obtain rfl : i = 3 := by omega
            simp (config := { maxSteps := 1000000 }) (disch := ((try simp only [awL]); omega)) only [Option.toList_some, Option.toList_none, nextC_more, nextC_over, bs_size, bs_extract, bs_toList, bs_append, byteAt_bs, bs_cells, nums_length, nums_getD, ↓awU, awV, awF, ofVal, ofVal0, isShift, aggK, forall_const, ↓reduceIte, ↓reduceDIte, ↓purePost, combine, idsA, cellsA, numsOf, srcA, calleeA, refsA, isScalar, scalarD, scalar0, AV.one, putL, unfA, implies_true, IntKind.signed, Nat.reduceAdd, Nat.reduceSub, Nat.reduceMul, Nat.reducePow, Nat.reduceDiv, Nat.reduceMod, Int.reduceAdd, Int.reduceSub, Int.reduceMul, Int.reducePow, Int.reduceNeg, Int.reduceToNat, Int.reduceLT, Int.reduceLE, Nat.reduceEqDiff, sidsB, Nat.reduceBEq, keyKD, isIntK, aggD, aggL, eqKs]
            have cu2 : cut (strs (List.replicate (64 + k) [])) 0 (64 + k) = strs (List.replicate (64 + k) []) := cut_all (by rw [strs_length, List.length_replicate])
            obtain ⟨gs, hgs⟩ : ∃ gs, gs = limG k := ⟨_, rfl⟩
            have gsl : gs.length = 3 := by rw [hgs]; rfl
            have gf : ∀ i, i < 3 → ∃ n cs r, (gs.drop i).take 1 = [.sl n false cs] ∧ Ctr Tryd.prog G 11 [.d lD.D, .d (.agg [.sl n false cs])] [] (.d (textE r)) [] ∧ Ctr Tryd.prog G 12 [.d lD.D, .d (.agg [.sl n false cs])] [] (.d (textE r)) [] := by rw [hgs]; exact fun i hi => lim_forms hT hM k hk2 i hi
            have gsq : gs = [.sl 1 false [.sl (64 + k) false (strs (List.replicate (64 + k) []))], .sl 1 false [.sl 1 false [S (longL k)]], .sl 1 false (cut (zerosD [.sl 0 true []] 1) 0 1)] := by rw [hgs]; simp [limG, rowsD, strs]; rfl
            rw [cu2, ← gsq]
            refine LoopC.fr 7788445287802241442795744493830176 (α := Nat) (fun i => 3 - i) (fun i => [(113, .d (.int .i64 i))]) (fun _ => [.box [.d (.int .u8 44), .d (.int .u8 34), .d (.bool false)], .dead, .dead, .dead, .dead, .dead, .dead, .dead, .dead, .row false gs]) (fun i => i ≤ 3) 0 (Nat.zero_le _) ?_ ?_
            · exact ⟨[some 0, some 1, some 2, some 3, some 4, some 5, some 6, some 7, some 8, some 9], rfl, by simp, by simp [setsA, keepA, SWeak, AWeak], by simp [HWeak, BWeak, SWeak, AWeak]⟩
            · intro i hi
              simp only [awK, Nat.reduceMod, Nat.reduceDiv, reduceIte]
              rcases Nat.lt_or_ge i 3 with h3 | h3
              · obtain ⟨nn, cs, r, f0, f1, f2⟩ := gf i h3
                simp (config := { maxSteps := 1000000 }) (disch := ((try simp only [awL]); omega)) only [Option.toList_some, Option.toList_none, nextC_more, nextC_over, bs_size, bs_extract, bs_toList, bs_append, byteAt_bs, bs_cells, nums_length, nums_getD, gsl, f0, ↓awU, awV, awF, ofVal, ofVal0, isShift, aggK, forall_const, ↓reduceIte, ↓reduceDIte, ↓purePost, combine, idsA, cellsA, numsOf, srcA, calleeA, refsA, isScalar, scalarD, scalar0, AV.one, putL, unfA, implies_true, IntKind.signed, Nat.reduceAdd, Nat.reduceSub, Nat.reduceMul, Nat.reducePow, Nat.reduceDiv, Nat.reduceMod, Int.reduceAdd, Int.reduceSub, Int.reduceMul, Int.reducePow, Int.reduceNeg, Int.reduceToNat, Int.reduceLT, Int.reduceLE, Nat.reduceEqDiff, sidsB, Nat.reduceBEq, keyKD, isIntK, aggD, aggL, eqKs]
                refine CallC.of f1 (by rfl) ?_
                unfold textE
                simp (config := { maxSteps := 1000000 }) (disch := ((try simp only [awL]); omega)) only [Option.toList_some, Option.toList_none, nextC_more, nextC_over, bs_size, bs_extract, bs_toList, bs_append, byteAt_bs, bs_cells, nums_length, nums_getD, gsl, ↓awU, awV, awF, ofVal, ofVal0, isShift, aggK, forall_const, ↓reduceIte, ↓reduceDIte, ↓purePost, combine, idsA, cellsA, numsOf, srcA, calleeA, refsA, isScalar, scalarD, scalar0, AV.one, putL, unfA, implies_true, IntKind.signed, Nat.reduceAdd, Nat.reduceSub, Nat.reduceMul, Nat.reducePow, Nat.reduceDiv, Nat.reduceMod, Int.reduceAdd, Int.reduceSub, Int.reduceMul, Int.reducePow, Int.reduceNeg, Int.reduceToNat, Int.reduceLT, Int.reduceLE, Nat.reduceEqDiff, sidsB, Nat.reduceBEq, keyKD, isIntK, aggD, aggL, eqKs]
                refine CallC.of f2 (by rfl) ?_
                unfold textE
                simp (config := { maxSteps := 1000000 }) (disch := ((try simp only [awL]); omega)) only [Option.toList_some, Option.toList_none, nextC_more, nextC_over, bs_size, bs_extract, bs_toList, bs_append, byteAt_bs, bs_cells, nums_length, nums_getD, gsl, ↓awU, awV, awF, ofVal, ofVal0, isShift, aggK, forall_const, ↓reduceIte, ↓reduceDIte, ↓purePost, combine, idsA, cellsA, numsOf, srcA, calleeA, refsA, isScalar, scalarD, scalar0, AV.one, putL, unfA, implies_true, IntKind.signed, Nat.reduceAdd, Nat.reduceSub, Nat.reduceMul, Nat.reducePow, Nat.reduceDiv, Nat.reduceMod, Int.reduceAdd, Int.reduceSub, Int.reduceMul, Int.reducePow, Int.reduceNeg, Int.reduceToNat, Int.reduceLT, Int.reduceLE, Nat.reduceEqDiff, sidsB, Nat.reduceBEq, keyKD, isIntK, aggD, aggL, eqKs]
                exact ⟨i + 1, h3, by simp only; omega, ⟨[some 0, some 1, some 2, some 3, some 4, some 5, some 6, some 7, some 8, some 9], rfl, by simp, by simp [setsA, keepA, SWeak, AWeak], by simp [HWeak, BWeak, SWeak, AWeak]⟩⟩
              · obtain rfl : i = 3 := by omega
                simp (config := { maxSteps := 1000000 }) (disch := ((try simp only [awL]); omega)) only [Option.toList_some, Option.toList_none, nextC_more, nextC_over, bs_size, bs_extract, bs_toList, bs_append, byteAt_bs, bs_cells, nums_length, nums_getD, ↓awU, awV, awF, ofVal, ofVal0, isShift, aggK, forall_const, ↓reduceIte, ↓reduceDIte, ↓purePost, combine, idsA, cellsA, numsOf, srcA, calleeA, refsA, isScalar, scalarD, scalar0, AV.one, putL, unfA, implies_true, IntKind.signed, Nat.reduceAdd, Nat.reduceSub, Nat.reduceMul, Nat.reducePow, Nat.reduceDiv, Nat.reduceMod, Int.reduceAdd, Int.reduceSub, Int.reduceMul, Int.reducePow, Int.reduceNeg, Int.reduceToNat, Int.reduceLT, Int.reduceLE, Nat.reduceEqDiff, sidsB, Nat.reduceBEq, keyKD, isIntK, aggD, aggL, eqKs]
      · have row : [S ([34] ++ longL k ++ [34]), S ([97, 44] ++ ([34] ++ longL k ++ [34]) ++ [10, 98]), S (limZ k)] = strs ts := by rw [hts]; rfl
        simp (config := { maxSteps := 1000000 }) (disch := ((try simp only [awL]); omega)) only [Option.toList_some, Option.toList_none, nextC_more, nextC_over, bs_size, bs_extract, bs_toList, bs_append, byteAt_bs, bs_cells, nums_length, nums_getD, fl, cu, zl, zl2, ll, tk, row, numsOf_ints, strOfNums_nums, ↓awU, awV, awF, ofVal, ofVal0, isShift, aggK, forall_const, ↓reduceIte, ↓reduceDIte, ↓purePost, combine, idsA, cellsA, numsOf, srcA, calleeA, refsA, isScalar, scalarD, scalar0, AV.one, putL, unfA, implies_true, IntKind.signed, Nat.reduceAdd, Nat.reduceSub, Nat.reduceMul, Nat.reducePow, Nat.reduceDiv, Nat.reduceMod, Int.reduceAdd, Int.reduceSub, Int.reduceMul, Int.reducePow, Int.reduceNeg, Int.reduceToNat, Int.reduceLT, Int.reduceLE, Nat.reduceEqDiff, sidsB, Nat.reduceBEq, keyKD, isIntK, aggD, aggL, eqKs]
        refine LoopC.fr 1729382256910270944 (α := Nat) (fun i => 3 - i) (fun i => [(61, .d (.int .i64 i))]) (fun _ => [.box [.d (.int .u8 44), .d (.int .u8 34), .d (.bool false)], .dead, .row false (strs (List.replicate (64 + k) [])), .dead, .row false (strs ts)]) (fun i => i ≤ 3) 0 (Nat.zero_le _) ?_ ?_
        · exact ⟨[some 0, some 1, some 2, some 3, some 4], rfl, by simp, by simp [setsA, keepA, SWeak, AWeak], by simp [HWeak, BWeak, SWeak, AWeak, ← row]⟩
        · intro i hi
          simp only [awK, Nat.reduceMod, Nat.reduceDiv, reduceIte]
          rcases Nat.lt_or_ge i 3 with h3 | h3
          · have sg := strs_getD (l := ts) (i := i) (by omega)
            obtain ⟨p1, g, p2, p3⟩ := tp i h3
            have ps := parse_spec hT lD (ts.getD i []) (by omega)
            have rps := rparse_spec hT lD (ts.getD i []) (by omega)
            rw [p3] at ps rps
            generalize ts.getD i [] = tx at *
            simp (config := { maxSteps := 1000000 }) (disch := ((try simp only [awL]); omega)) only [Option.toList_some, Option.toList_none, nextC_more, nextC_over, bs_size, bs_extract, bs_toList, bs_append, byteAt_bs, bs_cells, nums_length, nums_getD, tsl, tl, sg, ↓awU, awV, awF, ofVal, ofVal0, isShift, aggK, forall_const, ↓reduceIte, ↓reduceDIte, ↓purePost, combine, idsA, cellsA, numsOf, srcA, calleeA, refsA, isScalar, scalarD, scalar0, AV.one, putL, unfA, implies_true, IntKind.signed, Nat.reduceAdd, Nat.reduceSub, Nat.reduceMul, Nat.reducePow, Nat.reduceDiv, Nat.reduceMod, Int.reduceAdd, Int.reduceSub, Int.reduceMul, Int.reducePow, Int.reduceNeg, Int.reduceToNat, Int.reduceLT, Int.reduceLE, Nat.reduceEqDiff, sidsB, Nat.reduceBEq, keyKD, isIntK, aggD, aggL, eqKs]
            refine CallC.of ps (by rfl) ?_
            unfold gridE
            simp (config := { maxSteps := 1000000 }) (disch := ((try simp only [awL]); omega)) only [Option.toList_some, Option.toList_none, nextC_more, nextC_over, bs_size, bs_extract, bs_toList, bs_append, byteAt_bs, bs_cells, nums_length, nums_getD, ↓awU, awV, awF, ofVal, ofVal0, isShift, aggK, forall_const, ↓reduceIte, ↓reduceDIte, ↓purePost, combine, idsA, cellsA, numsOf, srcA, calleeA, refsA, isScalar, scalarD, scalar0, AV.one, putL, unfA, implies_true, IntKind.signed, Nat.reduceAdd, Nat.reduceSub, Nat.reduceMul, Nat.reducePow, Nat.reduceDiv, Nat.reduceMod, Int.reduceAdd, Int.reduceSub, Int.reduceMul, Int.reducePow, Int.reduceNeg, Int.reduceToNat, Int.reduceLT, Int.reduceLE, Nat.reduceEqDiff, sidsB, Nat.reduceBEq, keyKD, isIntK, aggD, aggL, eqKs]
            refine CallC.of rps (by rfl) ?_
            unfold gridE
            rcases hk2 with rfl | rfl
            · rw [if_pos rfl]
              simp (config := { maxSteps := 1000000 }) (disch := ((try simp only [awL]); omega)) only [Option.toList_some, Option.toList_none, nextC_more, nextC_over, bs_size, bs_extract, bs_toList, bs_append, byteAt_bs, bs_cells, nums_length, nums_getD, ↓awU, awV, awF, ofVal, ofVal0, isShift, aggK, forall_const, ↓reduceIte, ↓reduceDIte, ↓purePost, combine, idsA, cellsA, numsOf, srcA, calleeA, refsA, isScalar, scalarD, scalar0, AV.one, putL, unfA, implies_true, IntKind.signed, Nat.reduceAdd, Nat.reduceSub, Nat.reduceMul, Nat.reducePow, Nat.reduceDiv, Nat.reduceMod, Int.reduceAdd, Int.reduceSub, Int.reduceMul, Int.reducePow, Int.reduceNeg, Int.reduceToNat, Int.reduceLT, Int.reduceLE, Nat.reduceEqDiff, sidsB, Nat.reduceBEq, keyKD, isIntK, aggD, aggL, eqKs]
              refine CallC.of (sameG_spec g g false false p2 p2) (by rfl) ?_
              rw [decide_eq_true rfl]
              simp (config := { maxSteps := 1000000 }) (disch := ((try simp only [awL]); omega)) only [Option.toList_some, Option.toList_none, nextC_more, nextC_over, bs_size, bs_extract, bs_toList, bs_append, byteAt_bs, bs_cells, nums_length, nums_getD, ↓awU, awV, awF, ofVal, ofVal0, isShift, aggK, forall_const, ↓reduceIte, ↓reduceDIte, ↓purePost, combine, idsA, cellsA, numsOf, srcA, calleeA, refsA, isScalar, scalarD, scalar0, AV.one, putL, unfA, implies_true, IntKind.signed, Nat.reduceAdd, Nat.reduceSub, Nat.reduceMul, Nat.reducePow, Nat.reduceDiv, Nat.reduceMod, Int.reduceAdd, Int.reduceSub, Int.reduceMul, Int.reducePow, Int.reduceNeg, Int.reduceToNat, Int.reduceLT, Int.reduceLE, Nat.reduceEqDiff, sidsB, Nat.reduceBEq, keyKD, isIntK, aggD, aggL, eqKs]
              exact ⟨i + 1, h3, by simp only; omega, ⟨[some 0, some 1, some 2, some 3, some 4], rfl, by simp, by simp [setsA, keepA, SWeak, AWeak], by simp [HWeak, BWeak, SWeak, AWeak]⟩⟩
            · rw [if_neg (by decide)]
              simp (config := { maxSteps := 1000000 }) (disch := ((try simp only [awL]); omega)) only [Option.toList_some, Option.toList_none, nextC_more, nextC_over, bs_size, bs_extract, bs_toList, bs_append, byteAt_bs, bs_cells, nums_length, nums_getD, ↓awU, awV, awF, ofVal, ofVal0, isShift, aggK, forall_const, ↓reduceIte, ↓reduceDIte, ↓purePost, combine, idsA, cellsA, numsOf, srcA, calleeA, refsA, isScalar, scalarD, scalar0, AV.one, putL, unfA, implies_true, IntKind.signed, Nat.reduceAdd, Nat.reduceSub, Nat.reduceMul, Nat.reducePow, Nat.reduceDiv, Nat.reduceMod, Int.reduceAdd, Int.reduceSub, Int.reduceMul, Int.reducePow, Int.reduceNeg, Int.reduceToNat, Int.reduceLT, Int.reduceLE, Nat.reduceEqDiff, sidsB, Nat.reduceBEq, keyKD, isIntK, aggD, aggL, eqKs]
              refine CallC.of (sameG_spec g g false false p2 p2) (by rfl) ?_
              rw [decide_eq_true rfl]
              simp (config := { maxSteps := 1000000 }) (disch := ((try simp only [awL]); omega)) only [Option.toList_some, Option.toList_none, nextC_more, nextC_over, bs_size, bs_extract, bs_toList, bs_append, byteAt_bs, bs_cells, nums_length, nums_getD, ↓awU, awV, awF, ofVal, ofVal0, isShift, aggK, forall_const, ↓reduceIte, ↓reduceDIte, ↓purePost, combine, idsA, cellsA, numsOf, srcA, calleeA, refsA, isScalar, scalarD, scalar0, AV.one, putL, unfA, implies_true, IntKind.signed, Nat.reduceAdd, Nat.reduceSub, Nat.reduceMul, Nat.reducePow, Nat.reduceDiv, Nat.reduceMod, Int.reduceAdd, Int.reduceSub, Int.reduceMul, Int.reducePow, Int.reduceNeg, Int.reduceToNat, Int.reduceLT, Int.reduceLE, Nat.reduceEqDiff, sidsB, Nat.reduceBEq, keyKD, isIntK, aggD, aggL, eqKs]
              exact ⟨i + 1, h3, by simp only; omega, ⟨[some 0, some 1, some 2, some 3, some 4], rfl, by simp, by simp [setsA, keepA, SWeak, AWeak], by simp [HWeak, BWeak, SWeak, AWeak]⟩⟩
          · obtain rfl : i = 3 := by omega
            simp (config := { maxSteps := 1000000 }) (disch := ((try simp only [awL]); omega)) only [Option.toList_some, Option.toList_none, nextC_more, nextC_over, bs_size, bs_extract, bs_toList, bs_append, byteAt_bs, bs_cells, nums_length, nums_getD, ↓awU, awV, awF, ofVal, ofVal0, isShift, aggK, forall_const, ↓reduceIte, ↓reduceDIte, ↓purePost, combine, idsA, cellsA, numsOf, srcA, calleeA, refsA, isScalar, scalarD, scalar0, AV.one, putL, unfA, implies_true, IntKind.signed, Nat.reduceAdd, Nat.reduceSub, Nat.reduceMul, Nat.reducePow, Nat.reduceDiv, Nat.reduceMod, Int.reduceAdd, Int.reduceSub, Int.reduceMul, Int.reducePow, Int.reduceNeg, Int.reduceToNat, Int.reduceLT, Int.reduceLE, Nat.reduceEqDiff, sidsB, Nat.reduceBEq, keyKD, isIntK, aggD, aggL, eqKs]
            have cu2 : cut (strs (List.replicate (64 + k) [])) 0 (64 + k) = strs (List.replicate (64 + k) []) := cut_all (by rw [strs_length, List.length_replicate])
            obtain ⟨gs, hgs⟩ : ∃ gs, gs = limG k := ⟨_, rfl⟩
            have gsl : gs.length = 3 := by rw [hgs]; rfl
            have gf : ∀ i, i < 3 → ∃ n cs r, (gs.drop i).take 1 = [.sl n false cs] ∧ Ctr Tryd.prog G 11 [.d lD.D, .d (.agg [.sl n false cs])] [] (.d (textE r)) [] ∧ Ctr Tryd.prog G 12 [.d lD.D, .d (.agg [.sl n false cs])] [] (.d (textE r)) [] := by rw [hgs]; exact fun i hi => lim_forms hT hM k hk2 i hi
            have gsq : gs = [.sl 1 false [.sl (64 + k) false (strs (List.replicate (64 + k) []))], .sl 1 false [.sl 1 false [S (longL k)]], .sl 1 false (cut (zerosD [.sl 0 true []] 1) 0 1)] := by rw [hgs]; simp [limG, rowsD, strs]; rfl
            rw [cu2, ← gsq]
            refine LoopC.fr 7788445287802241442795744493830176 (α := Nat) (fun i => 3 - i) (fun i => [(113, .d (.int .i64 i))]) (fun _ => [.box [.d (.int .u8 44), .d (.int .u8 34), .d (.bool false)], .dead, .dead, .dead, .dead, .dead, .dead, .dead, .dead, .row false gs]) (fun i => i ≤ 3) 0 (Nat.zero_le _) ?_ ?_
            · exact ⟨[some 0, some 1, some 2, some 3, some 4, some 5, some 6, some 7, some 8, some 9], rfl, by simp, by simp [setsA, keepA, SWeak, AWeak], by simp [HWeak, BWeak, SWeak, AWeak]⟩
            · intro i hi
              simp only [awK, Nat.reduceMod, Nat.reduceDiv, reduceIte]
              rcases Nat.lt_or_ge i 3 with h3 | h3
              · obtain ⟨nn, cs, r, f0, f1, f2⟩ := gf i h3
                simp (config := { maxSteps := 1000000 }) (disch := ((try simp only [awL]); omega)) only [Option.toList_some, Option.toList_none, nextC_more, nextC_over, bs_size, bs_extract, bs_toList, bs_append, byteAt_bs, bs_cells, nums_length, nums_getD, gsl, f0, ↓awU, awV, awF, ofVal, ofVal0, isShift, aggK, forall_const, ↓reduceIte, ↓reduceDIte, ↓purePost, combine, idsA, cellsA, numsOf, srcA, calleeA, refsA, isScalar, scalarD, scalar0, AV.one, putL, unfA, implies_true, IntKind.signed, Nat.reduceAdd, Nat.reduceSub, Nat.reduceMul, Nat.reducePow, Nat.reduceDiv, Nat.reduceMod, Int.reduceAdd, Int.reduceSub, Int.reduceMul, Int.reducePow, Int.reduceNeg, Int.reduceToNat, Int.reduceLT, Int.reduceLE, Nat.reduceEqDiff, sidsB, Nat.reduceBEq, keyKD, isIntK, aggD, aggL, eqKs]
                refine CallC.of f1 (by rfl) ?_
                unfold textE
                simp (config := { maxSteps := 1000000 }) (disch := ((try simp only [awL]); omega)) only [Option.toList_some, Option.toList_none, nextC_more, nextC_over, bs_size, bs_extract, bs_toList, bs_append, byteAt_bs, bs_cells, nums_length, nums_getD, gsl, ↓awU, awV, awF, ofVal, ofVal0, isShift, aggK, forall_const, ↓reduceIte, ↓reduceDIte, ↓purePost, combine, idsA, cellsA, numsOf, srcA, calleeA, refsA, isScalar, scalarD, scalar0, AV.one, putL, unfA, implies_true, IntKind.signed, Nat.reduceAdd, Nat.reduceSub, Nat.reduceMul, Nat.reducePow, Nat.reduceDiv, Nat.reduceMod, Int.reduceAdd, Int.reduceSub, Int.reduceMul, Int.reducePow, Int.reduceNeg, Int.reduceToNat, Int.reduceLT, Int.reduceLE, Nat.reduceEqDiff, sidsB, Nat.reduceBEq, keyKD, isIntK, aggD, aggL, eqKs]
                refine CallC.of f2 (by rfl) ?_
                unfold textE
                simp (config := { maxSteps := 1000000 }) (disch := ((try simp only [awL]); omega)) only [Option.toList_some, Option.toList_none, nextC_more, nextC_over, bs_size, bs_extract, bs_toList, bs_append, byteAt_bs, bs_cells, nums_length, nums_getD, gsl, ↓awU, awV, awF, ofVal, ofVal0, isShift, aggK, forall_const, ↓reduceIte, ↓reduceDIte, ↓purePost, combine, idsA, cellsA, numsOf, srcA, calleeA, refsA, isScalar, scalarD, scalar0, AV.one, putL, unfA, implies_true, IntKind.signed, Nat.reduceAdd, Nat.reduceSub, Nat.reduceMul, Nat.reducePow, Nat.reduceDiv, Nat.reduceMod, Int.reduceAdd, Int.reduceSub, Int.reduceMul, Int.reducePow, Int.reduceNeg, Int.reduceToNat, Int.reduceLT, Int.reduceLE, Nat.reduceEqDiff, sidsB, Nat.reduceBEq, keyKD, isIntK, aggD, aggL, eqKs]
                exact ⟨i + 1, h3, by simp only; omega, ⟨[some 0, some 1, some 2, some 3, some 4, some 5, some 6, some 7, some 8, some 9], rfl, by simp, by simp [setsA, keepA, SWeak, AWeak], by simp [HWeak, BWeak, SWeak, AWeak]⟩⟩
              · obtain rfl : i = 3 := by omega
                simp (config := { maxSteps := 1000000 }) (disch := ((try simp only [awL]); omega)) only [Option.toList_some, Option.toList_none, nextC_more, nextC_over, bs_size, bs_extract, bs_toList, bs_append, byteAt_bs, bs_cells, nums_length, nums_getD, ↓awU, awV, awF, ofVal, ofVal0, isShift, aggK, forall_const, ↓reduceIte, ↓reduceDIte, ↓purePost, combine, idsA, cellsA, numsOf, srcA, calleeA, refsA, isScalar, scalarD, scalar0, AV.one, putL, unfA, implies_true, IntKind.signed, Nat.reduceAdd, Nat.reduceSub, Nat.reduceMul, Nat.reducePow, Nat.reduceDiv, Nat.reduceMod, Int.reduceAdd, Int.reduceSub, Int.reduceMul, Int.reducePow, Int.reduceNeg, Int.reduceToNat, Int.reduceLT, Int.reduceLE, Nat.reduceEqDiff, sidsB, Nat.reduceBEq, keyKD, isIntK, aggD, aggL, eqKs]
end Go.Proofs.YtjjanbljkoaojaaDoor
