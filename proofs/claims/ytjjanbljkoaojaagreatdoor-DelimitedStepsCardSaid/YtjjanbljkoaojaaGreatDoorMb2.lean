/-
  Contracts of the functions, one after another.
-/
import Derived.Test.YtjjanbljkoaojaaGreatDoorMb1
import Derived.Lib.IndexBytes
set_option linter.all false
namespace Go.Proofs.YtjjanbljkoaojaaGreatDoor
open Go Go.Proofs Go.Abs
variable {G : Globals}
/-! The scanner: where lines and fields end. -/
abbrev ScanM (d : Dia) (l : List UInt8) : ABlk := .box [.d (.int .u8 d.del.toNat), .d (.int .u8 d.quo.toNat), .d (.bool d.trim), .d (S l)]
theorem hasP_nl (l : List UInt8) : hasP l [10] = decide (l.head? = some 10) := by
  unfold hasP
  congr 1
  cases l with
  | nil => simp
  | cons c r => simp
theorem hasP_crnl (l : List UInt8) : hasP l [13, 10] = decide (l.head? = some 13 ∧ (l.drop 1).head? = some 10) := by
  unfold hasP
  congr 1
  match l with
  | [] => simp
  | [c] => simp
  | c :: e :: r => simp
theorem end_spec (d : Dia) (l : List UInt8) : Ctr Tryz.prog G 52 [.ptr 0 0] [ScanM d l] (.d (.int .i64 (endL l : Nat))) [ScanM d l] := by
  have p1 := sHasPrefix_spec (G := G) l [10]
  have p2 := sHasPrefix_spec (G := G) l [13, 10]
  rw [hasP_nl] at p1
  rw [hasP_crnl] at p2
  refine Ctr.body (M := M0) hmix Tryz.func52 rfl go52 ?_
  simp (config := { maxSteps := 1000000 }) (disch := ((try simp only [awL]); omega)) only [Option.toList_some, Option.toList_none, nextC_more, nextC_over, bs_size, bs_extract, bs_toList, bs_append, byteAt_bs, bs_cells, nums_length, nums_getD, Tryz.f52, ↓awU, awV, awF, ofVal, ofVal0, isShift, aggK, forall_const, ↓reduceIte, ↓reduceDIte, ↓purePost, combine, idsA, cellsA, numsOf, srcA, calleeA, refsA, isScalar, scalarD, scalar0, AV.one, putL, unfA, implies_true, IntKind.signed, Nat.reduceAdd, Nat.reduceSub, Nat.reduceMul, Nat.reducePow, Nat.reduceDiv, Nat.reduceMod, Int.reduceAdd, Int.reduceSub, Int.reduceMul, Int.reducePow, Int.reduceNeg, Int.reduceToNat, Int.reduceLT, Int.reduceLE, Nat.reduceEqDiff, sidsB, Nat.reduceBEq, keyKD, isIntK, aggD, aggL, eqKs]
  refine CallC.of p1 (by rfl) ?_
  unfold endL
  by_cases h : l.head? = some 10
  · rw [decide_eq_true h, if_pos h]
    simp (config := { maxSteps := 1000000 }) (disch := ((try simp only [awL]); omega)) only [Option.toList_some, Option.toList_none, nextC_more, nextC_over, bs_size, bs_extract, bs_toList, bs_append, byteAt_bs, bs_cells, nums_length, nums_getD, ↓awU, awV, awF, ofVal, ofVal0, isShift, aggK, forall_const, ↓reduceIte, ↓reduceDIte, ↓purePost, combine, idsA, cellsA, numsOf, srcA, calleeA, refsA, isScalar, scalarD, scalar0, AV.one, putL, unfA, implies_true, IntKind.signed, Nat.reduceAdd, Nat.reduceSub, Nat.reduceMul, Nat.reducePow, Nat.reduceDiv, Nat.reduceMod, Int.reduceAdd, Int.reduceSub, Int.reduceMul, Int.reducePow, Int.reduceNeg, Int.reduceToNat, Int.reduceLT, Int.reduceLE, Nat.reduceEqDiff, sidsB, Nat.reduceBEq, keyKD, isIntK, aggD, aggL, eqKs]
    exact ⟨[some 0], rfl, by simp, by simp [HWeak, BWeak, SWeak, AWeak], .inl (by simp [AWeak, SWeak])⟩
  · rw [decide_eq_false h, if_neg h]
    simp (config := { maxSteps := 1000000 }) (disch := ((try simp only [awL]); omega)) only [Option.toList_some, Option.toList_none, nextC_more, nextC_over, bs_size, bs_extract, bs_toList, bs_append, byteAt_bs, bs_cells, nums_length, nums_getD, ↓awU, awV, awF, ofVal, ofVal0, isShift, aggK, forall_const, ↓reduceIte, ↓reduceDIte, ↓purePost, combine, idsA, cellsA, numsOf, srcA, calleeA, refsA, isScalar, scalarD, scalar0, AV.one, putL, unfA, implies_true, IntKind.signed, Nat.reduceAdd, Nat.reduceSub, Nat.reduceMul, Nat.reducePow, Nat.reduceDiv, Nat.reduceMod, Int.reduceAdd, Int.reduceSub, Int.reduceMul, Int.reducePow, Int.reduceNeg, Int.reduceToNat, Int.reduceLT, Int.reduceLE, Nat.reduceEqDiff, sidsB, Nat.reduceBEq, keyKD, isIntK, aggD, aggL, eqKs]
    refine CallC.of p2 (by rfl) ?_
    by_cases h2 : l.head? = some 13 ∧ (l.drop 1).head? = some 10
    · rw [decide_eq_true h2, if_pos h2]
      simp (config := { maxSteps := 1000000 }) (disch := ((try simp only [awL]); omega)) only [Option.toList_some, Option.toList_none, nextC_more, nextC_over, bs_size, bs_extract, bs_toList, bs_append, byteAt_bs, bs_cells, nums_length, nums_getD, ↓awU, awV, awF, ofVal, ofVal0, isShift, aggK, forall_const, ↓reduceIte, ↓reduceDIte, ↓purePost, combine, idsA, cellsA, numsOf, srcA, calleeA, refsA, isScalar, scalarD, scalar0, AV.one, putL, unfA, implies_true, IntKind.signed, Nat.reduceAdd, Nat.reduceSub, Nat.reduceMul, Nat.reducePow, Nat.reduceDiv, Nat.reduceMod, Int.reduceAdd, Int.reduceSub, Int.reduceMul, Int.reducePow, Int.reduceNeg, Int.reduceToNat, Int.reduceLT, Int.reduceLE, Nat.reduceEqDiff, sidsB, Nat.reduceBEq, keyKD, isIntK, aggD, aggL, eqKs]
      exact ⟨[some 0], rfl, by simp, by simp [HWeak, BWeak, SWeak, AWeak], .inl (by simp [AWeak, SWeak])⟩
    · rw [decide_eq_false h2, if_neg h2]
      simp (config := { maxSteps := 1000000 }) (disch := ((try simp only [awL]); omega)) only [Option.toList_some, Option.toList_none, nextC_more, nextC_over, bs_size, bs_extract, bs_toList, bs_append, byteAt_bs, bs_cells, nums_length, nums_getD, ↓awU, awV, awF, ofVal, ofVal0, isShift, aggK, forall_const, ↓reduceIte, ↓reduceDIte, ↓purePost, combine, idsA, cellsA, numsOf, srcA, calleeA, refsA, isScalar, scalarD, scalar0, AV.one, putL, unfA, implies_true, IntKind.signed, Nat.reduceAdd, Nat.reduceSub, Nat.reduceMul, Nat.reducePow, Nat.reduceDiv, Nat.reduceMod, Int.reduceAdd, Int.reduceSub, Int.reduceMul, Int.reducePow, Int.reduceNeg, Int.reduceToNat, Int.reduceLT, Int.reduceLE, Nat.reduceEqDiff, sidsB, Nat.reduceBEq, keyKD, isIntK, aggD, aggL, eqKs]
      exact ⟨[some 0], rfl, by simp, by simp [HWeak, BWeak, SWeak, AWeak], .inl (by simp [AWeak, SWeak])⟩
theorem trimLeft_skip {d : Dia} (h : d.trim = true) (l : List UInt8) : Lib.trimLeftB l 32 = skipL d l := by
  rw [skipL, if_pos h]
  rfl
theorem spaces_spec (d : Dia) (l : List UInt8) : Ctr Tryz.prog G 61 [.ptr 0 0] [ScanM d l] (.d (.tup [])) [ScanM d (skipL d l)] := by
  refine Ctr.body (M := M0) hmix Tryz.func61 rfl go61 ?_
  obtain ⟨del, quo, trim⟩ := d
  cases trim
  · rw [show skipL ⟨del, quo, false⟩ l = l from rfl]
    simp (config := { maxSteps := 1000000 }) (disch := ((try simp only [awL]); omega)) only [Option.toList_some, Option.toList_none, nextC_more, nextC_over, bs_size, bs_extract, bs_toList, bs_append, byteAt_bs, bs_cells, nums_length, nums_getD, Tryz.f61, ↓awU, awV, awF, ofVal, ofVal0, isShift, aggK, forall_const, ↓reduceIte, ↓reduceDIte, ↓purePost, combine, idsA, cellsA, numsOf, srcA, calleeA, refsA, isScalar, scalarD, scalar0, AV.one, putL, unfA, implies_true, IntKind.signed, Nat.reduceAdd, Nat.reduceSub, Nat.reduceMul, Nat.reducePow, Nat.reduceDiv, Nat.reduceMod, Int.reduceAdd, Int.reduceSub, Int.reduceMul, Int.reducePow, Int.reduceNeg, Int.reduceToNat, Int.reduceLT, Int.reduceLE, Nat.reduceEqDiff, sidsB, Nat.reduceBEq, keyKD, isIntK, aggD, aggL, eqKs]
    refine ⟨[some 0], rfl, by simp, by simp [HWeak, BWeak, SWeak, AWeak], .inr ⟨_, rfl, ?_, rfl⟩⟩
    try rfl
  · rw [← trimLeft_skip rfl]
    simp (config := { maxSteps := 1000000 }) (disch := ((try simp only [awL]); omega)) only [Option.toList_some, Option.toList_none, nextC_more, nextC_over, bs_size, bs_extract, bs_toList, bs_append, byteAt_bs, bs_cells, nums_length, nums_getD, Tryz.f61, ↓awU, awV, awF, ofVal, ofVal0, isShift, aggK, forall_const, ↓reduceIte, ↓reduceDIte, ↓purePost, combine, idsA, cellsA, numsOf, srcA, calleeA, refsA, isScalar, scalarD, scalar0, AV.one, putL, unfA, implies_true, IntKind.signed, Nat.reduceAdd, Nat.reduceSub, Nat.reduceMul, Nat.reducePow, Nat.reduceDiv, Nat.reduceMod, Int.reduceAdd, Int.reduceSub, Int.reduceMul, Int.reducePow, Int.reduceNeg, Int.reduceToNat, Int.reduceLT, Int.reduceLE, Nat.reduceEqDiff, sidsB, Nat.reduceBEq, keyKD, isIntK, aggD, aggL, eqKs]
    refine CallC.of (trimLeft_spec l) (by rfl) ?_
    simp (config := { maxSteps := 1000000 }) (disch := ((try simp only [awL]); omega)) only [Option.toList_some, Option.toList_none, nextC_more, nextC_over, bs_size, bs_extract, bs_toList, bs_append, byteAt_bs, bs_cells, nums_length, nums_getD, ↓awU, awV, awF, ofVal, ofVal0, isShift, aggK, forall_const, ↓reduceIte, ↓reduceDIte, ↓purePost, combine, idsA, cellsA, numsOf, srcA, calleeA, refsA, isScalar, scalarD, scalar0, AV.one, putL, unfA, implies_true, IntKind.signed, Nat.reduceAdd, Nat.reduceSub, Nat.reduceMul, Nat.reducePow, Nat.reduceDiv, Nat.reduceMod, Int.reduceAdd, Int.reduceSub, Int.reduceMul, Int.reducePow, Int.reduceNeg, Int.reduceToNat, Int.reduceLT, Int.reduceLE, Nat.reduceEqDiff, sidsB, Nat.reduceBEq, keyKD, isIntK, aggD, aggL, eqKs]
    refine ⟨[some 0], rfl, by simp, by simp [HWeak, BWeak, SWeak, AWeak], .inr ⟨_, rfl, ?_, rfl⟩⟩
    try rfl
theorem stopL_at {d : Dia} {l : List UInt8} (h : l ≠ []) : stopL d l = (decide ((l.getD 0 0).toNat = d.del.toNat) || decide (0 < endL l)) := by
  match l, h with
  | c :: r, _ =>
    unfold stopL
    simp [UInt8.toNat_inj]
set_option maxHeartbeats 1000000 in
theorem closed_spec (d : Dia) (l : List UInt8) : Ctr Tryz.prog G 63 [.ptr 0 0] [ScanM d l] (.d (.bool (stopL d l))) [ScanM d l] := by
  refine Ctr.body (M := M0) hmix Tryz.func63 rfl go63 ?_
  by_cases h : l = []
  · subst h
    rw [show stopL d [] = true by simp [stopL]]
    simp (config := { maxSteps := 1000000 }) (disch := ((try simp only [awL]); omega)) only [Option.toList_some, Option.toList_none, nextC_more, nextC_over, bs_size, bs_extract, bs_toList, bs_append, byteAt_bs, bs_cells, nums_length, nums_getD, Tryz.f63, ↓awU, awV, awF, ofVal, ofVal0, isShift, aggK, forall_const, ↓reduceIte, ↓reduceDIte, ↓purePost, combine, idsA, cellsA, numsOf, srcA, calleeA, refsA, isScalar, scalarD, scalar0, AV.one, putL, unfA, implies_true, IntKind.signed, Nat.reduceAdd, Nat.reduceSub, Nat.reduceMul, Nat.reducePow, Nat.reduceDiv, Nat.reduceMod, Int.reduceAdd, Int.reduceSub, Int.reduceMul, Int.reducePow, Int.reduceNeg, Int.reduceToNat, Int.reduceLT, Int.reduceLE, Nat.reduceEqDiff, sidsB, Nat.reduceBEq, keyKD, isIntK, aggD, aggL, eqKs]
    refine ⟨by rfl, ?_⟩
    exact ⟨[some 0], rfl, by simp, by simp [HWeak, BWeak, SWeak, AWeak], .inl (by simp [AWeak, SWeak])⟩
  · have hl := List.length_pos_iff.2 h
    rw [stopL_at h]
    by_cases h2 : (l.getD 0 0).toNat = d.del.toNat
    · rw [decide_eq_true h2, Bool.true_or]
      simp (config := { maxSteps := 1000000 }) (disch := ((try simp only [awL]); omega)) only [Option.toList_some, Option.toList_none, nextC_more, nextC_over, bs_size, bs_extract, bs_toList, bs_append, byteAt_bs, bs_cells, nums_length, nums_getD, h, Tryz.f63, ↓awU, awV, awF, ofVal, ofVal0, isShift, aggK, forall_const, ↓reduceIte, ↓reduceDIte, ↓purePost, combine, idsA, cellsA, numsOf, srcA, calleeA, refsA, isScalar, scalarD, scalar0, AV.one, putL, unfA, implies_true, IntKind.signed, Nat.reduceAdd, Nat.reduceSub, Nat.reduceMul, Nat.reducePow, Nat.reduceDiv, Nat.reduceMod, Int.reduceAdd, Int.reduceSub, Int.reduceMul, Int.reducePow, Int.reduceNeg, Int.reduceToNat, Int.reduceLT, Int.reduceLE, Nat.reduceEqDiff, sidsB, Nat.reduceBEq, keyKD, isIntK, aggD, aggL, eqKs]
      refine ⟨by rfl, ?_⟩
      exact ⟨[some 0], rfl, by simp, by simp [HWeak, BWeak, SWeak, AWeak], .inl (by simp [AWeak, SWeak])⟩
    · rw [decide_eq_false h2, Bool.false_or]
      simp (config := { maxSteps := 1000000 }) (disch := ((try simp only [awL]); omega)) only [Option.toList_some, Option.toList_none, nextC_more, nextC_over, bs_size, bs_extract, bs_toList, bs_append, byteAt_bs, bs_cells, nums_length, nums_getD, h, Tryz.f63, ↓awU, awV, awF, ofVal, ofVal0, isShift, aggK, forall_const, ↓reduceIte, ↓reduceDIte, ↓purePost, combine, idsA, cellsA, numsOf, srcA, calleeA, refsA, isScalar, scalarD, scalar0, AV.one, putL, unfA, implies_true, IntKind.signed, Nat.reduceAdd, Nat.reduceSub, Nat.reduceMul, Nat.reducePow, Nat.reduceDiv, Nat.reduceMod, Int.reduceAdd, Int.reduceSub, Int.reduceMul, Int.reducePow, Int.reduceNeg, Int.reduceToNat, Int.reduceLT, Int.reduceLE, Nat.reduceEqDiff, sidsB, Nat.reduceBEq, keyKD, isIntK, aggD, aggL, eqKs]
      refine CallC.by (end_spec d l) (by rfl) (by rfl) (Nat.le_refl _) ?_
      have he : endL l ≤ 2 := by unfold endL; split <;> (try split) <;> omega
      generalize endL l = n at *
      rcases (by omega : 0 < n ∨ n = 0) with h3 | rfl
      · rw [decide_eq_true h3]
        simp (config := { maxSteps := 1000000 }) (disch := ((try simp only [awL]); omega)) only [Option.toList_some, Option.toList_none, nextC_more, nextC_over, bs_size, bs_extract, bs_toList, bs_append, byteAt_bs, bs_cells, nums_length, nums_getD, ↓awU, awV, awF, ofVal, ofVal0, isShift, aggK, forall_const, ↓reduceIte, ↓reduceDIte, ↓purePost, combine, idsA, cellsA, numsOf, srcA, calleeA, refsA, isScalar, scalarD, scalar0, AV.one, putL, unfA, implies_true, IntKind.signed, Nat.reduceAdd, Nat.reduceSub, Nat.reduceMul, Nat.reducePow, Nat.reduceDiv, Nat.reduceMod, Int.reduceAdd, Int.reduceSub, Int.reduceMul, Int.reducePow, Int.reduceNeg, Int.reduceToNat, Int.reduceLT, Int.reduceLE, Nat.reduceEqDiff, sidsB, Nat.reduceBEq, keyKD, isIntK, aggD, aggL, eqKs]
        refine ⟨by rfl, ?_⟩
        exact ⟨[some 0], rfl, by simp, by simp [HWeak, BWeak, SWeak, AWeak], .inl (by simp [AWeak, SWeak])⟩
      · simp (config := { maxSteps := 1000000 }) (disch := ((try simp only [awL]); omega)) only [Option.toList_some, Option.toList_none, nextC_more, nextC_over, bs_size, bs_extract, bs_toList, bs_append, byteAt_bs, bs_cells, nums_length, nums_getD, ↓awU, awV, awF, ofVal, ofVal0, isShift, aggK, forall_const, ↓reduceIte, ↓reduceDIte, ↓purePost, combine, idsA, cellsA, numsOf, srcA, calleeA, refsA, isScalar, scalarD, scalar0, AV.one, putL, unfA, implies_true, IntKind.signed, Nat.reduceAdd, Nat.reduceSub, Nat.reduceMul, Nat.reducePow, Nat.reduceDiv, Nat.reduceMod, Int.reduceAdd, Int.reduceSub, Int.reduceMul, Int.reducePow, Int.reduceNeg, Int.reduceToNat, Int.reduceLT, Int.reduceLE, Nat.reduceEqDiff, sidsB, Nat.reduceBEq, keyKD, isIntK, aggD, aggL, eqKs]
        refine ⟨by rfl, ?_⟩
        exact ⟨[some 0], rfl, by simp, by simp [HWeak, BWeak, SWeak, AWeak], .inl (by simp [AWeak, SWeak])⟩
end Go.Proofs.YtjjanbljkoaojaaGreatDoor

namespace Go.Proofs.YtjjanbljkoaojaaGreatDoor
open Go Go.Proofs Go.Abs
variable {G : Globals}
/-! The scanner: a quoted field. -/
theorem enc_ascii (r : Nat) (h : r < 128) : Utf8.encode (r : Int) = bs [UInt8.ofNat r] := by
  apply bs_ext
  have v : Utf8.valid (r : Int) = true := by simp [Utf8.valid]; omega
  simp [Utf8.encode, v, h]
theorem enc_u8 (c : UInt8) (h : c.toNat < 128) : Utf8.encode (c.toNat : Int) = bs [c] := by
  rw [enc_ascii _ h]; simp
theorem hasP_one (l : List UInt8) (c : UInt8) : hasP l [c] = decide (l.head? = some c) := by
  unfold hasP
  congr 1
  cases l with
  | nil => simp
  | cons x r => simp
theorem quotL_cut (q : UInt8) : ∀ (n : Nat) (l : List UInt8), l.length = n → (q ∉ l → quotL q l = none) ∧
    (q ∈ l → quotL q l = if (cutR q l).head? = some q then (quotL q ((cutR q l).drop 1)).map (fun p => (cutL q l ++ q :: p.1, p.2)) else some (cutL q l, cutR q l)) := by
  intro n
  induction n using Nat.strongRecOn with
  | _ n ih =>
    intro l hn
    match l, hn with
    | [], _ => exact ⟨fun _ => rfl, fun h => by cases h⟩
    | [c], _ =>
      by_cases e : c = q
      · subst e
        exact ⟨fun h => absurd (List.mem_singleton.2 rfl) h, fun _ => by simp [quotL, cutL, cutR]⟩
      · exact ⟨fun _ => by simp [quotL, e], fun h => absurd (List.mem_singleton.1 h).symm e⟩
    | c :: x :: r, hn =>
      obtain ⟨i1, i2⟩ := ih (x :: r).length (by rw [← hn]; simp) (x :: r) rfl
      by_cases e : c = q
      · subst e
        refine ⟨fun h => absurd (List.mem_cons_self ..) h, fun _ => ?_⟩
        rw [quotL, if_pos rfl]
        simp only [cutL, cutR, if_true, List.head?_cons, Option.some.injEq, List.drop_succ_cons, List.drop_zero, List.nil_append]
      · have e2 : ¬ q = c := fun h => e h.symm
        have mem : q ∈ c :: x :: r ↔ q ∈ x :: r := by rw [List.mem_cons]; simp [e2]
        rw [mem]
        refine ⟨fun h => ?_, fun h => ?_⟩
        · rw [quotL, if_neg e, i1 h]; rfl
        · rw [quotL, if_neg e, i2 h]
          have c1 : cutL q (c :: x :: r) = c :: cutL q (x :: r) := by rw [cutL, if_neg e]
          have c2 : cutR q (c :: x :: r) = cutR q (x :: r) := by rw [cutR, if_neg e]
          rw [c1, c2]
          split
          · rw [Option.map_map]; rfl
          · rfl
theorem cut_len (q : UInt8) : ∀ (l : List UInt8), q ∈ l → (cutL q l).length + 1 + (cutR q l).length = l.length
  | [], h => by cases h
  | c :: r, h => by
    by_cases e : c = q
    · simp [cutL, cutR, e]; omega
    · have := cut_len q r ((List.mem_cons.1 h).resolve_left fun h => e h.symm)
      simp [cutL, cutR, e]; omega
abbrev badA : AV := .tup [.undef, .d (.bool false)]
def quotR (d : Dia) (l : List UInt8) : AV := match quotL d.quo l with | none => badA | some p => if stopL d (skipL d p.2) then .d (.tup [S p.1, .bool true]) else badA
def quotH (d : Dia) (l : List UInt8) : ABlk := match quotL d.quo l with | none => .dead | some p => if stopL d (skipL d p.2) then ScanM d (skipL d p.2) else .dead
def MQ : Muts := fun k => k == 2000004
theorem MQ_t {k : Nat} (h : k = 2000004) : MQ k = true := by subst h; rfl
theorem MQ_n {k : Nat} (h : k ≠ 2000004) : MQ k = false := by simpa only [MQ, beq_eq_false_iff_ne] using h
theorem quotH_ext (d : Dia) (l : List UInt8) : noExt [quotH d l] = true := by
  unfold quotH
  split
  · rfl
  · split <;> rfl
abbrev BldS : Go.TypeId := 57
abbrev U8T : Go.TypeId := 5
set_option maxHeartbeats 4000000 in
set_option maxRecDepth 100000 in
theorem quoted_spec (d : Dia) (l : List UInt8) (hq : d.quo.toNat < 128) (hl : l.length ≤ 100000000) :
    Ctr Tryz.prog G 62 [.ptr 0 0] [ScanM d l] (quotR d l) [quotH d l] := by
  refine Ctr.body (M := MQ) hmix Tryz.func62 rfl go62 (hx := quotH_ext d l) ?_
  have en := enc_u8 d.quo hq
  simp (config := { maxSteps := 1000000 }) (disch := ((try simp only [awL]); omega)) only [Option.toList_some, Option.toList_none, nextC_more, nextC_over, bs_size, bs_extract, bs_toList, bs_append, byteAt_bs, bs_cells, nums_length, nums_getD, MQ_t, MQ_n, en, Tryz.f62, ↓awU, awV, awF, ofVal, ofVal0, isShift, aggK, forall_const, ↓reduceIte, ↓reduceDIte, ↓purePost, combine, idsA, cellsA, numsOf, srcA, calleeA, refsA, isScalar, scalarD, scalar0, AV.one, putL, unfA, implies_true, IntKind.signed, Nat.reduceAdd, Nat.reduceSub, Nat.reduceMul, Nat.reducePow, Nat.reduceDiv, Nat.reduceMod, Int.reduceAdd, Int.reduceSub, Int.reduceMul, Int.reducePow, Int.reduceNeg, Int.reduceToNat, Int.reduceLT, Int.reduceLE, Nat.reduceEqDiff, sidsB, Nat.reduceBEq, keyKD, isIntK, aggD, aggL, eqKs]
  refine LoopC.fr 49 (α := List UInt8 × List UInt8 × Bool) (fun x => x.2.1.length) (fun _ => []) (fun x => [ScanM d x.2.1, .bld BldS x.2.2 x.1.length (some 2), .buf U8T x.1])
    (fun x => x.1.length + x.2.1.length ≤ l.length ∧ quotL d.quo l = (quotL d.quo x.2.1).map fun p => (x.1 ++ p.1, p.2)) ([], l, false) ⟨by simp, by simp⟩ ?_ ?_
  · exact ⟨[some 0, some 1, none], rfl, by simp, by simp [setsA, keepA, SWeak, AWeak], by simp [HWeak, BWeak, SWeak, AWeak]⟩
  · rintro ⟨acc, cur, used⟩ ⟨h1, h2⟩
    simp only at h1 h2
    simp only [awK, Nat.reduceMod, Nat.reduceDiv, reduceIte]
    simp (config := { maxSteps := 1000000 }) (disch := ((try simp only [awL]); omega)) only [Option.toList_some, Option.toList_none, nextC_more, nextC_over, bs_size, bs_extract, bs_toList, bs_append, byteAt_bs, bs_cells, nums_length, nums_getD, MQ_t, MQ_n, ↓awU, awV, awF, ofVal, ofVal0, isShift, aggK, forall_const, ↓reduceIte, ↓reduceDIte, ↓purePost, combine, idsA, cellsA, numsOf, srcA, calleeA, refsA, isScalar, scalarD, scalar0, AV.one, putL, unfA, implies_true, IntKind.signed, Nat.reduceAdd, Nat.reduceSub, Nat.reduceMul, Nat.reducePow, Nat.reduceDiv, Nat.reduceMod, Int.reduceAdd, Int.reduceSub, Int.reduceMul, Int.reducePow, Int.reduceNeg, Int.reduceToNat, Int.reduceLT, Int.reduceLE, Nat.reduceEqDiff, sidsB, Nat.reduceBEq, keyKD, isIntK, aggD, aggL, eqKs]
    refine CallC.of (cut_spec cur d.quo (by omega)) (by rfl) ?_
    obtain ⟨q1, q2⟩ := quotL_cut d.quo _ cur rfl
    by_cases hm : d.quo ∈ cur
    · rw [decide_eq_true hm]
      have cl := cut_len d.quo cur hm
      rw [q2 hm] at h2
      generalize cutL d.quo cur = part at *
      generalize cutR d.quo cur = rest at *
      simp (config := { maxSteps := 1000000 }) (disch := ((try simp only [awL]); omega)) only [Option.toList_some, Option.toList_none, nextC_more, nextC_over, bs_size, bs_extract, bs_toList, bs_append, byteAt_bs, bs_cells, nums_length, nums_getD, MQ_t, MQ_n, ↓awU, awV, awF, ofVal, ofVal0, isShift, aggK, forall_const, ↓reduceIte, ↓reduceDIte, ↓purePost, combine, idsA, cellsA, numsOf, srcA, calleeA, refsA, isScalar, scalarD, scalar0, AV.one, putL, unfA, implies_true, IntKind.signed, Nat.reduceAdd, Nat.reduceSub, Nat.reduceMul, Nat.reducePow, Nat.reduceDiv, Nat.reduceMod, Int.reduceAdd, Int.reduceSub, Int.reduceMul, Int.reducePow, Int.reduceNeg, Int.reduceToNat, Int.reduceLT, Int.reduceLE, Nat.reduceEqDiff, sidsB, Nat.reduceBEq, keyKD, isIntK, aggD, aggL, eqKs]
      have w1 := writeString_next (G := G) used acc part (by omega) (by omega)
      generalize ha : acc ++ part = acc2 at w1
      have la : acc2.length = acc.length + part.length := by rw [← ha, List.length_append]
      refine CallC.by w1 (by rfl) (by rfl) (by simp) ?_
      simp (config := { maxSteps := 1000000 }) (disch := ((try simp only [awL]); omega)) only [Option.toList_some, Option.toList_none, nextC_more, nextC_over, bs_size, bs_extract, bs_toList, bs_append, byteAt_bs, bs_cells, nums_length, nums_getD, MQ_t, MQ_n, ↓awU, awV, awF, ofVal, ofVal0, isShift, aggK, forall_const, ↓reduceIte, ↓reduceDIte, ↓purePost, combine, idsA, cellsA, numsOf, srcA, calleeA, refsA, isScalar, scalarD, scalar0, AV.one, putL, unfA, implies_true, IntKind.signed, Nat.reduceAdd, Nat.reduceSub, Nat.reduceMul, Nat.reducePow, Nat.reduceDiv, Nat.reduceMod, Int.reduceAdd, Int.reduceSub, Int.reduceMul, Int.reducePow, Int.reduceNeg, Int.reduceToNat, Int.reduceLT, Int.reduceLE, Nat.reduceEqDiff, sidsB, Nat.reduceBEq, keyKD, isIntK, aggD, aggL, eqKs]
      have hp := sHasPrefix_spec (G := G) rest [d.quo]
      rw [hasP_one] at hp
      refine CallC.of hp (by rfl) ?_
      by_cases hr : rest.head? = some d.quo
      · rw [decide_eq_true hr]
        rw [if_pos hr] at h2
        have rl : 0 < rest.length := by cases rest with | nil => cases hr | cons _ _ => simp
        simp (config := { maxSteps := 1000000 }) (disch := ((try simp only [awL]); omega)) only [Option.toList_some, Option.toList_none, nextC_more, nextC_over, bs_size, bs_extract, bs_toList, bs_append, byteAt_bs, bs_cells, nums_length, nums_getD, MQ_t, MQ_n, ↓awU, awV, awF, ofVal, ofVal0, isShift, aggK, forall_const, ↓reduceIte, ↓reduceDIte, ↓purePost, combine, idsA, cellsA, numsOf, srcA, calleeA, refsA, isScalar, scalarD, scalar0, AV.one, putL, unfA, implies_true, IntKind.signed, Nat.reduceAdd, Nat.reduceSub, Nat.reduceMul, Nat.reducePow, Nat.reduceDiv, Nat.reduceMod, Int.reduceAdd, Int.reduceSub, Int.reduceMul, Int.reducePow, Int.reduceNeg, Int.reduceToNat, Int.reduceLT, Int.reduceLE, Nat.reduceEqDiff, sidsB, Nat.reduceBEq, keyKD, isIntK, aggD, aggL, eqKs]
        have w2 := writeString_next (G := G) true acc2 [d.quo] (by omega) (by simp)
        generalize ha3 : acc2 ++ [d.quo] = acc3 at w2
        have la3 : acc3.length = acc2.length + 1 := by rw [← ha3, List.length_append]; rfl
        refine CallC.by w2 (by rfl) (by rfl) (by simp) ?_
        simp (config := { maxSteps := 1000000 }) (disch := ((try simp only [awL]); omega)) only [Option.toList_some, Option.toList_none, nextC_more, nextC_over, bs_size, bs_extract, bs_toList, bs_append, byteAt_bs, bs_cells, nums_length, nums_getD, MQ_t, MQ_n, ↓awU, awV, awF, ofVal, ofVal0, isShift, aggK, forall_const, ↓reduceIte, ↓reduceDIte, ↓purePost, combine, idsA, cellsA, numsOf, srcA, calleeA, refsA, isScalar, scalarD, scalar0, AV.one, putL, unfA, implies_true, IntKind.signed, Nat.reduceAdd, Nat.reduceSub, Nat.reduceMul, Nat.reducePow, Nat.reduceDiv, Nat.reduceMod, Int.reduceAdd, Int.reduceSub, Int.reduceMul, Int.reducePow, Int.reduceNeg, Int.reduceToNat, Int.reduceLT, Int.reduceLE, Nat.reduceEqDiff, sidsB, Nat.reduceBEq, keyKD, isIntK, aggD, aggL, eqKs]
        exact ⟨(acc3, rest.drop 1, true), ⟨by simp only [List.length_drop]; omega, by
          rw [h2, Option.map_map, ← ha3, ← ha]
          simp only [Function.comp_def, List.append_assoc, List.cons_append, List.nil_append]⟩, by simp only [List.length_drop]; omega, ⟨[some 0, some 1, some 4], rfl, by simp, by simp [setsA, keepA, SWeak, AWeak], by simp [HWeak, BWeak, SWeak, AWeak]⟩⟩
      · rw [decide_eq_false hr]
        rw [if_neg hr] at h2
        simp (config := { maxSteps := 1000000 }) (disch := ((try simp only [awL]); omega)) only [Option.toList_some, Option.toList_none, nextC_more, nextC_over, bs_size, bs_extract, bs_toList, bs_append, byteAt_bs, bs_cells, nums_length, nums_getD, MQ_t, MQ_n, ↓awU, awV, awF, ofVal, ofVal0, isShift, aggK, forall_const, ↓reduceIte, ↓reduceDIte, ↓purePost, combine, idsA, cellsA, numsOf, srcA, calleeA, refsA, isScalar, scalarD, scalar0, AV.one, putL, unfA, implies_true, IntKind.signed, Nat.reduceAdd, Nat.reduceSub, Nat.reduceMul, Nat.reducePow, Nat.reduceDiv, Nat.reduceMod, Int.reduceAdd, Int.reduceSub, Int.reduceMul, Int.reducePow, Int.reduceNeg, Int.reduceToNat, Int.reduceLT, Int.reduceLE, Nat.reduceEqDiff, sidsB, Nat.reduceBEq, keyKD, isIntK, aggD, aggL, eqKs]
        refine CallC.by (spaces_spec d rest) (by rfl) (by rfl) (by simp) ?_
        simp (config := { maxSteps := 1000000 }) (disch := ((try simp only [awL]); omega)) only [Option.toList_some, Option.toList_none, nextC_more, nextC_over, bs_size, bs_extract, bs_toList, bs_append, byteAt_bs, bs_cells, nums_length, nums_getD, MQ_t, MQ_n, ↓awU, awV, awF, ofVal, ofVal0, isShift, aggK, forall_const, ↓reduceIte, ↓reduceDIte, ↓purePost, combine, idsA, cellsA, numsOf, srcA, calleeA, refsA, isScalar, scalarD, scalar0, AV.one, putL, unfA, implies_true, IntKind.signed, Nat.reduceAdd, Nat.reduceSub, Nat.reduceMul, Nat.reducePow, Nat.reduceDiv, Nat.reduceMod, Int.reduceAdd, Int.reduceSub, Int.reduceMul, Int.reducePow, Int.reduceNeg, Int.reduceToNat, Int.reduceLT, Int.reduceLE, Nat.reduceEqDiff, sidsB, Nat.reduceBEq, keyKD, isIntK, aggD, aggL, eqKs]
        refine CallC.by (string_spec true acc2) (by rfl) (by rfl) (by simp) ?_
        simp (config := { maxSteps := 1000000 }) (disch := ((try simp only [awL]); omega)) only [Option.toList_some, Option.toList_none, nextC_more, nextC_over, bs_size, bs_extract, bs_toList, bs_append, byteAt_bs, bs_cells, nums_length, nums_getD, MQ_t, MQ_n, ↓awU, awV, awF, ofVal, ofVal0, isShift, aggK, forall_const, ↓reduceIte, ↓reduceDIte, ↓purePost, combine, idsA, cellsA, numsOf, srcA, calleeA, refsA, isScalar, scalarD, scalar0, AV.one, putL, unfA, implies_true, IntKind.signed, Nat.reduceAdd, Nat.reduceSub, Nat.reduceMul, Nat.reducePow, Nat.reduceDiv, Nat.reduceMod, Int.reduceAdd, Int.reduceSub, Int.reduceMul, Int.reducePow, Int.reduceNeg, Int.reduceToNat, Int.reduceLT, Int.reduceLE, Nat.reduceEqDiff, sidsB, Nat.reduceBEq, keyKD, isIntK, aggD, aggL, eqKs]
        refine CallC.by (closed_spec d (skipL d rest)) (by rfl) (by rfl) (by simp) ?_
        simp (config := { maxSteps := 1000000 }) (disch := ((try simp only [awL]); omega)) only [Option.toList_some, Option.toList_none, nextC_more, nextC_over, bs_size, bs_extract, bs_toList, bs_append, byteAt_bs, bs_cells, nums_length, nums_getD, MQ_t, MQ_n, ↓awU, awV, awF, ofVal, ofVal0, isShift, aggK, forall_const, ↓reduceIte, ↓reduceDIte, ↓purePost, combine, idsA, cellsA, numsOf, srcA, calleeA, refsA, isScalar, scalarD, scalar0, AV.one, putL, unfA, implies_true, IntKind.signed, Nat.reduceAdd, Nat.reduceSub, Nat.reduceMul, Nat.reducePow, Nat.reduceDiv, Nat.reduceMod, Int.reduceAdd, Int.reduceSub, Int.reduceMul, Int.reducePow, Int.reduceNeg, Int.reduceToNat, Int.reduceLT, Int.reduceLE, Nat.reduceEqDiff, sidsB, Nat.reduceBEq, keyKD, isIntK, aggD, aggL, eqKs]
        simp only [Option.map_some, ha] at h2
        have e1 : quotR d l = if stopL d (skipL d rest) then .d (.tup [S acc2, .bool true]) else badA := by rw [quotR, h2]
        have e2 : quotH d l = if stopL d (skipL d rest) then ScanM d (skipL d rest) else .dead := by rw [quotH, h2]
        rw [e1, e2]
        cases hs : stopL d (skipL d rest)
        · exact ⟨[some 0], rfl, by simp, by simp [HWeak, BWeak, SWeak, AWeak], .inl (by simp [AWeak, SWeak])⟩
        · refine ⟨[some 0], rfl, by simp, by simp [HWeak, BWeak, SWeak, AWeak], .inr ⟨_, rfl, ?_, rfl⟩⟩
          rfl
    · rw [decide_eq_false hm]
      rw [q1 hm] at h2
      have e1 : quotR d l = badA := by rw [quotR, h2]; rfl
      have e2 : quotH d l = .dead := by rw [quotH, h2]; rfl
      rw [e1, e2]
      simp (config := { maxSteps := 1000000 }) (disch := ((try simp only [awL]); omega)) only [Option.toList_some, Option.toList_none, nextC_more, nextC_over, bs_size, bs_extract, bs_toList, bs_append, byteAt_bs, bs_cells, nums_length, nums_getD, MQ_t, MQ_n, ↓awU, awV, awF, ofVal, ofVal0, isShift, aggK, forall_const, ↓reduceIte, ↓reduceDIte, ↓purePost, combine, idsA, cellsA, numsOf, srcA, calleeA, refsA, isScalar, scalarD, scalar0, AV.one, putL, unfA, implies_true, IntKind.signed, Nat.reduceAdd, Nat.reduceSub, Nat.reduceMul, Nat.reducePow, Nat.reduceDiv, Nat.reduceMod, Int.reduceAdd, Int.reduceSub, Int.reduceMul, Int.reducePow, Int.reduceNeg, Int.reduceToNat, Int.reduceLT, Int.reduceLE, Nat.reduceEqDiff, sidsB, Nat.reduceBEq, keyKD, isIntK, aggD, aggL, eqKs]
      exact ⟨[some 0], rfl, by simp, by simp [HWeak, BWeak, SWeak, AWeak], .inl (by simp [AWeak, SWeak])⟩
end Go.Proofs.YtjjanbljkoaojaaGreatDoor

namespace Go.Proofs.YtjjanbljkoaojaaGreatDoor
open Go Go.Proofs Go.Abs
variable {G : Globals}
/-! The scanner: a field, a record. -/
def fieldR (d : Dia) (l : List UInt8) : AV := match fieldL d l with | none => badA | some p => .d (.tup [S p.1, .bool true])
def fieldH (d : Dia) (l : List UInt8) : ABlk := match fieldL d l with | none => .dead | some p => ScanM d p.2
theorem fieldH_ext (d : Dia) (l : List UInt8) : noExt [fieldH d l] = true := by
  unfold fieldH
  split <;> rfl
theorem fieldR_q {d : Dia} {l : List UInt8} (h : d.quo ≠ 0 ∧ (skipL d l).head? = some d.quo) : fieldR d l = quotR d ((skipL d l).drop 1) ∧ fieldH d l = quotH d ((skipL d l).drop 1) := by
  have e : fieldL d l = match quotL d.quo ((skipL d l).drop 1) with
    | none => none
    | some p => if stopL d (skipL d p.2) then some (p.1, skipL d p.2) else none := by
    unfold fieldL
    rw [if_pos h]
    cases quotL d.quo ((skipL d l).drop 1) <;> rfl
  generalize (skipL d l).drop 1 = m at e ⊢
  cases hq : quotL d.quo m with
  | none =>
    have e2 : fieldL d l = none := by rw [e, hq]
    simp [fieldR, fieldH, quotR, quotH, e2, hq]
  | some p =>
    by_cases hs : stopL d (skipL d p.2) = true
    · have e2 : fieldL d l = some (p.1, skipL d p.2) := by rw [e, hq]; simp [hs]
      simp [fieldR, fieldH, quotR, quotH, e2, hq, hs]
    · have e2 : fieldL d l = none := by rw [e, hq]; simp [hs]
      simp [fieldR, fieldH, quotR, quotH, e2, hq, hs]
theorem take_succ_app {l : List UInt8} {j : Nat} (h : j < l.length) : l.take (j + 1) = l.take j ++ [l.getD j 0] := by
  rw [List.take_add_one, List.getElem?_eq_getElem h, List.getD_eq_getElem?_getD, List.getElem?_eq_getElem h]; rfl
theorem trimRight_trimR {d : Dia} (h : d.trim = true) (l : List UInt8) : Lib.trimRightB l 32 = trimR d l := by
  rw [trimR, if_pos h]
  rfl
set_option maxHeartbeats 4000000 in
set_option maxRecDepth 100000 in
theorem field_spec (d : Dia) (l : List UInt8) (hq : d.quo.toNat < 128) (hl : l.length ≤ 100000000) :
    Ctr Tryz.prog G 51 [.ptr 0 0] [ScanM d l] (fieldR d l) [fieldH d l] := by
  refine Ctr.body (M := M0) hmix Tryz.func51 rfl go51 (hx := fieldH_ext d l) ?_
  obtain ⟨k, hk1, hk2⟩ := skipL_suffix d l
  have hsl : (skipL d l).length ≤ l.length := by rw [hk1, List.length_drop]; omega
  simp (config := { maxSteps := 1000000 }) (disch := ((try simp only [awL]); omega)) only [Option.toList_some, Option.toList_none, nextC_more, nextC_over, bs_size, bs_extract, bs_toList, bs_append, byteAt_bs, bs_cells, nums_length, nums_getD, Tryz.f51, ↓awU, awV, awF, ofVal, ofVal0, isShift, aggK, forall_const, ↓reduceIte, ↓reduceDIte, ↓purePost, combine, idsA, cellsA, numsOf, srcA, calleeA, refsA, isScalar, scalarD, scalar0, AV.one, putL, unfA, implies_true, IntKind.signed, Nat.reduceAdd, Nat.reduceSub, Nat.reduceMul, Nat.reducePow, Nat.reduceDiv, Nat.reduceMod, Int.reduceAdd, Int.reduceSub, Int.reduceMul, Int.reducePow, Int.reduceNeg, Int.reduceToNat, Int.reduceLT, Int.reduceLE, Nat.reduceEqDiff, sidsB, Nat.reduceBEq, keyKD, isIntK, aggD, aggL, eqKs]
  refine CallC.by (spaces_spec d l) (by rfl) (by rfl) (by simp) ?_
  by_cases h : d.quo ≠ 0 ∧ (skipL d l).head? = some d.quo
  · obtain ⟨e1, e2⟩ := fieldR_q h
    rw [e1, e2]
    generalize skipL d l = m at *
    obtain ⟨h1, h2⟩ := h
    have hz : ¬ d.quo.toNat = 0 := fun e => h1 (UInt8.toNat_inj.1 e)
    match m, h2 with
    | c :: r, h2 =>
      obtain rfl : c = d.quo := by simpa using h2
      have hc : ((d.quo :: r).getD 0 0).toNat = d.quo.toNat := rfl
      have hne : ¬ (d.quo :: r) = [] := by simp
      have hlen : (d.quo :: r).length = r.length + 1 := rfl
      have hdr : (d.quo :: r).drop 1 = r := rfl
      generalize d.quo :: r = m at *
      simp (config := { maxSteps := 1000000 }) (disch := ((try simp only [awL]); omega)) only [Option.toList_some, Option.toList_none, nextC_more, nextC_over, bs_size, bs_extract, bs_toList, bs_append, byteAt_bs, bs_cells, nums_length, nums_getD, hne, hlen, hc, hdr, ↓awU, awV, awF, ofVal, ofVal0, isShift, aggK, forall_const, ↓reduceIte, ↓reduceDIte, ↓purePost, combine, idsA, cellsA, numsOf, srcA, calleeA, refsA, isScalar, scalarD, scalar0, AV.one, putL, unfA, implies_true, IntKind.signed, Nat.reduceAdd, Nat.reduceSub, Nat.reduceMul, Nat.reducePow, Nat.reduceDiv, Nat.reduceMod, Int.reduceAdd, Int.reduceSub, Int.reduceMul, Int.reducePow, Int.reduceNeg, Int.reduceToNat, Int.reduceLT, Int.reduceLE, Nat.reduceEqDiff, sidsB, Nat.reduceBEq, keyKD, isIntK, aggD, aggL, eqKs]
      refine ⟨by rfl, ?_⟩
      refine CallC.by (quoted_spec d r hq (by omega)) (by rfl) (by rfl) (by simp) ?_
      unfold quotR quotH
      cases quotL d.quo r with
      | none =>
        simp (config := { maxSteps := 1000000 }) (disch := ((try simp only [awL]); omega)) only [Option.toList_some, Option.toList_none, nextC_more, nextC_over, bs_size, bs_extract, bs_toList, bs_append, byteAt_bs, bs_cells, nums_length, nums_getD, ↓awU, awV, awF, ofVal, ofVal0, isShift, aggK, forall_const, ↓reduceIte, ↓reduceDIte, ↓purePost, combine, idsA, cellsA, numsOf, srcA, calleeA, refsA, isScalar, scalarD, scalar0, AV.one, putL, unfA, implies_true, IntKind.signed, Nat.reduceAdd, Nat.reduceSub, Nat.reduceMul, Nat.reducePow, Nat.reduceDiv, Nat.reduceMod, Int.reduceAdd, Int.reduceSub, Int.reduceMul, Int.reducePow, Int.reduceNeg, Int.reduceToNat, Int.reduceLT, Int.reduceLE, Nat.reduceEqDiff, sidsB, Nat.reduceBEq, keyKD, isIntK, aggD, aggL, eqKs]
        exact ⟨[some 0], rfl, by simp, by simp [HWeak, BWeak, SWeak, AWeak], .inl (by simp [AWeak, SWeak])⟩
      | some p =>
        simp only
        cases stopL d (skipL d p.2)
        · simp (config := { maxSteps := 1000000 }) (disch := ((try simp only [awL]); omega)) only [Option.toList_some, Option.toList_none, nextC_more, nextC_over, bs_size, bs_extract, bs_toList, bs_append, byteAt_bs, bs_cells, nums_length, nums_getD, ↓awU, awV, awF, ofVal, ofVal0, isShift, aggK, forall_const, ↓reduceIte, ↓reduceDIte, ↓purePost, combine, idsA, cellsA, numsOf, srcA, calleeA, refsA, isScalar, scalarD, scalar0, AV.one, putL, unfA, implies_true, IntKind.signed, Nat.reduceAdd, Nat.reduceSub, Nat.reduceMul, Nat.reducePow, Nat.reduceDiv, Nat.reduceMod, Int.reduceAdd, Int.reduceSub, Int.reduceMul, Int.reducePow, Int.reduceNeg, Int.reduceToNat, Int.reduceLT, Int.reduceLE, Nat.reduceEqDiff, sidsB, Nat.reduceBEq, keyKD, isIntK, aggD, aggL, eqKs]
          exact ⟨[some 0], rfl, by simp, by simp [HWeak, BWeak, SWeak, AWeak], .inl (by simp [AWeak, SWeak])⟩
        · simp (config := { maxSteps := 1000000 }) (disch := ((try simp only [awL]); omega)) only [Option.toList_some, Option.toList_none, nextC_more, nextC_over, bs_size, bs_extract, bs_toList, bs_append, byteAt_bs, bs_cells, nums_length, nums_getD, ↓awU, awV, awF, ofVal, ofVal0, isShift, aggK, forall_const, ↓reduceIte, ↓reduceDIte, ↓purePost, combine, idsA, cellsA, numsOf, srcA, calleeA, refsA, isScalar, scalarD, scalar0, AV.one, putL, unfA, implies_true, IntKind.signed, Nat.reduceAdd, Nat.reduceSub, Nat.reduceMul, Nat.reducePow, Nat.reduceDiv, Nat.reduceMod, Int.reduceAdd, Int.reduceSub, Int.reduceMul, Int.reducePow, Int.reduceNeg, Int.reduceToNat, Int.reduceLT, Int.reduceLE, Nat.reduceEqDiff, sidsB, Nat.reduceBEq, keyKD, isIntK, aggD, aggL, eqKs]
          refine ⟨[some 0], rfl, by simp, by simp [HWeak, BWeak, SWeak, AWeak], .inr ⟨_, rfl, ?_, rfl⟩⟩
          rfl
  · have e1 : fieldR d l = .d (.tup [S (trimR d (plainL d (skipL d l))), .bool true]) := by rw [fieldR, fieldL, if_neg h]
    have e2 : fieldH d l = ScanM d ((skipL d l).drop (plainL d (skipL d l)).length) := by rw [fieldH, fieldL, if_neg h]
    rw [e1, e2]
    generalize skipL d l = m at *
    have hz : d.quo ≠ 0 → ¬ d.quo.toNat = 0 := fun h1 e => h1 (UInt8.toNat_inj.1 e)
    have cases3 : d.quo.toNat = 0 ∨ (¬ d.quo.toNat = 0 ∧ m = []) ∨ (¬ d.quo.toNat = 0 ∧ ¬ m = [] ∧ 0 < m.length ∧ ¬ (m.getD 0 0).toNat = d.quo.toNat) := by
      by_cases h1 : d.quo = 0
      · exact .inl (by rw [h1]; rfl)
      · match m with
        | [] => exact .inr (.inl ⟨hz h1, rfl⟩)
        | c :: r =>
          refine .inr (.inr ⟨hz h1, by simp, by simp, fun e => h ⟨h1, ?_⟩⟩)
          have : c = d.quo := UInt8.toNat_inj.1 e
          rw [this]; rfl
    have fin : ∀ x : List UInt8, d.trim = false → trimR d x = x := fun x e => by rw [trimR, e]; rfl
    clear hk1 hk2 h e1 e2 hz
    rcases cases3 with h1 | ⟨h1, h2⟩ | ⟨h1, h2, h3, h4⟩
    · simp (config := { maxSteps := 1000000 }) (disch := ((try simp only [awL]); omega)) only [Option.toList_some, Option.toList_none, nextC_more, nextC_over, bs_size, bs_extract, bs_toList, bs_append, byteAt_bs, bs_cells, nums_length, nums_getD, ↓awU, awV, awF, ofVal, ofVal0, isShift, aggK, forall_const, ↓reduceIte, ↓reduceDIte, ↓purePost, combine, idsA, cellsA, numsOf, srcA, calleeA, refsA, isScalar, scalarD, scalar0, AV.one, putL, unfA, implies_true, IntKind.signed, Nat.reduceAdd, Nat.reduceSub, Nat.reduceMul, Nat.reducePow, Nat.reduceDiv, Nat.reduceMod, Int.reduceAdd, Int.reduceSub, Int.reduceMul, Int.reducePow, Int.reduceNeg, Int.reduceToNat, Int.reduceLT, Int.reduceLE, Nat.reduceEqDiff, sidsB, Nat.reduceBEq, keyKD, isIntK, aggD, aggL, eqKs]
      refine ⟨by rfl, ?_⟩
      refine LoopC.fr 17 (α := Nat) (fun j => m.length - j) (fun _ => []) (fun j => [ScanM d (m.drop j)]) (fun j => j ≤ m.length ∧ plainL d m = m.take j ++ plainL d (m.drop j)) 0 ⟨Nat.zero_le _, by simp⟩ ?_ ?_
      · exact ⟨[some 0], rfl, by simp, by simp [setsA, keepA, SWeak, AWeak], by simp [HWeak, BWeak, SWeak, AWeak]⟩
      · rintro j ⟨j1, j2⟩
        simp only [awK, Nat.reduceMod, Nat.reduceDiv, reduceIte]
        simp (config := { maxSteps := 1000000 }) (disch := ((try simp only [awL]); omega)) only [Option.toList_some, Option.toList_none, nextC_more, nextC_over, bs_size, bs_extract, bs_toList, bs_append, byteAt_bs, bs_cells, nums_length, nums_getD, ↓awU, awV, awF, ofVal, ofVal0, isShift, aggK, forall_const, ↓reduceIte, ↓reduceDIte, ↓purePost, combine, idsA, cellsA, numsOf, srcA, calleeA, refsA, isScalar, scalarD, scalar0, AV.one, putL, unfA, implies_true, IntKind.signed, Nat.reduceAdd, Nat.reduceSub, Nat.reduceMul, Nat.reducePow, Nat.reduceDiv, Nat.reduceMod, Int.reduceAdd, Int.reduceSub, Int.reduceMul, Int.reducePow, Int.reduceNeg, Int.reduceToNat, Int.reduceLT, Int.reduceLE, Nat.reduceEqDiff, sidsB, Nat.reduceBEq, keyKD, isIntK, aggD, aggL, eqKs]
        refine CallC.by (closed_spec d (m.drop j)) (by rfl) (by rfl) (by simp) ?_
        cases hs : stopL d (m.drop j)
        · have pm := plainL_more hs
          have jl : j < m.length := by
            rcases Nat.lt_or_ge j m.length with h | h
            · exact h
            · rw [List.drop_eq_nil_of_le h] at hs; simp [stopL] at hs
          have ld := @List.length_drop _ j m
          have e3 : (m.drop j).head?.getD 0 = m.getD j 0 := by rw [List.drop_eq_getElem_cons jl, List.getD_eq_getElem?_getD, List.getElem?_eq_getElem jl]; rfl
          simp (config := { maxSteps := 1000000 }) (disch := ((try simp only [awL]); omega)) only [Option.toList_some, Option.toList_none, nextC_more, nextC_over, bs_size, bs_extract, bs_toList, bs_append, byteAt_bs, bs_cells, nums_length, nums_getD, ld, ↓awU, awV, awF, ofVal, ofVal0, isShift, aggK, forall_const, ↓reduceIte, ↓reduceDIte, ↓purePost, combine, idsA, cellsA, numsOf, srcA, calleeA, refsA, isScalar, scalarD, scalar0, AV.one, putL, unfA, implies_true, IntKind.signed, Nat.reduceAdd, Nat.reduceSub, Nat.reduceMul, Nat.reducePow, Nat.reduceDiv, Nat.reduceMod, Int.reduceAdd, Int.reduceSub, Int.reduceMul, Int.reducePow, Int.reduceNeg, Int.reduceToNat, Int.reduceLT, Int.reduceLE, Nat.reduceEqDiff, sidsB, Nat.reduceBEq, keyKD, isIntK, aggD, aggL, eqKs]
          exact ⟨j + 1, ⟨jl, by rw [j2, pm, e3, take_succ_app jl, List.append_assoc, List.drop_drop]; rfl⟩, by simp only; omega, ⟨[some 0], rfl, by simp, by simp [setsA, keepA, SWeak, AWeak], by simp [HWeak, BWeak, SWeak, AWeak]⟩⟩
        · rw [plainL_end hs, List.append_nil] at j2
          have tl : (m.take j).length = j := by rw [List.length_take]; omega
          rw [j2, tl]
          have tk : (((m.length : Nat) : Int) - ((m.length - j : Nat) : Int)).toNat = j := by omega
          have ld := @List.length_drop _ j m
          cases ht : d.trim
          · rw [fin _ ht]
            simp (config := { maxSteps := 1000000 }) (disch := ((try simp only [awL]); omega)) only [Option.toList_some, Option.toList_none, nextC_more, nextC_over, bs_size, bs_extract, bs_toList, bs_append, byteAt_bs, bs_cells, nums_length, nums_getD, ld, ht, tk, ↓awU, awV, awF, ofVal, ofVal0, isShift, aggK, forall_const, ↓reduceIte, ↓reduceDIte, ↓purePost, combine, idsA, cellsA, numsOf, srcA, calleeA, refsA, isScalar, scalarD, scalar0, AV.one, putL, unfA, implies_true, IntKind.signed, Nat.reduceAdd, Nat.reduceSub, Nat.reduceMul, Nat.reducePow, Nat.reduceDiv, Nat.reduceMod, Int.reduceAdd, Int.reduceSub, Int.reduceMul, Int.reducePow, Int.reduceNeg, Int.reduceToNat, Int.reduceLT, Int.reduceLE, Nat.reduceEqDiff, sidsB, Nat.reduceBEq, keyKD, isIntK, aggD, aggL, eqKs]
            refine ⟨[some 0], rfl, by simp, by simp [HWeak, BWeak, SWeak, AWeak, ht], .inr ⟨_, rfl, ?_, rfl⟩⟩
            rfl
          · rw [← trimRight_trimR ht]
            simp (config := { maxSteps := 1000000 }) (disch := ((try simp only [awL]); omega)) only [Option.toList_some, Option.toList_none, nextC_more, nextC_over, bs_size, bs_extract, bs_toList, bs_append, byteAt_bs, bs_cells, nums_length, nums_getD, ld, ht, tk, ↓awU, awV, awF, ofVal, ofVal0, isShift, aggK, forall_const, ↓reduceIte, ↓reduceDIte, ↓purePost, combine, idsA, cellsA, numsOf, srcA, calleeA, refsA, isScalar, scalarD, scalar0, AV.one, putL, unfA, implies_true, IntKind.signed, Nat.reduceAdd, Nat.reduceSub, Nat.reduceMul, Nat.reducePow, Nat.reduceDiv, Nat.reduceMod, Int.reduceAdd, Int.reduceSub, Int.reduceMul, Int.reducePow, Int.reduceNeg, Int.reduceToNat, Int.reduceLT, Int.reduceLE, Nat.reduceEqDiff, sidsB, Nat.reduceBEq, keyKD, isIntK, aggD, aggL, eqKs]
            refine CallC.of (trimRight_spec (m.take j) (by omega)) (by rfl) ?_
            simp (config := { maxSteps := 1000000 }) (disch := ((try simp only [awL]); omega)) only [Option.toList_some, Option.toList_none, nextC_more, nextC_over, bs_size, bs_extract, bs_toList, bs_append, byteAt_bs, bs_cells, nums_length, nums_getD, ht, ↓awU, awV, awF, ofVal, ofVal0, isShift, aggK, forall_const, ↓reduceIte, ↓reduceDIte, ↓purePost, combine, idsA, cellsA, numsOf, srcA, calleeA, refsA, isScalar, scalarD, scalar0, AV.one, putL, unfA, implies_true, IntKind.signed, Nat.reduceAdd, Nat.reduceSub, Nat.reduceMul, Nat.reducePow, Nat.reduceDiv, Nat.reduceMod, Int.reduceAdd, Int.reduceSub, Int.reduceMul, Int.reducePow, Int.reduceNeg, Int.reduceToNat, Int.reduceLT, Int.reduceLE, Nat.reduceEqDiff, sidsB, Nat.reduceBEq, keyKD, isIntK, aggD, aggL, eqKs]
            refine ⟨[some 0], rfl, by simp, by simp [HWeak, BWeak, SWeak, AWeak, ht], .inr ⟨_, rfl, ?_, rfl⟩⟩
            rfl
    · subst h2
      simp (config := { maxSteps := 1000000 }) (disch := ((try simp only [awL]); omega)) only [Option.toList_some, Option.toList_none, nextC_more, nextC_over, bs_size, bs_extract, bs_toList, bs_append, byteAt_bs, bs_cells, nums_length, nums_getD, ↓awU, awV, awF, ofVal, ofVal0, isShift, aggK, forall_const, ↓reduceIte, ↓reduceDIte, ↓purePost, combine, idsA, cellsA, numsOf, srcA, calleeA, refsA, isScalar, scalarD, scalar0, AV.one, putL, unfA, implies_true, IntKind.signed, Nat.reduceAdd, Nat.reduceSub, Nat.reduceMul, Nat.reducePow, Nat.reduceDiv, Nat.reduceMod, Int.reduceAdd, Int.reduceSub, Int.reduceMul, Int.reducePow, Int.reduceNeg, Int.reduceToNat, Int.reduceLT, Int.reduceLE, Nat.reduceEqDiff, sidsB, Nat.reduceBEq, keyKD, isIntK, aggD, aggL, eqKs]
      refine ⟨by rfl, ?_⟩
      refine LoopC.fr 17 (α := Nat) (fun _ => 0) (fun _ => []) (fun _ => [ScanM d []]) (fun _ => True) 0 trivial ?_ ?_
      · exact ⟨[some 0], rfl, by simp, by simp [setsA, keepA, SWeak, AWeak], by simp [HWeak, BWeak, SWeak, AWeak]⟩
      · rintro j -
        have cs := closed_spec (G := G) d []
        rw [show stopL d [] = true by simp [stopL]] at cs
        rw [show plainL d [] = [] from rfl, show trimR d [] = [] by unfold trimR; split <;> rfl]
        simp only [awK, Nat.reduceMod, Nat.reduceDiv, reduceIte]
        simp (config := { maxSteps := 1000000 }) (disch := ((try simp only [awL]); omega)) only [Option.toList_some, Option.toList_none, nextC_more, nextC_over, bs_size, bs_extract, bs_toList, bs_append, byteAt_bs, bs_cells, nums_length, nums_getD, ↓awU, awV, awF, ofVal, ofVal0, isShift, aggK, forall_const, ↓reduceIte, ↓reduceDIte, ↓purePost, combine, idsA, cellsA, numsOf, srcA, calleeA, refsA, isScalar, scalarD, scalar0, AV.one, putL, unfA, implies_true, IntKind.signed, Nat.reduceAdd, Nat.reduceSub, Nat.reduceMul, Nat.reducePow, Nat.reduceDiv, Nat.reduceMod, Int.reduceAdd, Int.reduceSub, Int.reduceMul, Int.reducePow, Int.reduceNeg, Int.reduceToNat, Int.reduceLT, Int.reduceLE, Nat.reduceEqDiff, sidsB, Nat.reduceBEq, keyKD, isIntK, aggD, aggL, eqKs]
        refine CallC.by cs (by rfl) (by rfl) (by simp) ?_
        cases ht : d.trim
        · simp (config := { maxSteps := 1000000 }) (disch := ((try simp only [awL]); omega)) only [Option.toList_some, Option.toList_none, nextC_more, nextC_over, bs_size, bs_extract, bs_toList, bs_append, byteAt_bs, bs_cells, nums_length, nums_getD, ht, ↓awU, awV, awF, ofVal, ofVal0, isShift, aggK, forall_const, ↓reduceIte, ↓reduceDIte, ↓purePost, combine, idsA, cellsA, numsOf, srcA, calleeA, refsA, isScalar, scalarD, scalar0, AV.one, putL, unfA, implies_true, IntKind.signed, Nat.reduceAdd, Nat.reduceSub, Nat.reduceMul, Nat.reducePow, Nat.reduceDiv, Nat.reduceMod, Int.reduceAdd, Int.reduceSub, Int.reduceMul, Int.reducePow, Int.reduceNeg, Int.reduceToNat, Int.reduceLT, Int.reduceLE, Nat.reduceEqDiff, sidsB, Nat.reduceBEq, keyKD, isIntK, aggD, aggL, eqKs]
          refine ⟨[some 0], rfl, by simp, by simp [HWeak, BWeak, SWeak, AWeak, ht], .inr ⟨_, rfl, ?_, rfl⟩⟩
          rfl
        · simp (config := { maxSteps := 1000000 }) (disch := ((try simp only [awL]); omega)) only [Option.toList_some, Option.toList_none, nextC_more, nextC_over, bs_size, bs_extract, bs_toList, bs_append, byteAt_bs, bs_cells, nums_length, nums_getD, ht, ↓awU, awV, awF, ofVal, ofVal0, isShift, aggK, forall_const, ↓reduceIte, ↓reduceDIte, ↓purePost, combine, idsA, cellsA, numsOf, srcA, calleeA, refsA, isScalar, scalarD, scalar0, AV.one, putL, unfA, implies_true, IntKind.signed, Nat.reduceAdd, Nat.reduceSub, Nat.reduceMul, Nat.reducePow, Nat.reduceDiv, Nat.reduceMod, Int.reduceAdd, Int.reduceSub, Int.reduceMul, Int.reducePow, Int.reduceNeg, Int.reduceToNat, Int.reduceLT, Int.reduceLE, Nat.reduceEqDiff, sidsB, Nat.reduceBEq, keyKD, isIntK, aggD, aggL, eqKs]
          refine CallC.of (trimRight_spec [] (by simp)) (by rfl) ?_
          simp (config := { maxSteps := 1000000 }) (disch := ((try simp only [awL]); omega)) only [Option.toList_some, Option.toList_none, nextC_more, nextC_over, bs_size, bs_extract, bs_toList, bs_append, byteAt_bs, bs_cells, nums_length, nums_getD, ht, ↓awU, awV, awF, ofVal, ofVal0, isShift, aggK, forall_const, ↓reduceIte, ↓reduceDIte, ↓purePost, combine, idsA, cellsA, numsOf, srcA, calleeA, refsA, isScalar, scalarD, scalar0, AV.one, putL, unfA, implies_true, IntKind.signed, Nat.reduceAdd, Nat.reduceSub, Nat.reduceMul, Nat.reducePow, Nat.reduceDiv, Nat.reduceMod, Int.reduceAdd, Int.reduceSub, Int.reduceMul, Int.reducePow, Int.reduceNeg, Int.reduceToNat, Int.reduceLT, Int.reduceLE, Nat.reduceEqDiff, sidsB, Nat.reduceBEq, keyKD, isIntK, aggD, aggL, eqKs]
          refine ⟨[some 0], rfl, by simp, by simp [HWeak, BWeak, SWeak, AWeak, ht], .inr ⟨_, rfl, ?_, rfl⟩⟩
          rfl
    · simp (config := { maxSteps := 1000000 }) (disch := ((try simp only [awL]); omega)) only [Option.toList_some, Option.toList_none, nextC_more, nextC_over, bs_size, bs_extract, bs_toList, bs_append, byteAt_bs, bs_cells, nums_length, nums_getD, h2, ↓awU, awV, awF, ofVal, ofVal0, isShift, aggK, forall_const, ↓reduceIte, ↓reduceDIte, ↓purePost, combine, idsA, cellsA, numsOf, srcA, calleeA, refsA, isScalar, scalarD, scalar0, AV.one, putL, unfA, implies_true, IntKind.signed, Nat.reduceAdd, Nat.reduceSub, Nat.reduceMul, Nat.reducePow, Nat.reduceDiv, Nat.reduceMod, Int.reduceAdd, Int.reduceSub, Int.reduceMul, Int.reducePow, Int.reduceNeg, Int.reduceToNat, Int.reduceLT, Int.reduceLE, Nat.reduceEqDiff, sidsB, Nat.reduceBEq, keyKD, isIntK, aggD, aggL, eqKs]
      refine ⟨by rfl, ?_⟩
      refine LoopC.fr 17 (α := Nat) (fun j => m.length - j) (fun _ => []) (fun j => [ScanM d (m.drop j)]) (fun j => j ≤ m.length ∧ plainL d m = m.take j ++ plainL d (m.drop j)) 0 ⟨Nat.zero_le _, by simp⟩ ?_ ?_
      · exact ⟨[some 0], rfl, by simp, by simp [setsA, keepA, SWeak, AWeak], by simp [HWeak, BWeak, SWeak, AWeak]⟩
      · rintro j ⟨j1, j2⟩
        simp only [awK, Nat.reduceMod, Nat.reduceDiv, reduceIte]
        simp (config := { maxSteps := 1000000 }) (disch := ((try simp only [awL]); omega)) only [Option.toList_some, Option.toList_none, nextC_more, nextC_over, bs_size, bs_extract, bs_toList, bs_append, byteAt_bs, bs_cells, nums_length, nums_getD, ↓awU, awV, awF, ofVal, ofVal0, isShift, aggK, forall_const, ↓reduceIte, ↓reduceDIte, ↓purePost, combine, idsA, cellsA, numsOf, srcA, calleeA, refsA, isScalar, scalarD, scalar0, AV.one, putL, unfA, implies_true, IntKind.signed, Nat.reduceAdd, Nat.reduceSub, Nat.reduceMul, Nat.reducePow, Nat.reduceDiv, Nat.reduceMod, Int.reduceAdd, Int.reduceSub, Int.reduceMul, Int.reducePow, Int.reduceNeg, Int.reduceToNat, Int.reduceLT, Int.reduceLE, Nat.reduceEqDiff, sidsB, Nat.reduceBEq, keyKD, isIntK, aggD, aggL, eqKs]
        refine CallC.by (closed_spec d (m.drop j)) (by rfl) (by rfl) (by simp) ?_
        cases hs : stopL d (m.drop j)
        · have pm := plainL_more hs
          have jl : j < m.length := by
            rcases Nat.lt_or_ge j m.length with h | h
            · exact h
            · rw [List.drop_eq_nil_of_le h] at hs; simp [stopL] at hs
          have ld := @List.length_drop _ j m
          have e3 : (m.drop j).head?.getD 0 = m.getD j 0 := by rw [List.drop_eq_getElem_cons jl, List.getD_eq_getElem?_getD, List.getElem?_eq_getElem jl]; rfl
          simp (config := { maxSteps := 1000000 }) (disch := ((try simp only [awL]); omega)) only [Option.toList_some, Option.toList_none, nextC_more, nextC_over, bs_size, bs_extract, bs_toList, bs_append, byteAt_bs, bs_cells, nums_length, nums_getD, ld, ↓awU, awV, awF, ofVal, ofVal0, isShift, aggK, forall_const, ↓reduceIte, ↓reduceDIte, ↓purePost, combine, idsA, cellsA, numsOf, srcA, calleeA, refsA, isScalar, scalarD, scalar0, AV.one, putL, unfA, implies_true, IntKind.signed, Nat.reduceAdd, Nat.reduceSub, Nat.reduceMul, Nat.reducePow, Nat.reduceDiv, Nat.reduceMod, Int.reduceAdd, Int.reduceSub, Int.reduceMul, Int.reducePow, Int.reduceNeg, Int.reduceToNat, Int.reduceLT, Int.reduceLE, Nat.reduceEqDiff, sidsB, Nat.reduceBEq, keyKD, isIntK, aggD, aggL, eqKs]
          exact ⟨j + 1, ⟨jl, by rw [j2, pm, e3, take_succ_app jl, List.append_assoc, List.drop_drop]; rfl⟩, by simp only; omega, ⟨[some 0], rfl, by simp, by simp [setsA, keepA, SWeak, AWeak], by simp [HWeak, BWeak, SWeak, AWeak]⟩⟩
        · rw [plainL_end hs, List.append_nil] at j2
          have tl : (m.take j).length = j := by rw [List.length_take]; omega
          rw [j2, tl]
          have tk : (((m.length : Nat) : Int) - ((m.length - j : Nat) : Int)).toNat = j := by omega
          have ld := @List.length_drop _ j m
          cases ht : d.trim
          · rw [fin _ ht]
            simp (config := { maxSteps := 1000000 }) (disch := ((try simp only [awL]); omega)) only [Option.toList_some, Option.toList_none, nextC_more, nextC_over, bs_size, bs_extract, bs_toList, bs_append, byteAt_bs, bs_cells, nums_length, nums_getD, ld, ht, tk, ↓awU, awV, awF, ofVal, ofVal0, isShift, aggK, forall_const, ↓reduceIte, ↓reduceDIte, ↓purePost, combine, idsA, cellsA, numsOf, srcA, calleeA, refsA, isScalar, scalarD, scalar0, AV.one, putL, unfA, implies_true, IntKind.signed, Nat.reduceAdd, Nat.reduceSub, Nat.reduceMul, Nat.reducePow, Nat.reduceDiv, Nat.reduceMod, Int.reduceAdd, Int.reduceSub, Int.reduceMul, Int.reducePow, Int.reduceNeg, Int.reduceToNat, Int.reduceLT, Int.reduceLE, Nat.reduceEqDiff, sidsB, Nat.reduceBEq, keyKD, isIntK, aggD, aggL, eqKs]
            refine ⟨[some 0], rfl, by simp, by simp [HWeak, BWeak, SWeak, AWeak, ht], .inr ⟨_, rfl, ?_, rfl⟩⟩
            rfl
          · rw [← trimRight_trimR ht]
            simp (config := { maxSteps := 1000000 }) (disch := ((try simp only [awL]); omega)) only [Option.toList_some, Option.toList_none, nextC_more, nextC_over, bs_size, bs_extract, bs_toList, bs_append, byteAt_bs, bs_cells, nums_length, nums_getD, ld, ht, tk, ↓awU, awV, awF, ofVal, ofVal0, isShift, aggK, forall_const, ↓reduceIte, ↓reduceDIte, ↓purePost, combine, idsA, cellsA, numsOf, srcA, calleeA, refsA, isScalar, scalarD, scalar0, AV.one, putL, unfA, implies_true, IntKind.signed, Nat.reduceAdd, Nat.reduceSub, Nat.reduceMul, Nat.reducePow, Nat.reduceDiv, Nat.reduceMod, Int.reduceAdd, Int.reduceSub, Int.reduceMul, Int.reducePow, Int.reduceNeg, Int.reduceToNat, Int.reduceLT, Int.reduceLE, Nat.reduceEqDiff, sidsB, Nat.reduceBEq, keyKD, isIntK, aggD, aggL, eqKs]
            refine CallC.of (trimRight_spec (m.take j) (by omega)) (by rfl) ?_
            simp (config := { maxSteps := 1000000 }) (disch := ((try simp only [awL]); omega)) only [Option.toList_some, Option.toList_none, nextC_more, nextC_over, bs_size, bs_extract, bs_toList, bs_append, byteAt_bs, bs_cells, nums_length, nums_getD, ht, ↓awU, awV, awF, ofVal, ofVal0, isShift, aggK, forall_const, ↓reduceIte, ↓reduceDIte, ↓purePost, combine, idsA, cellsA, numsOf, srcA, calleeA, refsA, isScalar, scalarD, scalar0, AV.one, putL, unfA, implies_true, IntKind.signed, Nat.reduceAdd, Nat.reduceSub, Nat.reduceMul, Nat.reducePow, Nat.reduceDiv, Nat.reduceMod, Int.reduceAdd, Int.reduceSub, Int.reduceMul, Int.reducePow, Int.reduceNeg, Int.reduceToNat, Int.reduceLT, Int.reduceLE, Nat.reduceEqDiff, sidsB, Nat.reduceBEq, keyKD, isIntK, aggD, aggL, eqKs]
            refine ⟨[some 0], rfl, by simp, by simp [HWeak, BWeak, SWeak, AWeak, ht], .inr ⟨_, rfl, ?_, rfl⟩⟩
            rfl
end Go.Proofs.YtjjanbljkoaojaaGreatDoor

namespace Go.Proofs.YtjjanbljkoaojaaGreatDoor
open Go Go.Proofs Go.Abs
variable {G : Globals}
/-! The scanner: a record. -/
def recR (d : Dia) (l : List UInt8) : AV := match recL d l with | none => badA | some p => .d (.tup [Ss p.1 false, .bool true])
def recH (d : Dia) (l : List UInt8) : ABlk := match recL d l with | none => .dead | some p => ScanM d p.2
theorem recH_ext (d : Dia) (l : List UInt8) : noExt [recH d l] = true := by
  unfold recH
  split <;> rfl
theorem strs_push {a : Row} {x : List UInt8} : strs a ++ [S x] = strs (a ++ [x]) := by simp [strs]
set_option maxHeartbeats 8000000 in
set_option maxRecDepth 100000 in
theorem record_spec (d : Dia) (l : List UInt8) (hq : d.quo.toNat < 128) (hl : l.length ≤ 100000000) :
    Ctr Tryz.prog G 34 [.ptr 0 0] [ScanM d l] (recR d l) [recH d l] := by
  refine Ctr.body (M := M0) hmix Tryz.func34 rfl go34 (hx := recH_ext d l) ?_
  simp (config := { maxSteps := 1000000 }) (disch := ((try simp only [awL]); omega)) only [Option.toList_some, Option.toList_none, nextC_more, nextC_over, bs_size, bs_extract, bs_toList, bs_append, byteAt_bs, bs_cells, nums_length, nums_getD, Tryz.f34, ↓awU, awV, awF, ofVal, ofVal0, isShift, aggK, forall_const, ↓reduceIte, ↓reduceDIte, ↓purePost, combine, idsA, cellsA, numsOf, srcA, calleeA, refsA, isScalar, scalarD, scalar0, AV.one, putL, unfA, implies_true, IntKind.signed, Nat.reduceAdd, Nat.reduceSub, Nat.reduceMul, Nat.reducePow, Nat.reduceDiv, Nat.reduceMod, Int.reduceAdd, Int.reduceSub, Int.reduceMul, Int.reducePow, Int.reduceNeg, Int.reduceToNat, Int.reduceLT, Int.reduceLE, Nat.reduceEqDiff, sidsB, Nat.reduceBEq, keyKD, isIntK, aggD, aggL, eqKs]
  refine LoopC.fr 1 (α := Row × List UInt8) (fun x => x.2.length) (fun x => [(4, .lsl 1 1 0 x.1.length)]) (fun x => [ScanM d x.2, .row false (strs x.1)])
    (fun x => x.1.length + x.2.length ≤ l.length ∧ recL d l = (recL d x.2).map fun p => (x.1 ++ p.1, p.2)) ([], l) ⟨by simp, by simp⟩ ?_ ?_
  · exact ⟨[some 0, none], rfl, by simp, by simp [setsA, keepA, SWeak, AWeak], by simp [HWeak, BWeak, SWeak, AWeak, strs]⟩
  · rintro ⟨acc, cur⟩ ⟨h1, h2⟩
    simp only at h1 h2
    have al := @strs_length acc
    simp only [awK, Nat.reduceMod, Nat.reduceDiv, reduceIte]
    simp (config := { maxSteps := 1000000 }) (disch := ((try simp only [awL]); omega)) only [Option.toList_some, Option.toList_none, nextC_more, nextC_over, bs_size, bs_extract, bs_toList, bs_append, byteAt_bs, bs_cells, nums_length, nums_getD, ↓awU, awV, awF, ofVal, ofVal0, isShift, aggK, forall_const, ↓reduceIte, ↓reduceDIte, ↓purePost, combine, idsA, cellsA, numsOf, srcA, calleeA, refsA, isScalar, scalarD, scalar0, AV.one, putL, unfA, implies_true, IntKind.signed, Nat.reduceAdd, Nat.reduceSub, Nat.reduceMul, Nat.reducePow, Nat.reduceDiv, Nat.reduceMod, Int.reduceAdd, Int.reduceSub, Int.reduceMul, Int.reducePow, Int.reduceNeg, Int.reduceToNat, Int.reduceLT, Int.reduceLE, Nat.reduceEqDiff, sidsB, Nat.reduceBEq, keyKD, isIntK, aggD, aggL, eqKs]
    refine CallC.by (field_spec d cur hq (by omega)) (by rfl) (by rfl) (by simp) ?_
    rw [recL_eq d cur] at h2
    unfold fieldR fieldH
    cases hf : fieldL d cur with
    | none =>
      rw [hf] at h2
      have e1 : recR d l = badA := by rw [recR, h2]; rfl
      have e2 : recH d l = .dead := by rw [recH, h2]; rfl
      rw [e1, e2]
      simp (config := { maxSteps := 1000000 }) (disch := ((try simp only [awL]); omega)) only [Option.toList_some, Option.toList_none, nextC_more, nextC_over, bs_size, bs_extract, bs_toList, bs_append, byteAt_bs, bs_cells, nums_length, nums_getD, ↓awU, awV, awF, ofVal, ofVal0, isShift, aggK, forall_const, ↓reduceIte, ↓reduceDIte, ↓purePost, combine, idsA, cellsA, numsOf, srcA, calleeA, refsA, isScalar, scalarD, scalar0, AV.one, putL, unfA, implies_true, IntKind.signed, Nat.reduceAdd, Nat.reduceSub, Nat.reduceMul, Nat.reducePow, Nat.reduceDiv, Nat.reduceMod, Int.reduceAdd, Int.reduceSub, Int.reduceMul, Int.reducePow, Int.reduceNeg, Int.reduceToNat, Int.reduceLT, Int.reduceLE, Nat.reduceEqDiff, sidsB, Nat.reduceBEq, keyKD, isIntK, aggD, aggL, eqKs]
      exact ⟨[some 0], rfl, by simp, by simp [HWeak, BWeak, SWeak, AWeak], .inl (by simp [AWeak, SWeak])⟩
    | some p =>
      obtain ⟨x, rest⟩ := p
      have fl := fieldL_le hf
      have fs := (fieldL_suffix hf).2
      rw [hf] at h2
      simp only at h2 fl fs
      generalize hacc2 : acc ++ [x] = acc2 at *
      have sp := @strs_push acc x
      rw [hacc2] at sp
      have al2 := @strs_length acc2
      have ll2 : acc2.length = acc.length + 1 := by rw [← hacc2]; simp
      rcases (by cases rest with | nil => exact .inl rfl | cons c r => exact (by by_cases e : c = d.del; exact .inr (.inl (by rw [e]; rfl)); exact .inr (.inr ⟨by simp, by simpa using e⟩)) : rest = [] ∨ rest.head? = some d.del ∨ (rest ≠ [] ∧ rest.head? ≠ some d.del)) with h3 | h3 | ⟨h3, h4⟩
      · subst h3
        have h4 : ¬ (([] : List UInt8).head? = some d.del) := by simp
        rw [if_neg h4] at h2
        simp only [Option.map_some, hacc2, show endL [] = 0 from rfl, List.drop_zero] at h2
        have e1 : recR d l = .d (.tup [Ss acc2 false, .bool true]) := by rw [recR, h2]
        have e2 : recH d l = ScanM d [] := by rw [recH, h2]
        rw [e1, e2]
        simp (config := { maxSteps := 1000000 }) (disch := ((try simp only [awL]); omega)) only [Option.toList_some, Option.toList_none, nextC_more, nextC_over, bs_size, bs_extract, bs_toList, bs_append, byteAt_bs, bs_cells, nums_length, nums_getD, al, sp, ↓awU, awV, awF, ofVal, ofVal0, isShift, aggK, forall_const, ↓reduceIte, ↓reduceDIte, ↓purePost, combine, idsA, cellsA, numsOf, srcA, calleeA, refsA, isScalar, scalarD, scalar0, AV.one, putL, unfA, implies_true, IntKind.signed, Nat.reduceAdd, Nat.reduceSub, Nat.reduceMul, Nat.reducePow, Nat.reduceDiv, Nat.reduceMod, Int.reduceAdd, Int.reduceSub, Int.reduceMul, Int.reducePow, Int.reduceNeg, Int.reduceToNat, Int.reduceLT, Int.reduceLE, Nat.reduceEqDiff, sidsB, Nat.reduceBEq, keyKD, isIntK, aggD, aggL, eqKs]
        refine ⟨by rfl, ?_⟩
        refine CallC.keep [0] (end_spec d []) (by rfl) (by rfl) (Nat.le_refl _) (by simp [callEff, outW, outN, frz]) (by simp [callEff, outW, outN, renB, renL, renA, frz]) ?_
        rw [show endL [] = 0 from rfl]
        simp (config := { maxSteps := 1000000 }) (disch := ((try simp only [awL]); omega)) only [Option.toList_some, Option.toList_none, nextC_more, nextC_over, bs_size, bs_extract, bs_toList, bs_append, byteAt_bs, bs_cells, nums_length, nums_getD, al, sp, ↓awU, awV, awF, ofVal, ofVal0, isShift, aggK, forall_const, ↓reduceIte, ↓reduceDIte, ↓purePost, combine, idsA, cellsA, numsOf, srcA, calleeA, refsA, isScalar, scalarD, scalar0, AV.one, putL, unfA, implies_true, IntKind.signed, Nat.reduceAdd, Nat.reduceSub, Nat.reduceMul, Nat.reducePow, Nat.reduceDiv, Nat.reduceMod, Int.reduceAdd, Int.reduceSub, Int.reduceMul, Int.reducePow, Int.reduceNeg, Int.reduceToNat, Int.reduceLT, Int.reduceLE, Nat.reduceEqDiff, sidsB, Nat.reduceBEq, keyKD, isIntK, aggD, aggL, eqKs]
        refine ⟨by rfl, ?_⟩
        refine ⟨[some 0], rfl, by simp, by simp [HWeak, BWeak, SWeak, AWeak], .inr ⟨_, rfl, ?_, rfl⟩⟩
        have cu : cut (strs acc2) 0 (acc.length + 1) = strs acc2 := cut_all (by rw [al2, ll2])
        simp (config := { maxSteps := 1000000 }) (disch := ((try simp only [awL]); omega)) only [al, al2, ll2, cu, strs_unf, ↓awU, awV, awF, ofVal, ofVal0, isShift, aggK, forall_const, ↓reduceIte, ↓reduceDIte, ↓purePost, combine, idsA, cellsA, numsOf, srcA, calleeA, refsA, isScalar, scalarD, scalar0, AV.one, putL, unfA, implies_true, IntKind.signed, Nat.reduceAdd, Nat.reduceSub, Nat.reduceMul, Nat.reducePow, Nat.reduceDiv, Nat.reduceMod, Int.reduceAdd, Int.reduceSub, Int.reduceMul, Int.reducePow, Int.reduceNeg, Int.reduceToNat, Int.reduceLT, Int.reduceLE, Nat.reduceEqDiff, sidsB, Nat.reduceBEq, keyKD, isIntK, aggD, aggL, eqKs]
        first | done | rfl | (rw [← ll2])
      · rw [if_pos h3] at h2
        have rl : 0 < rest.length := by cases rest with | nil => cases h3 | cons _ _ => simp
        have rh : (rest.getD 0 0).toNat = d.del.toNat := by cases rest with | nil => cases h3 | cons c r => simp at h3; rw [← h3]; rfl
        have rn : ¬ rest = [] := by intro e; rw [e] at h3; cases h3
        simp (config := { maxSteps := 1000000 }) (disch := ((try simp only [awL]); omega)) only [Option.toList_some, Option.toList_none, nextC_more, nextC_over, bs_size, bs_extract, bs_toList, bs_append, byteAt_bs, bs_cells, nums_length, nums_getD, al, sp, rh, rn, ↓awU, awV, awF, ofVal, ofVal0, isShift, aggK, forall_const, ↓reduceIte, ↓reduceDIte, ↓purePost, combine, idsA, cellsA, numsOf, srcA, calleeA, refsA, isScalar, scalarD, scalar0, AV.one, putL, unfA, implies_true, IntKind.signed, Nat.reduceAdd, Nat.reduceSub, Nat.reduceMul, Nat.reducePow, Nat.reduceDiv, Nat.reduceMod, Int.reduceAdd, Int.reduceSub, Int.reduceMul, Int.reducePow, Int.reduceNeg, Int.reduceToNat, Int.reduceLT, Int.reduceLE, Nat.reduceEqDiff, sidsB, Nat.reduceBEq, keyKD, isIntK, aggD, aggL, eqKs]
        refine ⟨by rfl, (acc2, rest.drop 1), ⟨by simp only [List.length_drop]; omega, ?_⟩, by simp only [List.length_drop]; omega, ⟨[some 0, some 3], rfl, by simp, by simp [setsA, keepA, SWeak, AWeak, ll2], by simp [HWeak, BWeak, SWeak, AWeak]⟩⟩
        rw [h2, Option.map_map, ← hacc2]
        simp only [Function.comp_def, List.append_assoc, List.cons_append, List.nil_append]
      · rw [if_neg h4] at h2
        simp only [Option.map_some, hacc2] at h2
        have e1 : recR d l = .d (.tup [Ss acc2 false, .bool true]) := by rw [recR, h2]
        have e2 : recH d l = ScanM d (rest.drop (endL rest)) := by rw [recH, h2]
        rw [e1, e2]
        have rl := List.length_pos_iff.2 h3
        have rh : ¬ (rest.getD 0 0).toNat = d.del.toNat := by cases rest with | nil => cases h3 rfl | cons c r => intro e; exact h4 (by rw [show c = d.del from UInt8.toNat_inj.1 e]; rfl)
        have el := endL_le rest
        simp (config := { maxSteps := 1000000 }) (disch := ((try simp only [awL]); omega)) only [Option.toList_some, Option.toList_none, nextC_more, nextC_over, bs_size, bs_extract, bs_toList, bs_append, byteAt_bs, bs_cells, nums_length, nums_getD, al, sp, rh, h3, ↓awU, awV, awF, ofVal, ofVal0, isShift, aggK, forall_const, ↓reduceIte, ↓reduceDIte, ↓purePost, combine, idsA, cellsA, numsOf, srcA, calleeA, refsA, isScalar, scalarD, scalar0, AV.one, putL, unfA, implies_true, IntKind.signed, Nat.reduceAdd, Nat.reduceSub, Nat.reduceMul, Nat.reducePow, Nat.reduceDiv, Nat.reduceMod, Int.reduceAdd, Int.reduceSub, Int.reduceMul, Int.reducePow, Int.reduceNeg, Int.reduceToNat, Int.reduceLT, Int.reduceLE, Nat.reduceEqDiff, sidsB, Nat.reduceBEq, keyKD, isIntK, aggD, aggL, eqKs]
        refine ⟨by rfl, ?_⟩
        refine CallC.keep [0] (end_spec d rest) (by rfl) (by rfl) (Nat.le_refl _) (by simp [callEff, outW, outN, frz]) (by simp [callEff, outW, outN, renB, renL, renA, frz]) ?_
        generalize endL rest = n at *
        simp (config := { maxSteps := 1000000 }) (disch := ((try simp only [awL]); omega)) only [Option.toList_some, Option.toList_none, nextC_more, nextC_over, bs_size, bs_extract, bs_toList, bs_append, byteAt_bs, bs_cells, nums_length, nums_getD, al, sp, ↓awU, awV, awF, ofVal, ofVal0, isShift, aggK, forall_const, ↓reduceIte, ↓reduceDIte, ↓purePost, combine, idsA, cellsA, numsOf, srcA, calleeA, refsA, isScalar, scalarD, scalar0, AV.one, putL, unfA, implies_true, IntKind.signed, Nat.reduceAdd, Nat.reduceSub, Nat.reduceMul, Nat.reducePow, Nat.reduceDiv, Nat.reduceMod, Int.reduceAdd, Int.reduceSub, Int.reduceMul, Int.reducePow, Int.reduceNeg, Int.reduceToNat, Int.reduceLT, Int.reduceLE, Nat.reduceEqDiff, sidsB, Nat.reduceBEq, keyKD, isIntK, aggD, aggL, eqKs]
        refine ⟨by rfl, ?_⟩
        refine ⟨[some 0], rfl, by simp, by simp [HWeak, BWeak, SWeak, AWeak], .inr ⟨_, rfl, ?_, rfl⟩⟩
        have cu : cut (strs acc2) 0 (acc.length + 1) = strs acc2 := cut_all (by rw [al2, ll2])
        simp (config := { maxSteps := 1000000 }) (disch := ((try simp only [awL]); omega)) only [al, al2, ll2, cu, strs_unf, ↓awU, awV, awF, ofVal, ofVal0, isShift, aggK, forall_const, ↓reduceIte, ↓reduceDIte, ↓purePost, combine, idsA, cellsA, numsOf, srcA, calleeA, refsA, isScalar, scalarD, scalar0, AV.one, putL, unfA, implies_true, IntKind.signed, Nat.reduceAdd, Nat.reduceSub, Nat.reduceMul, Nat.reducePow, Nat.reduceDiv, Nat.reduceMod, Int.reduceAdd, Int.reduceSub, Int.reduceMul, Int.reducePow, Int.reduceNeg, Int.reduceToNat, Int.reduceLT, Int.reduceLE, Nat.reduceEqDiff, sidsB, Nat.reduceBEq, keyKD, isIntK, aggD, aggL, eqKs]
        first | done | rfl | (rw [← ll2])
end Go.Proofs.YtjjanbljkoaojaaGreatDoor

namespace Go.Proofs.YtjjanbljkoaojaaGreatDoor
open Go Go.Proofs Go.Abs
variable {G : Globals}
/-! Reading a file. -/
theorem quotL_len (q : UInt8) : ∀ (n : Nat) (l : List UInt8) p, l.length = n → quotL q l = some p → p.1.length + p.2.length ≤ l.length := by
  intro n
  induction n using Nat.strongRecOn with
  | _ n ih =>
    intro l p hn h
    match l, h with
    | [], h => cases h
    | [c], h =>
      rw [quotL] at h
      split at h
      · cases h; simp
      · cases h
    | c :: e :: r, h =>
      rw [quotL] at h
      split at h
      · split at h
        · cases hq : quotL q r with
          | none => rw [hq] at h; cases h
          | some p' =>
            rw [hq] at h; cases h
            have := ih r.length (by simp at hn; omega) r p' rfl hq
            simp; omega
        · cases h; simp
      · cases hq : quotL q (e :: r) with
        | none => rw [hq] at h; cases h
        | some p' =>
          rw [hq] at h; cases h
          have := ih (e :: r).length (by simp at hn ⊢; omega) (e :: r) p' rfl hq
          simp at this ⊢; omega
theorem skipL_le (d : Dia) (l : List UInt8) : (skipL d l).length ≤ l.length := by
  obtain ⟨k, h1, h2⟩ := skipL_suffix d l
  rw [h1, List.length_drop]; omega
theorem trimR_le (d : Dia) (l : List UInt8) : (trimR d l).length ≤ l.length := by
  unfold trimR
  split
  · rw [List.length_reverse]
    refine Nat.le_trans (List.dropWhile_sublist _).length_le (by simp)
  · exact Nat.le_refl _
theorem fieldL_len {d : Dia} {l : List UInt8} {p : List UInt8 × List UInt8} (h : fieldL d l = some p) : p.1.length + p.2.length ≤ l.length := by
  have s1 := skipL_le d l
  unfold fieldL at h
  split at h
  · split at h
    · cases h
    · rename_i q hq
      have h1 := quotL_len d.quo _ _ _ rfl hq
      split at h
      · cases h
        have := skipL_le d q.2
        rw [List.length_drop] at h1
        show q.1.length + (skipL d q.2).length ≤ _
        omega
      · cases h
  · cases h
    have h1 := trimR_le d (plainL d (skipL d l))
    have h2 := plainL_le d (skipL d l)
    show (trimR d (plainL d (skipL d l))).length + ((skipL d l).drop _).length ≤ _
    rw [List.length_drop]; omega
theorem recF_len (d : Dia) : ∀ (n : Nat) (l : List UInt8) p, recF d n l = some p → 1 ≤ p.1.length ∧ p.1.length ≤ l.length + 1 ∧ p.2.length ≤ l.length ∧ ∀ s ∈ p.1, s.length ≤ l.length
  | 0, _, _, h => by cases h
  | n + 1, l, p, h => by
    rw [recF] at h
    cases hf : fieldL d l with
    | none => rw [hf] at h; cases h
    | some q =>
      rw [hf] at h
      have h1 := fieldL_len hf
      replace h : (if q.2.head? = some d.del then (recF d n (q.2.drop 1)).map fun s => (q.1 :: s.1, s.2) else some ([q.1], q.2.drop (endL q.2))) = some p := h
      split at h
      · rename_i hd
        cases hr : recF d n (q.2.drop 1) with
        | none => rw [hr] at h; cases h
        | some s =>
          rw [hr] at h; cases h
          obtain ⟨a1, a2, a3, a4⟩ := recF_len d n _ _ hr
          have hq : 1 ≤ q.2.length := by cases hq2 : q.2 with | nil => rw [hq2] at hd; cases hd | cons _ _ => simp
          rw [List.length_drop] at a2 a3
          refine ⟨by simp, by simp; omega, by show s.2.length ≤ _; omega, fun x hx => ?_⟩
          rcases List.mem_cons.1 hx with rfl | hx
          · omega
          · have := a4 x hx
            rw [List.length_drop] at this; omega
      · cases h
        refine ⟨by simp, by simp, by show (q.2.drop _).length ≤ _; rw [List.length_drop]; omega, fun x hx => ?_⟩
        rw [List.mem_singleton.1 hx]; omega
theorem rowsF_len (d : Dia) : ∀ (n : Nat) (l : List UInt8) g, rowsF d n l = some g → g.length ≤ l.length ∧ ∀ r ∈ g, 1 ≤ r.length ∧ r.length ≤ l.length + 1 ∧ ∀ s ∈ r, s.length ≤ l.length
  | 0, _, _, h => by cases h
  | n + 1, l, g, h => by
    rw [rowsF] at h
    split at h
    · cases h; simp
    · rename_i hne
      cases hr : recL d l with
      | none => rw [hr] at h; cases h
      | some p =>
        rw [hr] at h
        replace h : (rowsF d n p.2).map (fun q => p.1 :: q) = some g := h
        have hlt := recF_lt d _ l p hr hne
        obtain ⟨b1, b2, b3, b4⟩ := recF_len d _ _ _ hr
        cases hg : rowsF d n p.2 with
        | none => rw [hg] at h; cases h
        | some g2 =>
          rw [hg] at h; cases h
          obtain ⟨c1, c2⟩ := rowsF_len d n _ _ hg
          refine ⟨by simp; omega, fun r hrm => ?_⟩
          rcases List.mem_cons.1 hrm with rfl | hrm
          · exact ⟨b1, b2, b4⟩
          · obtain ⟨e1, e2, e3⟩ := c2 r hrm
            exact ⟨e1, by omega, fun s hs => by have := e3 s hs; omega⟩
theorem rowsL_ok {d : Dia} {l : List UInt8} {g : List Row} (hl : l.length ≤ 100000000) (h : rowsL d l = some g) : okGrid g := by
  obtain ⟨h1, h2⟩ := rowsF_len d _ _ _ h
  exact ⟨by omega, fun r hr => ⟨by have := (h2 r hr).2.1; omega, fun s hs => by have := (h2 r hr).2.2 s hs; omega⟩⟩
/-- What Parse answers. -/
def parseL (d : Dia) (l : List UInt8) : List Row × Nat :=
  if okDia d = false then ([], 1) else if 1048576 < l.length then ([], 3) else if Lib.validD l = false then ([], 4) else
    match rowsL d l with
    | none => ([], 4)
    | some g => if bigG g then ([], 3) else (g, 0)
def gridE (x : List Row × Nat) : D := .tup [.agg [Gr x.1 false], .int .i64 x.2]
theorem okDia_quo {d : Dia} (h : okDia d = true) : d.quo.toNat < 128 := by
  rw [okDia_nat] at h
  have := of_decide_eq_true h
  omega
theorem rowsD_push {a : List Row} {x : Row} : rowsD a ++ [Ss x false] = rowsD (a ++ [x]) := by simp [rowsD]
theorem rowsD_unf {l : List Row} : (rowsD l).map unf0 = rowsD l := by
  simp only [rowsD, List.map_map]
  rfl
set_option maxHeartbeats 8000000 in
set_option maxRecDepth 100000 in
theorem parse_spec (hT : HT G) (d : Dia) (l : List UInt8) (hl : l.length ≤ 100000000) :
    Ctr Tryz.prog G 13 [.d d.D, .d (S l)] [] (.d (gridE (parseL d l))) [] := by
  refine Ctr.pure (M := M0) hmix Tryz.func13 rfl go13 ?_
  simp (config := { maxSteps := 1000000 }) (disch := ((try simp only [awL]); omega)) only [Option.toList_some, Option.toList_none, nextC_more, nextC_over, bs_size, bs_extract, bs_toList, bs_append, byteAt_bs, bs_cells, nums_length, nums_getD, Tryz.f13, ↓awU, awV, awF, ofVal, ofVal0, isShift, aggK, forall_const, ↓reduceIte, ↓reduceDIte, ↓purePost, combine, idsA, cellsA, numsOf, srcA, calleeA, refsA, isScalar, scalarD, scalar0, AV.one, putL, unfA, implies_true, IntKind.signed, Nat.reduceAdd, Nat.reduceSub, Nat.reduceMul, Nat.reducePow, Nat.reduceDiv, Nat.reduceMod, Int.reduceAdd, Int.reduceSub, Int.reduceMul, Int.reducePow, Int.reduceNeg, Int.reduceToNat, Int.reduceLT, Int.reduceLE, Nat.reduceEqDiff, sidsB, Nat.reduceBEq, keyKD, isIntK, aggD, aggL, eqKs]
  refine CallC.pure (dvalid_spec d) ?_
  unfold parseL
  cases hv : okDia d
  · simp (config := { maxSteps := 1000000 }) (disch := ((try simp only [awL]); omega)) only [Option.toList_some, Option.toList_none, nextC_more, nextC_over, bs_size, bs_extract, bs_toList, bs_append, byteAt_bs, bs_cells, nums_length, nums_getD, ↓awU, awV, awF, ofVal, ofVal0, isShift, aggK, forall_const, ↓reduceIte, ↓reduceDIte, ↓purePost, combine, idsA, cellsA, numsOf, srcA, calleeA, refsA, isScalar, scalarD, scalar0, AV.one, putL, unfA, implies_true, IntKind.signed, Nat.reduceAdd, Nat.reduceSub, Nat.reduceMul, Nat.reducePow, Nat.reduceDiv, Nat.reduceMod, Int.reduceAdd, Int.reduceSub, Int.reduceMul, Int.reducePow, Int.reduceNeg, Int.reduceToNat, Int.reduceLT, Int.reduceLE, Nat.reduceEqDiff, sidsB, Nat.reduceBEq, keyKD, isIntK, aggD, aggL, eqKs]
    rfl
  · have hq := okDia_quo hv
    rw [if_neg (by decide)]
    by_cases h1 : 1048576 < l.length
    · rw [if_pos h1]
      simp (config := { maxSteps := 1000000 }) (disch := ((try simp only [awL]); omega)) only [Option.toList_some, Option.toList_none, nextC_more, nextC_over, bs_size, bs_extract, bs_toList, bs_append, byteAt_bs, bs_cells, nums_length, nums_getD, ↓awU, awV, awF, ofVal, ofVal0, isShift, aggK, forall_const, ↓reduceIte, ↓reduceDIte, ↓purePost, combine, idsA, cellsA, numsOf, srcA, calleeA, refsA, isScalar, scalarD, scalar0, AV.one, putL, unfA, implies_true, IntKind.signed, Nat.reduceAdd, Nat.reduceSub, Nat.reduceMul, Nat.reducePow, Nat.reduceDiv, Nat.reduceMod, Int.reduceAdd, Int.reduceSub, Int.reduceMul, Int.reducePow, Int.reduceNeg, Int.reduceToNat, Int.reduceLT, Int.reduceLE, Nat.reduceEqDiff, sidsB, Nat.reduceBEq, keyKD, isIntK, aggD, aggL, eqKs]
      rfl
    · rw [if_neg h1]
      simp (config := { maxSteps := 1000000 }) (disch := ((try simp only [awL]); omega)) only [Option.toList_some, Option.toList_none, nextC_more, nextC_over, bs_size, bs_extract, bs_toList, bs_append, byteAt_bs, bs_cells, nums_length, nums_getD, ↓awU, awV, awF, ofVal, ofVal0, isShift, aggK, forall_const, ↓reduceIte, ↓reduceDIte, ↓purePost, combine, idsA, cellsA, numsOf, srcA, calleeA, refsA, isScalar, scalarD, scalar0, AV.one, putL, unfA, implies_true, IntKind.signed, Nat.reduceAdd, Nat.reduceSub, Nat.reduceMul, Nat.reducePow, Nat.reduceDiv, Nat.reduceMod, Int.reduceAdd, Int.reduceSub, Int.reduceMul, Int.reducePow, Int.reduceNeg, Int.reduceToNat, Int.reduceLT, Int.reduceLE, Nat.reduceEqDiff, sidsB, Nat.reduceBEq, keyKD, isIntK, aggD, aggL, eqKs]
      refine CallC.pure (tvalid_spec hT l (by omega)) ?_
      cases hl2 : Lib.validD l
      · simp (config := { maxSteps := 1000000 }) (disch := ((try simp only [awL]); omega)) only [Option.toList_some, Option.toList_none, nextC_more, nextC_over, bs_size, bs_extract, bs_toList, bs_append, byteAt_bs, bs_cells, nums_length, nums_getD, ↓awU, awV, awF, ofVal, ofVal0, isShift, aggK, forall_const, ↓reduceIte, ↓reduceDIte, ↓purePost, combine, idsA, cellsA, numsOf, srcA, calleeA, refsA, isScalar, scalarD, scalar0, AV.one, putL, unfA, implies_true, IntKind.signed, Nat.reduceAdd, Nat.reduceSub, Nat.reduceMul, Nat.reducePow, Nat.reduceDiv, Nat.reduceMod, Int.reduceAdd, Int.reduceSub, Int.reduceMul, Int.reducePow, Int.reduceNeg, Int.reduceToNat, Int.reduceLT, Int.reduceLE, Nat.reduceEqDiff, sidsB, Nat.reduceBEq, keyKD, isIntK, aggD, aggL, eqKs]
        rfl
      · rw [if_neg (by decide)]
        simp (config := { maxSteps := 1000000 }) (disch := ((try simp only [awL]); omega)) only [Option.toList_some, Option.toList_none, nextC_more, nextC_over, bs_size, bs_extract, bs_toList, bs_append, byteAt_bs, bs_cells, nums_length, nums_getD, ↓awU, awV, awF, ofVal, ofVal0, isShift, aggK, forall_const, ↓reduceIte, ↓reduceDIte, ↓purePost, combine, idsA, cellsA, numsOf, srcA, calleeA, refsA, isScalar, scalarD, scalar0, AV.one, putL, unfA, implies_true, IntKind.signed, Nat.reduceAdd, Nat.reduceSub, Nat.reduceMul, Nat.reducePow, Nat.reduceDiv, Nat.reduceMod, Int.reduceAdd, Int.reduceSub, Int.reduceMul, Int.reducePow, Int.reduceNeg, Int.reduceToNat, Int.reduceLT, Int.reduceLE, Nat.reduceEqDiff, sidsB, Nat.reduceBEq, keyKD, isIntK, aggD, aggL, eqKs]
        refine LoopC.fr 208 (α := List Row × List UInt8) (fun x => x.2.length) (fun _ => []) (fun x => [.dead, .box [.d (.sl 0 true [])], ScanM d x.2, .box [.lsl 4 1 0 x.1.length], .row false (rowsD x.1)])
          (fun x => x.1.length + x.2.length ≤ l.length ∧ rowsL d l = (rowsL d x.2).map fun g => x.1 ++ g) ([], l) ⟨by simp, by simp⟩ ?_ ?_
        · exact ⟨[some 0, some 1, some 2, some 3, none], rfl, by simp, by simp [setsA, keepA, SWeak, AWeak], by simp [HWeak, BWeak, SWeak, AWeak, rowsD]⟩
        · rintro ⟨acc, cur⟩ ⟨h3, h4⟩
          simp only at h3 h4
          have al := @rowsD_length acc
          simp only [awK, Nat.reduceMod, Nat.reduceDiv, reduceIte]
          by_cases hc : cur = []
          · subst hc
            simp only [rowsL_nil, Option.map_some, List.append_nil] at h4
            have ok := rowsL_ok hl h4
            rw [h4]
            simp (config := { maxSteps := 1000000 }) (disch := ((try simp only [awL]); omega)) only [Option.toList_some, Option.toList_none, nextC_more, nextC_over, bs_size, bs_extract, bs_toList, bs_append, byteAt_bs, bs_cells, nums_length, nums_getD, ↓awU, awV, awF, ofVal, ofVal0, isShift, aggK, forall_const, ↓reduceIte, ↓reduceDIte, ↓purePost, combine, idsA, cellsA, numsOf, srcA, calleeA, refsA, isScalar, scalarD, scalar0, AV.one, putL, unfA, implies_true, IntKind.signed, Nat.reduceAdd, Nat.reduceSub, Nat.reduceMul, Nat.reducePow, Nat.reduceDiv, Nat.reduceMod, Int.reduceAdd, Int.reduceSub, Int.reduceMul, Int.reducePow, Int.reduceNeg, Int.reduceToNat, Int.reduceLT, Int.reduceLE, Nat.reduceEqDiff, sidsB, Nat.reduceBEq, keyKD, isIntK, aggD, aggL, eqKs]
            have cu : cut (rowsD acc) 0 acc.length = rowsD acc := cut_all al.symm
            rw [cu]
            refine CallC.frozenE (big_spec acc false ok) (by rfl) ?_
            cases hb : bigG acc
            · simp (config := { maxSteps := 1000000 }) (disch := ((try simp only [awL]); omega)) only [Option.toList_some, Option.toList_none, nextC_more, nextC_over, bs_size, bs_extract, bs_toList, bs_append, byteAt_bs, bs_cells, nums_length, nums_getD, cu, ↓awU, awV, awF, ofVal, ofVal0, isShift, aggK, forall_const, ↓reduceIte, ↓reduceDIte, ↓purePost, combine, idsA, cellsA, numsOf, srcA, calleeA, refsA, isScalar, scalarD, scalar0, AV.one, putL, unfA, implies_true, IntKind.signed, Nat.reduceAdd, Nat.reduceSub, Nat.reduceMul, Nat.reducePow, Nat.reduceDiv, Nat.reduceMod, Int.reduceAdd, Int.reduceSub, Int.reduceMul, Int.reducePow, Int.reduceNeg, Int.reduceToNat, Int.reduceLT, Int.reduceLE, Nat.reduceEqDiff, sidsB, Nat.reduceBEq, keyKD, isIntK, aggD, aggL, eqKs]
              rfl
            · simp (config := { maxSteps := 1000000 }) (disch := ((try simp only [awL]); omega)) only [Option.toList_some, Option.toList_none, nextC_more, nextC_over, bs_size, bs_extract, bs_toList, bs_append, byteAt_bs, bs_cells, nums_length, nums_getD, cu, ↓awU, awV, awF, ofVal, ofVal0, isShift, aggK, forall_const, ↓reduceIte, ↓reduceDIte, ↓purePost, combine, idsA, cellsA, numsOf, srcA, calleeA, refsA, isScalar, scalarD, scalar0, AV.one, putL, unfA, implies_true, IntKind.signed, Nat.reduceAdd, Nat.reduceSub, Nat.reduceMul, Nat.reducePow, Nat.reduceDiv, Nat.reduceMod, Int.reduceAdd, Int.reduceSub, Int.reduceMul, Int.reducePow, Int.reduceNeg, Int.reduceToNat, Int.reduceLT, Int.reduceLE, Nat.reduceEqDiff, sidsB, Nat.reduceBEq, keyKD, isIntK, aggD, aggL, eqKs]
              rfl
          · have cl := List.length_pos_iff.2 hc
            simp (config := { maxSteps := 1000000 }) (disch := ((try simp only [awL]); omega)) only [Option.toList_some, Option.toList_none, nextC_more, nextC_over, bs_size, bs_extract, bs_toList, bs_append, byteAt_bs, bs_cells, nums_length, nums_getD, hc, ↓awU, awV, awF, ofVal, ofVal0, isShift, aggK, forall_const, ↓reduceIte, ↓reduceDIte, ↓purePost, combine, idsA, cellsA, numsOf, srcA, calleeA, refsA, isScalar, scalarD, scalar0, AV.one, putL, unfA, implies_true, IntKind.signed, Nat.reduceAdd, Nat.reduceSub, Nat.reduceMul, Nat.reducePow, Nat.reduceDiv, Nat.reduceMod, Int.reduceAdd, Int.reduceSub, Int.reduceMul, Int.reducePow, Int.reduceNeg, Int.reduceToNat, Int.reduceLT, Int.reduceLE, Nat.reduceEqDiff, sidsB, Nat.reduceBEq, keyKD, isIntK, aggD, aggL, eqKs]
            refine CallC.by (record_spec d cur hq (by omega)) (by rfl) (by rfl) (by simp) ?_
            rw [rowsL_eq d hc] at h4
            unfold recR recH
            cases hr : recL d cur with
            | none =>
              rw [hr] at h4
              simp only [Option.map_none] at h4
              rw [h4]
              simp (config := { maxSteps := 1000000 }) (disch := ((try simp only [awL]); omega)) only [Option.toList_some, Option.toList_none, nextC_more, nextC_over, bs_size, bs_extract, bs_toList, bs_append, byteAt_bs, bs_cells, nums_length, nums_getD, ↓awU, awV, awF, ofVal, ofVal0, isShift, aggK, forall_const, ↓reduceIte, ↓reduceDIte, ↓purePost, combine, idsA, cellsA, numsOf, srcA, calleeA, refsA, isScalar, scalarD, scalar0, AV.one, putL, unfA, implies_true, IntKind.signed, Nat.reduceAdd, Nat.reduceSub, Nat.reduceMul, Nat.reducePow, Nat.reduceDiv, Nat.reduceMod, Int.reduceAdd, Int.reduceSub, Int.reduceMul, Int.reducePow, Int.reduceNeg, Int.reduceToNat, Int.reduceLT, Int.reduceLE, Nat.reduceEqDiff, sidsB, Nat.reduceBEq, keyKD, isIntK, aggD, aggL, eqKs]
              rfl
            | some p =>
              have lt := recF_lt d _ cur p hr hc
              rw [hr] at h4
              simp only at h4
              have sp := @rowsD_push acc p.1
              simp (config := { maxSteps := 1000000 }) (disch := ((try simp only [awL]); omega)) only [Option.toList_some, Option.toList_none, nextC_more, nextC_over, bs_size, bs_extract, bs_toList, bs_append, byteAt_bs, bs_cells, nums_length, nums_getD, al, sp, ↓awU, awV, awF, ofVal, ofVal0, isShift, aggK, forall_const, ↓reduceIte, ↓reduceDIte, ↓purePost, combine, idsA, cellsA, numsOf, srcA, calleeA, refsA, isScalar, scalarD, scalar0, AV.one, putL, unfA, implies_true, IntKind.signed, Nat.reduceAdd, Nat.reduceSub, Nat.reduceMul, Nat.reducePow, Nat.reduceDiv, Nat.reduceMod, Int.reduceAdd, Int.reduceSub, Int.reduceMul, Int.reducePow, Int.reduceNeg, Int.reduceToNat, Int.reduceLT, Int.reduceLE, Nat.reduceEqDiff, sidsB, Nat.reduceBEq, keyKD, isIntK, aggD, aggL, eqKs]
              exact ⟨(acc ++ [p.1], p.2), ⟨by simp; omega, by
                rw [h4, Option.map_map]
                simp only [Function.comp_def, List.append_assoc, List.cons_append, List.nil_append]⟩, by simp only; omega, ⟨[some 0, some 1, some 2, some 3, some 6], rfl, by simp, by simp [setsA, keepA, SWeak, AWeak], by simp [HWeak, BWeak, SWeak, AWeak]⟩⟩
end Go.Proofs.YtjjanbljkoaojaaGreatDoor

namespace Go.Proofs.YtjjanbljkoaojaaGreatDoor
open Go Go.Proofs Go.Abs
variable {G : Globals}
/-! Which texts fit; how a field is written. -/
def padL (s : List UInt8) : Prop := s.head? = some 32 ∨ s.getLast? = some 32
instance (s : List UInt8) : Decidable (padL s) := by unfold padL; exact inferInstance
def fitsL (d : Dia) (s : List UInt8) : Bool := okDia d && (Lib.validD s && (!hasNl s && (!decide (d.del ∈ s) && (!decide (d.quo ≠ 0 ∧ s.head? = some d.quo) && !decide (d.trim = true ∧ padL s)))))
theorem dropWhile_self {p : UInt8 → Bool} : ∀ {l : List UInt8}, l.dropWhile p = l ↔ ∀ c, l.head? = some c → p c = false
  | [] => by simp
  | c :: r => by
    rw [List.dropWhile_cons]
    cases h : p c
    · simp [h]
    · simp only [if_true, List.head?_cons, Option.some.injEq]
      constructor
      · intro e
        have h1 := (List.dropWhile_sublist p (l := r)).length_le
        rw [e] at h1; simp at h1; omega
      · intro e; have := e c rfl; rw [h] at this; cases this
theorem trimB_self {s : List UInt8} : Lib.trimB s 32 = s ↔ ¬ padL s := by
  have e1 : Lib.trimRightB s 32 = s ↔ s.getLast? ≠ some 32 := by
    unfold Lib.trimRightB
    rw [show ((s.reverse.dropWhile (· == 32)).reverse = s) ↔ (s.reverse.dropWhile (· == 32) = s.reverse) from ⟨fun h => by have := congrArg List.reverse h; rwa [List.reverse_reverse] at this, fun h => by rw [h, List.reverse_reverse]⟩]
    rw [dropWhile_self, List.head?_reverse]
    constructor
    · intro h e; have := h 32 e; simp at this
    · intro h c hc; simpa using fun e : c = 32 => h (e ▸ hc)
  have e2 : ∀ l : List UInt8, Lib.trimLeftB l 32 = l ↔ l.head? ≠ some 32 := fun l => by
    unfold Lib.trimLeftB
    rw [dropWhile_self]
    constructor
    · intro h e; have := h 32 e; simp at this
    · intro h c hc; simpa using fun e : c = 32 => h (e ▸ hc)
  have l1 : (Lib.trimRightB s 32).length ≤ s.length := by
    unfold Lib.trimRightB
    rw [List.length_reverse]
    exact Nat.le_trans (List.dropWhile_sublist _).length_le (by simp)
  have l2 : ∀ l : List UInt8, (Lib.trimLeftB l 32).length ≤ l.length := fun l => (List.dropWhile_sublist _).length_le
  have s1 : (Lib.trimRightB s 32).length = s.length → Lib.trimRightB s 32 = s := fun h => by
    unfold Lib.trimRightB at h ⊢
    have := (List.dropWhile_sublist (fun x : UInt8 => x == 32) (l := s.reverse)).eq_of_length (by simpa using h)
    rw [this, List.reverse_reverse]
  unfold padL Lib.trimB
  constructor
  · intro h
    have h1 := l2 (Lib.trimRightB s 32)
    rw [h] at h1
    have h2 := s1 (by omega)
    rw [h2] at h
    exact fun e => e.elim ((e2 s).1 h) (e1.1 h2)
  · intro h
    have h1 : Lib.trimRightB s 32 = s := e1.2 fun e => h (.inr e)
    rw [h1]
    exact (e2 s).2 fun e => h (.inl e)
theorem index_mem (s : List UInt8) (c : UInt8) : 0 ≤ Lib.indexByte s c ↔ c ∈ s := by
  obtain ⟨h1, h2⟩ := cut_index c s
  constructor
  · intro h
    by_cases hm : c ∈ s
    · exact hm
    · have := (h2 hm).1; omega
  · intro h
    obtain ⟨k, hk, _⟩ := h1 h; omega
set_option maxHeartbeats 8000000 in
set_option maxRecDepth 100000 in
theorem fits_spec (hT : HT G) (d : Dia) (s : List UInt8) (hs : s.length ≤ 1000000000) : Ctr Tryz.prog G 16 [.d d.D, .d (S s)] [] (.d (.bool (fitsL d s))) [] := by
  obtain ⟨r, hr⟩ : ∃ r, r = fitsL d s := ⟨_, rfl⟩
  rw [← hr]
  unfold fitsL at hr
  refine Ctr.pure (M := M0) hmix Tryz.func16 rfl go16 ?_
  simp (config := { maxSteps := 1000000 }) (disch := ((try simp only [awL]); omega)) only [Option.toList_some, Option.toList_none, nextC_more, nextC_over, bs_size, bs_extract, bs_toList, bs_append, byteAt_bs, bs_cells, nums_length, nums_getD, Tryz.f16, ↓awU, awV, awF, ofVal, ofVal0, isShift, aggK, forall_const, ↓reduceIte, ↓reduceDIte, ↓purePost, combine, idsA, cellsA, numsOf, srcA, calleeA, refsA, isScalar, scalarD, scalar0, AV.one, putL, unfA, implies_true, IntKind.signed, Nat.reduceAdd, Nat.reduceSub, Nat.reduceMul, Nat.reducePow, Nat.reduceDiv, Nat.reduceMod, Int.reduceAdd, Int.reduceSub, Int.reduceMul, Int.reducePow, Int.reduceNeg, Int.reduceToNat, Int.reduceLT, Int.reduceLE, Nat.reduceEqDiff, sidsB, Nat.reduceBEq, keyKD, isIntK, aggD, aggL, eqKs]
  refine CallC.pure (dvalid_spec d) ?_
  cases h1 : okDia d
  · simp (config := { maxSteps := 1000000 }) (disch := ((try simp only [awL]); omega)) only [Option.toList_some, Option.toList_none, nextC_more, nextC_over, bs_size, bs_extract, bs_toList, bs_append, byteAt_bs, bs_cells, nums_length, nums_getD, ↓awU, awV, awF, ofVal, ofVal0, isShift, aggK, forall_const, ↓reduceIte, ↓reduceDIte, ↓purePost, combine, idsA, cellsA, numsOf, srcA, calleeA, refsA, isScalar, scalarD, scalar0, AV.one, putL, unfA, implies_true, IntKind.signed, Nat.reduceAdd, Nat.reduceSub, Nat.reduceMul, Nat.reducePow, Nat.reduceDiv, Nat.reduceMod, Int.reduceAdd, Int.reduceSub, Int.reduceMul, Int.reducePow, Int.reduceNeg, Int.reduceToNat, Int.reduceLT, Int.reduceLE, Nat.reduceEqDiff, sidsB, Nat.reduceBEq, keyKD, isIntK, aggD, aggL, eqKs]
    simp [hr, h1]
  · simp (config := { maxSteps := 1000000 }) (disch := ((try simp only [awL]); omega)) only [Option.toList_some, Option.toList_none, nextC_more, nextC_over, bs_size, bs_extract, bs_toList, bs_append, byteAt_bs, bs_cells, nums_length, nums_getD, ↓awU, awV, awF, ofVal, ofVal0, isShift, aggK, forall_const, ↓reduceIte, ↓reduceDIte, ↓purePost, combine, idsA, cellsA, numsOf, srcA, calleeA, refsA, isScalar, scalarD, scalar0, AV.one, putL, unfA, implies_true, IntKind.signed, Nat.reduceAdd, Nat.reduceSub, Nat.reduceMul, Nat.reducePow, Nat.reduceDiv, Nat.reduceMod, Int.reduceAdd, Int.reduceSub, Int.reduceMul, Int.reducePow, Int.reduceNeg, Int.reduceToNat, Int.reduceLT, Int.reduceLE, Nat.reduceEqDiff, sidsB, Nat.reduceBEq, keyKD, isIntK, aggD, aggL, eqKs]
    refine CallC.pure (tvalid_spec hT s (by omega)) ?_
    cases h2 : Lib.validD s
    · simp (config := { maxSteps := 1000000 }) (disch := ((try simp only [awL]); omega)) only [Option.toList_some, Option.toList_none, nextC_more, nextC_over, bs_size, bs_extract, bs_toList, bs_append, byteAt_bs, bs_cells, nums_length, nums_getD, ↓awU, awV, awF, ofVal, ofVal0, isShift, aggK, forall_const, ↓reduceIte, ↓reduceDIte, ↓purePost, combine, idsA, cellsA, numsOf, srcA, calleeA, refsA, isScalar, scalarD, scalar0, AV.one, putL, unfA, implies_true, IntKind.signed, Nat.reduceAdd, Nat.reduceSub, Nat.reduceMul, Nat.reducePow, Nat.reduceDiv, Nat.reduceMod, Int.reduceAdd, Int.reduceSub, Int.reduceMul, Int.reducePow, Int.reduceNeg, Int.reduceToNat, Int.reduceLT, Int.reduceLE, Nat.reduceEqDiff, sidsB, Nat.reduceBEq, keyKD, isIntK, aggD, aggL, eqKs]
      simp [hr, h1, h2]
    · simp (config := { maxSteps := 1000000 }) (disch := ((try simp only [awL]); omega)) only [Option.toList_some, Option.toList_none, nextC_more, nextC_over, bs_size, bs_extract, bs_toList, bs_append, byteAt_bs, bs_cells, nums_length, nums_getD, ↓awU, awV, awF, ofVal, ofVal0, isShift, aggK, forall_const, ↓reduceIte, ↓reduceDIte, ↓purePost, combine, idsA, cellsA, numsOf, srcA, calleeA, refsA, isScalar, scalarD, scalar0, AV.one, putL, unfA, implies_true, IntKind.signed, Nat.reduceAdd, Nat.reduceSub, Nat.reduceMul, Nat.reducePow, Nat.reduceDiv, Nat.reduceMod, Int.reduceAdd, Int.reduceSub, Int.reduceMul, Int.reducePow, Int.reduceNeg, Int.reduceToNat, Int.reduceLT, Int.reduceLE, Nat.reduceEqDiff, sidsB, Nat.reduceBEq, keyKD, isIntK, aggD, aggL, eqKs]
      refine CallC.of (containsAny_spec s hs) (by rfl) ?_
      cases h3 : hasNl s
      · simp (config := { maxSteps := 1000000 }) (disch := ((try simp only [awL]); omega)) only [Option.toList_some, Option.toList_none, nextC_more, nextC_over, bs_size, bs_extract, bs_toList, bs_append, byteAt_bs, bs_cells, nums_length, nums_getD, ↓awU, awV, awF, ofVal, ofVal0, isShift, aggK, forall_const, ↓reduceIte, ↓reduceDIte, ↓purePost, combine, idsA, cellsA, numsOf, srcA, calleeA, refsA, isScalar, scalarD, scalar0, AV.one, putL, unfA, implies_true, IntKind.signed, Nat.reduceAdd, Nat.reduceSub, Nat.reduceMul, Nat.reducePow, Nat.reduceDiv, Nat.reduceMod, Int.reduceAdd, Int.reduceSub, Int.reduceMul, Int.reducePow, Int.reduceNeg, Int.reduceToNat, Int.reduceLT, Int.reduceLE, Nat.reduceEqDiff, sidsB, Nat.reduceBEq, keyKD, isIntK, aggD, aggL, eqKs]
        refine CallC.of (sIndexByte_spec s d.del) (by rfl) ?_
        have hm := index_mem s d.del
        generalize Lib.indexByte s d.del = z at *
        by_cases hd : d.del ∈ s
        · have hz := hm.2 hd
          simp (config := { maxSteps := 1000000 }) (disch := ((try simp only [awL]); omega)) only [Option.toList_some, Option.toList_none, nextC_more, nextC_over, bs_size, bs_extract, bs_toList, bs_append, byteAt_bs, bs_cells, nums_length, nums_getD, ↓awU, awV, awF, ofVal, ofVal0, isShift, aggK, forall_const, ↓reduceIte, ↓reduceDIte, ↓purePost, combine, idsA, cellsA, numsOf, srcA, calleeA, refsA, isScalar, scalarD, scalar0, AV.one, putL, unfA, implies_true, IntKind.signed, Nat.reduceAdd, Nat.reduceSub, Nat.reduceMul, Nat.reducePow, Nat.reduceDiv, Nat.reduceMod, Int.reduceAdd, Int.reduceSub, Int.reduceMul, Int.reducePow, Int.reduceNeg, Int.reduceToNat, Int.reduceLT, Int.reduceLE, Nat.reduceEqDiff, sidsB, Nat.reduceBEq, keyKD, isIntK, aggD, aggL, eqKs]
          simp [hr, h1, h2, h3, hd]
        · have hz : z < 0 := by
            rcases (by omega : 0 ≤ z ∨ z < 0) with h | h
            · exact absurd (hm.1 h) hd
            · exact h
          rw [h1, h2, h3, decide_eq_false hd] at hr
          simp only [Bool.not_false, Bool.true_and] at hr
          have hq : ¬ d.quo = 0 → ¬ d.quo.toNat = 0 := fun h1 e => h1 (UInt8.toNat_inj.1 e)
          have last : ∀ b : Bool, b = decide (¬ d.quo = 0 ∧ s.head? = some d.quo) → r = (!b && !decide (d.trim = true ∧ padL s)) := fun b hb => by rw [hb]; exact hr
          have fin : r = (!decide (¬ d.quo = 0 ∧ s.head? = some d.quo) && !decide (d.trim = true ∧ padL s)) := hr
          rcases (by
            by_cases e : d.quo = 0
            · exact .inl e
            · match s with
              | [] => exact .inr (.inl ⟨e, rfl⟩)
              | c :: t =>
                by_cases e2 : c = d.quo
                · exact .inr (.inr (.inl ⟨e, by simp, by rw [e2]; rfl, by rw [e2]; rfl⟩))
                · exact .inr (.inr (.inr ⟨e, by simp, fun h => e2 (UInt8.toNat_inj.1 h), fun h => e2 (by simpa using h)⟩)) :
            d.quo = 0 ∨ (¬ d.quo = 0 ∧ s = []) ∨ (¬ d.quo = 0 ∧ ¬ s = [] ∧ (s.getD 0 0).toNat = d.quo.toNat ∧ s.head? = some d.quo) ∨ (¬ d.quo = 0 ∧ ¬ s = [] ∧ ¬ (s.getD 0 0).toNat = d.quo.toNat ∧ ¬ s.head? = some d.quo)) with q1 | ⟨q1, q2⟩ | ⟨q1, q2, q3, q4⟩ | ⟨q1, q2, q3, q4⟩
          · have q0 : d.quo.toNat = 0 := by rw [q1]; rfl
            simp (config := { maxSteps := 1000000 }) (disch := ((try simp only [awL]); omega)) only [Option.toList_some, Option.toList_none, nextC_more, nextC_over, bs_size, bs_extract, bs_toList, bs_append, byteAt_bs, bs_cells, nums_length, nums_getD, ↓awU, awV, awF, ofVal, ofVal0, isShift, aggK, forall_const, ↓reduceIte, ↓reduceDIte, ↓purePost, combine, idsA, cellsA, numsOf, srcA, calleeA, refsA, isScalar, scalarD, scalar0, AV.one, putL, unfA, implies_true, IntKind.signed, Nat.reduceAdd, Nat.reduceSub, Nat.reduceMul, Nat.reducePow, Nat.reduceDiv, Nat.reduceMod, Int.reduceAdd, Int.reduceSub, Int.reduceMul, Int.reducePow, Int.reduceNeg, Int.reduceToNat, Int.reduceLT, Int.reduceLE, Nat.reduceEqDiff, sidsB, Nat.reduceBEq, keyKD, isIntK, aggD, aggL, eqKs]
            refine ⟨by rfl, ?_⟩
            cases ht : d.trim
            · simp (config := { maxSteps := 1000000 }) (disch := ((try simp only [awL]); omega)) only [Option.toList_some, Option.toList_none, nextC_more, nextC_over, bs_size, bs_extract, bs_toList, bs_append, byteAt_bs, bs_cells, nums_length, nums_getD, ht, ↓awU, awV, awF, ofVal, ofVal0, isShift, aggK, forall_const, ↓reduceIte, ↓reduceDIte, ↓purePost, combine, idsA, cellsA, numsOf, srcA, calleeA, refsA, isScalar, scalarD, scalar0, AV.one, putL, unfA, implies_true, IntKind.signed, Nat.reduceAdd, Nat.reduceSub, Nat.reduceMul, Nat.reducePow, Nat.reduceDiv, Nat.reduceMod, Int.reduceAdd, Int.reduceSub, Int.reduceMul, Int.reducePow, Int.reduceNeg, Int.reduceToNat, Int.reduceLT, Int.reduceLE, Nat.reduceEqDiff, sidsB, Nat.reduceBEq, keyKD, isIntK, aggD, aggL, eqKs]
              simp [hr, ht, q1]
            · simp (config := { maxSteps := 1000000 }) (disch := ((try simp only [awL]); omega)) only [Option.toList_some, Option.toList_none, nextC_more, nextC_over, bs_size, bs_extract, bs_toList, bs_append, byteAt_bs, bs_cells, nums_length, nums_getD, ht, ↓awU, awV, awF, ofVal, ofVal0, isShift, aggK, forall_const, ↓reduceIte, ↓reduceDIte, ↓purePost, combine, idsA, cellsA, numsOf, srcA, calleeA, refsA, isScalar, scalarD, scalar0, AV.one, putL, unfA, implies_true, IntKind.signed, Nat.reduceAdd, Nat.reduceSub, Nat.reduceMul, Nat.reducePow, Nat.reduceDiv, Nat.reduceMod, Int.reduceAdd, Int.reduceSub, Int.reduceMul, Int.reducePow, Int.reduceNeg, Int.reduceToNat, Int.reduceLT, Int.reduceLE, Nat.reduceEqDiff, sidsB, Nat.reduceBEq, keyKD, isIntK, aggD, aggL, eqKs]
              refine CallC.pure (ttrim_spec s (by first | omega | simp)) ?_
              have tb := trimB_self (s := s)
              generalize Lib.trimB s 32 = t at *
              by_cases hp : t = s
              · simp (config := { maxSteps := 1000000 }) (disch := ((try simp only [awL]); omega)) only [Option.toList_some, Option.toList_none, nextC_more, nextC_over, bs_size, bs_extract, bs_toList, bs_append, byteAt_bs, bs_cells, nums_length, nums_getD, hp, ↓awU, awV, awF, ofVal, ofVal0, isShift, aggK, forall_const, ↓reduceIte, ↓reduceDIte, ↓purePost, combine, idsA, cellsA, numsOf, srcA, calleeA, refsA, isScalar, scalarD, scalar0, AV.one, putL, unfA, implies_true, IntKind.signed, Nat.reduceAdd, Nat.reduceSub, Nat.reduceMul, Nat.reducePow, Nat.reduceDiv, Nat.reduceMod, Int.reduceAdd, Int.reduceSub, Int.reduceMul, Int.reducePow, Int.reduceNeg, Int.reduceToNat, Int.reduceLT, Int.reduceLE, Nat.reduceEqDiff, sidsB, Nat.reduceBEq, keyKD, isIntK, aggD, aggL, eqKs]
                simp [hr, ht, tb.1 hp, q1]
              · simp (config := { maxSteps := 1000000 }) (disch := ((try simp only [awL]); omega)) only [Option.toList_some, Option.toList_none, nextC_more, nextC_over, bs_size, bs_extract, bs_toList, bs_append, byteAt_bs, bs_cells, nums_length, nums_getD, hp, ↓awU, awV, awF, ofVal, ofVal0, isShift, aggK, forall_const, ↓reduceIte, ↓reduceDIte, ↓purePost, combine, idsA, cellsA, numsOf, srcA, calleeA, refsA, isScalar, scalarD, scalar0, AV.one, putL, unfA, implies_true, IntKind.signed, Nat.reduceAdd, Nat.reduceSub, Nat.reduceMul, Nat.reducePow, Nat.reduceDiv, Nat.reduceMod, Int.reduceAdd, Int.reduceSub, Int.reduceMul, Int.reducePow, Int.reduceNeg, Int.reduceToNat, Int.reduceLT, Int.reduceLE, Nat.reduceEqDiff, sidsB, Nat.reduceBEq, keyKD, isIntK, aggD, aggL, eqKs]
                have tp : padL s := by
                  by_cases h : padL s
                  · exact h
                  · exact absurd (tb.2 h) hp
                simp [hr, ht, tp, q1]
          · have q0 := hq q1
            subst q2
            simp (config := { maxSteps := 1000000 }) (disch := ((try simp only [awL]); omega)) only [Option.toList_some, Option.toList_none, nextC_more, nextC_over, bs_size, bs_extract, bs_toList, bs_append, byteAt_bs, bs_cells, nums_length, nums_getD, ↓awU, awV, awF, ofVal, ofVal0, isShift, aggK, forall_const, ↓reduceIte, ↓reduceDIte, ↓purePost, combine, idsA, cellsA, numsOf, srcA, calleeA, refsA, isScalar, scalarD, scalar0, AV.one, putL, unfA, implies_true, IntKind.signed, Nat.reduceAdd, Nat.reduceSub, Nat.reduceMul, Nat.reducePow, Nat.reduceDiv, Nat.reduceMod, Int.reduceAdd, Int.reduceSub, Int.reduceMul, Int.reducePow, Int.reduceNeg, Int.reduceToNat, Int.reduceLT, Int.reduceLE, Nat.reduceEqDiff, sidsB, Nat.reduceBEq, keyKD, isIntK, aggD, aggL, eqKs]
            refine ⟨by rfl, ?_⟩
            cases ht : d.trim
            · simp (config := { maxSteps := 1000000 }) (disch := ((try simp only [awL]); omega)) only [Option.toList_some, Option.toList_none, nextC_more, nextC_over, bs_size, bs_extract, bs_toList, bs_append, byteAt_bs, bs_cells, nums_length, nums_getD, ht, ↓awU, awV, awF, ofVal, ofVal0, isShift, aggK, forall_const, ↓reduceIte, ↓reduceDIte, ↓purePost, combine, idsA, cellsA, numsOf, srcA, calleeA, refsA, isScalar, scalarD, scalar0, AV.one, putL, unfA, implies_true, IntKind.signed, Nat.reduceAdd, Nat.reduceSub, Nat.reduceMul, Nat.reducePow, Nat.reduceDiv, Nat.reduceMod, Int.reduceAdd, Int.reduceSub, Int.reduceMul, Int.reducePow, Int.reduceNeg, Int.reduceToNat, Int.reduceLT, Int.reduceLE, Nat.reduceEqDiff, sidsB, Nat.reduceBEq, keyKD, isIntK, aggD, aggL, eqKs]
              simp [hr, ht, q1]
            · simp (config := { maxSteps := 1000000 }) (disch := ((try simp only [awL]); omega)) only [Option.toList_some, Option.toList_none, nextC_more, nextC_over, bs_size, bs_extract, bs_toList, bs_append, byteAt_bs, bs_cells, nums_length, nums_getD, ht, ↓awU, awV, awF, ofVal, ofVal0, isShift, aggK, forall_const, ↓reduceIte, ↓reduceDIte, ↓purePost, combine, idsA, cellsA, numsOf, srcA, calleeA, refsA, isScalar, scalarD, scalar0, AV.one, putL, unfA, implies_true, IntKind.signed, Nat.reduceAdd, Nat.reduceSub, Nat.reduceMul, Nat.reducePow, Nat.reduceDiv, Nat.reduceMod, Int.reduceAdd, Int.reduceSub, Int.reduceMul, Int.reducePow, Int.reduceNeg, Int.reduceToNat, Int.reduceLT, Int.reduceLE, Nat.reduceEqDiff, sidsB, Nat.reduceBEq, keyKD, isIntK, aggD, aggL, eqKs]
              refine CallC.pure (ttrim_spec [] (by first | omega | simp)) ?_
              have tb := trimB_self (s := [])
              generalize Lib.trimB [] 32 = t at *
              by_cases hp : t = []
              · simp (config := { maxSteps := 1000000 }) (disch := ((try simp only [awL]); omega)) only [Option.toList_some, Option.toList_none, nextC_more, nextC_over, bs_size, bs_extract, bs_toList, bs_append, byteAt_bs, bs_cells, nums_length, nums_getD, hp, ↓awU, awV, awF, ofVal, ofVal0, isShift, aggK, forall_const, ↓reduceIte, ↓reduceDIte, ↓purePost, combine, idsA, cellsA, numsOf, srcA, calleeA, refsA, isScalar, scalarD, scalar0, AV.one, putL, unfA, implies_true, IntKind.signed, Nat.reduceAdd, Nat.reduceSub, Nat.reduceMul, Nat.reducePow, Nat.reduceDiv, Nat.reduceMod, Int.reduceAdd, Int.reduceSub, Int.reduceMul, Int.reducePow, Int.reduceNeg, Int.reduceToNat, Int.reduceLT, Int.reduceLE, Nat.reduceEqDiff, sidsB, Nat.reduceBEq, keyKD, isIntK, aggD, aggL, eqKs]
                simp [hr, ht, tb.1 hp, q1]
              · simp (config := { maxSteps := 1000000 }) (disch := ((try simp only [awL]); omega)) only [Option.toList_some, Option.toList_none, nextC_more, nextC_over, bs_size, bs_extract, bs_toList, bs_append, byteAt_bs, bs_cells, nums_length, nums_getD, hp, ↓awU, awV, awF, ofVal, ofVal0, isShift, aggK, forall_const, ↓reduceIte, ↓reduceDIte, ↓purePost, combine, idsA, cellsA, numsOf, srcA, calleeA, refsA, isScalar, scalarD, scalar0, AV.one, putL, unfA, implies_true, IntKind.signed, Nat.reduceAdd, Nat.reduceSub, Nat.reduceMul, Nat.reducePow, Nat.reduceDiv, Nat.reduceMod, Int.reduceAdd, Int.reduceSub, Int.reduceMul, Int.reducePow, Int.reduceNeg, Int.reduceToNat, Int.reduceLT, Int.reduceLE, Nat.reduceEqDiff, sidsB, Nat.reduceBEq, keyKD, isIntK, aggD, aggL, eqKs]
                have tp : padL [] := by
                  by_cases h : padL []
                  · exact h
                  · exact absurd (tb.2 h) hp
                simp [hr, ht, tp, q1]
          · have q0 := hq q1
            have sl := List.length_pos_iff.2 q2
            simp (config := { maxSteps := 1000000 }) (disch := ((try simp only [awL]); omega)) only [Option.toList_some, Option.toList_none, nextC_more, nextC_over, bs_size, bs_extract, bs_toList, bs_append, byteAt_bs, bs_cells, nums_length, nums_getD, q2, q3, ↓awU, awV, awF, ofVal, ofVal0, isShift, aggK, forall_const, ↓reduceIte, ↓reduceDIte, ↓purePost, combine, idsA, cellsA, numsOf, srcA, calleeA, refsA, isScalar, scalarD, scalar0, AV.one, putL, unfA, implies_true, IntKind.signed, Nat.reduceAdd, Nat.reduceSub, Nat.reduceMul, Nat.reducePow, Nat.reduceDiv, Nat.reduceMod, Int.reduceAdd, Int.reduceSub, Int.reduceMul, Int.reducePow, Int.reduceNeg, Int.reduceToNat, Int.reduceLT, Int.reduceLE, Nat.reduceEqDiff, sidsB, Nat.reduceBEq, keyKD, isIntK, aggD, aggL, eqKs]
            exact ⟨by rfl, by simp [hr, q1, q4]⟩
          · have q0 := hq q1
            have sl := List.length_pos_iff.2 q2
            simp (config := { maxSteps := 1000000 }) (disch := ((try simp only [awL]); omega)) only [Option.toList_some, Option.toList_none, nextC_more, nextC_over, bs_size, bs_extract, bs_toList, bs_append, byteAt_bs, bs_cells, nums_length, nums_getD, q2, ↓awU, awV, awF, ofVal, ofVal0, isShift, aggK, forall_const, ↓reduceIte, ↓reduceDIte, ↓purePost, combine, idsA, cellsA, numsOf, srcA, calleeA, refsA, isScalar, scalarD, scalar0, AV.one, putL, unfA, implies_true, IntKind.signed, Nat.reduceAdd, Nat.reduceSub, Nat.reduceMul, Nat.reducePow, Nat.reduceDiv, Nat.reduceMod, Int.reduceAdd, Int.reduceSub, Int.reduceMul, Int.reducePow, Int.reduceNeg, Int.reduceToNat, Int.reduceLT, Int.reduceLE, Nat.reduceEqDiff, sidsB, Nat.reduceBEq, keyKD, isIntK, aggD, aggL, eqKs]
            refine ⟨by rfl, ?_⟩
            cases ht : d.trim
            · simp (config := { maxSteps := 1000000 }) (disch := ((try simp only [awL]); omega)) only [Option.toList_some, Option.toList_none, nextC_more, nextC_over, bs_size, bs_extract, bs_toList, bs_append, byteAt_bs, bs_cells, nums_length, nums_getD, ht, ↓awU, awV, awF, ofVal, ofVal0, isShift, aggK, forall_const, ↓reduceIte, ↓reduceDIte, ↓purePost, combine, idsA, cellsA, numsOf, srcA, calleeA, refsA, isScalar, scalarD, scalar0, AV.one, putL, unfA, implies_true, IntKind.signed, Nat.reduceAdd, Nat.reduceSub, Nat.reduceMul, Nat.reducePow, Nat.reduceDiv, Nat.reduceMod, Int.reduceAdd, Int.reduceSub, Int.reduceMul, Int.reducePow, Int.reduceNeg, Int.reduceToNat, Int.reduceLT, Int.reduceLE, Nat.reduceEqDiff, sidsB, Nat.reduceBEq, keyKD, isIntK, aggD, aggL, eqKs]
              simp [hr, ht, q1, q4]
            · simp (config := { maxSteps := 1000000 }) (disch := ((try simp only [awL]); omega)) only [Option.toList_some, Option.toList_none, nextC_more, nextC_over, bs_size, bs_extract, bs_toList, bs_append, byteAt_bs, bs_cells, nums_length, nums_getD, ht, ↓awU, awV, awF, ofVal, ofVal0, isShift, aggK, forall_const, ↓reduceIte, ↓reduceDIte, ↓purePost, combine, idsA, cellsA, numsOf, srcA, calleeA, refsA, isScalar, scalarD, scalar0, AV.one, putL, unfA, implies_true, IntKind.signed, Nat.reduceAdd, Nat.reduceSub, Nat.reduceMul, Nat.reducePow, Nat.reduceDiv, Nat.reduceMod, Int.reduceAdd, Int.reduceSub, Int.reduceMul, Int.reducePow, Int.reduceNeg, Int.reduceToNat, Int.reduceLT, Int.reduceLE, Nat.reduceEqDiff, sidsB, Nat.reduceBEq, keyKD, isIntK, aggD, aggL, eqKs]
              refine CallC.pure (ttrim_spec s (by first | omega | simp)) ?_
              have tb := trimB_self (s := s)
              generalize Lib.trimB s 32 = t at *
              by_cases hp : t = s
              · simp (config := { maxSteps := 1000000 }) (disch := ((try simp only [awL]); omega)) only [Option.toList_some, Option.toList_none, nextC_more, nextC_over, bs_size, bs_extract, bs_toList, bs_append, byteAt_bs, bs_cells, nums_length, nums_getD, hp, ↓awU, awV, awF, ofVal, ofVal0, isShift, aggK, forall_const, ↓reduceIte, ↓reduceDIte, ↓purePost, combine, idsA, cellsA, numsOf, srcA, calleeA, refsA, isScalar, scalarD, scalar0, AV.one, putL, unfA, implies_true, IntKind.signed, Nat.reduceAdd, Nat.reduceSub, Nat.reduceMul, Nat.reducePow, Nat.reduceDiv, Nat.reduceMod, Int.reduceAdd, Int.reduceSub, Int.reduceMul, Int.reducePow, Int.reduceNeg, Int.reduceToNat, Int.reduceLT, Int.reduceLE, Nat.reduceEqDiff, sidsB, Nat.reduceBEq, keyKD, isIntK, aggD, aggL, eqKs]
                simp [hr, ht, tb.1 hp, q1, q4]
              · simp (config := { maxSteps := 1000000 }) (disch := ((try simp only [awL]); omega)) only [Option.toList_some, Option.toList_none, nextC_more, nextC_over, bs_size, bs_extract, bs_toList, bs_append, byteAt_bs, bs_cells, nums_length, nums_getD, hp, ↓awU, awV, awF, ofVal, ofVal0, isShift, aggK, forall_const, ↓reduceIte, ↓reduceDIte, ↓purePost, combine, idsA, cellsA, numsOf, srcA, calleeA, refsA, isScalar, scalarD, scalar0, AV.one, putL, unfA, implies_true, IntKind.signed, Nat.reduceAdd, Nat.reduceSub, Nat.reduceMul, Nat.reducePow, Nat.reduceDiv, Nat.reduceMod, Int.reduceAdd, Int.reduceSub, Int.reduceMul, Int.reducePow, Int.reduceNeg, Int.reduceToNat, Int.reduceLT, Int.reduceLE, Nat.reduceEqDiff, sidsB, Nat.reduceBEq, keyKD, isIntK, aggD, aggL, eqKs]
                have tp : padL s := by
                  by_cases h : padL s
                  · exact h
                  · exact absurd (tb.2 h) hp
                simp [hr, ht, tp, q1, q4]
      · simp (config := { maxSteps := 1000000 }) (disch := ((try simp only [awL]); omega)) only [Option.toList_some, Option.toList_none, nextC_more, nextC_over, bs_size, bs_extract, bs_toList, bs_append, byteAt_bs, bs_cells, nums_length, nums_getD, ↓awU, awV, awF, ofVal, ofVal0, isShift, aggK, forall_const, ↓reduceIte, ↓reduceDIte, ↓purePost, combine, idsA, cellsA, numsOf, srcA, calleeA, refsA, isScalar, scalarD, scalar0, AV.one, putL, unfA, implies_true, IntKind.signed, Nat.reduceAdd, Nat.reduceSub, Nat.reduceMul, Nat.reducePow, Nat.reduceDiv, Nat.reduceMod, Int.reduceAdd, Int.reduceSub, Int.reduceMul, Int.reducePow, Int.reduceNeg, Int.reduceToNat, Int.reduceLT, Int.reduceLE, Nat.reduceEqDiff, sidsB, Nat.reduceBEq, keyKD, isIntK, aggD, aggL, eqKs]
        simp [hr, h1, h2, h3]
end Go.Proofs.YtjjanbljkoaojaaGreatDoor

namespace Go.Proofs.YtjjanbljkoaojaaGreatDoor
open Go Go.Proofs Go.Abs
variable {G : Globals}
/-! Writing a file. -/
theorem dblL_cut (q : UInt8) : ∀ s : List UInt8, q ∈ s → dblL q s = cutL q s ++ [q, q] ++ dblL q (cutR q s)
  | [], h => by cases h
  | c :: r, h => by
    have e0 : dblL q (c :: r) = (if c = q then [q, q] else [c]) ++ dblL q r := rfl
    by_cases e : c = q
    · rw [e0, if_pos e, cutL, if_pos e, cutR, if_pos e]; rfl
    · rw [e0, if_neg e, cutL, if_neg e, cutR, if_neg e, dblL_cut q r ((List.mem_cons.1 h).resolve_left fun h => e h.symm)]
      simp
theorem dblL_none (q : UInt8) (s : List UInt8) (h : q ∉ s) : dblL q s = s := dblL_wide fun c hc e => h (e ▸ hc)
theorem replaceK_dbl (q : UInt8) : ∀ (n : Nat) (s : List UInt8), s.length = n → Lib.replaceK [q] [q, q] (s.count q) s = dblL q s := by
  intro n
  induction n using Nat.strongRecOn with
  | _ n ih =>
    intro s hn
    obtain ⟨c1, c2⟩ := cut_index q s
    by_cases hm : q ∈ s
    · obtain ⟨k, h1, h2, h3, h4⟩ := c1 hm
      have cl := cut_len q s hm
      have hi : Lib.index s [q] = k := by rw [Lib.index_one]; exact h1
      have hc : s.count q = (cutR q s).count q + 1 := by
        have e : s = s.take k ++ q :: s.drop (k + 1) := by
          have hk : s[k]'h2 = q := by
            have := Lib.count_hit (s := s) (sub := [q]) (by simp) hi
            have e1 := Lib.index_one s q
            have : ∀ (l : List UInt8) (k : Nat), Lib.indexByte l q = k → l[k]? = some q := by
              intro l
              induction l with
              | nil => intro k h; simp [Lib.indexByte] at h <;> omega
              | cons b r ihr =>
                intro k h
                rw [Lib.indexByte] at h
                split at h
                · rename_i hb
                  have hk0 : k = 0 := by omega
                  subst hk0
                  simpa using hb
                · split at h
                  · omega
                  · rename_i h5 h6
                    have ge : 0 ≤ Lib.indexByte r q := by
                      by_cases hmr : q ∈ r
                      · exact (index_mem r q).2 hmr
                      · have := ((cut_index q r).2 hmr).1
                        rw [this] at h6; simp at h6
                    obtain ⟨k', rfl⟩ : ∃ k', k = k' + 1 := ⟨k - 1, by omega⟩
                    simpa using ihr k' (by omega)
            have := this s k h1
            rw [List.getElem?_eq_getElem h2] at this
            exact Option.some.inj this
          rw [← hk, ← List.drop_eq_getElem_cons h2, List.take_append_drop]
        have nt : q ∉ s.take k := by
          rw [h3]
          have : ∀ l : List UInt8, q ∉ cutL q l := by
            intro l
            induction l with
            | nil => simp [cutL]
            | cons b r ihr =>
              rw [cutL]
              split
              · simp
              · rename_i hb; simp [ihr]; exact fun h => hb h.symm
          exact this s
        conv => lhs; rw [e]
        rw [List.count_append, List.count_eq_zero_of_not_mem nt, List.count_cons_self, h4]; omega
      rw [hc, Lib.replaceK_hit _ _ _ _ _ hi, show k + [q].length = k + 1 from rfl, h4, h3, ih (cutR q s).length (by omega) (cutR q s) rfl, dblL_cut q s hm]
    · rw [List.count_eq_zero_of_not_mem hm, Lib.replaceK, dblL_none q s hm]
theorem replaceAll_dbl (q : UInt8) (s : List UInt8) : Lib.replaceAll s [q] [q, q] = dblL q s := by
  unfold Lib.replaceAll Lib.replace
  have : ([q] == [q, q]) = false := by
    rw [beq_eq_false_iff_ne]; intro h; have := congrArg List.length h; simp at this
  rw [this, Lib.replaceNum, Lib.count_one]
  simp only [show (-1 : Int) < 0 from by decide, true_or, if_true]
  exact replaceK_dbl q _ s rfl
theorem dblL_len (q : UInt8) (s : List UInt8) : (dblL q s).length ≤ 2 * s.length := by
  induction s with
  | nil => simp [dblL]
  | cons c r ih =>
    have e0 : dblL q (c :: r) = (if c = q then [q, q] else [c]) ++ dblL q r := rfl
    rw [e0, List.length_append, List.length_cons]
    split <;> simp <;> omega
def quoL (d : Dia) (s : List UInt8) : List UInt8 := d.quo :: dblL d.quo s ++ [d.quo]
def wrL (d : Dia) (s : List UInt8) : List UInt8 := if fitsL d s then s else quoL d s
def okW (d : Dia) (s : List UInt8) : Bool := fitsL d s || decide (d.quo ≠ 0)
theorem wrL_len (d : Dia) (s : List UInt8) : (wrL d s).length ≤ 2 * s.length + 2 := by
  unfold wrL quoL
  split
  · omega
  · have := dblL_len d.quo s
    simp; omega
set_option maxHeartbeats 4000000 in
set_option maxRecDepth 100000 in
theorem written_spec (hT : HT G) (hM : HM G) (d : Dia) (s : List UInt8) (hq : d.quo.toNat < 128) (hs : s.length ≤ 100000) : Ctr Tryz.prog G 27 [.d d.D, .d (S s)] [] (.d (.tup [S (wrL d s), .bool (okW d s)])) [] := by
  refine Ctr.pure (M := M0) hmix Tryz.func27 rfl go27 ?_
  unfold wrL okW
  simp (config := { maxSteps := 1000000 }) (disch := ((try simp only [awL]); omega)) only [Option.toList_some, Option.toList_none, nextC_more, nextC_over, bs_size, bs_extract, bs_toList, bs_append, byteAt_bs, bs_cells, nums_length, nums_getD, Tryz.f27, ↓awU, awV, awF, ofVal, ofVal0, isShift, aggK, forall_const, ↓reduceIte, ↓reduceDIte, ↓purePost, combine, idsA, cellsA, numsOf, srcA, calleeA, refsA, isScalar, scalarD, scalar0, AV.one, putL, unfA, implies_true, IntKind.signed, Nat.reduceAdd, Nat.reduceSub, Nat.reduceMul, Nat.reducePow, Nat.reduceDiv, Nat.reduceMod, Int.reduceAdd, Int.reduceSub, Int.reduceMul, Int.reducePow, Int.reduceNeg, Int.reduceToNat, Int.reduceLT, Int.reduceLE, Nat.reduceEqDiff, sidsB, Nat.reduceBEq, keyKD, isIntK, aggD, aggL, eqKs]
  refine CallC.pure (fits_spec hT d s (by omega)) ?_
  cases h : fitsL d s
  · have en := enc_u8 d.quo hq
    rw [Bool.false_or, if_neg (by decide)]
    simp (config := { maxSteps := 1000000 }) (disch := ((try simp only [awL]); omega)) only [Option.toList_some, Option.toList_none, nextC_more, nextC_over, bs_size, bs_extract, bs_toList, bs_append, byteAt_bs, bs_cells, nums_length, nums_getD, en, ↓awU, awV, awF, ofVal, ofVal0, isShift, aggK, forall_const, ↓reduceIte, ↓reduceDIte, ↓purePost, combine, idsA, cellsA, numsOf, srcA, calleeA, refsA, isScalar, scalarD, scalar0, AV.one, putL, unfA, implies_true, IntKind.signed, Nat.reduceAdd, Nat.reduceSub, Nat.reduceMul, Nat.reducePow, Nat.reduceDiv, Nat.reduceMod, Int.reduceAdd, Int.reduceSub, Int.reduceMul, Int.reducePow, Int.reduceNeg, Int.reduceToNat, Int.reduceLT, Int.reduceLE, Nat.reduceEqDiff, sidsB, Nat.reduceBEq, keyKD, isIntK, aggD, aggL, eqKs]
    have dl := dblL_len d.quo s
    have ct : Lib.countB (bs s) (bs [d.quo]) ≤ 1000000000 := by
      show Lib.count s [d.quo] ≤ _
      have := Lib.count_le s [d.quo]; omega
    have rp := replaceAll_spec hM s [d.quo] [d.quo, d.quo] (by omega) (by simp) (by simp) ct
    rw [replaceAll_dbl] at rp
    refine CallC.of rp (by rfl) ?_
    have hz : d.quo = 0 ↔ d.quo.toNat = 0 := ⟨fun e => by rw [e]; rfl, fun e => UInt8.toNat_inj.1 e⟩
    by_cases q0 : d.quo = 0
    · have q1 := hz.1 q0
      simp (config := { maxSteps := 1000000 }) (disch := ((try simp only [awL]); omega)) only [Option.toList_some, Option.toList_none, nextC_more, nextC_over, bs_size, bs_extract, bs_toList, bs_append, byteAt_bs, bs_cells, nums_length, nums_getD, ↓awU, awV, awF, ofVal, ofVal0, isShift, aggK, forall_const, ↓reduceIte, ↓reduceDIte, ↓purePost, combine, idsA, cellsA, numsOf, srcA, calleeA, refsA, isScalar, scalarD, scalar0, AV.one, putL, unfA, implies_true, IntKind.signed, Nat.reduceAdd, Nat.reduceSub, Nat.reduceMul, Nat.reducePow, Nat.reduceDiv, Nat.reduceMod, Int.reduceAdd, Int.reduceSub, Int.reduceMul, Int.reducePow, Int.reduceNeg, Int.reduceToNat, Int.reduceLT, Int.reduceLE, Nat.reduceEqDiff, sidsB, Nat.reduceBEq, keyKD, isIntK, aggD, aggL, eqKs]
      exact ⟨by rfl, by simp [quoL, q0]⟩
    · have q1 := fun e => q0 (hz.2 e)
      simp (config := { maxSteps := 1000000 }) (disch := ((try simp only [awL]); omega)) only [Option.toList_some, Option.toList_none, nextC_more, nextC_over, bs_size, bs_extract, bs_toList, bs_append, byteAt_bs, bs_cells, nums_length, nums_getD, ↓awU, awV, awF, ofVal, ofVal0, isShift, aggK, forall_const, ↓reduceIte, ↓reduceDIte, ↓purePost, combine, idsA, cellsA, numsOf, srcA, calleeA, refsA, isScalar, scalarD, scalar0, AV.one, putL, unfA, implies_true, IntKind.signed, Nat.reduceAdd, Nat.reduceSub, Nat.reduceMul, Nat.reducePow, Nat.reduceDiv, Nat.reduceMod, Int.reduceAdd, Int.reduceSub, Int.reduceMul, Int.reducePow, Int.reduceNeg, Int.reduceToNat, Int.reduceLT, Int.reduceLE, Nat.reduceEqDiff, sidsB, Nat.reduceBEq, keyKD, isIntK, aggD, aggL, eqKs]
      exact ⟨by rfl, by simp [quoL, q0, show ¬ d.quo.toNat = 0 from q1]⟩
  · simp (config := { maxSteps := 1000000 }) (disch := ((try simp only [awL]); omega)) only [Option.toList_some, Option.toList_none, nextC_more, nextC_over, bs_size, bs_extract, bs_toList, bs_append, byteAt_bs, bs_cells, nums_length, nums_getD, ↓awU, awV, awF, ofVal, ofVal0, isShift, aggK, forall_const, ↓reduceIte, ↓reduceDIte, ↓purePost, combine, idsA, cellsA, numsOf, srcA, calleeA, refsA, isScalar, scalarD, scalar0, AV.one, putL, unfA, implies_true, IntKind.signed, Nat.reduceAdd, Nat.reduceSub, Nat.reduceMul, Nat.reducePow, Nat.reduceDiv, Nat.reduceMod, Int.reduceAdd, Int.reduceSub, Int.reduceMul, Int.reducePow, Int.reduceNeg, Int.reduceToNat, Int.reduceLT, Int.reduceLE, Nat.reduceEqDiff, sidsB, Nat.reduceBEq, keyKD, isIntK, aggD, aggL, eqKs]
/-- A row's text: 'first': nothing stands before it. -/
def jnL (d : Dia) : Bool → Row → List UInt8
  | _, [] => []
  | first, s :: r => (if first then [] else [d.del]) ++ wrL d s ++ jnL d false r
def textL (d : Dia) : List Row → List UInt8
  | [] => []
  | r :: g => jnL d true r ++ [10] ++ textL d g
def okR (d : Dia) (r : Row) : Bool := r.all (okW d)
def formL (d : Dia) (g : List Row) : List UInt8 × Nat :=
  if g.any badR = true ∨ okDia d = false then ([], 1) else if bigG g = true then ([], 3) else if g.all (okR d) = false then ([], 4) else
    if 1048576 < (textL d g).length then ([], 3) else (textL d g, 0)
def textE (x : List UInt8 × Nat) : D := .tup [S x.1, .int .i64 x.2]
theorem jn_step (d : Dia) {r : Row} {j : Nat} (h : j < r.length) : jnL d (decide (j = 0)) (r.drop j) = (if j = 0 then [] else [d.del]) ++ wrL d (r.getD j []) ++ jnL d (decide (j + 1 = 0)) (r.drop (j + 1)) := by
  rw [List.drop_eq_getElem_cons h, List.getD_eq_getElem?_getD, List.getElem?_eq_getElem h]
  have : decide (j + 1 = 0) = false := by simp
  rw [this]
  by_cases h0 : j = 0 <;> simp [jnL, h0]
theorem text_step (d : Dia) {g : List Row} {i : Nat} (h : i < g.length) : textL d (g.drop i) = jnL d true (g.getD i []) ++ [10] ++ textL d (g.drop (i + 1)) := by
  rw [List.drop_eq_getElem_cons h, List.getD_eq_getElem?_getD, List.getElem?_eq_getElem h]; rfl
theorem all_step {α : Type} {p : α → Bool} {l : List α} {i : Nat} {x : α} (h : i < l.length) : (l.drop i).all p = (p (l.getD i x) && (l.drop (i + 1)).all p) := by
  rw [List.drop_eq_getElem_cons h, List.getD_eq_getElem?_getD, List.getElem?_eq_getElem h, List.all_cons]; rfl
theorem jn_len (d : Dia) : ∀ (r : Row) (b : Bool), (∀ s ∈ r, s.length ≤ 1024) → (jnL d b r).length ≤ 2051 * r.length
  | [], _, _ => by simp [jnL]
  | s :: r, b, h => by
    have h1 := wrL_len d s
    have h2 := h s (by simp)
    have h3 := jn_len d r false fun x hx => h x (by simp [hx])
    simp only [jnL, List.length_append, List.length_cons]
    split <;> simp <;> omega
theorem small_row {r : Row} (h : bigR r = false) : r.length ≤ 64 ∧ ∀ s ∈ r, s.length ≤ 1024 := by
  unfold bigR at h
  simp only [Bool.or_eq_false_iff, decide_eq_false_iff_not] at h
  refine ⟨by omega, fun s hs => ?_⟩
  have := List.any_eq_false.1 h.2 s hs
  simp [bigF] at this; omega
theorem small_grid {g : List Row} (h : bigG g = false) : g.length ≤ 4096 ∧ ∀ r ∈ g, r.length ≤ 64 ∧ ∀ s ∈ r, s.length ≤ 1024 := by
  unfold bigG at h
  simp only [Bool.or_eq_false_iff, decide_eq_false_iff_not] at h
  refine ⟨by omega, fun r hr => ?_⟩
  have := List.any_eq_false.1 h.2 r hr
  exact small_row (by simpa using this)
theorem text_len (d : Dia) : ∀ (g : List Row), (∀ r ∈ g, r.length ≤ 64 ∧ ∀ s ∈ r, s.length ≤ 1024) → (textL d g).length ≤ 131265 * g.length
  | [], _ => by simp [textL]
  | r :: g, h => by
    obtain ⟨h1, h2⟩ := h r (by simp)
    have h3 := jn_len d r true h2
    have h4 := text_len d g fun x hx => h x (by simp [hx])
    simp only [textL, List.length_append, List.length_cons, List.length_nil]
    omega
theorem writeString_any (used : Bool) (l x : List UInt8) (hl : l.length ≤ 10000000000000) (hx : x.length ≤ 10000000000000) (y : List UInt8) (hy : l ++ x = y) :
    Ctr Tryz.prog G 29 [.ptr 0 0, .d (S x)] (BL used l) (.tup [.d (.int .i64 x.length), .undef]) [.bld 57 true y.length (some 2), .dead, .buf 5 y] := by
  subst hy; exact writeString_next used l x hl hx
theorem writeByte_any (used : Bool) (l : List UInt8) (c : UInt8) (hl : l.length ≤ 10000000000000) (y : List UInt8) (hy : l ++ [c] = y) :
    Ctr Tryz.prog G 28 [.ptr 0 0, .d (.int .u8 c.toNat)] (BL used l) .undef [.bld 57 true y.length (some 2), .dead, .buf 5 y] := by
  subst hy; exact writeByte_next used l c hl
def MF : Muts := fun k => k == 2000007
theorem MF_t {k : Nat} (h : k = 2000007) : MF k = true := by subst h; rfl
theorem MF_n {k : Nat} (h : k ≠ 2000007) : MF k = false := by simpa only [MF, beq_eq_false_iff_ne] using h
set_option maxHeartbeats 8000000 in
set_option maxRecDepth 100000 in
theorem format_spec (hT : HT G) (hM : HM G) (d : Dia) (g : List Row) (full : Bool) (hg : okGrid g) :
    Ctr Tryz.prog G 10 [.d d.D, .d (.agg [Gr g full])] [] (.d (textE (formL d g))) [] := by
  refine Ctr.pure (M := MF) hmix Tryz.func10 rfl go10 ?_
  obtain ⟨r, hr⟩ : ∃ r, r = formL d g := ⟨_, rfl⟩
  rw [← hr]
  unfold formL at hr
  simp (config := { maxSteps := 1000000 }) (disch := ((try simp only [awL]); omega)) only [Option.toList_some, Option.toList_none, nextC_more, nextC_over, bs_size, bs_extract, bs_toList, bs_append, byteAt_bs, bs_cells, nums_length, nums_getD, MF_t, MF_n, Tryz.f10, ↓awU, awV, awF, ofVal, ofVal0, isShift, aggK, forall_const, ↓reduceIte, ↓reduceDIte, ↓purePost, combine, idsA, cellsA, numsOf, srcA, calleeA, refsA, isScalar, scalarD, scalar0, AV.one, putL, unfA, implies_true, IntKind.signed, Nat.reduceAdd, Nat.reduceSub, Nat.reduceMul, Nat.reducePow, Nat.reduceDiv, Nat.reduceMod, Int.reduceAdd, Int.reduceSub, Int.reduceMul, Int.reducePow, Int.reduceNeg, Int.reduceToNat, Int.reduceLT, Int.reduceLE, Nat.reduceEqDiff, sidsB, Nat.reduceBEq, keyKD, isIntK, aggD, aggL, eqKs]
  refine CallC.of (containsFuncG_spec 22 badR g false hg.1 fun s hm => badR_spec hT s (hg.2 s hm)) (by rfl) ?_
  cases h1 : g.any badR
  · simp (config := { maxSteps := 1000000 }) (disch := ((try simp only [awL]); omega)) only [Option.toList_some, Option.toList_none, nextC_more, nextC_over, bs_size, bs_extract, bs_toList, bs_append, byteAt_bs, bs_cells, nums_length, nums_getD, MF_t, MF_n, ↓awU, awV, awF, ofVal, ofVal0, isShift, aggK, forall_const, ↓reduceIte, ↓reduceDIte, ↓purePost, combine, idsA, cellsA, numsOf, srcA, calleeA, refsA, isScalar, scalarD, scalar0, AV.one, putL, unfA, implies_true, IntKind.signed, Nat.reduceAdd, Nat.reduceSub, Nat.reduceMul, Nat.reducePow, Nat.reduceDiv, Nat.reduceMod, Int.reduceAdd, Int.reduceSub, Int.reduceMul, Int.reducePow, Int.reduceNeg, Int.reduceToNat, Int.reduceLT, Int.reduceLE, Nat.reduceEqDiff, sidsB, Nat.reduceBEq, keyKD, isIntK, aggD, aggL, eqKs]
    refine CallC.pure (dvalid_spec d) ?_
    cases h2 : okDia d
    · rw [if_pos (.inr h2)] at hr
      simp (config := { maxSteps := 1000000 }) (disch := ((try simp only [awL]); omega)) only [Option.toList_some, Option.toList_none, nextC_more, nextC_over, bs_size, bs_extract, bs_toList, bs_append, byteAt_bs, bs_cells, nums_length, nums_getD, MF_t, MF_n, ↓awU, awV, awF, ofVal, ofVal0, isShift, aggK, forall_const, ↓reduceIte, ↓reduceDIte, ↓purePost, combine, idsA, cellsA, numsOf, srcA, calleeA, refsA, isScalar, scalarD, scalar0, AV.one, putL, unfA, implies_true, IntKind.signed, Nat.reduceAdd, Nat.reduceSub, Nat.reduceMul, Nat.reducePow, Nat.reduceDiv, Nat.reduceMod, Int.reduceAdd, Int.reduceSub, Int.reduceMul, Int.reducePow, Int.reduceNeg, Int.reduceToNat, Int.reduceLT, Int.reduceLE, Nat.reduceEqDiff, sidsB, Nat.reduceBEq, keyKD, isIntK, aggD, aggL, eqKs]
      rw [hr]; rfl
    · rw [if_neg (by simp [h1, h2])] at hr
      have hq := okDia_quo h2
      simp (config := { maxSteps := 1000000 }) (disch := ((try simp only [awL]); omega)) only [Option.toList_some, Option.toList_none, nextC_more, nextC_over, bs_size, bs_extract, bs_toList, bs_append, byteAt_bs, bs_cells, nums_length, nums_getD, MF_t, MF_n, ↓awU, awV, awF, ofVal, ofVal0, isShift, aggK, forall_const, ↓reduceIte, ↓reduceDIte, ↓purePost, combine, idsA, cellsA, numsOf, srcA, calleeA, refsA, isScalar, scalarD, scalar0, AV.one, putL, unfA, implies_true, IntKind.signed, Nat.reduceAdd, Nat.reduceSub, Nat.reduceMul, Nat.reducePow, Nat.reduceDiv, Nat.reduceMod, Int.reduceAdd, Int.reduceSub, Int.reduceMul, Int.reducePow, Int.reduceNeg, Int.reduceToNat, Int.reduceLT, Int.reduceLE, Nat.reduceEqDiff, sidsB, Nat.reduceBEq, keyKD, isIntK, aggD, aggL, eqKs]
      refine CallC.of (big_spec g false hg) (by rfl) ?_
      cases h3 : bigG g
      · rw [if_neg (by simp [h3])] at hr
        obtain ⟨sg, sr⟩ := small_grid h3
        have tl := text_len d g sr
        have gl := @rowsD_length g
        simp (config := { maxSteps := 1000000 }) (disch := ((try simp only [awL]); omega)) only [Option.toList_some, Option.toList_none, nextC_more, nextC_over, bs_size, bs_extract, bs_toList, bs_append, byteAt_bs, bs_cells, nums_length, nums_getD, MF_t, MF_n, ↓awU, awV, awF, ofVal, ofVal0, isShift, aggK, forall_const, ↓reduceIte, ↓reduceDIte, ↓purePost, combine, idsA, cellsA, numsOf, srcA, calleeA, refsA, isScalar, scalarD, scalar0, AV.one, putL, unfA, implies_true, IntKind.signed, Nat.reduceAdd, Nat.reduceSub, Nat.reduceMul, Nat.reducePow, Nat.reduceDiv, Nat.reduceMod, Int.reduceAdd, Int.reduceSub, Int.reduceMul, Int.reducePow, Int.reduceNeg, Int.reduceToNat, Int.reduceLT, Int.reduceLE, Nat.reduceEqDiff, sidsB, Nat.reduceBEq, keyKD, isIntK, aggD, aggL, eqKs]
        refine LoopC.fr 1610612868 (α := Nat × List UInt8 × Bool) (fun x => g.length - x.1) (fun x => [(31, .d (.int .i64 x.1))]) (fun x => [.box [.d (.int .u8 d.del.toNat), .d (.int .u8 d.quo.toNat), .d (.bool d.trim)], .dead, .bld BldS x.2.2 x.2.1.length (some 3), .buf U8T x.2.1])
          (fun x => x.1 ≤ g.length ∧ x.2.1 ++ textL d (g.drop x.1) = textL d g ∧ g.all (okR d) = (g.drop x.1).all (okR d)) (0, [], false) ⟨Nat.zero_le _, by simp, by simp⟩ ?_ ?_
        · exact ⟨[some 0, some 1, some 2, none], rfl, by simp, by simp [setsA, keepA, SWeak, AWeak], by simp [HWeak, BWeak, SWeak, AWeak]⟩
        · rintro ⟨i, out, used⟩ ⟨b1, b2, b3⟩
          simp only at b1 b2 b3
          have ol : out.length ≤ (textL d g).length := by rw [← b2, List.length_append]; omega
          simp only [awK, Nat.reduceMod, Nat.reduceDiv, reduceIte]
          rcases Nat.lt_or_ge i g.length with h | h
          · have gg := rowsD_getD h
            rw [text_step d h] at b2
            rw [all_step (x := []) h] at b3
            have mem := memD (d := []) h
            generalize g.getD i [] = row at *
            obtain ⟨r1, r2⟩ := sr row mem
            have sl := @strs_length row
            simp (config := { maxSteps := 1000000 }) (disch := ((try simp only [awL]); omega)) only [Option.toList_some, Option.toList_none, nextC_more, nextC_over, bs_size, bs_extract, bs_toList, bs_append, byteAt_bs, bs_cells, nums_length, nums_getD, MF_t, MF_n, gl, gg, ↓awU, awV, awF, ofVal, ofVal0, isShift, aggK, forall_const, ↓reduceIte, ↓reduceDIte, ↓purePost, combine, idsA, cellsA, numsOf, srcA, calleeA, refsA, isScalar, scalarD, scalar0, AV.one, putL, unfA, implies_true, IntKind.signed, Nat.reduceAdd, Nat.reduceSub, Nat.reduceMul, Nat.reducePow, Nat.reduceDiv, Nat.reduceMod, Int.reduceAdd, Int.reduceSub, Int.reduceMul, Int.reducePow, Int.reduceNeg, Int.reduceToNat, Int.reduceLT, Int.reduceLE, Nat.reduceEqDiff, sidsB, Nat.reduceBEq, keyKD, isIntK, aggD, aggL, eqKs]
            refine LoopC.fr 106837311620 (α := Nat × List UInt8 × Bool) (fun x => row.length - x.1) (fun x => [(37, .d (.int .i64 x.1))]) (fun x => [.box [.d (.int .u8 d.del.toNat), .d (.int .u8 d.quo.toNat), .d (.bool d.trim)], .dead, .bld BldS x.2.2 x.2.1.length (some 3), .buf U8T x.2.1])
              (fun x => x.1 ≤ row.length ∧ x.2.1 ++ jnL d (decide (x.1 = 0)) (row.drop x.1) ++ [10] ++ textL d (g.drop (i + 1)) = textL d g ∧ okR d row = (row.drop x.1).all (okW d)) (0, out, used) ⟨Nat.zero_le _, by simp only [List.drop_zero, decide_true, List.append_assoc] at b2 ⊢; exact b2, by simp [okR]⟩ ?_ ?_
            · exact ⟨[some 0, some 1, some 2, some 3], rfl, by simp, by simp [setsA, keepA, SWeak, AWeak], by simp [HWeak, BWeak, SWeak, AWeak]⟩
            · rintro ⟨j, out2, used2⟩ ⟨c1, c2, c3⟩
              simp only at c1 c2 c3
              have ol2 : out2.length ≤ (textL d g).length := by rw [← c2]; simp only [List.length_append]; omega
              simp only [awK, Nat.reduceMod, Nat.reduceDiv, reduceIte]
              rcases Nat.lt_or_ge j row.length with hj | hj
              · have sg2 := strs_getD hj
                have mem2 := r2 _ (memD (d := []) hj)
                rw [jn_step d hj] at c2
                rw [all_step (x := []) hj] at c3
                generalize row.getD j [] = fld at *
                simp (config := { maxSteps := 1000000 }) (disch := ((try simp only [awL]); omega)) only [Option.toList_some, Option.toList_none, nextC_more, nextC_over, bs_size, bs_extract, bs_toList, bs_append, byteAt_bs, bs_cells, nums_length, nums_getD, MF_t, MF_n, sl, sg2, ↓awU, awV, awF, ofVal, ofVal0, isShift, aggK, forall_const, ↓reduceIte, ↓reduceDIte, ↓purePost, combine, idsA, cellsA, numsOf, srcA, calleeA, refsA, isScalar, scalarD, scalar0, AV.one, putL, unfA, implies_true, IntKind.signed, Nat.reduceAdd, Nat.reduceSub, Nat.reduceMul, Nat.reducePow, Nat.reduceDiv, Nat.reduceMod, Int.reduceAdd, Int.reduceSub, Int.reduceMul, Int.reducePow, Int.reduceNeg, Int.reduceToNat, Int.reduceLT, Int.reduceLE, Nat.reduceEqDiff, sidsB, Nat.reduceBEq, keyKD, isIntK, aggD, aggL, eqKs]
                refine CallC.of (written_spec hT hM d fld hq (by omega)) (by rfl) ?_
                cases ho : okW d fld
                · have e4 : g.all (okR d) = false := by rw [b3, c3, ho]; rfl
                  rw [if_pos e4] at hr
                  simp (config := { maxSteps := 1000000 }) (disch := ((try simp only [awL]); omega)) only [Option.toList_some, Option.toList_none, nextC_more, nextC_over, bs_size, bs_extract, bs_toList, bs_append, byteAt_bs, bs_cells, nums_length, nums_getD, MF_t, MF_n, ↓awU, awV, awF, ofVal, ofVal0, isShift, aggK, forall_const, ↓reduceIte, ↓reduceDIte, ↓purePost, combine, idsA, cellsA, numsOf, srcA, calleeA, refsA, isScalar, scalarD, scalar0, AV.one, putL, unfA, implies_true, IntKind.signed, Nat.reduceAdd, Nat.reduceSub, Nat.reduceMul, Nat.reducePow, Nat.reduceDiv, Nat.reduceMod, Int.reduceAdd, Int.reduceSub, Int.reduceMul, Int.reducePow, Int.reduceNeg, Int.reduceToNat, Int.reduceLT, Int.reduceLE, Nat.reduceEqDiff, sidsB, Nat.reduceBEq, keyKD, isIntK, aggD, aggL, eqKs]
                  rw [hr]; rfl
                · rw [ho, Bool.true_and] at c3
                  have wl := wrL_len d fld
                  generalize wrL d fld = wr at *
                  by_cases j0 : j = 0
                  · rw [if_pos j0, List.nil_append] at c2
                    simp (config := { maxSteps := 1000000 }) (disch := ((try simp only [awL]); omega)) only [Option.toList_some, Option.toList_none, nextC_more, nextC_over, bs_size, bs_extract, bs_toList, bs_append, byteAt_bs, bs_cells, nums_length, nums_getD, MF_t, MF_n, ↓awU, awV, awF, ofVal, ofVal0, isShift, aggK, forall_const, ↓reduceIte, ↓reduceDIte, ↓purePost, combine, idsA, cellsA, numsOf, srcA, calleeA, refsA, isScalar, scalarD, scalar0, AV.one, putL, unfA, implies_true, IntKind.signed, Nat.reduceAdd, Nat.reduceSub, Nat.reduceMul, Nat.reducePow, Nat.reduceDiv, Nat.reduceMod, Int.reduceAdd, Int.reduceSub, Int.reduceMul, Int.reducePow, Int.reduceNeg, Int.reduceToNat, Int.reduceLT, Int.reduceLE, Nat.reduceEqDiff, sidsB, Nat.reduceBEq, keyKD, isIntK, aggD, aggL, eqKs]
                    generalize ha : out2 ++ wr = out3
                    have la : out3.length = out2.length + wr.length := by rw [← ha, List.length_append]
                    refine CallC.by (writeString_any used2 out2 wr (by omega) (by omega) out3 ha) (by rfl) (by rfl) (by simp) ?_
                    simp (config := { maxSteps := 1000000 }) (disch := ((try simp only [awL]); omega)) only [Option.toList_some, Option.toList_none, nextC_more, nextC_over, bs_size, bs_extract, bs_toList, bs_append, byteAt_bs, bs_cells, nums_length, nums_getD, MF_t, MF_n, ↓awU, awV, awF, ofVal, ofVal0, isShift, aggK, forall_const, ↓reduceIte, ↓reduceDIte, ↓purePost, combine, idsA, cellsA, numsOf, srcA, calleeA, refsA, isScalar, scalarD, scalar0, AV.one, putL, unfA, implies_true, IntKind.signed, Nat.reduceAdd, Nat.reduceSub, Nat.reduceMul, Nat.reducePow, Nat.reduceDiv, Nat.reduceMod, Int.reduceAdd, Int.reduceSub, Int.reduceMul, Int.reducePow, Int.reduceNeg, Int.reduceToNat, Int.reduceLT, Int.reduceLE, Nat.reduceEqDiff, sidsB, Nat.reduceBEq, keyKD, isIntK, aggD, aggL, eqKs]
                    exact ⟨(j + 1, out3, true), ⟨hj, by rw [← ha]; simpa only [List.append_assoc] using c2, c3⟩, by simp only; omega, ⟨[some 0, some 1, some 2, some 4], rfl, by simp, by simp [setsA, keepA, SWeak, AWeak], by simp [HWeak, BWeak, SWeak, AWeak]⟩⟩
                  · rw [if_neg j0] at c2
                    simp (config := { maxSteps := 1000000 }) (disch := ((try simp only [awL]); omega)) only [Option.toList_some, Option.toList_none, nextC_more, nextC_over, bs_size, bs_extract, bs_toList, bs_append, byteAt_bs, bs_cells, nums_length, nums_getD, MF_t, MF_n, ↓awU, awV, awF, ofVal, ofVal0, isShift, aggK, forall_const, ↓reduceIte, ↓reduceDIte, ↓purePost, combine, idsA, cellsA, numsOf, srcA, calleeA, refsA, isScalar, scalarD, scalar0, AV.one, putL, unfA, implies_true, IntKind.signed, Nat.reduceAdd, Nat.reduceSub, Nat.reduceMul, Nat.reducePow, Nat.reduceDiv, Nat.reduceMod, Int.reduceAdd, Int.reduceSub, Int.reduceMul, Int.reducePow, Int.reduceNeg, Int.reduceToNat, Int.reduceLT, Int.reduceLE, Nat.reduceEqDiff, sidsB, Nat.reduceBEq, keyKD, isIntK, aggD, aggL, eqKs]
                    generalize hb : out2 ++ [d.del] = out4
                    have lb : out4.length = out2.length + 1 := by rw [← hb, List.length_append]; rfl
                    refine CallC.by (writeByte_any used2 out2 d.del (by omega) out4 hb) (by rfl) (by rfl) (by simp) ?_
                    simp (config := { maxSteps := 1000000 }) (disch := ((try simp only [awL]); omega)) only [Option.toList_some, Option.toList_none, nextC_more, nextC_over, bs_size, bs_extract, bs_toList, bs_append, byteAt_bs, bs_cells, nums_length, nums_getD, MF_t, MF_n, ↓awU, awV, awF, ofVal, ofVal0, isShift, aggK, forall_const, ↓reduceIte, ↓reduceDIte, ↓purePost, combine, idsA, cellsA, numsOf, srcA, calleeA, refsA, isScalar, scalarD, scalar0, AV.one, putL, unfA, implies_true, IntKind.signed, Nat.reduceAdd, Nat.reduceSub, Nat.reduceMul, Nat.reducePow, Nat.reduceDiv, Nat.reduceMod, Int.reduceAdd, Int.reduceSub, Int.reduceMul, Int.reducePow, Int.reduceNeg, Int.reduceToNat, Int.reduceLT, Int.reduceLE, Nat.reduceEqDiff, sidsB, Nat.reduceBEq, keyKD, isIntK, aggD, aggL, eqKs]
                    generalize ha : out4 ++ wr = out3
                    have la : out3.length = out4.length + wr.length := by rw [← ha, List.length_append]
                    refine CallC.by (writeString_any true out4 wr (by omega) (by omega) out3 ha) (by rfl) (by rfl) (by simp) ?_
                    simp (config := { maxSteps := 1000000 }) (disch := ((try simp only [awL]); omega)) only [Option.toList_some, Option.toList_none, nextC_more, nextC_over, bs_size, bs_extract, bs_toList, bs_append, byteAt_bs, bs_cells, nums_length, nums_getD, MF_t, MF_n, ↓awU, awV, awF, ofVal, ofVal0, isShift, aggK, forall_const, ↓reduceIte, ↓reduceDIte, ↓purePost, combine, idsA, cellsA, numsOf, srcA, calleeA, refsA, isScalar, scalarD, scalar0, AV.one, putL, unfA, implies_true, IntKind.signed, Nat.reduceAdd, Nat.reduceSub, Nat.reduceMul, Nat.reducePow, Nat.reduceDiv, Nat.reduceMod, Int.reduceAdd, Int.reduceSub, Int.reduceMul, Int.reducePow, Int.reduceNeg, Int.reduceToNat, Int.reduceLT, Int.reduceLE, Nat.reduceEqDiff, sidsB, Nat.reduceBEq, keyKD, isIntK, aggD, aggL, eqKs]
                    exact ⟨(j + 1, out3, true), ⟨hj, by rw [← ha, ← hb]; simpa only [List.append_assoc] using c2, c3⟩, by simp only; omega, ⟨[some 0, some 1, some 2, some 5], rfl, by simp, by simp [setsA, keepA, SWeak, AWeak], by simp [HWeak, BWeak, SWeak, AWeak]⟩⟩
              · obtain rfl : j = row.length := by omega
                rw [List.drop_length] at c2 c3
                simp only [jnL, List.append_nil] at c2
                simp (config := { maxSteps := 1000000 }) (disch := ((try simp only [awL]); omega)) only [Option.toList_some, Option.toList_none, nextC_more, nextC_over, bs_size, bs_extract, bs_toList, bs_append, byteAt_bs, bs_cells, nums_length, nums_getD, MF_t, MF_n, ↓awU, awV, awF, ofVal, ofVal0, isShift, aggK, forall_const, ↓reduceIte, ↓reduceDIte, ↓purePost, combine, idsA, cellsA, numsOf, srcA, calleeA, refsA, isScalar, scalarD, scalar0, AV.one, putL, unfA, implies_true, IntKind.signed, Nat.reduceAdd, Nat.reduceSub, Nat.reduceMul, Nat.reducePow, Nat.reduceDiv, Nat.reduceMod, Int.reduceAdd, Int.reduceSub, Int.reduceMul, Int.reducePow, Int.reduceNeg, Int.reduceToNat, Int.reduceLT, Int.reduceLE, Nat.reduceEqDiff, sidsB, Nat.reduceBEq, keyKD, isIntK, aggD, aggL, eqKs]
                generalize ha : out2 ++ [10] = out3 at *
                have la : out3.length = out2.length + 1 := by rw [← ha, List.length_append]; rfl
                refine CallC.by (writeByte_any used2 out2 10 (by omega) out3 ha) (by rfl) (by rfl) (by simp) ?_
                simp (config := { maxSteps := 1000000 }) (disch := ((try simp only [awL]); omega)) only [Option.toList_some, Option.toList_none, nextC_more, nextC_over, bs_size, bs_extract, bs_toList, bs_append, byteAt_bs, bs_cells, nums_length, nums_getD, MF_t, MF_n, ↓awU, awV, awF, ofVal, ofVal0, isShift, aggK, forall_const, ↓reduceIte, ↓reduceDIte, ↓purePost, combine, idsA, cellsA, numsOf, srcA, calleeA, refsA, isScalar, scalarD, scalar0, AV.one, putL, unfA, implies_true, IntKind.signed, Nat.reduceAdd, Nat.reduceSub, Nat.reduceMul, Nat.reducePow, Nat.reduceDiv, Nat.reduceMod, Int.reduceAdd, Int.reduceSub, Int.reduceMul, Int.reducePow, Int.reduceNeg, Int.reduceToNat, Int.reduceLT, Int.reduceLE, Nat.reduceEqDiff, sidsB, Nat.reduceBEq, keyKD, isIntK, aggD, aggL, eqKs]
                exact ⟨(i + 1, out3, true), ⟨h, c2, by rw [b3, c3]; rfl⟩, by simp only; omega, ⟨[some 0, some 1, some 2, some 4], rfl, by simp, by simp [setsA, keepA, SWeak, AWeak], by simp [HWeak, BWeak, SWeak, AWeak]⟩⟩
          · obtain rfl : i = g.length := by omega
            rw [List.drop_length] at b2 b3
            simp only [textL, List.append_nil] at b2
            rw [if_neg (by rw [b3]; simp), ← b2] at hr
            simp (config := { maxSteps := 1000000 }) (disch := ((try simp only [awL]); omega)) only [Option.toList_some, Option.toList_none, nextC_more, nextC_over, bs_size, bs_extract, bs_toList, bs_append, byteAt_bs, bs_cells, nums_length, nums_getD, MF_t, MF_n, ↓awU, awV, awF, ofVal, ofVal0, isShift, aggK, forall_const, ↓reduceIte, ↓reduceDIte, ↓purePost, combine, idsA, cellsA, numsOf, srcA, calleeA, refsA, isScalar, scalarD, scalar0, AV.one, putL, unfA, implies_true, IntKind.signed, Nat.reduceAdd, Nat.reduceSub, Nat.reduceMul, Nat.reducePow, Nat.reduceDiv, Nat.reduceMod, Int.reduceAdd, Int.reduceSub, Int.reduceMul, Int.reducePow, Int.reduceNeg, Int.reduceToNat, Int.reduceLT, Int.reduceLE, Nat.reduceEqDiff, sidsB, Nat.reduceBEq, keyKD, isIntK, aggD, aggL, eqKs]
            refine CallC.keep [2, 3] (len_spec used out) (by rfl) (by rfl) (by simp) (by simp [callEff, outW, outN, frz]) (by simp [callEff, outW, outN, renB, renL, renA, frz]) ?_
            rcases Nat.lt_or_ge 1048576 out.length with h4 | h4
            · rw [if_pos h4] at hr
              simp (config := { maxSteps := 1000000 }) (disch := ((try simp only [awL]); omega)) only [Option.toList_some, Option.toList_none, nextC_more, nextC_over, bs_size, bs_extract, bs_toList, bs_append, byteAt_bs, bs_cells, nums_length, nums_getD, MF_t, MF_n, ↓awU, awV, awF, ofVal, ofVal0, isShift, aggK, forall_const, ↓reduceIte, ↓reduceDIte, ↓purePost, combine, idsA, cellsA, numsOf, srcA, calleeA, refsA, isScalar, scalarD, scalar0, AV.one, putL, unfA, implies_true, IntKind.signed, Nat.reduceAdd, Nat.reduceSub, Nat.reduceMul, Nat.reducePow, Nat.reduceDiv, Nat.reduceMod, Int.reduceAdd, Int.reduceSub, Int.reduceMul, Int.reducePow, Int.reduceNeg, Int.reduceToNat, Int.reduceLT, Int.reduceLE, Nat.reduceEqDiff, sidsB, Nat.reduceBEq, keyKD, isIntK, aggD, aggL, eqKs]
              rw [hr]; rfl
            · rw [if_neg (by omega)] at hr
              simp (config := { maxSteps := 1000000 }) (disch := ((try simp only [awL]); omega)) only [Option.toList_some, Option.toList_none, nextC_more, nextC_over, bs_size, bs_extract, bs_toList, bs_append, byteAt_bs, bs_cells, nums_length, nums_getD, MF_t, MF_n, ↓awU, awV, awF, ofVal, ofVal0, isShift, aggK, forall_const, ↓reduceIte, ↓reduceDIte, ↓purePost, combine, idsA, cellsA, numsOf, srcA, calleeA, refsA, isScalar, scalarD, scalar0, AV.one, putL, unfA, implies_true, IntKind.signed, Nat.reduceAdd, Nat.reduceSub, Nat.reduceMul, Nat.reducePow, Nat.reduceDiv, Nat.reduceMod, Int.reduceAdd, Int.reduceSub, Int.reduceMul, Int.reducePow, Int.reduceNeg, Int.reduceToNat, Int.reduceLT, Int.reduceLE, Nat.reduceEqDiff, sidsB, Nat.reduceBEq, keyKD, isIntK, aggD, aggL, eqKs]
              refine CallC.by (string_spec used out) (by rfl) (by rfl) (by simp) ?_
              simp (config := { maxSteps := 1000000 }) (disch := ((try simp only [awL]); omega)) only [Option.toList_some, Option.toList_none, nextC_more, nextC_over, bs_size, bs_extract, bs_toList, bs_append, byteAt_bs, bs_cells, nums_length, nums_getD, MF_t, MF_n, ↓awU, awV, awF, ofVal, ofVal0, isShift, aggK, forall_const, ↓reduceIte, ↓reduceDIte, ↓purePost, combine, idsA, cellsA, numsOf, srcA, calleeA, refsA, isScalar, scalarD, scalar0, AV.one, putL, unfA, implies_true, IntKind.signed, Nat.reduceAdd, Nat.reduceSub, Nat.reduceMul, Nat.reducePow, Nat.reduceDiv, Nat.reduceMod, Int.reduceAdd, Int.reduceSub, Int.reduceMul, Int.reducePow, Int.reduceNeg, Int.reduceToNat, Int.reduceLT, Int.reduceLE, Nat.reduceEqDiff, sidsB, Nat.reduceBEq, keyKD, isIntK, aggD, aggL, eqKs]
              rw [hr]; rfl
      · rw [if_pos h3] at hr
        simp (config := { maxSteps := 1000000 }) (disch := ((try simp only [awL]); omega)) only [Option.toList_some, Option.toList_none, nextC_more, nextC_over, bs_size, bs_extract, bs_toList, bs_append, byteAt_bs, bs_cells, nums_length, nums_getD, MF_t, MF_n, ↓awU, awV, awF, ofVal, ofVal0, isShift, aggK, forall_const, ↓reduceIte, ↓reduceDIte, ↓purePost, combine, idsA, cellsA, numsOf, srcA, calleeA, refsA, isScalar, scalarD, scalar0, AV.one, putL, unfA, implies_true, IntKind.signed, Nat.reduceAdd, Nat.reduceSub, Nat.reduceMul, Nat.reducePow, Nat.reduceDiv, Nat.reduceMod, Int.reduceAdd, Int.reduceSub, Int.reduceMul, Int.reducePow, Int.reduceNeg, Int.reduceToNat, Int.reduceLT, Int.reduceLE, Nat.reduceEqDiff, sidsB, Nat.reduceBEq, keyKD, isIntK, aggD, aggL, eqKs]
        rw [hr]; rfl
  · rw [if_pos (.inl h1)] at hr
    simp (config := { maxSteps := 1000000 }) (disch := ((try simp only [awL]); omega)) only [Option.toList_some, Option.toList_none, nextC_more, nextC_over, bs_size, bs_extract, bs_toList, bs_append, byteAt_bs, bs_cells, nums_length, nums_getD, MF_t, MF_n, ↓awU, awV, awF, ofVal, ofVal0, isShift, aggK, forall_const, ↓reduceIte, ↓reduceDIte, ↓purePost, combine, idsA, cellsA, numsOf, srcA, calleeA, refsA, isScalar, scalarD, scalar0, AV.one, putL, unfA, implies_true, IntKind.signed, Nat.reduceAdd, Nat.reduceSub, Nat.reduceMul, Nat.reducePow, Nat.reduceDiv, Nat.reduceMod, Int.reduceAdd, Int.reduceSub, Int.reduceMul, Int.reducePow, Int.reduceNeg, Int.reduceToNat, Int.reduceLT, Int.reduceLE, Nat.reduceEqDiff, sidsB, Nat.reduceBEq, keyKD, isIntK, aggD, aggL, eqKs]
    rw [hr]; rfl
end Go.Proofs.YtjjanbljkoaojaaGreatDoor

namespace Go.Proofs.YtjjanbljkoaojaaGreatDoor
open Go Go.Proofs Go.Abs
variable {G : Globals}
/-! The reference: a field. -/
theorem drop_getD0 {l : List UInt8} {i : Nat} : (l.drop i).getD 0 0 = l.getD i 0 := by
  simp [List.getD_eq_getElem?_getD]
theorem drop_ne {l : List UInt8} {i : Nat} (h : i < l.length) : l.drop i ≠ [] := by
  intro e
  have := congrArg List.length e
  rw [List.length_drop] at this; simp at this; omega
set_option maxHeartbeats 4000000 in
set_option maxRecDepth 100000 in
theorem stops_spec (d : Dia) (l : List UInt8) (i : Nat) (hi : i ≤ 100000000) (hl : l.length ≤ 100000000) : Ctr Tryz.prog G 53 [.d d.D, .d (S l), .d (.int .i64 i)] [] (.d (.bool (stopL d (l.drop i)))) [] := by
  refine Ctr.pure (M := M0) hmix Tryz.func53 rfl go53 ?_
  rcases Nat.lt_or_ge i l.length with h | h
  · rw [stopL_at (drop_ne h), drop_getD0]
    by_cases h2 : (l.getD i 0).toNat = d.del.toNat
    · rw [decide_eq_true h2, Bool.true_or]
      simp (config := { maxSteps := 1000000 }) (disch := ((try simp only [awL]); omega)) only [Option.toList_some, Option.toList_none, nextC_more, nextC_over, bs_size, bs_extract, bs_toList, bs_append, byteAt_bs, bs_cells, nums_length, nums_getD, Tryz.f53, h2, ↓awU, awV, awF, ofVal, ofVal0, isShift, aggK, forall_const, ↓reduceIte, ↓reduceDIte, ↓purePost, combine, idsA, cellsA, numsOf, srcA, calleeA, refsA, isScalar, scalarD, scalar0, AV.one, putL, unfA, implies_true, IntKind.signed, Nat.reduceAdd, Nat.reduceSub, Nat.reduceMul, Nat.reducePow, Nat.reduceDiv, Nat.reduceMod, Int.reduceAdd, Int.reduceSub, Int.reduceMul, Int.reducePow, Int.reduceNeg, Int.reduceToNat, Int.reduceLT, Int.reduceLE, Nat.reduceEqDiff, sidsB, Nat.reduceBEq, keyKD, isIntK, aggD, aggL, eqKs]
      rfl
    · rw [decide_eq_false h2, Bool.false_or]
      simp (config := { maxSteps := 1000000 }) (disch := ((try simp only [awL]); omega)) only [Option.toList_some, Option.toList_none, nextC_more, nextC_over, bs_size, bs_extract, bs_toList, bs_append, byteAt_bs, bs_cells, nums_length, nums_getD, Tryz.f53, ↓awU, awV, awF, ofVal, ofVal0, isShift, aggK, forall_const, ↓reduceIte, ↓reduceDIte, ↓purePost, combine, idsA, cellsA, numsOf, srcA, calleeA, refsA, isScalar, scalarD, scalar0, AV.one, putL, unfA, implies_true, IntKind.signed, Nat.reduceAdd, Nat.reduceSub, Nat.reduceMul, Nat.reducePow, Nat.reduceDiv, Nat.reduceMod, Int.reduceAdd, Int.reduceSub, Int.reduceMul, Int.reducePow, Int.reduceNeg, Int.reduceToNat, Int.reduceLT, Int.reduceLE, Nat.reduceEqDiff, sidsB, Nat.reduceBEq, keyKD, isIntK, aggD, aggL, eqKs]
      refine CallC.pure (ended_spec l i hi hl) ?_
      have he := endL_le (l.drop i)
      rw [List.length_drop] at he
      generalize endL (l.drop i) = n at *
      rcases (by omega : 0 < n ∨ n = 0) with h3 | rfl
      · rw [decide_eq_true h3]
        simp (config := { maxSteps := 1000000 }) (disch := ((try simp only [awL]); omega)) only [Option.toList_some, Option.toList_none, nextC_more, nextC_over, bs_size, bs_extract, bs_toList, bs_append, byteAt_bs, bs_cells, nums_length, nums_getD, ↓awU, awV, awF, ofVal, ofVal0, isShift, aggK, forall_const, ↓reduceIte, ↓reduceDIte, ↓purePost, combine, idsA, cellsA, numsOf, srcA, calleeA, refsA, isScalar, scalarD, scalar0, AV.one, putL, unfA, implies_true, IntKind.signed, Nat.reduceAdd, Nat.reduceSub, Nat.reduceMul, Nat.reducePow, Nat.reduceDiv, Nat.reduceMod, Int.reduceAdd, Int.reduceSub, Int.reduceMul, Int.reducePow, Int.reduceNeg, Int.reduceToNat, Int.reduceLT, Int.reduceLE, Nat.reduceEqDiff, sidsB, Nat.reduceBEq, keyKD, isIntK, aggD, aggL, eqKs]
        rfl
      · simp (config := { maxSteps := 1000000 }) (disch := ((try simp only [awL]); omega)) only [Option.toList_some, Option.toList_none, nextC_more, nextC_over, bs_size, bs_extract, bs_toList, bs_append, byteAt_bs, bs_cells, nums_length, nums_getD, ↓awU, awV, awF, ofVal, ofVal0, isShift, aggK, forall_const, ↓reduceIte, ↓reduceDIte, ↓purePost, combine, idsA, cellsA, numsOf, srcA, calleeA, refsA, isScalar, scalarD, scalar0, AV.one, putL, unfA, implies_true, IntKind.signed, Nat.reduceAdd, Nat.reduceSub, Nat.reduceMul, Nat.reducePow, Nat.reduceDiv, Nat.reduceMod, Int.reduceAdd, Int.reduceSub, Int.reduceMul, Int.reducePow, Int.reduceNeg, Int.reduceToNat, Int.reduceLT, Int.reduceLE, Nat.reduceEqDiff, sidsB, Nat.reduceBEq, keyKD, isIntK, aggD, aggL, eqKs]
        rfl
  · rw [List.drop_eq_nil_of_le h, show stopL d [] = true by simp [stopL]]
    simp (config := { maxSteps := 1000000 }) (disch := ((try simp only [awL]); omega)) only [Option.toList_some, Option.toList_none, nextC_more, nextC_over, bs_size, bs_extract, bs_toList, bs_append, byteAt_bs, bs_cells, nums_length, nums_getD, Tryz.f53, ↓awU, awV, awF, ofVal, ofVal0, isShift, aggK, forall_const, ↓reduceIte, ↓reduceDIte, ↓purePost, combine, idsA, cellsA, numsOf, srcA, calleeA, refsA, isScalar, scalarD, scalar0, AV.one, putL, unfA, implies_true, IntKind.signed, Nat.reduceAdd, Nat.reduceSub, Nat.reduceMul, Nat.reducePow, Nat.reduceDiv, Nat.reduceMod, Int.reduceAdd, Int.reduceSub, Int.reduceMul, Int.reducePow, Int.reduceNeg, Int.reduceToNat, Int.reduceLT, Int.reduceLE, Nat.reduceEqDiff, sidsB, Nat.reduceBEq, keyKD, isIntK, aggD, aggL, eqKs]
    rfl
theorem u8_eq {c x : UInt8} : c = x ↔ c.toNat = x.toNat := UInt8.toNat_inj.symm
theorem skipL_more {d : Dia} {l : List UInt8} {j : Nat} (ht : d.trim = true) (hj : j < l.length) (hc : (l.getD j 0).toNat = 32) : skipL d (l.drop j) = skipL d (l.drop (j + 1)) := by
  have : l.getD j 0 = 32 := u8_eq.2 hc
  rw [skipL, skipL, if_pos ht, if_pos ht, drop_at hj, List.dropWhile_cons, this]; rfl
theorem skipL_over {d : Dia} {l : List UInt8} {j : Nat} (h : d.trim = false ∨ l.length ≤ j ∨ ¬ (l.getD j 0).toNat = 32) : skipL d (l.drop j) = l.drop j := by
  unfold skipL
  split
  · rename_i ht
    rcases Nat.lt_or_ge j l.length with hj | hj
    · have hc : ¬ (l.getD j 0).toNat = 32 := by rcases h with h | h | h; rw [ht] at h; cases h; omega; exact h
      rw [drop_at hj, List.dropWhile_cons]
      have : (l.getD j 0 == 32) = false := by rw [beq_eq_false_iff_ne]; exact fun e => hc (u8_eq.1 e)
      rw [this]; rfl
    · rw [List.drop_eq_nil_of_le hj]; rfl
  · rfl
theorem trimR_more {d : Dia} {y : List UInt8} (ht : d.trim = true) (hy : 0 < y.length) (hc : (y.getD (y.length - 1) 0).toNat = 32) : trimR d y = trimR d (y.take (y.length - 1)) := by
  have e : y = y.take (y.length - 1) ++ [32] := by
    have h1 : y.getD (y.length - 1) 0 = 32 := u8_eq.2 hc
    rw [← h1, ← take_succ_app (by omega), show y.length - 1 + 1 = y.length by omega, List.take_length]
  rw [trimR, trimR, if_pos ht, if_pos ht]
  conv => lhs; rw [e]
  rw [List.reverse_append]
  simp
theorem trimR_over {d : Dia} {y : List UInt8} (h : d.trim = false ∨ y.length = 0 ∨ ¬ (y.getD (y.length - 1) 0).toNat = 32) : trimR d y = y := by
  unfold trimR
  split
  · rename_i ht
    rcases Nat.eq_zero_or_pos y.length with hy | hy
    · rw [List.eq_nil_of_length_eq_zero hy]; rfl
    · have hc : ¬ (y.getD (y.length - 1) 0).toNat = 32 := by rcases h with h | h | h; rw [ht] at h; cases h; omega; exact h
      have e : y = y.take (y.length - 1) ++ [y.getD (y.length - 1) 0] := by
        rw [← take_succ_app (by omega), show y.length - 1 + 1 = y.length by omega, List.take_length]
      generalize y.getD (y.length - 1) 0 = c at *
      have : (c == 32) = false := by rw [beq_eq_false_iff_ne]; exact fun e => hc (u8_eq.1 e)
      rw [e, List.reverse_append, show ([c].reverse ++ (y.take (y.length - 1)).reverse) = c :: (y.take (y.length - 1)).reverse from rfl, List.dropWhile_cons, this]
      simp
  · rfl
theorem quotL_at {q : UInt8} {l : List UInt8} {j : Nat} (h : j < l.length) : quotL q (l.drop j) =
    if (l.getD j 0).toNat = q.toNat then (if j + 1 < l.length ∧ (l.getD (j + 1) 0).toNat = q.toNat then (quotL q (l.drop (j + 2))).map (fun p => (q :: p.1, p.2)) else some ([], l.drop (j + 1)))
    else (quotL q (l.drop (j + 1))).map fun p => (l.getD j 0 :: p.1, p.2) := by
  rw [drop_at h]
  rcases Nat.lt_or_ge (j + 1) l.length with h2 | h2
  · rw [drop_at h2, quotL]
    simp only [← u8_eq, h2, true_and]
  · rw [List.drop_eq_nil_of_le h2, quotL]
    simp only [← u8_eq, show ¬ j + 1 < l.length by omega, false_and, if_false]
    generalize l.getD j 0 = c
    split <;> simp [quotL, *]
def rfieldR (d : Dia) (l : List UInt8) (i : Nat) : AV := match fieldL d (l.drop i) with
  | none => .tup [.undef, .undef, .d (.bool false)]
  | some p => .d (.tup [S p.1, .int .i64 (l.length - p.2.length : Nat), .bool true])
set_option maxHeartbeats 8000000 in
set_option maxRecDepth 100000 in
theorem rfield_spec (d : Dia) (l : List UInt8) (i : Nat) (hi : i ≤ l.length) (hl : l.length ≤ 100000000) : Ctr Tryz.prog G 35 [.d d.D, .d (S l), .d (.int .i64 i)] [] (rfieldR d l i) [] := by
  refine Ctr.body (M := M0) hmix Tryz.func35 rfl go35 ?_
  obtain ⟨r, hr⟩ : ∃ r, r = rfieldR d l i := ⟨_, rfl⟩
  rw [← hr]
  unfold rfieldR at hr
  simp (config := { maxSteps := 1000000 }) (disch := ((try simp only [awL]); omega)) only [Option.toList_some, Option.toList_none, nextC_more, nextC_over, bs_size, bs_extract, bs_toList, bs_append, byteAt_bs, bs_cells, nums_length, nums_getD, Tryz.f35, ↓awU, awV, awF, ofVal, ofVal0, isShift, aggK, forall_const, ↓reduceIte, ↓reduceDIte, ↓purePost, combine, idsA, cellsA, numsOf, srcA, calleeA, refsA, isScalar, scalarD, scalar0, AV.one, putL, unfA, implies_true, IntKind.signed, Nat.reduceAdd, Nat.reduceSub, Nat.reduceMul, Nat.reducePow, Nat.reduceDiv, Nat.reduceMod, Int.reduceAdd, Int.reduceSub, Int.reduceMul, Int.reducePow, Int.reduceNeg, Int.reduceToNat, Int.reduceLT, Int.reduceLE, Nat.reduceEqDiff, sidsB, Nat.reduceBEq, keyKD, isIntK, aggD, aggL, eqKs]
  refine LoopC.fx 10 (α := Nat) (β := Nat) (fun j => l.length - j) (fun j => [(2, .d (.int .i64 j))]) (fun _ => [.box [.d (.int .u8 d.del.toNat), .d (.int .u8 d.quo.toNat), .d (.bool d.trim)]])
    (fun j => j ≤ l.length ∧ skipL d (l.drop i) = skipL d (l.drop j)) 10 (fun j => [(2, .d (.int .i64 j))]) (fun _ => [.box [.d (.int .u8 d.del.toNat), .d (.int .u8 d.quo.toNat), .d (.bool d.trim)]])
    (fun j => j ≤ l.length ∧ skipL d (l.drop i) = l.drop j) i ⟨hi, rfl⟩ ?_ ?_ ?_
  · exact ⟨[some 0], rfl, by simp, by simp [setsA, keepA, SWeak, AWeak], by simp [HWeak, BWeak, SWeak, AWeak]⟩
  · rintro j ⟨j1, j2⟩
    simp only [awK, Nat.reduceMod, Nat.reduceDiv, reduceIte]
    cases ht : d.trim
    · simp (config := { maxSteps := 1000000 }) (disch := ((try simp only [awL]); omega)) only [Option.toList_some, Option.toList_none, nextC_more, nextC_over, bs_size, bs_extract, bs_toList, bs_append, byteAt_bs, bs_cells, nums_length, nums_getD, ht, ↓awU, awV, awF, ofVal, ofVal0, isShift, aggK, forall_const, ↓reduceIte, ↓reduceDIte, ↓purePost, combine, idsA, cellsA, numsOf, srcA, calleeA, refsA, isScalar, scalarD, scalar0, AV.one, putL, unfA, implies_true, IntKind.signed, Nat.reduceAdd, Nat.reduceSub, Nat.reduceMul, Nat.reducePow, Nat.reduceDiv, Nat.reduceMod, Int.reduceAdd, Int.reduceSub, Int.reduceMul, Int.reducePow, Int.reduceNeg, Int.reduceToNat, Int.reduceLT, Int.reduceLE, Nat.reduceEqDiff, sidsB, Nat.reduceBEq, keyKD, isIntK, aggD, aggL, eqKs]
      exact ⟨j, ⟨j1, by rw [j2, skipL_over (.inl ht)]⟩, ⟨[some 0], rfl, by simp, by simp [setsA, keepA, SWeak, AWeak], by simp [HWeak, BWeak, SWeak, AWeak, ht]⟩⟩
    · rcases Nat.lt_or_ge j l.length with h | h
      · by_cases h2 : (l.getD j 0).toNat = 32
        · simp (config := { maxSteps := 1000000 }) (disch := ((try simp only [awL]); omega)) only [Option.toList_some, Option.toList_none, nextC_more, nextC_over, bs_size, bs_extract, bs_toList, bs_append, byteAt_bs, bs_cells, nums_length, nums_getD, ht, h2, ↓awU, awV, awF, ofVal, ofVal0, isShift, aggK, forall_const, ↓reduceIte, ↓reduceDIte, ↓purePost, combine, idsA, cellsA, numsOf, srcA, calleeA, refsA, isScalar, scalarD, scalar0, AV.one, putL, unfA, implies_true, IntKind.signed, Nat.reduceAdd, Nat.reduceSub, Nat.reduceMul, Nat.reducePow, Nat.reduceDiv, Nat.reduceMod, Int.reduceAdd, Int.reduceSub, Int.reduceMul, Int.reducePow, Int.reduceNeg, Int.reduceToNat, Int.reduceLT, Int.reduceLE, Nat.reduceEqDiff, sidsB, Nat.reduceBEq, keyKD, isIntK, aggD, aggL, eqKs]
          exact ⟨j + 1, ⟨h, by rw [j2, skipL_more ht h h2]⟩, by simp only; omega, ⟨[some 0], rfl, by simp, by simp [setsA, keepA, SWeak, AWeak], by simp [HWeak, BWeak, SWeak, AWeak, ht]⟩⟩
        · simp (config := { maxSteps := 1000000 }) (disch := ((try simp only [awL]); omega)) only [Option.toList_some, Option.toList_none, nextC_more, nextC_over, bs_size, bs_extract, bs_toList, bs_append, byteAt_bs, bs_cells, nums_length, nums_getD, ht, ↓awU, awV, awF, ofVal, ofVal0, isShift, aggK, forall_const, ↓reduceIte, ↓reduceDIte, ↓purePost, combine, idsA, cellsA, numsOf, srcA, calleeA, refsA, isScalar, scalarD, scalar0, AV.one, putL, unfA, implies_true, IntKind.signed, Nat.reduceAdd, Nat.reduceSub, Nat.reduceMul, Nat.reducePow, Nat.reduceDiv, Nat.reduceMod, Int.reduceAdd, Int.reduceSub, Int.reduceMul, Int.reducePow, Int.reduceNeg, Int.reduceToNat, Int.reduceLT, Int.reduceLE, Nat.reduceEqDiff, sidsB, Nat.reduceBEq, keyKD, isIntK, aggD, aggL, eqKs]
          exact ⟨j, ⟨j1, by rw [j2, skipL_over (.inr (.inr h2))]⟩, ⟨[some 0], rfl, by simp, by simp [setsA, keepA, SWeak, AWeak], by simp [HWeak, BWeak, SWeak, AWeak, ht]⟩⟩
      · simp (config := { maxSteps := 1000000 }) (disch := ((try simp only [awL]); omega)) only [Option.toList_some, Option.toList_none, nextC_more, nextC_over, bs_size, bs_extract, bs_toList, bs_append, byteAt_bs, bs_cells, nums_length, nums_getD, ht, ↓awU, awV, awF, ofVal, ofVal0, isShift, aggK, forall_const, ↓reduceIte, ↓reduceDIte, ↓purePost, combine, idsA, cellsA, numsOf, srcA, calleeA, refsA, isScalar, scalarD, scalar0, AV.one, putL, unfA, implies_true, IntKind.signed, Nat.reduceAdd, Nat.reduceSub, Nat.reduceMul, Nat.reducePow, Nat.reduceDiv, Nat.reduceMod, Int.reduceAdd, Int.reduceSub, Int.reduceMul, Int.reducePow, Int.reduceNeg, Int.reduceToNat, Int.reduceLT, Int.reduceLE, Nat.reduceEqDiff, sidsB, Nat.reduceBEq, keyKD, isIntK, aggD, aggL, eqKs]
        exact ⟨j, ⟨j1, by rw [j2, skipL_over (.inr (.inl h))]⟩, ⟨[some 0], rfl, by simp, by simp [setsA, keepA, SWeak, AWeak], by simp [HWeak, BWeak, SWeak, AWeak, ht]⟩⟩
  · rintro j ⟨j1, j2⟩
    simp only [awK, Nat.reduceMod, Nat.reduceDiv, reduceIte]
    unfold fieldL at hr
    rw [j2] at hr
    have hz : d.quo = 0 ↔ d.quo.toNat = 0 := ⟨fun e => by rw [e]; rfl, fun e => u8_eq.2 e⟩
    by_cases hb : d.quo ≠ 0 ∧ (l.drop j).head? = some d.quo
    · rw [if_pos hb] at hr
      obtain ⟨b1, b2⟩ := hb
      have b3 : ¬ d.quo.toNat = 0 := fun e => b1 (hz.2 e)
      have jl : j < l.length := by rcases Nat.lt_or_ge j l.length with h | h; exact h; rw [List.drop_eq_nil_of_le h] at b2; cases b2
      have b4 : (l.getD j 0).toNat = d.quo.toNat := by rw [drop_at jl] at b2; simp at b2; rw [← b2, List.getD_eq_getElem?_getD]
      rw [List.drop_drop] at hr
      simp (config := { maxSteps := 1000000 }) (disch := ((try simp only [awL]); omega)) only [Option.toList_some, Option.toList_none, nextC_more, nextC_over, bs_size, bs_extract, bs_toList, bs_append, byteAt_bs, bs_cells, nums_length, nums_getD, b4, ↓awU, awV, awF, ofVal, ofVal0, isShift, aggK, forall_const, ↓reduceIte, ↓reduceDIte, ↓purePost, combine, idsA, cellsA, numsOf, srcA, calleeA, refsA, isScalar, scalarD, scalar0, AV.one, putL, unfA, implies_true, IntKind.signed, Nat.reduceAdd, Nat.reduceSub, Nat.reduceMul, Nat.reducePow, Nat.reduceDiv, Nat.reduceMod, Int.reduceAdd, Int.reduceSub, Int.reduceMul, Int.reducePow, Int.reduceNeg, Int.reduceToNat, Int.reduceLT, Int.reduceLE, Nat.reduceEqDiff, sidsB, Nat.reduceBEq, keyKD, isIntK, aggD, aggL, eqKs]
      refine ⟨by rfl, ?_⟩
      refine LoopC.fx 10 (α := Nat × List UInt8) (β := Nat × List UInt8) (fun x => l.length - x.1) (fun x => [(2, .d (.int .i64 x.1)), (11, .d (S x.2))]) (fun _ => [.box [.d (.int .u8 d.del.toNat), .d (.int .u8 d.quo.toNat), .d (.bool d.trim)]])
        (fun x => x.1 ≤ l.length ∧ x.2.length ≤ x.1 ∧ quotL d.quo (l.drop (j + 1)) = (quotL d.quo (l.drop x.1)).map fun p => (x.2 ++ p.1, p.2)) 10 (fun x => [(2, .d (.int .i64 x.1)), (11, .d (S x.2))]) (fun _ => [.box [.d (.int .u8 d.del.toNat), .d (.int .u8 d.quo.toNat), .d (.bool d.trim)]])
        (fun x => x.1 + 1 ≤ l.length ∧ quotL d.quo (l.drop (j + 1)) = some (x.2, l.drop (x.1 + 1))) (j + 1, []) ⟨jl, by simp, by simp⟩ ?_ ?_ ?_
      · exact ⟨[some 0], rfl, by simp, by simp [setsA, keepA, SWeak, AWeak], by simp [HWeak, BWeak, SWeak, AWeak]⟩
      · rintro ⟨k, x⟩ ⟨k1, k2, k3⟩
        simp only at k1 k2 k3
        simp only [awK, Nat.reduceMod, Nat.reduceDiv, reduceIte]
        rcases Nat.lt_or_ge k l.length with h | h
        · rw [quotL_at h] at k3
          by_cases h2 : (l.getD k 0).toNat = d.quo.toNat
          · rw [if_pos h2] at k3
            by_cases h3 : k + 1 < l.length ∧ (l.getD (k + 1) 0).toNat = d.quo.toNat
            · rw [if_pos h3] at k3
              obtain ⟨h3, h4⟩ := h3
              have e5 : (l.take (k + 1 + 1)).drop (k + 1) = [d.quo] := by
                rw [take_succ_app h3, u8_eq.2 h4, List.drop_append_of_le_length (by rw [List.length_take]; omega), List.drop_eq_nil_of_le (by rw [List.length_take]; omega)]; rfl
              simp (config := { maxSteps := 1000000 }) (disch := ((try simp only [awL]); omega)) only [Option.toList_some, Option.toList_none, nextC_more, nextC_over, bs_size, bs_extract, bs_toList, bs_append, byteAt_bs, bs_cells, nums_length, nums_getD, h2, h4, e5, ↓awU, awV, awF, ofVal, ofVal0, isShift, aggK, forall_const, ↓reduceIte, ↓reduceDIte, ↓purePost, combine, idsA, cellsA, numsOf, srcA, calleeA, refsA, isScalar, scalarD, scalar0, AV.one, putL, unfA, implies_true, IntKind.signed, Nat.reduceAdd, Nat.reduceSub, Nat.reduceMul, Nat.reducePow, Nat.reduceDiv, Nat.reduceMod, Int.reduceAdd, Int.reduceSub, Int.reduceMul, Int.reducePow, Int.reduceNeg, Int.reduceToNat, Int.reduceLT, Int.reduceLE, Nat.reduceEqDiff, sidsB, Nat.reduceBEq, keyKD, isIntK, aggD, aggL, eqKs]
              exact ⟨by rfl, by rfl, (k + 1 + 1, x ++ [d.quo]), ⟨h3, by simp; omega, by
                rw [k3, Option.map_map]
                simp only [Function.comp_def, List.append_assoc, List.cons_append, List.nil_append]⟩, by simp only; omega, ⟨[some 0], rfl, by simp, by simp [setsA, keepA, SWeak, AWeak], by simp [HWeak, BWeak, SWeak, AWeak]⟩⟩
            · rw [if_neg h3] at k3
              simp only [Option.map_some, List.append_nil] at k3
              rcases (by omega : l.length ≤ k + 1 ∨ (k + 1 < l.length ∧ ¬ (l.getD (k + 1) 0).toNat = d.quo.toNat)) with h4 | ⟨h4, h5⟩
              · simp (config := { maxSteps := 1000000 }) (disch := ((try simp only [awL]); omega)) only [Option.toList_some, Option.toList_none, nextC_more, nextC_over, bs_size, bs_extract, bs_toList, bs_append, byteAt_bs, bs_cells, nums_length, nums_getD, h2, ↓awU, awV, awF, ofVal, ofVal0, isShift, aggK, forall_const, ↓reduceIte, ↓reduceDIte, ↓purePost, combine, idsA, cellsA, numsOf, srcA, calleeA, refsA, isScalar, scalarD, scalar0, AV.one, putL, unfA, implies_true, IntKind.signed, Nat.reduceAdd, Nat.reduceSub, Nat.reduceMul, Nat.reducePow, Nat.reduceDiv, Nat.reduceMod, Int.reduceAdd, Int.reduceSub, Int.reduceMul, Int.reducePow, Int.reduceNeg, Int.reduceToNat, Int.reduceLT, Int.reduceLE, Nat.reduceEqDiff, sidsB, Nat.reduceBEq, keyKD, isIntK, aggD, aggL, eqKs]
                exact ⟨by rfl, by rfl, (k, x), ⟨h, k3⟩, ⟨[some 0], rfl, by simp, by simp [setsA, keepA, SWeak, AWeak], by simp [HWeak, BWeak, SWeak, AWeak]⟩⟩
              · simp (config := { maxSteps := 1000000 }) (disch := ((try simp only [awL]); omega)) only [Option.toList_some, Option.toList_none, nextC_more, nextC_over, bs_size, bs_extract, bs_toList, bs_append, byteAt_bs, bs_cells, nums_length, nums_getD, h2, ↓awU, awV, awF, ofVal, ofVal0, isShift, aggK, forall_const, ↓reduceIte, ↓reduceDIte, ↓purePost, combine, idsA, cellsA, numsOf, srcA, calleeA, refsA, isScalar, scalarD, scalar0, AV.one, putL, unfA, implies_true, IntKind.signed, Nat.reduceAdd, Nat.reduceSub, Nat.reduceMul, Nat.reducePow, Nat.reduceDiv, Nat.reduceMod, Int.reduceAdd, Int.reduceSub, Int.reduceMul, Int.reducePow, Int.reduceNeg, Int.reduceToNat, Int.reduceLT, Int.reduceLE, Nat.reduceEqDiff, sidsB, Nat.reduceBEq, keyKD, isIntK, aggD, aggL, eqKs]
                exact ⟨by rfl, by rfl, (k, x), ⟨h, k3⟩, ⟨[some 0], rfl, by simp, by simp [setsA, keepA, SWeak, AWeak], by simp [HWeak, BWeak, SWeak, AWeak]⟩⟩
          · rw [if_neg h2] at k3
            have e5 : (l.take (k + 1)).drop k = [l.getD k 0] := by
              rw [take_succ_app h, List.drop_append_of_le_length (by rw [List.length_take]; omega), List.drop_eq_nil_of_le (by rw [List.length_take]; omega)]; rfl
            simp (config := { maxSteps := 1000000 }) (disch := ((try simp only [awL]); omega)) only [Option.toList_some, Option.toList_none, nextC_more, nextC_over, bs_size, bs_extract, bs_toList, bs_append, byteAt_bs, bs_cells, nums_length, nums_getD, e5, ↓awU, awV, awF, ofVal, ofVal0, isShift, aggK, forall_const, ↓reduceIte, ↓reduceDIte, ↓purePost, combine, idsA, cellsA, numsOf, srcA, calleeA, refsA, isScalar, scalarD, scalar0, AV.one, putL, unfA, implies_true, IntKind.signed, Nat.reduceAdd, Nat.reduceSub, Nat.reduceMul, Nat.reducePow, Nat.reduceDiv, Nat.reduceMod, Int.reduceAdd, Int.reduceSub, Int.reduceMul, Int.reducePow, Int.reduceNeg, Int.reduceToNat, Int.reduceLT, Int.reduceLE, Nat.reduceEqDiff, sidsB, Nat.reduceBEq, keyKD, isIntK, aggD, aggL, eqKs]
            exact ⟨by rfl, (k + 1, x ++ [l.getD k 0]), ⟨h, by simp; omega, by
              rw [k3, Option.map_map]
              simp only [Function.comp_def, List.append_assoc, List.cons_append, List.nil_append]⟩, by simp only; omega, ⟨[some 0], rfl, by simp, by simp [setsA, keepA, SWeak, AWeak], by simp [HWeak, BWeak, SWeak, AWeak]⟩⟩
        · rw [List.drop_eq_nil_of_le h] at k3
          simp only [quotL, Option.map_none] at k3
          rw [k3] at hr
          simp only at hr
          rw [hr]
          simp (config := { maxSteps := 1000000 }) (disch := ((try simp only [awL]); omega)) only [Option.toList_some, Option.toList_none, nextC_more, nextC_over, bs_size, bs_extract, bs_toList, bs_append, byteAt_bs, bs_cells, nums_length, nums_getD, ↓awU, awV, awF, ofVal, ofVal0, isShift, aggK, forall_const, ↓reduceIte, ↓reduceDIte, ↓purePost, combine, idsA, cellsA, numsOf, srcA, calleeA, refsA, isScalar, scalarD, scalar0, AV.one, putL, unfA, implies_true, IntKind.signed, Nat.reduceAdd, Nat.reduceSub, Nat.reduceMul, Nat.reducePow, Nat.reduceDiv, Nat.reduceMod, Int.reduceAdd, Int.reduceSub, Int.reduceMul, Int.reducePow, Int.reduceNeg, Int.reduceToNat, Int.reduceLT, Int.reduceLE, Nat.reduceEqDiff, sidsB, Nat.reduceBEq, keyKD, isIntK, aggD, aggL, eqKs]
          exact ⟨[], rfl, by simp, by simp [HWeak], .inl (by simp [AWeak, SWeak])⟩
      · rintro ⟨j2, x⟩ ⟨k1, k2⟩
        simp only at k1 k2
        rw [k2] at hr
        simp only at hr
        simp only [awK, Nat.reduceMod, Nat.reduceDiv, reduceIte]
        simp (config := { maxSteps := 1000000 }) (disch := ((try simp only [awL]); omega)) only [Option.toList_some, Option.toList_none, nextC_more, nextC_over, bs_size, bs_extract, bs_toList, bs_append, byteAt_bs, bs_cells, nums_length, nums_getD, ↓awU, awV, awF, ofVal, ofVal0, isShift, aggK, forall_const, ↓reduceIte, ↓reduceDIte, ↓purePost, combine, idsA, cellsA, numsOf, srcA, calleeA, refsA, isScalar, scalarD, scalar0, AV.one, putL, unfA, implies_true, IntKind.signed, Nat.reduceAdd, Nat.reduceSub, Nat.reduceMul, Nat.reducePow, Nat.reduceDiv, Nat.reduceMod, Int.reduceAdd, Int.reduceSub, Int.reduceMul, Int.reducePow, Int.reduceNeg, Int.reduceToNat, Int.reduceLT, Int.reduceLE, Nat.reduceEqDiff, sidsB, Nat.reduceBEq, keyKD, isIntK, aggD, aggL, eqKs]
        refine LoopC.fx 2058 (α := Nat) (β := Nat) (fun j => l.length - j) (fun j => [(2, .d (.int .i64 j))]) (fun _ => [.box [.d (.int .u8 d.del.toNat), .d (.int .u8 d.quo.toNat), .d (.bool d.trim)]])
          (fun y => y ≤ l.length ∧ skipL d (l.drop (j2 + 1)) = skipL d (l.drop y)) 2058 (fun y => [(2, .d (.int .i64 y))]) (fun _ => [.box [.d (.int .u8 d.del.toNat), .d (.int .u8 d.quo.toNat), .d (.bool d.trim)]])
          (fun y => y ≤ l.length ∧ skipL d (l.drop (j2 + 1)) = l.drop y) (j2 + 1) ⟨k1, rfl⟩ ?_ ?_ ?_
        · exact ⟨[some 0], rfl, by simp, by simp [setsA, keepA, SWeak, AWeak], by simp [HWeak, BWeak, SWeak, AWeak]⟩
        · rintro y ⟨y1, y2⟩
          simp only [awK, Nat.reduceMod, Nat.reduceDiv, reduceIte]
          cases ht : d.trim
          · simp (config := { maxSteps := 1000000 }) (disch := ((try simp only [awL]); omega)) only [Option.toList_some, Option.toList_none, nextC_more, nextC_over, bs_size, bs_extract, bs_toList, bs_append, byteAt_bs, bs_cells, nums_length, nums_getD, ht, ↓awU, awV, awF, ofVal, ofVal0, isShift, aggK, forall_const, ↓reduceIte, ↓reduceDIte, ↓purePost, combine, idsA, cellsA, numsOf, srcA, calleeA, refsA, isScalar, scalarD, scalar0, AV.one, putL, unfA, implies_true, IntKind.signed, Nat.reduceAdd, Nat.reduceSub, Nat.reduceMul, Nat.reducePow, Nat.reduceDiv, Nat.reduceMod, Int.reduceAdd, Int.reduceSub, Int.reduceMul, Int.reducePow, Int.reduceNeg, Int.reduceToNat, Int.reduceLT, Int.reduceLE, Nat.reduceEqDiff, sidsB, Nat.reduceBEq, keyKD, isIntK, aggD, aggL, eqKs]
            exact ⟨y, ⟨y1, by rw [y2, skipL_over (.inl ht)]⟩, ⟨[some 0], rfl, by simp, by simp [setsA, keepA, SWeak, AWeak], by simp [HWeak, BWeak, SWeak, AWeak, ht]⟩⟩
          · rcases Nat.lt_or_ge y l.length with h | h
            · by_cases h2 : (l.getD y 0).toNat = 32
              · simp (config := { maxSteps := 1000000 }) (disch := ((try simp only [awL]); omega)) only [Option.toList_some, Option.toList_none, nextC_more, nextC_over, bs_size, bs_extract, bs_toList, bs_append, byteAt_bs, bs_cells, nums_length, nums_getD, ht, h2, ↓awU, awV, awF, ofVal, ofVal0, isShift, aggK, forall_const, ↓reduceIte, ↓reduceDIte, ↓purePost, combine, idsA, cellsA, numsOf, srcA, calleeA, refsA, isScalar, scalarD, scalar0, AV.one, putL, unfA, implies_true, IntKind.signed, Nat.reduceAdd, Nat.reduceSub, Nat.reduceMul, Nat.reducePow, Nat.reduceDiv, Nat.reduceMod, Int.reduceAdd, Int.reduceSub, Int.reduceMul, Int.reducePow, Int.reduceNeg, Int.reduceToNat, Int.reduceLT, Int.reduceLE, Nat.reduceEqDiff, sidsB, Nat.reduceBEq, keyKD, isIntK, aggD, aggL, eqKs]
                exact ⟨y + 1, ⟨h, by rw [y2, skipL_more ht h h2]⟩, by simp only; omega, ⟨[some 0], rfl, by simp, by simp [setsA, keepA, SWeak, AWeak], by simp [HWeak, BWeak, SWeak, AWeak, ht]⟩⟩
              · simp (config := { maxSteps := 1000000 }) (disch := ((try simp only [awL]); omega)) only [Option.toList_some, Option.toList_none, nextC_more, nextC_over, bs_size, bs_extract, bs_toList, bs_append, byteAt_bs, bs_cells, nums_length, nums_getD, ht, ↓awU, awV, awF, ofVal, ofVal0, isShift, aggK, forall_const, ↓reduceIte, ↓reduceDIte, ↓purePost, combine, idsA, cellsA, numsOf, srcA, calleeA, refsA, isScalar, scalarD, scalar0, AV.one, putL, unfA, implies_true, IntKind.signed, Nat.reduceAdd, Nat.reduceSub, Nat.reduceMul, Nat.reducePow, Nat.reduceDiv, Nat.reduceMod, Int.reduceAdd, Int.reduceSub, Int.reduceMul, Int.reducePow, Int.reduceNeg, Int.reduceToNat, Int.reduceLT, Int.reduceLE, Nat.reduceEqDiff, sidsB, Nat.reduceBEq, keyKD, isIntK, aggD, aggL, eqKs]
                exact ⟨y, ⟨y1, by rw [y2, skipL_over (.inr (.inr h2))]⟩, ⟨[some 0], rfl, by simp, by simp [setsA, keepA, SWeak, AWeak], by simp [HWeak, BWeak, SWeak, AWeak, ht]⟩⟩
            · simp (config := { maxSteps := 1000000 }) (disch := ((try simp only [awL]); omega)) only [Option.toList_some, Option.toList_none, nextC_more, nextC_over, bs_size, bs_extract, bs_toList, bs_append, byteAt_bs, bs_cells, nums_length, nums_getD, ht, ↓awU, awV, awF, ofVal, ofVal0, isShift, aggK, forall_const, ↓reduceIte, ↓reduceDIte, ↓purePost, combine, idsA, cellsA, numsOf, srcA, calleeA, refsA, isScalar, scalarD, scalar0, AV.one, putL, unfA, implies_true, IntKind.signed, Nat.reduceAdd, Nat.reduceSub, Nat.reduceMul, Nat.reducePow, Nat.reduceDiv, Nat.reduceMod, Int.reduceAdd, Int.reduceSub, Int.reduceMul, Int.reducePow, Int.reduceNeg, Int.reduceToNat, Int.reduceLT, Int.reduceLE, Nat.reduceEqDiff, sidsB, Nat.reduceBEq, keyKD, isIntK, aggD, aggL, eqKs]
              exact ⟨y, ⟨y1, by rw [y2, skipL_over (.inr (.inl h))]⟩, ⟨[some 0], rfl, by simp, by simp [setsA, keepA, SWeak, AWeak], by simp [HWeak, BWeak, SWeak, AWeak, ht]⟩⟩
        · rintro y ⟨y1, y2⟩
          simp only [awK, Nat.reduceMod, Nat.reduceDiv, reduceIte]
          rw [y2] at hr
          simp (config := { maxSteps := 1000000 }) (disch := ((try simp only [awL]); omega)) only [Option.toList_some, Option.toList_none, nextC_more, nextC_over, bs_size, bs_extract, bs_toList, bs_append, byteAt_bs, bs_cells, nums_length, nums_getD, ↓awU, awV, awF, ofVal, ofVal0, isShift, aggK, forall_const, ↓reduceIte, ↓reduceDIte, ↓purePost, combine, idsA, cellsA, numsOf, srcA, calleeA, refsA, isScalar, scalarD, scalar0, AV.one, putL, unfA, implies_true, IntKind.signed, Nat.reduceAdd, Nat.reduceSub, Nat.reduceMul, Nat.reducePow, Nat.reduceDiv, Nat.reduceMod, Int.reduceAdd, Int.reduceSub, Int.reduceMul, Int.reducePow, Int.reduceNeg, Int.reduceToNat, Int.reduceLT, Int.reduceLE, Nat.reduceEqDiff, sidsB, Nat.reduceBEq, keyKD, isIntK, aggD, aggL, eqKs]
          refine CallC.pure (stops_spec d l y (by omega) hl) ?_
          have ly : l.length - (l.drop y).length = y := by rw [List.length_drop]; omega
          cases hs : stopL d (l.drop y)
          · rw [hs] at hr
            simp only [if_false, Bool.false_eq_true] at hr
            rw [hr]
            simp (config := { maxSteps := 1000000 }) (disch := ((try simp only [awL]); omega)) only [Option.toList_some, Option.toList_none, nextC_more, nextC_over, bs_size, bs_extract, bs_toList, bs_append, byteAt_bs, bs_cells, nums_length, nums_getD, ↓awU, awV, awF, ofVal, ofVal0, isShift, aggK, forall_const, ↓reduceIte, ↓reduceDIte, ↓purePost, combine, idsA, cellsA, numsOf, srcA, calleeA, refsA, isScalar, scalarD, scalar0, AV.one, putL, unfA, implies_true, IntKind.signed, Nat.reduceAdd, Nat.reduceSub, Nat.reduceMul, Nat.reducePow, Nat.reduceDiv, Nat.reduceMod, Int.reduceAdd, Int.reduceSub, Int.reduceMul, Int.reducePow, Int.reduceNeg, Int.reduceToNat, Int.reduceLT, Int.reduceLE, Nat.reduceEqDiff, sidsB, Nat.reduceBEq, keyKD, isIntK, aggD, aggL, eqKs]
            exact ⟨[], rfl, by simp, by simp [HWeak], .inl (by simp [AWeak, SWeak])⟩
          · rw [hs] at hr
            simp only [if_true, ly] at hr
            rw [hr]
            simp (config := { maxSteps := 1000000 }) (disch := ((try simp only [awL]); omega)) only [Option.toList_some, Option.toList_none, nextC_more, nextC_over, bs_size, bs_extract, bs_toList, bs_append, byteAt_bs, bs_cells, nums_length, nums_getD, ↓awU, awV, awF, ofVal, ofVal0, isShift, aggK, forall_const, ↓reduceIte, ↓reduceDIte, ↓purePost, combine, idsA, cellsA, numsOf, srcA, calleeA, refsA, isScalar, scalarD, scalar0, AV.one, putL, unfA, implies_true, IntKind.signed, Nat.reduceAdd, Nat.reduceSub, Nat.reduceMul, Nat.reducePow, Nat.reduceDiv, Nat.reduceMod, Int.reduceAdd, Int.reduceSub, Int.reduceMul, Int.reducePow, Int.reduceNeg, Int.reduceToNat, Int.reduceLT, Int.reduceLE, Nat.reduceEqDiff, sidsB, Nat.reduceBEq, keyKD, isIntK, aggD, aggL, eqKs]
            refine ⟨[], rfl, by simp, by simp [HWeak], .inr ⟨_, rfl, ?_, rfl⟩⟩
            rfl
    · rw [if_neg hb] at hr
      simp only at hr
      rcases (by
        by_cases h1 : d.quo = 0
        · exact .inl (hz.1 h1)
        · rcases Nat.lt_or_ge j l.length with h | h
          · exact .inr (.inr ⟨fun e => h1 (hz.2 e), h, fun e => hb ⟨h1, by rw [drop_at h, u8_eq.2 e]; rfl⟩⟩)
          · exact .inr (.inl ⟨fun e => h1 (hz.2 e), h⟩) : d.quo.toNat = 0 ∨ (¬ d.quo.toNat = 0 ∧ l.length ≤ j) ∨ (¬ d.quo.toNat = 0 ∧ j < l.length ∧ ¬ (l.getD j 0).toNat = d.quo.toNat)) with h1 | ⟨h1, h2⟩ | ⟨h1, h2, h3⟩
      all_goals
        clear hb hz
        simp (config := { maxSteps := 1000000 }) (disch := ((try simp only [awL]); omega)) only [Option.toList_some, Option.toList_none, nextC_more, nextC_over, bs_size, bs_extract, bs_toList, bs_append, byteAt_bs, bs_cells, nums_length, nums_getD, ↓awU, awV, awF, ofVal, ofVal0, isShift, aggK, forall_const, ↓reduceIte, ↓reduceDIte, ↓purePost, combine, idsA, cellsA, numsOf, srcA, calleeA, refsA, isScalar, scalarD, scalar0, AV.one, putL, unfA, implies_true, IntKind.signed, Nat.reduceAdd, Nat.reduceSub, Nat.reduceMul, Nat.reducePow, Nat.reduceDiv, Nat.reduceMod, Int.reduceAdd, Int.reduceSub, Int.reduceMul, Int.reducePow, Int.reduceNeg, Int.reduceToNat, Int.reduceLT, Int.reduceLE, Nat.reduceEqDiff, sidsB, Nat.reduceBEq, keyKD, isIntK, aggD, aggL, eqKs]
        refine ⟨by rfl, ?_⟩
        first | clear h1 h2 h3 | clear h1 h2 | clear h1
        refine LoopC.fx 14 (α := Nat) (β := Nat) (fun k => l.length - k) (fun k => [(9, .d (.int .i64 k))]) (fun _ => [.box [.d (.int .u8 d.del.toNat), .d (.int .u8 d.quo.toNat), .d (.bool d.trim)]])
          (fun k => j ≤ k ∧ k ≤ l.length ∧ plainL d (l.drop j) = (l.drop j).take (k - j) ++ plainL d (l.drop k)) 14 (fun k => [(9, .d (.int .i64 k))]) (fun _ => [.box [.d (.int .u8 d.del.toNat), .d (.int .u8 d.quo.toNat), .d (.bool d.trim)]])
          (fun k => j ≤ k ∧ k ≤ l.length ∧ plainL d (l.drop j) = (l.drop j).take (k - j)) j ⟨Nat.le_refl _, j1, by simp⟩ ?_ ?_ ?_
        · exact ⟨[some 0], rfl, by simp, by simp [setsA, keepA, SWeak, AWeak], by simp [HWeak, BWeak, SWeak, AWeak]⟩
        · rintro k ⟨k1, k2, k3⟩
          simp only [awK, Nat.reduceMod, Nat.reduceDiv, reduceIte]
          simp (config := { maxSteps := 1000000 }) (disch := ((try simp only [awL]); omega)) only [Option.toList_some, Option.toList_none, nextC_more, nextC_over, bs_size, bs_extract, bs_toList, bs_append, byteAt_bs, bs_cells, nums_length, nums_getD, ↓awU, awV, awF, ofVal, ofVal0, isShift, aggK, forall_const, ↓reduceIte, ↓reduceDIte, ↓purePost, combine, idsA, cellsA, numsOf, srcA, calleeA, refsA, isScalar, scalarD, scalar0, AV.one, putL, unfA, implies_true, IntKind.signed, Nat.reduceAdd, Nat.reduceSub, Nat.reduceMul, Nat.reducePow, Nat.reduceDiv, Nat.reduceMod, Int.reduceAdd, Int.reduceSub, Int.reduceMul, Int.reducePow, Int.reduceNeg, Int.reduceToNat, Int.reduceLT, Int.reduceLE, Nat.reduceEqDiff, sidsB, Nat.reduceBEq, keyKD, isIntK, aggD, aggL, eqKs]
          refine CallC.pure (stops_spec d l k (by omega) hl) ?_
          cases hs : stopL d (l.drop k)
          · have kl : k < l.length := by
              rcases Nat.lt_or_ge k l.length with h | h
              · exact h
              · rw [List.drop_eq_nil_of_le h] at hs; simp [stopL] at hs
            rw [plainL_more hs, drop_at kl] at k3
            simp only [List.head?_cons, Option.getD_some, List.drop_succ_cons, List.drop_zero] at k3
            simp (config := { maxSteps := 1000000 }) (disch := ((try simp only [awL]); omega)) only [Option.toList_some, Option.toList_none, nextC_more, nextC_over, bs_size, bs_extract, bs_toList, bs_append, byteAt_bs, bs_cells, nums_length, nums_getD, ↓awU, awV, awF, ofVal, ofVal0, isShift, aggK, forall_const, ↓reduceIte, ↓reduceDIte, ↓purePost, combine, idsA, cellsA, numsOf, srcA, calleeA, refsA, isScalar, scalarD, scalar0, AV.one, putL, unfA, implies_true, IntKind.signed, Nat.reduceAdd, Nat.reduceSub, Nat.reduceMul, Nat.reducePow, Nat.reduceDiv, Nat.reduceMod, Int.reduceAdd, Int.reduceSub, Int.reduceMul, Int.reducePow, Int.reduceNeg, Int.reduceToNat, Int.reduceLT, Int.reduceLE, Nat.reduceEqDiff, sidsB, Nat.reduceBEq, keyKD, isIntK, aggD, aggL, eqKs]
            refine ⟨k + 1, ⟨by omega, kl, ?_⟩, by simp only; omega, ⟨[some 0], rfl, by simp, by simp [setsA, keepA, SWeak, AWeak], by simp [HWeak, BWeak, SWeak, AWeak]⟩⟩
            rw [k3, show k + 1 - j = (k - j) + 1 by omega, take_succ_app (by rw [List.length_drop]; omega), List.append_assoc]
            have : (l.drop j).getD (k - j) 0 = l.getD k 0 := by rw [List.getD_eq_getElem?_getD, List.getElem?_drop, List.getD_eq_getElem?_getD, show j + (k - j) = k by omega]
            rw [this]; rfl
          · rw [plainL_end hs, List.append_nil] at k3
            simp (config := { maxSteps := 1000000 }) (disch := ((try simp only [awL]); omega)) only [Option.toList_some, Option.toList_none, nextC_more, nextC_over, bs_size, bs_extract, bs_toList, bs_append, byteAt_bs, bs_cells, nums_length, nums_getD, ↓awU, awV, awF, ofVal, ofVal0, isShift, aggK, forall_const, ↓reduceIte, ↓reduceDIte, ↓purePost, combine, idsA, cellsA, numsOf, srcA, calleeA, refsA, isScalar, scalarD, scalar0, AV.one, putL, unfA, implies_true, IntKind.signed, Nat.reduceAdd, Nat.reduceSub, Nat.reduceMul, Nat.reducePow, Nat.reduceDiv, Nat.reduceMod, Int.reduceAdd, Int.reduceSub, Int.reduceMul, Int.reducePow, Int.reduceNeg, Int.reduceToNat, Int.reduceLT, Int.reduceLE, Nat.reduceEqDiff, sidsB, Nat.reduceBEq, keyKD, isIntK, aggD, aggL, eqKs]
            exact ⟨k, ⟨k1, k2, k3⟩, ⟨[some 0], rfl, by simp, by simp [setsA, keepA, SWeak, AWeak], by simp [HWeak, BWeak, SWeak, AWeak]⟩⟩
        · rintro k ⟨k1, k2, k3⟩
          have e6 : (l.take k).drop j = (l.drop j).take (k - j) := List.drop_take ..
          have e7 : ((l.drop j).take (k - j)).length = k - j := by rw [List.length_take, List.length_drop]; omega
          have e8 : l.length - ((l.drop j).drop (k - j)).length = k := by simp only [List.length_drop]; omega
          rw [k3, e7, e8] at hr
          generalize (l.drop j).take (k - j) = y0 at *
          simp only [awK, Nat.reduceMod, Nat.reduceDiv, reduceIte]
          simp (config := { maxSteps := 1000000 }) (disch := ((try simp only [awL]); omega)) only [Option.toList_some, Option.toList_none, nextC_more, nextC_over, bs_size, bs_extract, bs_toList, bs_append, byteAt_bs, bs_cells, nums_length, nums_getD, e6, ↓awU, awV, awF, ofVal, ofVal0, isShift, aggK, forall_const, ↓reduceIte, ↓reduceDIte, ↓purePost, combine, idsA, cellsA, numsOf, srcA, calleeA, refsA, isScalar, scalarD, scalar0, AV.one, putL, unfA, implies_true, IntKind.signed, Nat.reduceAdd, Nat.reduceSub, Nat.reduceMul, Nat.reducePow, Nat.reduceDiv, Nat.reduceMod, Int.reduceAdd, Int.reduceSub, Int.reduceMul, Int.reducePow, Int.reduceNeg, Int.reduceToNat, Int.reduceLT, Int.reduceLE, Nat.reduceEqDiff, sidsB, Nat.reduceBEq, keyKD, isIntK, aggD, aggL, eqKs]
          refine LoopC.fr 520 (α := List UInt8) (fun y => y.length) (fun y => [(10, .d (S y))]) (fun _ => [.box [.d (.int .u8 d.del.toNat), .d (.int .u8 d.quo.toNat), .d (.bool d.trim)]]) (fun y => y.length ≤ y0.length ∧ trimR d y0 = trimR d y) y0 ⟨Nat.le_refl _, rfl⟩ ?_ ?_
          · exact ⟨[some 0], rfl, by simp, by simp [setsA, keepA, SWeak, AWeak], by simp [HWeak, BWeak, SWeak, AWeak]⟩
          · rintro y ⟨y1, y2⟩
            rw [y2] at hr
            simp only [awK, Nat.reduceMod, Nat.reduceDiv, reduceIte]
            cases ht : d.trim
            · rw [trimR_over (.inl ht)] at hr
              rw [hr]
              simp (config := { maxSteps := 1000000 }) (disch := ((try simp only [awL]); omega)) only [Option.toList_some, Option.toList_none, nextC_more, nextC_over, bs_size, bs_extract, bs_toList, bs_append, byteAt_bs, bs_cells, nums_length, nums_getD, ht, ↓awU, awV, awF, ofVal, ofVal0, isShift, aggK, forall_const, ↓reduceIte, ↓reduceDIte, ↓purePost, combine, idsA, cellsA, numsOf, srcA, calleeA, refsA, isScalar, scalarD, scalar0, AV.one, putL, unfA, implies_true, IntKind.signed, Nat.reduceAdd, Nat.reduceSub, Nat.reduceMul, Nat.reducePow, Nat.reduceDiv, Nat.reduceMod, Int.reduceAdd, Int.reduceSub, Int.reduceMul, Int.reducePow, Int.reduceNeg, Int.reduceToNat, Int.reduceLT, Int.reduceLE, Nat.reduceEqDiff, sidsB, Nat.reduceBEq, keyKD, isIntK, aggD, aggL, eqKs]
              refine ⟨[], rfl, by simp, by simp [HWeak], .inr ⟨_, rfl, ?_, rfl⟩⟩
              rfl
            · rcases Nat.eq_zero_or_pos y.length with h | h
              · rw [trimR_over (.inr (.inl h))] at hr
                rw [hr]
                simp (config := { maxSteps := 1000000 }) (disch := ((try simp only [awL]); omega)) only [Option.toList_some, Option.toList_none, nextC_more, nextC_over, bs_size, bs_extract, bs_toList, bs_append, byteAt_bs, bs_cells, nums_length, nums_getD, ht, ↓awU, awV, awF, ofVal, ofVal0, isShift, aggK, forall_const, ↓reduceIte, ↓reduceDIte, ↓purePost, combine, idsA, cellsA, numsOf, srcA, calleeA, refsA, isScalar, scalarD, scalar0, AV.one, putL, unfA, implies_true, IntKind.signed, Nat.reduceAdd, Nat.reduceSub, Nat.reduceMul, Nat.reducePow, Nat.reduceDiv, Nat.reduceMod, Int.reduceAdd, Int.reduceSub, Int.reduceMul, Int.reducePow, Int.reduceNeg, Int.reduceToNat, Int.reduceLT, Int.reduceLE, Nat.reduceEqDiff, sidsB, Nat.reduceBEq, keyKD, isIntK, aggD, aggL, eqKs]
                refine ⟨[], rfl, by simp, by simp [HWeak], .inr ⟨_, rfl, ?_, rfl⟩⟩
                rfl
              · have yi : (((y.length : Nat) : Int) - 1).toNat = y.length - 1 := by omega
                by_cases h2 : (y.getD (y.length - 1) 0).toNat = 32
                · rw [trimR_more ht h h2] at y2
                  simp (config := { maxSteps := 1000000 }) (disch := ((try simp only [awL]); omega)) only [Option.toList_some, Option.toList_none, nextC_more, nextC_over, bs_size, bs_extract, bs_toList, bs_append, byteAt_bs, bs_cells, nums_length, nums_getD, ht, yi, h2, ↓awU, awV, awF, ofVal, ofVal0, isShift, aggK, forall_const, ↓reduceIte, ↓reduceDIte, ↓purePost, combine, idsA, cellsA, numsOf, srcA, calleeA, refsA, isScalar, scalarD, scalar0, AV.one, putL, unfA, implies_true, IntKind.signed, Nat.reduceAdd, Nat.reduceSub, Nat.reduceMul, Nat.reducePow, Nat.reduceDiv, Nat.reduceMod, Int.reduceAdd, Int.reduceSub, Int.reduceMul, Int.reducePow, Int.reduceNeg, Int.reduceToNat, Int.reduceLT, Int.reduceLE, Nat.reduceEqDiff, sidsB, Nat.reduceBEq, keyKD, isIntK, aggD, aggL, eqKs]
                  exact ⟨y.take (y.length - 1), ⟨by rw [List.length_take]; omega, y2⟩, by simp only [List.length_take]; omega, ⟨[some 0], rfl, by simp, by simp [setsA, keepA, SWeak, AWeak], by simp [HWeak, BWeak, SWeak, AWeak, ht]⟩⟩
                · rw [trimR_over (.inr (.inr h2))] at hr
                  rw [hr]
                  simp (config := { maxSteps := 1000000 }) (disch := ((try simp only [awL]); omega)) only [Option.toList_some, Option.toList_none, nextC_more, nextC_over, bs_size, bs_extract, bs_toList, bs_append, byteAt_bs, bs_cells, nums_length, nums_getD, ht, yi, h2, ↓awU, awV, awF, ofVal, ofVal0, isShift, aggK, forall_const, ↓reduceIte, ↓reduceDIte, ↓purePost, combine, idsA, cellsA, numsOf, srcA, calleeA, refsA, isScalar, scalarD, scalar0, AV.one, putL, unfA, implies_true, IntKind.signed, Nat.reduceAdd, Nat.reduceSub, Nat.reduceMul, Nat.reducePow, Nat.reduceDiv, Nat.reduceMod, Int.reduceAdd, Int.reduceSub, Int.reduceMul, Int.reducePow, Int.reduceNeg, Int.reduceToNat, Int.reduceLT, Int.reduceLE, Nat.reduceEqDiff, sidsB, Nat.reduceBEq, keyKD, isIntK, aggD, aggL, eqKs]
                  refine ⟨[], rfl, by simp, by simp [HWeak], .inr ⟨_, rfl, ?_, rfl⟩⟩
                  rfl
end Go.Proofs.YtjjanbljkoaojaaGreatDoor

namespace Go.Proofs.YtjjanbljkoaojaaGreatDoor
open Go Go.Proofs Go.Abs
variable {G : Globals}
/-! The reference: equal grids, limits, which texts fit. -/
theorem take_eq_step {α : Type} {a b : List α} {i : Nat} {d : α} (h : i < a.length) (hl : a.length = b.length) (ht : a.take i = b.take i) (he : a.getD i d = b.getD i d) : a.take (i + 1) = b.take (i + 1) := by
  have h2 : i < b.length := by omega
  rw [List.take_add_one, List.take_add_one, ht, List.getElem?_eq_getElem h, List.getElem?_eq_getElem h2]
  rw [List.getD_eq_getElem?_getD, List.getD_eq_getElem?_getD, List.getElem?_eq_getElem h, List.getElem?_eq_getElem h2] at he
  simp only [Option.getD_some] at he
  rw [he]
set_option maxHeartbeats 4000000 in
set_option maxRecDepth 100000 in
theorem sameR_spec (a b : Row) (fa fb : Bool) (ha : a.length ≤ 10000000000) (hb : b.length ≤ 10000000000) : Ctr Tryz.prog G 37 [.d (Ss a fa), .d (Ss b fb)] [] (.d (.bool (decide (a = b)))) [] := by
  obtain ⟨r, hr⟩ : ∃ r, r = decide (a = b) := ⟨_, rfl⟩
  rw [← hr]
  refine Ctr.pure (M := M0) hmix Tryz.func37 rfl go37 ?_
  have al := @strs_length a
  have bl := @strs_length b
  by_cases hl : a.length = b.length
  · simp (config := { maxSteps := 1000000 }) (disch := ((try simp only [awL]); omega)) only [Option.toList_some, Option.toList_none, nextC_more, nextC_over, bs_size, bs_extract, bs_toList, bs_append, byteAt_bs, bs_cells, nums_length, nums_getD, al, bl, Tryz.f37, ↓awU, awV, awF, ofVal, ofVal0, isShift, aggK, forall_const, ↓reduceIte, ↓reduceDIte, ↓purePost, combine, idsA, cellsA, numsOf, srcA, calleeA, refsA, isScalar, scalarD, scalar0, AV.one, putL, unfA, implies_true, IntKind.signed, Nat.reduceAdd, Nat.reduceSub, Nat.reduceMul, Nat.reducePow, Nat.reduceDiv, Nat.reduceMod, Int.reduceAdd, Int.reduceSub, Int.reduceMul, Int.reducePow, Int.reduceNeg, Int.reduceToNat, Int.reduceLT, Int.reduceLE, Nat.reduceEqDiff, sidsB, Nat.reduceBEq, keyKD, isIntK, aggD, aggL, eqKs]
    refine LoopC.fr 4099 (α := Nat) (fun i => a.length - i) (fun i => [(13, .d (.int .i64 i))]) (fun _ => []) (fun i => i ≤ a.length ∧ a.take i = b.take i) 0 ⟨Nat.zero_le _, by simp⟩ ?_ ?_
    · exact ⟨[], rfl, by simp, by simp [setsA, keepA, SWeak, AWeak], by simp [HWeak, BWeak, SWeak, AWeak]⟩
    · rintro i ⟨h1, h2⟩
      simp only [awK, Nat.reduceMod, Nat.reduceDiv, reduceIte]
      rcases Nat.lt_or_ge i a.length with h | h
      · have ga := strs_getD h
        have gb := strs_getD (show i < b.length by omega)
        by_cases he : a.getD i [] = b.getD i []
        · simp (config := { maxSteps := 1000000 }) (disch := ((try simp only [awL]); omega)) only [Option.toList_some, Option.toList_none, nextC_more, nextC_over, bs_size, bs_extract, bs_toList, bs_append, byteAt_bs, bs_cells, nums_length, nums_getD, al, bl, ga, gb, he, ↓awU, awV, awF, ofVal, ofVal0, isShift, aggK, forall_const, ↓reduceIte, ↓reduceDIte, ↓purePost, combine, idsA, cellsA, numsOf, srcA, calleeA, refsA, isScalar, scalarD, scalar0, AV.one, putL, unfA, implies_true, IntKind.signed, Nat.reduceAdd, Nat.reduceSub, Nat.reduceMul, Nat.reducePow, Nat.reduceDiv, Nat.reduceMod, Int.reduceAdd, Int.reduceSub, Int.reduceMul, Int.reducePow, Int.reduceNeg, Int.reduceToNat, Int.reduceLT, Int.reduceLE, Nat.reduceEqDiff, sidsB, Nat.reduceBEq, keyKD, isIntK, aggD, aggL, eqKs]
          exact ⟨by rfl, i + 1, ⟨h, take_eq_step h hl h2 he⟩, by simp only; omega, ⟨[], rfl, by simp, by simp [setsA, keepA, SWeak, AWeak], by simp [HWeak, BWeak, SWeak, AWeak]⟩⟩
        · simp (config := { maxSteps := 1000000 }) (disch := ((try simp only [awL]); omega)) only [Option.toList_some, Option.toList_none, nextC_more, nextC_over, bs_size, bs_extract, bs_toList, bs_append, byteAt_bs, bs_cells, nums_length, nums_getD, al, bl, ga, gb, he, ↓awU, awV, awF, ofVal, ofVal0, isShift, aggK, forall_const, ↓reduceIte, ↓reduceDIte, ↓purePost, combine, idsA, cellsA, numsOf, srcA, calleeA, refsA, isScalar, scalarD, scalar0, AV.one, putL, unfA, implies_true, IntKind.signed, Nat.reduceAdd, Nat.reduceSub, Nat.reduceMul, Nat.reducePow, Nat.reduceDiv, Nat.reduceMod, Int.reduceAdd, Int.reduceSub, Int.reduceMul, Int.reducePow, Int.reduceNeg, Int.reduceToNat, Int.reduceLT, Int.reduceLE, Nat.reduceEqDiff, sidsB, Nat.reduceBEq, keyKD, isIntK, aggD, aggL, eqKs]
          refine ⟨by rfl, ?_⟩
          have : ¬ a = b := fun e => he (by rw [e])
          simp [hr, this]
      · rw [List.take_of_length_le h, List.take_of_length_le (by omega)] at h2
        simp (config := { maxSteps := 1000000 }) (disch := ((try simp only [awL]); omega)) only [Option.toList_some, Option.toList_none, nextC_more, nextC_over, bs_size, bs_extract, bs_toList, bs_append, byteAt_bs, bs_cells, nums_length, nums_getD, ↓awU, awV, awF, ofVal, ofVal0, isShift, aggK, forall_const, ↓reduceIte, ↓reduceDIte, ↓purePost, combine, idsA, cellsA, numsOf, srcA, calleeA, refsA, isScalar, scalarD, scalar0, AV.one, putL, unfA, implies_true, IntKind.signed, Nat.reduceAdd, Nat.reduceSub, Nat.reduceMul, Nat.reducePow, Nat.reduceDiv, Nat.reduceMod, Int.reduceAdd, Int.reduceSub, Int.reduceMul, Int.reducePow, Int.reduceNeg, Int.reduceToNat, Int.reduceLT, Int.reduceLE, Nat.reduceEqDiff, sidsB, Nat.reduceBEq, keyKD, isIntK, aggD, aggL, eqKs]
        simp [hr, h2]
  · simp (config := { maxSteps := 1000000 }) (disch := ((try simp only [awL]); omega)) only [Option.toList_some, Option.toList_none, nextC_more, nextC_over, bs_size, bs_extract, bs_toList, bs_append, byteAt_bs, bs_cells, nums_length, nums_getD, al, bl, hl, Tryz.f37, ↓awU, awV, awF, ofVal, ofVal0, isShift, aggK, forall_const, ↓reduceIte, ↓reduceDIte, ↓purePost, combine, idsA, cellsA, numsOf, srcA, calleeA, refsA, isScalar, scalarD, scalar0, AV.one, putL, unfA, implies_true, IntKind.signed, Nat.reduceAdd, Nat.reduceSub, Nat.reduceMul, Nat.reducePow, Nat.reduceDiv, Nat.reduceMod, Int.reduceAdd, Int.reduceSub, Int.reduceMul, Int.reducePow, Int.reduceNeg, Int.reduceToNat, Int.reduceLT, Int.reduceLE, Nat.reduceEqDiff, sidsB, Nat.reduceBEq, keyKD, isIntK, aggD, aggL, eqKs]
    have : ¬ a = b := fun e => hl (by rw [e])
    simp [hr, this]
set_option maxHeartbeats 4000000 in
set_option maxRecDepth 100000 in
theorem sameG_spec (a b : List Row) (fa fb : Bool) (ha : okGrid a) (hb : okGrid b) : Ctr Tryz.prog G 15 [.d (.agg [Gr a fa]), .d (.agg [Gr b fb])] [] (.d (.bool (decide (a = b)))) [] := by
  obtain ⟨a1, a2⟩ := ha
  obtain ⟨b1, b2⟩ := hb
  obtain ⟨r, hr⟩ : ∃ r, r = decide (a = b) := ⟨_, rfl⟩
  rw [← hr]
  refine Ctr.pure (M := M0) hmix Tryz.func15 rfl go15 ?_
  have al := @rowsD_length a
  have bl := @rowsD_length b
  by_cases hl : a.length = b.length
  · simp (config := { maxSteps := 1000000 }) (disch := ((try simp only [awL]); omega)) only [Option.toList_some, Option.toList_none, nextC_more, nextC_over, bs_size, bs_extract, bs_toList, bs_append, byteAt_bs, bs_cells, nums_length, nums_getD, al, bl, Tryz.f15, ↓awU, awV, awF, ofVal, ofVal0, isShift, aggK, forall_const, ↓reduceIte, ↓reduceDIte, ↓purePost, combine, idsA, cellsA, numsOf, srcA, calleeA, refsA, isScalar, scalarD, scalar0, AV.one, putL, unfA, implies_true, IntKind.signed, Nat.reduceAdd, Nat.reduceSub, Nat.reduceMul, Nat.reducePow, Nat.reduceDiv, Nat.reduceMod, Int.reduceAdd, Int.reduceSub, Int.reduceMul, Int.reducePow, Int.reduceNeg, Int.reduceToNat, Int.reduceLT, Int.reduceLE, Nat.reduceEqDiff, sidsB, Nat.reduceBEq, keyKD, isIntK, aggD, aggL, eqKs]
    refine LoopC.fr 32780 (α := Nat) (fun i => a.length - i) (fun i => [(16, .d (.int .i64 i))]) (fun _ => [.box [.d (Gr a fa)], .box [.d (Gr b fb)]]) (fun i => i ≤ a.length ∧ a.take i = b.take i) 0 ⟨Nat.zero_le _, by simp⟩ ?_ ?_
    · exact ⟨[some 0, some 1], rfl, by simp, by simp [setsA, keepA, SWeak, AWeak], by simp [HWeak, BWeak, SWeak, AWeak]⟩
    · rintro i ⟨h1, h2⟩
      simp only [awK, Nat.reduceMod, Nat.reduceDiv, reduceIte]
      rcases Nat.lt_or_ge i a.length with h | h
      · have ga := rowsD_getD h
        have gb := rowsD_getD (show i < b.length by omega)
        have ma := (a2 _ (memD (d := []) h)).1
        have mb := (b2 _ (memD (d := []) (show i < b.length by omega))).1
        simp (config := { maxSteps := 1000000 }) (disch := ((try simp only [awL]); omega)) only [Option.toList_some, Option.toList_none, nextC_more, nextC_over, bs_size, bs_extract, bs_toList, bs_append, byteAt_bs, bs_cells, nums_length, nums_getD, al, bl, ga, gb, ↓awU, awV, awF, ofVal, ofVal0, isShift, aggK, forall_const, ↓reduceIte, ↓reduceDIte, ↓purePost, combine, idsA, cellsA, numsOf, srcA, calleeA, refsA, isScalar, scalarD, scalar0, AV.one, putL, unfA, implies_true, IntKind.signed, Nat.reduceAdd, Nat.reduceSub, Nat.reduceMul, Nat.reducePow, Nat.reduceDiv, Nat.reduceMod, Int.reduceAdd, Int.reduceSub, Int.reduceMul, Int.reducePow, Int.reduceNeg, Int.reduceToNat, Int.reduceLT, Int.reduceLE, Nat.reduceEqDiff, sidsB, Nat.reduceBEq, keyKD, isIntK, aggD, aggL, eqKs]
        refine CallC.pure (sameR_spec _ _ false false (by omega) (by omega)) ?_
        by_cases he : a.getD i [] = b.getD i []
        · rw [decide_eq_true he]
          simp (config := { maxSteps := 1000000 }) (disch := ((try simp only [awL]); omega)) only [Option.toList_some, Option.toList_none, nextC_more, nextC_over, bs_size, bs_extract, bs_toList, bs_append, byteAt_bs, bs_cells, nums_length, nums_getD, ↓awU, awV, awF, ofVal, ofVal0, isShift, aggK, forall_const, ↓reduceIte, ↓reduceDIte, ↓purePost, combine, idsA, cellsA, numsOf, srcA, calleeA, refsA, isScalar, scalarD, scalar0, AV.one, putL, unfA, implies_true, IntKind.signed, Nat.reduceAdd, Nat.reduceSub, Nat.reduceMul, Nat.reducePow, Nat.reduceDiv, Nat.reduceMod, Int.reduceAdd, Int.reduceSub, Int.reduceMul, Int.reducePow, Int.reduceNeg, Int.reduceToNat, Int.reduceLT, Int.reduceLE, Nat.reduceEqDiff, sidsB, Nat.reduceBEq, keyKD, isIntK, aggD, aggL, eqKs]
          first | exact ⟨i + 1, ⟨h, take_eq_step h hl h2 he⟩, by simp only; omega, ⟨[some 0, some 1], rfl, by simp, by simp [setsA, keepA, SWeak, AWeak], by simp [HWeak, BWeak, SWeak, AWeak]⟩⟩ | exact ⟨by rfl, i + 1, ⟨h, take_eq_step h hl h2 he⟩, by simp only; omega, ⟨[some 0, some 1], rfl, by simp, by simp [setsA, keepA, SWeak, AWeak], by simp [HWeak, BWeak, SWeak, AWeak]⟩⟩
        · rw [decide_eq_false he]
          simp (config := { maxSteps := 1000000 }) (disch := ((try simp only [awL]); omega)) only [Option.toList_some, Option.toList_none, nextC_more, nextC_over, bs_size, bs_extract, bs_toList, bs_append, byteAt_bs, bs_cells, nums_length, nums_getD, ↓awU, awV, awF, ofVal, ofVal0, isShift, aggK, forall_const, ↓reduceIte, ↓reduceDIte, ↓purePost, combine, idsA, cellsA, numsOf, srcA, calleeA, refsA, isScalar, scalarD, scalar0, AV.one, putL, unfA, implies_true, IntKind.signed, Nat.reduceAdd, Nat.reduceSub, Nat.reduceMul, Nat.reducePow, Nat.reduceDiv, Nat.reduceMod, Int.reduceAdd, Int.reduceSub, Int.reduceMul, Int.reducePow, Int.reduceNeg, Int.reduceToNat, Int.reduceLT, Int.reduceLE, Nat.reduceEqDiff, sidsB, Nat.reduceBEq, keyKD, isIntK, aggD, aggL, eqKs]
          have : ¬ a = b := fun e => he (by rw [e])
          first | (refine ⟨by rfl, ?_⟩; simp [hr, this]) | simp [hr, this]
      · rw [List.take_of_length_le h, List.take_of_length_le (by omega)] at h2
        simp (config := { maxSteps := 1000000 }) (disch := ((try simp only [awL]); omega)) only [Option.toList_some, Option.toList_none, nextC_more, nextC_over, bs_size, bs_extract, bs_toList, bs_append, byteAt_bs, bs_cells, nums_length, nums_getD, ↓awU, awV, awF, ofVal, ofVal0, isShift, aggK, forall_const, ↓reduceIte, ↓reduceDIte, ↓purePost, combine, idsA, cellsA, numsOf, srcA, calleeA, refsA, isScalar, scalarD, scalar0, AV.one, putL, unfA, implies_true, IntKind.signed, Nat.reduceAdd, Nat.reduceSub, Nat.reduceMul, Nat.reducePow, Nat.reduceDiv, Nat.reduceMod, Int.reduceAdd, Int.reduceSub, Int.reduceMul, Int.reducePow, Int.reduceNeg, Int.reduceToNat, Int.reduceLT, Int.reduceLE, Nat.reduceEqDiff, sidsB, Nat.reduceBEq, keyKD, isIntK, aggD, aggL, eqKs]
        simp [hr, h2]
  · simp (config := { maxSteps := 1000000 }) (disch := ((try simp only [awL]); omega)) only [Option.toList_some, Option.toList_none, nextC_more, nextC_over, bs_size, bs_extract, bs_toList, bs_append, byteAt_bs, bs_cells, nums_length, nums_getD, al, bl, hl, Tryz.f15, ↓awU, awV, awF, ofVal, ofVal0, isShift, aggK, forall_const, ↓reduceIte, ↓reduceDIte, ↓purePost, combine, idsA, cellsA, numsOf, srcA, calleeA, refsA, isScalar, scalarD, scalar0, AV.one, putL, unfA, implies_true, IntKind.signed, Nat.reduceAdd, Nat.reduceSub, Nat.reduceMul, Nat.reducePow, Nat.reduceDiv, Nat.reduceMod, Int.reduceAdd, Int.reduceSub, Int.reduceMul, Int.reducePow, Int.reduceNeg, Int.reduceToNat, Int.reduceLT, Int.reduceLE, Nat.reduceEqDiff, sidsB, Nat.reduceBEq, keyKD, isIntK, aggD, aggL, eqKs]
    have : ¬ a = b := fun e => hl (by rw [e])
    simp [hr, this]
theorem any_step {α : Type} {p : α → Bool} {l : List α} {i : Nat} {x : α} (h : i < l.length) : (l.drop i).any p = (p (l.getD i x) || (l.drop (i + 1)).any p) := by
  rw [List.drop_eq_getElem_cons h, List.getD_eq_getElem?_getD, List.getElem?_eq_getElem h, List.any_cons]; rfl
set_option maxHeartbeats 4000000 in
set_option maxRecDepth 100000 in
theorem limited_spec (g : List Row) (full : Bool) (hg : okGrid g) : Ctr Tryz.prog G 33 [.d (.agg [Gr g full])] [] (.d (.bool (!bigG g))) [] := by
  obtain ⟨g1, g2⟩ := hg
  obtain ⟨r, hr⟩ : ∃ r, r = !bigG g := ⟨_, rfl⟩
  rw [← hr]
  unfold bigG at hr
  refine Ctr.pure (M := M0) hmix Tryz.func33 rfl go33 ?_
  have gl := @rowsD_length g
  rcases Nat.lt_or_ge 4096 g.length with h | h
  · simp (config := { maxSteps := 1000000 }) (disch := ((try simp only [awL]); omega)) only [Option.toList_some, Option.toList_none, nextC_more, nextC_over, bs_size, bs_extract, bs_toList, bs_append, byteAt_bs, bs_cells, nums_length, nums_getD, gl, Tryz.f33, ↓awU, awV, awF, ofVal, ofVal0, isShift, aggK, forall_const, ↓reduceIte, ↓reduceDIte, ↓purePost, combine, idsA, cellsA, numsOf, srcA, calleeA, refsA, isScalar, scalarD, scalar0, AV.one, putL, unfA, implies_true, IntKind.signed, Nat.reduceAdd, Nat.reduceSub, Nat.reduceMul, Nat.reducePow, Nat.reduceDiv, Nat.reduceMod, Int.reduceAdd, Int.reduceSub, Int.reduceMul, Int.reducePow, Int.reduceNeg, Int.reduceToNat, Int.reduceLT, Int.reduceLE, Nat.reduceEqDiff, sidsB, Nat.reduceBEq, keyKD, isIntK, aggD, aggL, eqKs]
    simp [hr, h]
  · rw [decide_eq_false (by omega), Bool.false_or] at hr
    simp (config := { maxSteps := 1000000 }) (disch := ((try simp only [awL]); omega)) only [Option.toList_some, Option.toList_none, nextC_more, nextC_over, bs_size, bs_extract, bs_toList, bs_append, byteAt_bs, bs_cells, nums_length, nums_getD, gl, Tryz.f33, ↓awU, awV, awF, ofVal, ofVal0, isShift, aggK, forall_const, ↓reduceIte, ↓reduceDIte, ↓purePost, combine, idsA, cellsA, numsOf, srcA, calleeA, refsA, isScalar, scalarD, scalar0, AV.one, putL, unfA, implies_true, IntKind.signed, Nat.reduceAdd, Nat.reduceSub, Nat.reduceMul, Nat.reducePow, Nat.reduceDiv, Nat.reduceMod, Int.reduceAdd, Int.reduceSub, Int.reduceMul, Int.reducePow, Int.reduceNeg, Int.reduceToNat, Int.reduceLT, Int.reduceLE, Nat.reduceEqDiff, sidsB, Nat.reduceBEq, keyKD, isIntK, aggD, aggL, eqKs]
    refine LoopC.fr 12288 (α := Nat) (fun i => g.length - i) (fun i => [(14, .d (.int .i64 i))]) (fun _ => []) (fun i => i ≤ g.length ∧ g.any bigR = (g.drop i).any bigR) 0 ⟨Nat.zero_le _, by simp⟩ ?_ ?_
    · exact ⟨[], rfl, by simp, by simp [setsA, keepA, SWeak, AWeak], by simp [HWeak, BWeak, SWeak, AWeak]⟩
    · rintro i ⟨h1, h2⟩
      simp only [awK, Nat.reduceMod, Nat.reduceDiv, reduceIte]
      rcases Nat.lt_or_ge i g.length with h3 | h3
      · have gg := rowsD_getD h3
        rw [any_step (x := []) h3] at h2
        obtain ⟨r1, r2⟩ := g2 _ (memD (d := []) h3)
        generalize g.getD i [] = row at *
        have sl := @strs_length row
        rcases Nat.lt_or_ge 64 row.length with h4 | h4
        · simp (config := { maxSteps := 1000000 }) (disch := ((try simp only [awL]); omega)) only [Option.toList_some, Option.toList_none, nextC_more, nextC_over, bs_size, bs_extract, bs_toList, bs_append, byteAt_bs, bs_cells, nums_length, nums_getD, gl, gg, sl, ↓awU, awV, awF, ofVal, ofVal0, isShift, aggK, forall_const, ↓reduceIte, ↓reduceDIte, ↓purePost, combine, idsA, cellsA, numsOf, srcA, calleeA, refsA, isScalar, scalarD, scalar0, AV.one, putL, unfA, implies_true, IntKind.signed, Nat.reduceAdd, Nat.reduceSub, Nat.reduceMul, Nat.reducePow, Nat.reduceDiv, Nat.reduceMod, Int.reduceAdd, Int.reduceSub, Int.reduceMul, Int.reducePow, Int.reduceNeg, Int.reduceToNat, Int.reduceLT, Int.reduceLE, Nat.reduceEqDiff, sidsB, Nat.reduceBEq, keyKD, isIntK, aggD, aggL, eqKs]
          have : bigR row = true := by unfold bigR; rw [decide_eq_true h4]; rfl
          rw [hr, h2, this]; rfl
        · simp (config := { maxSteps := 1000000 }) (disch := ((try simp only [awL]); omega)) only [Option.toList_some, Option.toList_none, nextC_more, nextC_over, bs_size, bs_extract, bs_toList, bs_append, byteAt_bs, bs_cells, nums_length, nums_getD, gl, gg, sl, ↓awU, awV, awF, ofVal, ofVal0, isShift, aggK, forall_const, ↓reduceIte, ↓reduceDIte, ↓purePost, combine, idsA, cellsA, numsOf, srcA, calleeA, refsA, isScalar, scalarD, scalar0, AV.one, putL, unfA, implies_true, IntKind.signed, Nat.reduceAdd, Nat.reduceSub, Nat.reduceMul, Nat.reducePow, Nat.reduceDiv, Nat.reduceMod, Int.reduceAdd, Int.reduceSub, Int.reduceMul, Int.reducePow, Int.reduceNeg, Int.reduceToNat, Int.reduceLT, Int.reduceLE, Nat.reduceEqDiff, sidsB, Nat.reduceBEq, keyKD, isIntK, aggD, aggL, eqKs]
          refine LoopC.fr 6320128 (α := Nat) (fun j => row.length - j) (fun j => [(23, .d (.int .i64 j))]) (fun _ => []) (fun j => j ≤ row.length ∧ row.any bigF = (row.drop j).any bigF) 0 ⟨Nat.zero_le _, by simp⟩ ?_ ?_
          · exact ⟨[], rfl, by simp, by simp [setsA, keepA, SWeak, AWeak], by simp [HWeak, BWeak, SWeak, AWeak]⟩
          · rintro j ⟨j1, j2⟩
            simp only [awK, Nat.reduceMod, Nat.reduceDiv, reduceIte]
            rcases Nat.lt_or_ge j row.length with h5 | h5
            · have sg := strs_getD h5
              rw [any_step (x := []) h5] at j2
              have sz := r2 _ (memD (d := []) h5)
              generalize row.getD j [] = fld at *
              rcases Nat.lt_or_ge 1024 fld.length with h6 | h6
              · simp (config := { maxSteps := 1000000 }) (disch := ((try simp only [awL]); omega)) only [Option.toList_some, Option.toList_none, nextC_more, nextC_over, bs_size, bs_extract, bs_toList, bs_append, byteAt_bs, bs_cells, nums_length, nums_getD, sl, sg, ↓awU, awV, awF, ofVal, ofVal0, isShift, aggK, forall_const, ↓reduceIte, ↓reduceDIte, ↓purePost, combine, idsA, cellsA, numsOf, srcA, calleeA, refsA, isScalar, scalarD, scalar0, AV.one, putL, unfA, implies_true, IntKind.signed, Nat.reduceAdd, Nat.reduceSub, Nat.reduceMul, Nat.reducePow, Nat.reduceDiv, Nat.reduceMod, Int.reduceAdd, Int.reduceSub, Int.reduceMul, Int.reducePow, Int.reduceNeg, Int.reduceToNat, Int.reduceLT, Int.reduceLE, Nat.reduceEqDiff, sidsB, Nat.reduceBEq, keyKD, isIntK, aggD, aggL, eqKs]
                have e1 : bigF fld = true := decide_eq_true h6
                have : bigR row = true := by unfold bigR; rw [j2, e1]; simp
                rw [hr, h2, this]; rfl
              · simp (config := { maxSteps := 1000000 }) (disch := ((try simp only [awL]); omega)) only [Option.toList_some, Option.toList_none, nextC_more, nextC_over, bs_size, bs_extract, bs_toList, bs_append, byteAt_bs, bs_cells, nums_length, nums_getD, sl, sg, ↓awU, awV, awF, ofVal, ofVal0, isShift, aggK, forall_const, ↓reduceIte, ↓reduceDIte, ↓purePost, combine, idsA, cellsA, numsOf, srcA, calleeA, refsA, isScalar, scalarD, scalar0, AV.one, putL, unfA, implies_true, IntKind.signed, Nat.reduceAdd, Nat.reduceSub, Nat.reduceMul, Nat.reducePow, Nat.reduceDiv, Nat.reduceMod, Int.reduceAdd, Int.reduceSub, Int.reduceMul, Int.reducePow, Int.reduceNeg, Int.reduceToNat, Int.reduceLT, Int.reduceLE, Nat.reduceEqDiff, sidsB, Nat.reduceBEq, keyKD, isIntK, aggD, aggL, eqKs]
                have e1 : bigF fld = false := decide_eq_false (by omega)
                exact ⟨j + 1, ⟨h5, by rw [j2, e1]; rfl⟩, by simp only; omega, ⟨[], rfl, by simp, by simp [setsA, keepA, SWeak, AWeak], by simp [HWeak, BWeak, SWeak, AWeak]⟩⟩
            · rw [List.drop_eq_nil_of_le h5] at j2
              simp (config := { maxSteps := 1000000 }) (disch := ((try simp only [awL]); omega)) only [Option.toList_some, Option.toList_none, nextC_more, nextC_over, bs_size, bs_extract, bs_toList, bs_append, byteAt_bs, bs_cells, nums_length, nums_getD, ↓awU, awV, awF, ofVal, ofVal0, isShift, aggK, forall_const, ↓reduceIte, ↓reduceDIte, ↓purePost, combine, idsA, cellsA, numsOf, srcA, calleeA, refsA, isScalar, scalarD, scalar0, AV.one, putL, unfA, implies_true, IntKind.signed, Nat.reduceAdd, Nat.reduceSub, Nat.reduceMul, Nat.reducePow, Nat.reduceDiv, Nat.reduceMod, Int.reduceAdd, Int.reduceSub, Int.reduceMul, Int.reducePow, Int.reduceNeg, Int.reduceToNat, Int.reduceLT, Int.reduceLE, Nat.reduceEqDiff, sidsB, Nat.reduceBEq, keyKD, isIntK, aggD, aggL, eqKs]
              have : bigR row = false := by unfold bigR; rw [j2, decide_eq_false (by omega)]; rfl
              exact ⟨i + 1, ⟨h3, by rw [h2, this]; rfl⟩, by simp only; omega, ⟨[], rfl, by simp, by simp [setsA, keepA, SWeak, AWeak], by simp [HWeak, BWeak, SWeak, AWeak]⟩⟩
      · rw [List.drop_eq_nil_of_le h3] at h2
        simp (config := { maxSteps := 1000000 }) (disch := ((try simp only [awL]); omega)) only [Option.toList_some, Option.toList_none, nextC_more, nextC_over, bs_size, bs_extract, bs_toList, bs_append, byteAt_bs, bs_cells, nums_length, nums_getD, ↓awU, awV, awF, ofVal, ofVal0, isShift, aggK, forall_const, ↓reduceIte, ↓reduceDIte, ↓purePost, combine, idsA, cellsA, numsOf, srcA, calleeA, refsA, isScalar, scalarD, scalar0, AV.one, putL, unfA, implies_true, IntKind.signed, Nat.reduceAdd, Nat.reduceSub, Nat.reduceMul, Nat.reducePow, Nat.reduceDiv, Nat.reduceMod, Int.reduceAdd, Int.reduceSub, Int.reduceMul, Int.reducePow, Int.reduceNeg, Int.reduceToNat, Int.reduceLT, Int.reduceLE, Nat.reduceEqDiff, sidsB, Nat.reduceBEq, keyKD, isIntK, aggD, aggL, eqKs]
        rw [hr, h2]; rfl
end Go.Proofs.YtjjanbljkoaojaaGreatDoor

namespace Go.Proofs.YtjjanbljkoaojaaGreatDoor
open Go Go.Proofs Go.Abs
variable {G : Globals}
/-! The reference: which texts fit. -/
def stopB (d : Dia) (c : UInt8) : Bool := decide (c.toNat = d.del.toNat ∨ c.toNat = 10 ∨ c.toNat = 13)
theorem any_stop (d : Dia) (s : List UInt8) : s.any (stopB d) = (hasNl s || decide (d.del ∈ s)) := by
  rw [Bool.eq_iff_iff, List.any_eq_true]
  simp only [stopB, decide_eq_true_eq, hasNl, Bool.or_eq_true]
  constructor
  · rintro ⟨c, hc, h | h | h⟩
    · exact .inr (by rw [← u8_eq.2 h]; exact hc)
    · exact .inl (.inl (by rw [← (u8_eq (x := 10)).2 h]; exact hc))
    · exact .inl (.inr (by rw [← (u8_eq (x := 13)).2 h]; exact hc))
  · rintro ((h | h) | h)
    · exact ⟨10, h, .inr (.inl rfl)⟩
    · exact ⟨13, h, .inr (.inr rfl)⟩
    · exact ⟨d.del, h, .inl rfl⟩
theorem pad_at {s : List UInt8} (h : 0 < s.length) : padL s ↔ (s.getD 0 0).toNat = 32 ∨ (s.getD (s.length - 1) 0).toNat = 32 := by
  unfold padL
  have e1 : s.head? = some (s.getD 0 0) := by cases s with | nil => cases h | cons c r => rfl
  have e2 : s.getLast? = some (s.getD (s.length - 1) 0) := by
    rw [List.getLast?_eq_getElem?, List.getD_eq_getElem?_getD, List.getElem?_eq_getElem (by omega)]; rfl
  rw [e1, e2]
  simp only [Option.some.injEq, u8_eq]
  rfl
set_option maxHeartbeats 8000000 in
set_option maxRecDepth 100000 in
theorem rfits_spec (hT : HT G) (d : Dia) (s : List UInt8) (hs : s.length ≤ 1000000000) : Ctr Tryz.prog G 17 [.d d.D, .d (S s)] [] (.d (.bool (fitsL d s))) [] := by
  obtain ⟨r, hr⟩ : ∃ r, r = fitsL d s := ⟨_, rfl⟩
  rw [← hr]
  unfold fitsL at hr
  refine Ctr.pure (M := M0) hmix Tryz.func17 rfl go17 ?_
  simp (config := { maxSteps := 1000000 }) (disch := ((try simp only [awL]); omega)) only [Option.toList_some, Option.toList_none, nextC_more, nextC_over, bs_size, bs_extract, bs_toList, bs_append, byteAt_bs, bs_cells, nums_length, nums_getD, Tryz.f17, ↓awU, awV, awF, ofVal, ofVal0, isShift, aggK, forall_const, ↓reduceIte, ↓reduceDIte, ↓purePost, combine, idsA, cellsA, numsOf, srcA, calleeA, refsA, isScalar, scalarD, scalar0, AV.one, putL, unfA, implies_true, IntKind.signed, Nat.reduceAdd, Nat.reduceSub, Nat.reduceMul, Nat.reducePow, Nat.reduceDiv, Nat.reduceMod, Int.reduceAdd, Int.reduceSub, Int.reduceMul, Int.reducePow, Int.reduceNeg, Int.reduceToNat, Int.reduceLT, Int.reduceLE, Nat.reduceEqDiff, sidsB, Nat.reduceBEq, keyKD, isIntK, aggD, aggL, eqKs]
  refine CallC.pure (drvalid_spec d) ?_
  cases h1 : okDia d
  · simp (config := { maxSteps := 1000000 }) (disch := ((try simp only [awL]); omega)) only [Option.toList_some, Option.toList_none, nextC_more, nextC_over, bs_size, bs_extract, bs_toList, bs_append, byteAt_bs, bs_cells, nums_length, nums_getD, ↓awU, awV, awF, ofVal, ofVal0, isShift, aggK, forall_const, ↓reduceIte, ↓reduceDIte, ↓purePost, combine, idsA, cellsA, numsOf, srcA, calleeA, refsA, isScalar, scalarD, scalar0, AV.one, putL, unfA, implies_true, IntKind.signed, Nat.reduceAdd, Nat.reduceSub, Nat.reduceMul, Nat.reducePow, Nat.reduceDiv, Nat.reduceMod, Int.reduceAdd, Int.reduceSub, Int.reduceMul, Int.reducePow, Int.reduceNeg, Int.reduceToNat, Int.reduceLT, Int.reduceLE, Nat.reduceEqDiff, sidsB, Nat.reduceBEq, keyKD, isIntK, aggD, aggL, eqKs]
    simp [hr, h1]
  · simp (config := { maxSteps := 1000000 }) (disch := ((try simp only [awL]); omega)) only [Option.toList_some, Option.toList_none, nextC_more, nextC_over, bs_size, bs_extract, bs_toList, bs_append, byteAt_bs, bs_cells, nums_length, nums_getD, ↓awU, awV, awF, ofVal, ofVal0, isShift, aggK, forall_const, ↓reduceIte, ↓reduceDIte, ↓purePost, combine, idsA, cellsA, numsOf, srcA, calleeA, refsA, isScalar, scalarD, scalar0, AV.one, putL, unfA, implies_true, IntKind.signed, Nat.reduceAdd, Nat.reduceSub, Nat.reduceMul, Nat.reducePow, Nat.reduceDiv, Nat.reduceMod, Int.reduceAdd, Int.reduceSub, Int.reduceMul, Int.reducePow, Int.reduceNeg, Int.reduceToNat, Int.reduceLT, Int.reduceLE, Nat.reduceEqDiff, sidsB, Nat.reduceBEq, keyKD, isIntK, aggD, aggL, eqKs]
    refine CallC.pure (rvalidS_spec hT s (by omega)) ?_
    cases h2 : Lib.validD s
    · simp (config := { maxSteps := 1000000 }) (disch := ((try simp only [awL]); omega)) only [Option.toList_some, Option.toList_none, nextC_more, nextC_over, bs_size, bs_extract, bs_toList, bs_append, byteAt_bs, bs_cells, nums_length, nums_getD, ↓awU, awV, awF, ofVal, ofVal0, isShift, aggK, forall_const, ↓reduceIte, ↓reduceDIte, ↓purePost, combine, idsA, cellsA, numsOf, srcA, calleeA, refsA, isScalar, scalarD, scalar0, AV.one, putL, unfA, implies_true, IntKind.signed, Nat.reduceAdd, Nat.reduceSub, Nat.reduceMul, Nat.reducePow, Nat.reduceDiv, Nat.reduceMod, Int.reduceAdd, Int.reduceSub, Int.reduceMul, Int.reducePow, Int.reduceNeg, Int.reduceToNat, Int.reduceLT, Int.reduceLE, Nat.reduceEqDiff, sidsB, Nat.reduceBEq, keyKD, isIntK, aggD, aggL, eqKs]
      simp [hr, h1, h2]
    · simp (config := { maxSteps := 1000000 }) (disch := ((try simp only [awL]); omega)) only [Option.toList_some, Option.toList_none, nextC_more, nextC_over, bs_size, bs_extract, bs_toList, bs_append, byteAt_bs, bs_cells, nums_length, nums_getD, ↓awU, awV, awF, ofVal, ofVal0, isShift, aggK, forall_const, ↓reduceIte, ↓reduceDIte, ↓purePost, combine, idsA, cellsA, numsOf, srcA, calleeA, refsA, isScalar, scalarD, scalar0, AV.one, putL, unfA, implies_true, IntKind.signed, Nat.reduceAdd, Nat.reduceSub, Nat.reduceMul, Nat.reducePow, Nat.reduceDiv, Nat.reduceMod, Int.reduceAdd, Int.reduceSub, Int.reduceMul, Int.reducePow, Int.reduceNeg, Int.reduceToNat, Int.reduceLT, Int.reduceLE, Nat.reduceEqDiff, sidsB, Nat.reduceBEq, keyKD, isIntK, aggD, aggL, eqKs]
      have asa := any_stop d s
      refine LoopC.fr 6 (α := Nat) (fun i => s.length - i) (fun i => [(5, .d (.int .i64 i))]) (fun _ => [.box [.d (.int .u8 d.del.toNat), .d (.int .u8 d.quo.toNat), .d (.bool d.trim)]]) (fun i => i ≤ s.length ∧ s.any (stopB d) = (s.drop i).any (stopB d)) 0 ⟨Nat.zero_le _, by simp⟩ ?_ ?_
      · exact ⟨[some 0], rfl, by simp, by simp [setsA, keepA, SWeak, AWeak], by simp [HWeak, BWeak, SWeak, AWeak]⟩
      · rintro i ⟨i1, i2⟩
        simp only [awK, Nat.reduceMod, Nat.reduceDiv, reduceIte]
        rcases Nat.lt_or_ge i s.length with h | h
        · rw [any_step (x := 0) h] at i2
          have bad : stopB d (s.getD i 0) = true → r = false := fun hb => by
            rw [hb, Bool.true_or] at i2
            rw [i2] at asa
            rw [hr, h1, h2]
            have := Bool.or_eq_true_iff.1 asa.symm
            rcases this with h | h
            · rw [h]; rfl
            · rw [h]; simp
          rcases (by omega : (s.getD i 0).toNat = d.del.toNat ∨ (¬ (s.getD i 0).toNat = d.del.toNat ∧ (s.getD i 0).toNat = 10) ∨ (¬ (s.getD i 0).toNat = d.del.toNat ∧ ¬ (s.getD i 0).toNat = 10 ∧ (s.getD i 0).toNat = 13) ∨ (¬ (s.getD i 0).toNat = d.del.toNat ∧ ¬ (s.getD i 0).toNat = 10 ∧ ¬ (s.getD i 0).toNat = 13)) with h3 | ⟨h3, h4⟩ | ⟨h3, h4, h5⟩ | ⟨h3, h4, h5⟩
          · have := bad (decide_eq_true (.inl h3))
            simp (config := { maxSteps := 1000000 }) (disch := ((try simp only [awL]); omega)) only [Option.toList_some, Option.toList_none, nextC_more, nextC_over, bs_size, bs_extract, bs_toList, bs_append, byteAt_bs, bs_cells, nums_length, nums_getD, h3, ↓awU, awV, awF, ofVal, ofVal0, isShift, aggK, forall_const, ↓reduceIte, ↓reduceDIte, ↓purePost, combine, idsA, cellsA, numsOf, srcA, calleeA, refsA, isScalar, scalarD, scalar0, AV.one, putL, unfA, implies_true, IntKind.signed, Nat.reduceAdd, Nat.reduceSub, Nat.reduceMul, Nat.reducePow, Nat.reduceDiv, Nat.reduceMod, Int.reduceAdd, Int.reduceSub, Int.reduceMul, Int.reducePow, Int.reduceNeg, Int.reduceToNat, Int.reduceLT, Int.reduceLE, Nat.reduceEqDiff, sidsB, Nat.reduceBEq, keyKD, isIntK, aggD, aggL, eqKs]
            exact ⟨by rfl, this.symm⟩
          · have := bad (decide_eq_true (.inr (.inl h4)))
            simp (config := { maxSteps := 1000000 }) (disch := ((try simp only [awL]); omega)) only [Option.toList_some, Option.toList_none, nextC_more, nextC_over, bs_size, bs_extract, bs_toList, bs_append, byteAt_bs, bs_cells, nums_length, nums_getD, ↓awU, awV, awF, ofVal, ofVal0, isShift, aggK, forall_const, ↓reduceIte, ↓reduceDIte, ↓purePost, combine, idsA, cellsA, numsOf, srcA, calleeA, refsA, isScalar, scalarD, scalar0, AV.one, putL, unfA, implies_true, IntKind.signed, Nat.reduceAdd, Nat.reduceSub, Nat.reduceMul, Nat.reducePow, Nat.reduceDiv, Nat.reduceMod, Int.reduceAdd, Int.reduceSub, Int.reduceMul, Int.reducePow, Int.reduceNeg, Int.reduceToNat, Int.reduceLT, Int.reduceLE, Nat.reduceEqDiff, sidsB, Nat.reduceBEq, keyKD, isIntK, aggD, aggL, eqKs]
            exact ⟨by rfl, this.symm⟩
          · have := bad (decide_eq_true (.inr (.inr h5)))
            simp (config := { maxSteps := 1000000 }) (disch := ((try simp only [awL]); omega)) only [Option.toList_some, Option.toList_none, nextC_more, nextC_over, bs_size, bs_extract, bs_toList, bs_append, byteAt_bs, bs_cells, nums_length, nums_getD, ↓awU, awV, awF, ofVal, ofVal0, isShift, aggK, forall_const, ↓reduceIte, ↓reduceDIte, ↓purePost, combine, idsA, cellsA, numsOf, srcA, calleeA, refsA, isScalar, scalarD, scalar0, AV.one, putL, unfA, implies_true, IntKind.signed, Nat.reduceAdd, Nat.reduceSub, Nat.reduceMul, Nat.reducePow, Nat.reduceDiv, Nat.reduceMod, Int.reduceAdd, Int.reduceSub, Int.reduceMul, Int.reducePow, Int.reduceNeg, Int.reduceToNat, Int.reduceLT, Int.reduceLE, Nat.reduceEqDiff, sidsB, Nat.reduceBEq, keyKD, isIntK, aggD, aggL, eqKs]
            exact ⟨by rfl, this.symm⟩
          · have e0 : stopB d (s.getD i 0) = false := decide_eq_false (by omega)
            rw [e0, Bool.false_or] at i2
            simp (config := { maxSteps := 1000000 }) (disch := ((try simp only [awL]); omega)) only [Option.toList_some, Option.toList_none, nextC_more, nextC_over, bs_size, bs_extract, bs_toList, bs_append, byteAt_bs, bs_cells, nums_length, nums_getD, ↓awU, awV, awF, ofVal, ofVal0, isShift, aggK, forall_const, ↓reduceIte, ↓reduceDIte, ↓purePost, combine, idsA, cellsA, numsOf, srcA, calleeA, refsA, isScalar, scalarD, scalar0, AV.one, putL, unfA, implies_true, IntKind.signed, Nat.reduceAdd, Nat.reduceSub, Nat.reduceMul, Nat.reducePow, Nat.reduceDiv, Nat.reduceMod, Int.reduceAdd, Int.reduceSub, Int.reduceMul, Int.reducePow, Int.reduceNeg, Int.reduceToNat, Int.reduceLT, Int.reduceLE, Nat.reduceEqDiff, sidsB, Nat.reduceBEq, keyKD, isIntK, aggD, aggL, eqKs]
            exact ⟨by rfl, i + 1, ⟨h, i2⟩, by simp only; omega, ⟨[some 0], rfl, by simp, by simp [setsA, keepA, SWeak, AWeak], by simp [HWeak, BWeak, SWeak, AWeak]⟩⟩
        · rw [List.drop_eq_nil_of_le h] at i2
          rw [i2] at asa
          have asb := Bool.or_eq_false_iff.1 (show (hasNl s || decide (d.del ∈ s)) = false from asa.symm)
          rw [h1, h2, asb.1, asb.2] at hr
          simp only [Bool.not_false, Bool.true_and] at hr
          have hi := h
          clear asa asb i2 i1 h h1 h2
          have hz : d.quo = 0 ↔ d.quo.toNat = 0 := ⟨fun e => by rw [e]; rfl, fun e => u8_eq.2 e⟩
          rcases Nat.eq_zero_or_pos s.length with h | h
          · have e0 := List.eq_nil_of_length_eq_zero h
            simp (config := { maxSteps := 1000000 }) (disch := ((try simp only [awL]); omega)) only [Option.toList_some, Option.toList_none, nextC_more, nextC_over, bs_size, bs_extract, bs_toList, bs_append, byteAt_bs, bs_cells, nums_length, nums_getD, ↓awU, awV, awF, ofVal, ofVal0, isShift, aggK, forall_const, ↓reduceIte, ↓reduceDIte, ↓purePost, combine, idsA, cellsA, numsOf, srcA, calleeA, refsA, isScalar, scalarD, scalar0, AV.one, putL, unfA, implies_true, IntKind.signed, Nat.reduceAdd, Nat.reduceSub, Nat.reduceMul, Nat.reducePow, Nat.reduceDiv, Nat.reduceMod, Int.reduceAdd, Int.reduceSub, Int.reduceMul, Int.reducePow, Int.reduceNeg, Int.reduceToNat, Int.reduceLT, Int.reduceLE, Nat.reduceEqDiff, sidsB, Nat.reduceBEq, keyKD, isIntK, aggD, aggL, eqKs]
            rw [hr, e0]
            simp [padL]
          · have pa := pad_at h
            have hd : s.head? = some d.quo ↔ (s.getD 0 0).toNat = d.quo.toNat := by
              cases s with
              | nil => cases h
              | cons c t => simp [u8_eq]
            rw [show decide (d.quo ≠ 0 ∧ s.head? = some d.quo) = decide (¬ d.quo.toNat = 0 ∧ (s.getD 0 0).toNat = d.quo.toNat) from by rw [decide_eq_decide, ne_eq, hz, hd],
              show decide (d.trim = true ∧ padL s) = decide (d.trim = true ∧ ((s.getD 0 0).toNat = 32 ∨ (s.getD (s.length - 1) 0).toNat = 32)) from by rw [decide_eq_decide, pa]] at hr
            clear pa hd hz
            have ci : (((s.length : Nat) : Int) - 1).toNat = s.length - 1 := by omega
            rcases (by omega : d.quo.toNat = 0 ∨ (¬ d.quo.toNat = 0 ∧ (s.getD 0 0).toNat = d.quo.toNat) ∨ (¬ d.quo.toNat = 0 ∧ ¬ (s.getD 0 0).toNat = d.quo.toNat)) with q1 | ⟨q1, q2⟩ | ⟨q1, q2⟩
            · cases ht : d.trim
              · simp (config := { maxSteps := 1000000 }) (disch := ((try simp only [awL]); omega)) only [Option.toList_some, Option.toList_none, nextC_more, nextC_over, bs_size, bs_extract, bs_toList, bs_append, byteAt_bs, bs_cells, nums_length, nums_getD, ht, q1, ↓awU, awV, awF, ofVal, ofVal0, isShift, aggK, forall_const, ↓reduceIte, ↓reduceDIte, ↓purePost, combine, idsA, cellsA, numsOf, srcA, calleeA, refsA, isScalar, scalarD, scalar0, AV.one, putL, unfA, implies_true, IntKind.signed, Nat.reduceAdd, Nat.reduceSub, Nat.reduceMul, Nat.reducePow, Nat.reduceDiv, Nat.reduceMod, Int.reduceAdd, Int.reduceSub, Int.reduceMul, Int.reducePow, Int.reduceNeg, Int.reduceToNat, Int.reduceLT, Int.reduceLE, Nat.reduceEqDiff, sidsB, Nat.reduceBEq, keyKD, isIntK, aggD, aggL, eqKs]
                exact ⟨by rfl, by simp [-List.getD_eq_getElem?_getD, hr, q1, ht]⟩
              · by_cases q3 : (s.getD 0 0).toNat = 32
                · simp (config := { maxSteps := 1000000 }) (disch := ((try simp only [awL]); omega)) only [Option.toList_some, Option.toList_none, nextC_more, nextC_over, bs_size, bs_extract, bs_toList, bs_append, byteAt_bs, bs_cells, nums_length, nums_getD, ht, q1, q3, ↓awU, awV, awF, ofVal, ofVal0, isShift, aggK, forall_const, ↓reduceIte, ↓reduceDIte, ↓purePost, combine, idsA, cellsA, numsOf, srcA, calleeA, refsA, isScalar, scalarD, scalar0, AV.one, putL, unfA, implies_true, IntKind.signed, Nat.reduceAdd, Nat.reduceSub, Nat.reduceMul, Nat.reducePow, Nat.reduceDiv, Nat.reduceMod, Int.reduceAdd, Int.reduceSub, Int.reduceMul, Int.reducePow, Int.reduceNeg, Int.reduceToNat, Int.reduceLT, Int.reduceLE, Nat.reduceEqDiff, sidsB, Nat.reduceBEq, keyKD, isIntK, aggD, aggL, eqKs]
                  exact ⟨by rfl, by simp [-List.getD_eq_getElem?_getD, hr, q1, q3, ht]⟩
                · by_cases q4 : (s.getD (s.length - 1) 0).toNat = 32
                  · simp (config := { maxSteps := 1000000 }) (disch := ((try simp only [awL]); omega)) only [Option.toList_some, Option.toList_none, nextC_more, nextC_over, bs_size, bs_extract, bs_toList, bs_append, byteAt_bs, bs_cells, nums_length, nums_getD, ht, q1, ci, q4, ↓awU, awV, awF, ofVal, ofVal0, isShift, aggK, forall_const, ↓reduceIte, ↓reduceDIte, ↓purePost, combine, idsA, cellsA, numsOf, srcA, calleeA, refsA, isScalar, scalarD, scalar0, AV.one, putL, unfA, implies_true, IntKind.signed, Nat.reduceAdd, Nat.reduceSub, Nat.reduceMul, Nat.reducePow, Nat.reduceDiv, Nat.reduceMod, Int.reduceAdd, Int.reduceSub, Int.reduceMul, Int.reducePow, Int.reduceNeg, Int.reduceToNat, Int.reduceLT, Int.reduceLE, Nat.reduceEqDiff, sidsB, Nat.reduceBEq, keyKD, isIntK, aggD, aggL, eqKs]
                    exact ⟨by rfl, by simp [-List.getD_eq_getElem?_getD, hr, q1, q3, q4, ht]⟩
                  · simp (config := { maxSteps := 1000000 }) (disch := ((try simp only [awL]); omega)) only [Option.toList_some, Option.toList_none, nextC_more, nextC_over, bs_size, bs_extract, bs_toList, bs_append, byteAt_bs, bs_cells, nums_length, nums_getD, ht, q1, ci, ↓awU, awV, awF, ofVal, ofVal0, isShift, aggK, forall_const, ↓reduceIte, ↓reduceDIte, ↓purePost, combine, idsA, cellsA, numsOf, srcA, calleeA, refsA, isScalar, scalarD, scalar0, AV.one, putL, unfA, implies_true, IntKind.signed, Nat.reduceAdd, Nat.reduceSub, Nat.reduceMul, Nat.reducePow, Nat.reduceDiv, Nat.reduceMod, Int.reduceAdd, Int.reduceSub, Int.reduceMul, Int.reducePow, Int.reduceNeg, Int.reduceToNat, Int.reduceLT, Int.reduceLE, Nat.reduceEqDiff, sidsB, Nat.reduceBEq, keyKD, isIntK, aggD, aggL, eqKs]
                    exact ⟨by rfl, by simp [-List.getD_eq_getElem?_getD, hr, q1, q3, q4, ht]⟩
            · simp (config := { maxSteps := 1000000 }) (disch := ((try simp only [awL]); omega)) only [Option.toList_some, Option.toList_none, nextC_more, nextC_over, bs_size, bs_extract, bs_toList, bs_append, byteAt_bs, bs_cells, nums_length, nums_getD, q2, ↓awU, awV, awF, ofVal, ofVal0, isShift, aggK, forall_const, ↓reduceIte, ↓reduceDIte, ↓purePost, combine, idsA, cellsA, numsOf, srcA, calleeA, refsA, isScalar, scalarD, scalar0, AV.one, putL, unfA, implies_true, IntKind.signed, Nat.reduceAdd, Nat.reduceSub, Nat.reduceMul, Nat.reducePow, Nat.reduceDiv, Nat.reduceMod, Int.reduceAdd, Int.reduceSub, Int.reduceMul, Int.reducePow, Int.reduceNeg, Int.reduceToNat, Int.reduceLT, Int.reduceLE, Nat.reduceEqDiff, sidsB, Nat.reduceBEq, keyKD, isIntK, aggD, aggL, eqKs]
              exact ⟨by rfl, by simp [-List.getD_eq_getElem?_getD, hr, q1, q2]⟩
            · cases ht : d.trim
              · simp (config := { maxSteps := 1000000 }) (disch := ((try simp only [awL]); omega)) only [Option.toList_some, Option.toList_none, nextC_more, nextC_over, bs_size, bs_extract, bs_toList, bs_append, byteAt_bs, bs_cells, nums_length, nums_getD, ht, ↓awU, awV, awF, ofVal, ofVal0, isShift, aggK, forall_const, ↓reduceIte, ↓reduceDIte, ↓purePost, combine, idsA, cellsA, numsOf, srcA, calleeA, refsA, isScalar, scalarD, scalar0, AV.one, putL, unfA, implies_true, IntKind.signed, Nat.reduceAdd, Nat.reduceSub, Nat.reduceMul, Nat.reducePow, Nat.reduceDiv, Nat.reduceMod, Int.reduceAdd, Int.reduceSub, Int.reduceMul, Int.reducePow, Int.reduceNeg, Int.reduceToNat, Int.reduceLT, Int.reduceLE, Nat.reduceEqDiff, sidsB, Nat.reduceBEq, keyKD, isIntK, aggD, aggL, eqKs]
                exact ⟨by rfl, by simp [-List.getD_eq_getElem?_getD, hr, q1, q2, ht]⟩
              · by_cases q3 : (s.getD 0 0).toNat = 32
                · have q5 : ¬ 32 = d.quo.toNat := by omega
                  simp (config := { maxSteps := 1000000 }) (disch := ((try simp only [awL]); omega)) only [Option.toList_some, Option.toList_none, nextC_more, nextC_over, bs_size, bs_extract, bs_toList, bs_append, byteAt_bs, bs_cells, nums_length, nums_getD, ht, q3, ↓awU, awV, awF, ofVal, ofVal0, isShift, aggK, forall_const, ↓reduceIte, ↓reduceDIte, ↓purePost, combine, idsA, cellsA, numsOf, srcA, calleeA, refsA, isScalar, scalarD, scalar0, AV.one, putL, unfA, implies_true, IntKind.signed, Nat.reduceAdd, Nat.reduceSub, Nat.reduceMul, Nat.reducePow, Nat.reduceDiv, Nat.reduceMod, Int.reduceAdd, Int.reduceSub, Int.reduceMul, Int.reducePow, Int.reduceNeg, Int.reduceToNat, Int.reduceLT, Int.reduceLE, Nat.reduceEqDiff, sidsB, Nat.reduceBEq, keyKD, isIntK, aggD, aggL, eqKs]
                  exact ⟨by rfl, by simp [-List.getD_eq_getElem?_getD, hr, q1, q3, q5, ht]⟩
                · by_cases q4 : (s.getD (s.length - 1) 0).toNat = 32
                  · simp (config := { maxSteps := 1000000 }) (disch := ((try simp only [awL]); omega)) only [Option.toList_some, Option.toList_none, nextC_more, nextC_over, bs_size, bs_extract, bs_toList, bs_append, byteAt_bs, bs_cells, nums_length, nums_getD, ht, ci, q4, ↓awU, awV, awF, ofVal, ofVal0, isShift, aggK, forall_const, ↓reduceIte, ↓reduceDIte, ↓purePost, combine, idsA, cellsA, numsOf, srcA, calleeA, refsA, isScalar, scalarD, scalar0, AV.one, putL, unfA, implies_true, IntKind.signed, Nat.reduceAdd, Nat.reduceSub, Nat.reduceMul, Nat.reducePow, Nat.reduceDiv, Nat.reduceMod, Int.reduceAdd, Int.reduceSub, Int.reduceMul, Int.reducePow, Int.reduceNeg, Int.reduceToNat, Int.reduceLT, Int.reduceLE, Nat.reduceEqDiff, sidsB, Nat.reduceBEq, keyKD, isIntK, aggD, aggL, eqKs]
                    exact ⟨by rfl, by simp [-List.getD_eq_getElem?_getD, hr, q1, q2, q3, q4, ht]⟩
                  · simp (config := { maxSteps := 1000000 }) (disch := ((try simp only [awL]); omega)) only [Option.toList_some, Option.toList_none, nextC_more, nextC_over, bs_size, bs_extract, bs_toList, bs_append, byteAt_bs, bs_cells, nums_length, nums_getD, ht, ci, ↓awU, awV, awF, ofVal, ofVal0, isShift, aggK, forall_const, ↓reduceIte, ↓reduceDIte, ↓purePost, combine, idsA, cellsA, numsOf, srcA, calleeA, refsA, isScalar, scalarD, scalar0, AV.one, putL, unfA, implies_true, IntKind.signed, Nat.reduceAdd, Nat.reduceSub, Nat.reduceMul, Nat.reducePow, Nat.reduceDiv, Nat.reduceMod, Int.reduceAdd, Int.reduceSub, Int.reduceMul, Int.reducePow, Int.reduceNeg, Int.reduceToNat, Int.reduceLT, Int.reduceLE, Nat.reduceEqDiff, sidsB, Nat.reduceBEq, keyKD, isIntK, aggD, aggL, eqKs]
                    exact ⟨by rfl, by simp [-List.getD_eq_getElem?_getD, hr, q1, q2, q3, q4, ht]⟩
end Go.Proofs.YtjjanbljkoaojaaGreatDoor
