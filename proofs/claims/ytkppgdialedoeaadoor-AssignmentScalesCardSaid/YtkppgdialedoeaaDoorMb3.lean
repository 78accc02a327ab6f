/-
  Contracts of the functions, one after another.
-/
import Derived.Test.YtkppgdialedoeaaDoorMb2
import Derived.Test.YtkppgdialedoeaaDoorCards
import Derived.Test.YtkppgdialedoeaaDoorTie
set_option linter.all false
namespace Go.Proofs.YtkppgdialedoeaaDoor
open Go Go.Proofs Go.Abs
variable {G : Globals}
def tab7 : List Int := [0, 0, 1, 1, 2, 3, 5]
/-- The entry that the dice give at the k-th number. -/
def ent (t : List Int) (k : Nat) : Rat := Rat.divInt (tab7.getD (nx t k 7).toNat 0) (1 + nx t (k + 1) 2)
def rowW (t : List Int) (k c : Nat) : List Rat := (List.range c).map fun j => ent t (k + 2 * j)
def matW (t : List Int) (k r c : Nat) : List (List Rat) := (List.range r).map fun i => rowW t (k + 2 * c * i) c
theorem rowW_length {t : List Int} {k c : Nat} : (rowW t k c).length = c := by simp [rowW]
theorem rowW_push {t : List Int} {k c : Nat} : rowW t k c ++ [ent t (k + 2 * c)] = rowW t k (c + 1) := by simp [rowW, List.range_succ]
theorem matW_length {t : List Int} {k r c : Nat} : (matW t k r c).length = r := by simp [matW]
theorem matW_push {t : List Int} {k r c : Nat} : matW t k r c ++ [rowW t (k + 2 * c * r) c] = matW t k (r + 1) c := by simp [matW, List.range_succ]
theorem tab7_range {i : Nat} : 0 ≤ tab7.getD i 0 ∧ tab7.getD i 0 ≤ 5 := by
  rcases i with _ | _ | _ | _ | _ | _ | _ | i <;> simp [tab7]
theorem ent_Sm {t : List Int} {k : Nat} : Sm 60 (ent t k) ∧ 0 ≤ ent t k := by
  have h1 := @nx_range t (k + 1) 2 (by decide)
  obtain ⟨b, hb⟩ : ∃ b : Nat, 1 + nx t (k + 1) 2 = (b : Int) := ⟨(1 + nx t (k + 1) 2).toNat, by omega⟩
  have hb2 : b = 1 ∨ b = 2 := by omega
  have h2 := @tab7_range (nx t k 7).toNat
  simp only [ent, hb]
  generalize tab7.getD (nx t k 7).toNat 0 = a at *
  refine ⟨(Sm.of (a := a) (b := b) (by rcases hb2 with rfl | rfl <;> decide) (by omega)).mono (by omega), ?_⟩
  rw [Rat.divInt_nonneg_iff_of_pos_right (by omega)]
  exact h2.1
theorem ints7 : ints .i64 tab7 = [.int .i64 0, .int .i64 0, .int .i64 1, .int .i64 1, .int .i64 2, .int .i64 3, .int .i64 5] := rfl
theorem tab7_get {i : Nat} (h : i < 7) : [D.int .i64 0, .int .i64 0, .int .i64 1, .int .i64 1, .int .i64 2, .int .i64 3, .int .i64 5].getD i .nilp = .int .i64 (tab7.getD i 0) := by
  rw [← ints7, ints_getD h]
set_option maxHeartbeats 4000000 in
set_option maxRecDepth 100000 in
theorem weights_spec (t : List Int) (k r c : Nat) (ht : OkT t) (hr : r ≤ 500) (hc : c ≤ 500) :
    Ctr Tryd.prog G 14 [.ptr 0 0, .d (.int .i64 r), .d (.int .i64 c)] [DiceB t k] (.d (Mx (matW t k r c))) [DiceB t (k + 2 * c * r)] := by
  refine Ctr.body (M := M0) hmix Tryd.func14 rfl go14 ?_
  simp (config := { maxSteps := 1000000 }) (disch := ((try simp only [awL]); omega)) only [Tryd.f14, ↓awU, awV, awF, ofVal, ofVal0, isShift, aggK, forall_const, ↓reduceIte, ↓reduceDIte, ↓purePost, combine, idsA, cellsA, numsOf, srcA, calleeA, refsA, isScalar, scalarD, scalar0, AV.one, putL, unfA, implies_true, IntKind.signed, Nat.reduceAdd, Nat.reduceSub, Nat.reduceMul, Nat.reducePow, Nat.reduceDiv, Nat.reduceMod, Int.reduceAdd, Int.reduceSub, Int.reduceMul, Int.reducePow, Int.reduceNeg, Int.reduceToNat, Int.reduceLT, Int.reduceLE, Nat.reduceEqDiff, sidsB, Nat.reduceBEq, keyKD, isIntK]
  refine LoopC.fr 517 (α := Nat) (fun i => r - i) (fun i => [(7, .lsl 1 1 0 i), (10, .d (.int .i64 i))])
    (fun i => [DiceB t (k + 2 * c * i), .row false (MxL (matW t k i c))]) (fun i => i ≤ r) 0 (Nat.zero_le _) ?_ ?_
  · refine ⟨[some 0, none], rfl, by simp, by simp [setsA, keepA, SWeak, AWeak], by simp [HWeak, BWeak, SWeak, AWeak, matW, MxL]⟩
  · intro i hi
    simp only [keepA_z8, keepA_z, keepA_cons, keepA_nil, setsA_nil, setsA_cons, List.set_cons_zero, List.set_cons_succ, set_8, Nat.reduceMod, Nat.reduceDiv, Nat.zero_mod, Nat.zero_ne_one, if_true, if_false, reduceIte]
    rcases Nat.lt_or_ge i r with h1 | h1
    · simp (config := { maxSteps := 1000000 }) (disch := ((try simp only [awL]); omega)) only [↓awU, awV, awF, ofVal, ofVal0, isShift, aggK, forall_const, ↓reduceIte, ↓reduceDIte, ↓purePost, combine, idsA, cellsA, numsOf, srcA, calleeA, refsA, isScalar, scalarD, scalar0, AV.one, putL, unfA, implies_true, IntKind.signed, Nat.reduceAdd, Nat.reduceSub, Nat.reduceMul, Nat.reducePow, Nat.reduceDiv, Nat.reduceMod, Int.reduceAdd, Int.reduceSub, Int.reduceMul, Int.reducePow, Int.reduceNeg, Int.reduceToNat, Int.reduceLT, Int.reduceLE, Nat.reduceEqDiff, sidsB, Nat.reduceBEq, keyKD, isIntK]
      refine LoopC.fr 5765 (α := Nat) (fun j => c - j) (fun j => [(8, .lsl 2 4 0 j), (13, .d (.int .i64 j))])
        (fun j => [DiceB t (k + 2 * c * i + 2 * j), .row false (MxL (matW t k i c)), .row false (Fr (rowW t (k + 2 * c * i) j))]) (fun j => j ≤ c) 0 (Nat.zero_le _) ?_ ?_
      · refine ⟨[some 0, some 1, none], rfl, by simp, by simp [setsA, keepA, SWeak, AWeak], by simp [HWeak, BWeak, SWeak, AWeak, rowW, Fr]⟩
      · intro j hj
        simp only [keepA_z8, keepA_z, keepA_cons, keepA_nil, setsA_nil, setsA_cons, List.set_cons_zero, List.set_cons_succ, set_8, Nat.reduceMod, Nat.reduceDiv, Nat.zero_mod, Nat.zero_ne_one, if_true, if_false, reduceIte]
        rcases Nat.lt_or_ge j c with h2 | h2
        · have n1 := @nx_range t (k + 2 * c * i + 2 * j) 7 (by decide)
          have n2 := @nx_range t (k + 2 * c * i + 2 * j + 1) 2 (by decide)
          have n3 := @tab7_range (nx t (k + 2 * c * i + 2 * j) 7).toNat
          simp (config := { maxSteps := 1000000 }) (disch := ((try simp only [awL]); omega)) only [↓awU, awV, awF, ofVal, ofVal0, isShift, aggK, forall_const, ↓reduceIte, ↓reduceDIte, ↓purePost, combine, idsA, cellsA, numsOf, srcA, calleeA, refsA, isScalar, scalarD, scalar0, AV.one, putL, unfA, implies_true, IntKind.signed, Nat.reduceAdd, Nat.reduceSub, Nat.reduceMul, Nat.reducePow, Nat.reduceDiv, Nat.reduceMod, Int.reduceAdd, Int.reduceSub, Int.reduceMul, Int.reducePow, Int.reduceNeg, Int.reduceToNat, Int.reduceLT, Int.reduceLE, Nat.reduceEqDiff, sidsB, Nat.reduceBEq, keyKD, isIntK]
          refine CallC.by (next_spec t _ 7 ht (by decide) (by decide)) rfl rfl (Nat.le_refl _) ?_
          simp (config := { maxSteps := 1000000 }) (disch := ((try simp only [awL]); omega)) only [↓awU, awV, awF, ofVal, ofVal0, isShift, aggK, forall_const, ↓reduceIte, ↓reduceDIte, ↓purePost, combine, idsA, cellsA, numsOf, srcA, calleeA, refsA, isScalar, scalarD, scalar0, AV.one, putL, unfA, implies_true, IntKind.signed, Nat.reduceAdd, Nat.reduceSub, Nat.reduceMul, Nat.reducePow, Nat.reduceDiv, Nat.reduceMod, Int.reduceAdd, Int.reduceSub, Int.reduceMul, Int.reducePow, Int.reduceNeg, Int.reduceToNat, Int.reduceLT, Int.reduceLE, Nat.reduceEqDiff, sidsB, Nat.reduceBEq, keyKD, isIntK]
          rw [tab7_get (by omega)]
          refine CallC.by (next_spec t (k + 2 * c * i + 2 * j + 1) 2 ht (by decide) (by decide)) rfl rfl (Nat.le_refl _) ?_
          simp (config := { maxSteps := 1000000 }) (disch := ((try simp only [awL]); omega)) only [↓awU, awV, awF, ofVal, ofVal0, isShift, aggK, forall_const, ↓reduceIte, ↓reduceDIte, ↓purePost, combine, idsA, cellsA, numsOf, srcA, calleeA, refsA, isScalar, scalarD, scalar0, AV.one, putL, unfA, implies_true, IntKind.signed, Nat.reduceAdd, Nat.reduceSub, Nat.reduceMul, Nat.reducePow, Nat.reduceDiv, Nat.reduceMod, Int.reduceAdd, Int.reduceSub, Int.reduceMul, Int.reducePow, Int.reduceNeg, Int.reduceToNat, Int.reduceLT, Int.reduceLE, Nat.reduceEqDiff, sidsB, Nat.reduceBEq, keyKD, isIntK]
          refine CallC.pure (part_spec _ _ (by omega) (by omega) (by omega) (by omega)) ?_
          rw [← ent]
          have q1 : (rowW t (k + 2 * c * i) j).length = j := rowW_length
          have q2 : k + 2 * c * i + 2 * j + 1 + 1 = k + 2 * c * i + 2 * (j + 1) := by omega
          simp (config := { maxSteps := 1000000 }) (disch := ((try simp only [awL]); omega)) only [Fr_length, cut_4, Fr_push, rowW_push, q2, ↓awU, awV, awF, ofVal, ofVal0, isShift, aggK, forall_const, ↓reduceIte, ↓reduceDIte, ↓purePost, combine, idsA, cellsA, numsOf, srcA, calleeA, refsA, isScalar, scalarD, scalar0, AV.one, putL, unfA, implies_true, IntKind.signed, Nat.reduceAdd, Nat.reduceSub, Nat.reduceMul, Nat.reducePow, Nat.reduceDiv, Nat.reduceMod, Int.reduceAdd, Int.reduceSub, Int.reduceMul, Int.reducePow, Int.reduceNeg, Int.reduceToNat, Int.reduceLT, Int.reduceLE, Nat.reduceEqDiff, sidsB, Nat.reduceBEq, keyKD, isIntK]
          refine ⟨by rfl, j + 1, h2, by simp only; omega, [some 0, some 1, some 5], rfl, by simp, by simp [SWeak, AWeak], by simp [HWeak, BWeak, SWeak, AWeak]⟩
        · have ej : j = c := by omega
          subst ej
          have q1 : (rowW t (k + 2 * j * i) j).length = j := rowW_length
          have q2 : (matW t k i j).length = i := matW_length
          simp (config := { maxSteps := 1000000 }) (disch := ((try simp only [awL]); omega)) only [MxL_length, cut_Fr, ↓awU, awV, awF, ofVal, ofVal0, isShift, aggK, forall_const, ↓reduceIte, ↓reduceDIte, ↓purePost, combine, idsA, cellsA, numsOf, srcA, calleeA, refsA, isScalar, scalarD, scalar0, AV.one, putL, unfA, implies_true, IntKind.signed, Nat.reduceAdd, Nat.reduceSub, Nat.reduceMul, Nat.reducePow, Nat.reduceDiv, Nat.reduceMod, Int.reduceAdd, Int.reduceSub, Int.reduceMul, Int.reducePow, Int.reduceNeg, Int.reduceToNat, Int.reduceLT, Int.reduceLE, Nat.reduceEqDiff, sidsB, Nat.reduceBEq, keyKD, isIntK]
          have em : MxL (matW t k i j) ++ [D.sl j false (Fr (rowW t (k + 2 * j * i) j))] = MxL (matW t k (i + 1) j) := by
            rw [← matW_push]; simp [MxL, rowW_length]
          rw [em]
          refine ⟨i + 1, h1, by simp only; omega, [some 0, some 4], rfl, by simp, by simp [SWeak, AWeak], ?_⟩
          have ek : k + 2 * j * i + 2 * j = k + 2 * j * (i + 1) := by rw [Nat.mul_add]; omega
          simp [HWeak, BWeak, SWeak, AWeak, ek]
    · have ei : i = r := by omega
      subst ei
      have q2 : (matW t k i c).length = i := matW_length
      simp (config := { maxSteps := 1000000 }) (disch := ((try simp only [awL]); omega)) only [↓awU, awV, awF, ofVal, ofVal0, isShift, aggK, forall_const, ↓reduceIte, ↓reduceDIte, ↓purePost, combine, idsA, cellsA, numsOf, srcA, calleeA, refsA, isScalar, scalarD, scalar0, AV.one, putL, unfA, implies_true, IntKind.signed, Nat.reduceAdd, Nat.reduceSub, Nat.reduceMul, Nat.reducePow, Nat.reduceDiv, Nat.reduceMod, Int.reduceAdd, Int.reduceSub, Int.reduceMul, Int.reducePow, Int.reduceNeg, Int.reduceToNat, Int.reduceLT, Int.reduceLE, Nat.reduceEqDiff, sidsB, Nat.reduceBEq, keyKD, isIntK]
      refine ⟨[some 0], rfl, by simp, by simp [HWeak, BWeak, SWeak, AWeak], .inr ⟨_, rfl, ?_, rfl⟩⟩
      simp (config := { maxSteps := 1000000 }) (disch := ((try simp only [awL]); omega)) only [cut_Mx, q2, ↓awU, awV, awF, ofVal, ofVal0, isShift, aggK, forall_const, ↓reduceIte, ↓reduceDIte, ↓purePost, combine, idsA, cellsA, numsOf, srcA, calleeA, refsA, isScalar, scalarD, scalar0, AV.one, putL, unfA, implies_true, IntKind.signed, Nat.reduceAdd, Nat.reduceSub, Nat.reduceMul, Nat.reducePow, Nat.reduceDiv, Nat.reduceMod, Int.reduceAdd, Int.reduceSub, Int.reduceMul, Int.reducePow, Int.reduceNeg, Int.reduceToNat, Int.reduceLT, Int.reduceLE, Nat.reduceEqDiff, sidsB, Nat.reduceBEq, keyKD, isIntK]
      rw [Mx, q2]
end Go.Proofs.YtkppgdialedoeaaDoor

namespace Go.Proofs.YtkppgdialedoeaaDoor
open Go Go.Proofs Go.Abs
variable {G : Globals}
/-- The error of weights. -/
def validE (w : List (List Rat)) : Int :=
  if 8 < w.length ∨ (∃ r ∈ w, 8 < r.length) then 3 else if ∃ r ∈ w, r.length ≠ (w.getD 0 []).length then 1 else if ∃ r ∈ w, ∃ x ∈ r, x < 0 then 2 else 0
theorem cmpQ_neg {x y : Rat} : cmpQ x y < 0 ↔ x < y := by
  unfold cmpQ
  split
  · rename_i h; exact ⟨fun _ => h, fun _ => by decide⟩
  · rename_i h; split <;> exact ⟨fun h' => absurd h' (by decide), fun h' => absurd h' h⟩
theorem ve_a {w : List (List Rat)} (h : 8 < w.length) : validE w = 3 := by rw [validE, if_pos (.inl h)]
theorem ve_b {w : List (List Rat)} {k : Nat} (h : k < w.length) (h2 : 8 < (w.getD k []).length) : validE w = 3 := by rw [validE, if_pos (.inr ⟨_, mem_getD h, h2⟩)]
def side8 (w : List (List Rat)) : Prop := ¬ (8 < w.length ∨ (∃ r ∈ w, 8 < r.length))
theorem side8_of {w : List (List Rat)} (h : ¬ 8 < w.length) (h2 : ∀ i, i < w.length → (w.getD i []).length ≤ 8) : side8 w := by
  rintro (h' | ⟨r, hr, h'⟩)
  · exact h h'
  · obtain ⟨i, hi, rfl⟩ := getD_of_mem (d := []) hr
    have := h2 i hi; omega
theorem ve_c {w : List (List Rat)} {k : Nat} (h0 : side8 w) (h : k < w.length) (h2 : (w.getD k []).length ≠ (w.getD 0 []).length) : validE w = 1 := by
  rw [validE, if_neg h0, if_pos ⟨_, mem_getD h, h2⟩]
def sameL (w : List (List Rat)) : Prop := ¬ ∃ r ∈ w, r.length ≠ (w.getD 0 []).length
theorem sameL_of {w : List (List Rat)} (h2 : ∀ i, i < w.length → (w.getD i []).length = (w.getD 0 []).length) : sameL w := by
  rintro ⟨r, hr, h'⟩
  obtain ⟨i, hi, rfl⟩ := getD_of_mem (d := []) hr
  exact h' (h2 i hi)
theorem ve_d {w : List (List Rat)} {i j : Nat} (h0 : side8 w) (h1 : sameL w) (h : i < w.length) (h2 : j < (w.getD i []).length) (h3 : (w.getD i []).getD j 0 < 0) : validE w = 2 := by
  rw [validE, if_neg h0, if_neg h1, if_pos ⟨_, mem_getD h, _, mem_getD h2, h3⟩]
theorem ve_e {w : List (List Rat)} (h0 : side8 w) (h1 : sameL w) (h : ∀ i, i < w.length → ∀ j, j < (w.getD i []).length → ¬ (w.getD i []).getD j 0 < 0) : validE w = 0 := by
  rw [validE, if_neg h0, if_neg h1, if_neg]
  rintro ⟨r, hr, x, hx, hlt⟩
  obtain ⟨i, hi, rfl⟩ := getD_of_mem (d := []) hr
  obtain ⟨j, hj, rfl⟩ := getD_of_mem (d := 0) hx
  exact h i hi j hj hlt
/-- All entries have few words. -/
def FVs (w : List (List Rat)) : Prop := ∀ r ∈ w, ∀ x ∈ r, FV x
theorem FVs.at {w : List (List Rat)} (h : FVs w) {i j : Nat} (hi : i < w.length) (hj : j < (w.getD i []).length) : FV ((w.getD i []).getD j 0) := h _ (mem_getD hi) _ (mem_getD hj)
set_option maxHeartbeats 4000000 in
set_option maxRecDepth 100000 in
theorem valid27_spec (hG : HG G) (w : List (List Rat)) (hw : FVs w) (hl : w.length < 2 ^ 40) (hr : ∀ i, (w.getD i []).length < 2 ^ 40) : Ctr Tryd.prog G 22 [.d (Mx w)] [] (.d (.int .i64 (validE w))) [] := by
  refine Ctr.pure (M := M0) hmix Tryd.func22 rfl go22 ?_
  by_cases h8 : 8 < w.length
  · rw [ve_a h8]
    simp (config := { maxSteps := 1000000 }) (disch := ((try simp only [awL]); omega)) only [Tryd.f22, ↓awU, awV, awF, ofVal, ofVal0, isShift, aggK, forall_const, ↓reduceIte, ↓reduceDIte, ↓purePost, combine, idsA, cellsA, numsOf, srcA, calleeA, refsA, isScalar, scalarD, scalar0, AV.one, putL, unfA, implies_true, IntKind.signed, Nat.reduceAdd, Nat.reduceSub, Nat.reduceMul, Nat.reducePow, Nat.reduceDiv, Nat.reduceMod, Int.reduceAdd, Int.reduceSub, Int.reduceMul, Int.reducePow, Int.reduceNeg, Int.reduceToNat, Int.reduceLT, Int.reduceLE, Nat.reduceEqDiff, sidsB, Nat.reduceBEq, keyKD, isIntK]
  · have ml := @MxL_length w
    simp (config := { maxSteps := 1000000 }) (disch := ((try simp only [awL]); omega)) only [Tryd.f22, ↓awU, awV, awF, ofVal, ofVal0, isShift, aggK, forall_const, ↓reduceIte, ↓reduceDIte, ↓purePost, combine, idsA, cellsA, numsOf, srcA, calleeA, refsA, isScalar, scalarD, scalar0, AV.one, putL, unfA, implies_true, IntKind.signed, Nat.reduceAdd, Nat.reduceSub, Nat.reduceMul, Nat.reducePow, Nat.reduceDiv, Nat.reduceMod, Int.reduceAdd, Int.reduceSub, Int.reduceMul, Int.reducePow, Int.reduceNeg, Int.reduceToNat, Int.reduceLT, Int.reduceLE, Nat.reduceEqDiff, sidsB, Nat.reduceBEq, keyKD, isIntK]
    refine LoopC.fr 49153 (α := Nat) (fun k => w.length - k) (fun k => [(16, .d (.int .i64 k))]) (fun _ => []) (fun k => k ≤ w.length ∧ ∀ i, i < k → (w.getD i []).length ≤ 8) 0 ⟨Nat.zero_le _, by omega⟩ ?_ ?_
    · exact ⟨[], rfl, by simp, by simp [setsA, keepA, SWeak, AWeak], by simp [HWeak, BWeak, SWeak, AWeak]⟩
    · rintro k ⟨hk, hv⟩
      simp only [keepA_z8, keepA_z, keepA_cons, keepA_nil, setsA_nil, setsA_cons, List.set_cons_zero, List.set_cons_succ, set_8, Nat.reduceMod, Nat.reduceDiv, Nat.zero_mod, Nat.zero_ne_one, if_true, if_false, reduceIte]
      rcases Nat.lt_or_ge k w.length with h1 | h1
      · have hrk := hr k
        by_cases hb : 8 < (w.getD k []).length
        · rw [ve_b h1 hb]
          simp (config := { maxSteps := 1000000 }) (disch := ((try simp only [awL]); omega)) only [ml, MxL_get, ↓awU, awV, awF, ofVal, ofVal0, isShift, aggK, forall_const, ↓reduceIte, ↓reduceDIte, ↓purePost, combine, idsA, cellsA, numsOf, srcA, calleeA, refsA, isScalar, scalarD, scalar0, AV.one, putL, unfA, implies_true, IntKind.signed, Nat.reduceAdd, Nat.reduceSub, Nat.reduceMul, Nat.reducePow, Nat.reduceDiv, Nat.reduceMod, Int.reduceAdd, Int.reduceSub, Int.reduceMul, Int.reducePow, Int.reduceNeg, Int.reduceToNat, Int.reduceLT, Int.reduceLE, Nat.reduceEqDiff, sidsB, Nat.reduceBEq, keyKD, isIntK]
        · simp (config := { maxSteps := 1000000 }) (disch := ((try simp only [awL]); omega)) only [ml, MxL_get, ↓awU, awV, awF, ofVal, ofVal0, isShift, aggK, forall_const, ↓reduceIte, ↓reduceDIte, ↓purePost, combine, idsA, cellsA, numsOf, srcA, calleeA, refsA, isScalar, scalarD, scalar0, AV.one, putL, unfA, implies_true, IntKind.signed, Nat.reduceAdd, Nat.reduceSub, Nat.reduceMul, Nat.reducePow, Nat.reduceDiv, Nat.reduceMod, Int.reduceAdd, Int.reduceSub, Int.reduceMul, Int.reducePow, Int.reduceNeg, Int.reduceToNat, Int.reduceLT, Int.reduceLE, Nat.reduceEqDiff, sidsB, Nat.reduceBEq, keyKD, isIntK]
          refine ⟨k + 1, ⟨h1, fun i hi => ?_⟩, by simp only; omega, ⟨[], rfl, by simp, by simp [setsA, keepA, SWeak, AWeak], by simp [HWeak, BWeak, SWeak, AWeak]⟩⟩
          rcases Nat.lt_succ_iff_lt_or_eq.1 hi with h2 | rfl
          · exact hv i h2
          · omega
      · have s8 := side8_of h8 (fun i hi => hv i (by omega))
        simp (config := { maxSteps := 1000000 }) (disch := ((try simp only [awL]); omega)) only [↓awU, awV, awF, ofVal, ofVal0, isShift, aggK, forall_const, ↓reduceIte, ↓reduceDIte, ↓purePost, combine, idsA, cellsA, numsOf, srcA, calleeA, refsA, isScalar, scalarD, scalar0, AV.one, putL, unfA, implies_true, IntKind.signed, Nat.reduceAdd, Nat.reduceSub, Nat.reduceMul, Nat.reducePow, Nat.reduceDiv, Nat.reduceMod, Int.reduceAdd, Int.reduceSub, Int.reduceMul, Int.reducePow, Int.reduceNeg, Int.reduceToNat, Int.reduceLT, Int.reduceLE, Nat.reduceEqDiff, sidsB, Nat.reduceBEq, keyKD, isIntK]
        refine LoopC.fr 50331649 (α := Nat) (fun k => w.length - k) (fun k => [(26, .d (.int .i64 k))]) (fun _ => []) (fun k => k ≤ w.length ∧ ∀ i, i < k → (w.getD i []).length = (w.getD 0 []).length) 0 ⟨Nat.zero_le _, by omega⟩ ?_ ?_
        · exact ⟨[], rfl, by simp, by simp [setsA, keepA, SWeak, AWeak], by simp [HWeak, BWeak, SWeak, AWeak]⟩
        · rintro k ⟨hk, hv⟩
          simp only [keepA_z8, keepA_z, keepA_cons, keepA_nil, setsA_nil, setsA_cons, List.set_cons_zero, List.set_cons_succ, set_8, Nat.reduceMod, Nat.reduceDiv, Nat.zero_mod, Nat.zero_ne_one, if_true, if_false, reduceIte]
          rcases Nat.lt_or_ge k w.length with h1 | h1
          · have hrk := hr k
            have hr0 := hr 0
            by_cases hb : (w.getD k []).length = (w.getD 0 []).length
            · simp (config := { maxSteps := 1000000 }) (disch := ((try simp only [awL]); omega)) only [ml, MxL_get, ↓awU, awV, awF, ofVal, ofVal0, isShift, aggK, forall_const, ↓reduceIte, ↓reduceDIte, ↓purePost, combine, idsA, cellsA, numsOf, srcA, calleeA, refsA, isScalar, scalarD, scalar0, AV.one, putL, unfA, implies_true, IntKind.signed, Nat.reduceAdd, Nat.reduceSub, Nat.reduceMul, Nat.reducePow, Nat.reduceDiv, Nat.reduceMod, Int.reduceAdd, Int.reduceSub, Int.reduceMul, Int.reducePow, Int.reduceNeg, Int.reduceToNat, Int.reduceLT, Int.reduceLE, Nat.reduceEqDiff, sidsB, Nat.reduceBEq, keyKD, isIntK]
              refine ⟨k + 1, ⟨h1, fun i hi => ?_⟩, by simp only; omega, ⟨[], rfl, by simp, by simp [setsA, keepA, SWeak, AWeak], by simp [HWeak, BWeak, SWeak, AWeak]⟩⟩
              rcases Nat.lt_succ_iff_lt_or_eq.1 hi with h2 | rfl
              · exact hv i h2
              · exact hb
            · rw [ve_c s8 h1 hb]
              simp (config := { maxSteps := 1000000 }) (disch := ((try simp only [awL]); omega)) only [ml, MxL_get, ↓awU, awV, awF, ofVal, ofVal0, isShift, aggK, forall_const, ↓reduceIte, ↓reduceDIte, ↓purePost, combine, idsA, cellsA, numsOf, srcA, calleeA, refsA, isScalar, scalarD, scalar0, AV.one, putL, unfA, implies_true, IntKind.signed, Nat.reduceAdd, Nat.reduceSub, Nat.reduceMul, Nat.reducePow, Nat.reduceDiv, Nat.reduceMod, Int.reduceAdd, Int.reduceSub, Int.reduceMul, Int.reducePow, Int.reduceNeg, Int.reduceToNat, Int.reduceLT, Int.reduceLE, Nat.reduceEqDiff, sidsB, Nat.reduceBEq, keyKD, isIntK]
          · have sl := sameL_of (fun i hi => hv i (by omega))
            simp (config := { maxSteps := 1000000 }) (disch := ((try simp only [awL]); omega)) only [↓awU, awV, awF, ofVal, ofVal0, isShift, aggK, forall_const, ↓reduceIte, ↓reduceDIte, ↓purePost, combine, idsA, cellsA, numsOf, srcA, calleeA, refsA, isScalar, scalarD, scalar0, AV.one, putL, unfA, implies_true, IntKind.signed, Nat.reduceAdd, Nat.reduceSub, Nat.reduceMul, Nat.reducePow, Nat.reduceDiv, Nat.reduceMod, Int.reduceAdd, Int.reduceSub, Int.reduceMul, Int.reducePow, Int.reduceNeg, Int.reduceToNat, Int.reduceLT, Int.reduceLE, Nat.reduceEqDiff, sidsB, Nat.reduceBEq, keyKD, isIntK]
            refine LoopC.fr 824633720832 (α := Nat) (fun k => w.length - k) (fun k => [(40, .d (.int .i64 k))]) (fun _ => []) (fun k => k ≤ w.length ∧ ∀ i, i < k → ∀ j, j < (w.getD i []).length → ¬ (w.getD i []).getD j 0 < 0) 0 ⟨Nat.zero_le _, by omega⟩ ?_ ?_
            · exact ⟨[], rfl, by simp, by simp [setsA, keepA, SWeak, AWeak], by simp [HWeak, BWeak, SWeak, AWeak]⟩
            · rintro k ⟨hk, hv⟩
              simp only [keepA_z8, keepA_z, keepA_cons, keepA_nil, setsA_nil, setsA_cons, List.set_cons_zero, List.set_cons_succ, set_8, Nat.reduceMod, Nat.reduceDiv, Nat.zero_mod, Nat.zero_ne_one, if_true, if_false, reduceIte]
              rcases Nat.lt_or_ge k w.length with h1 | h1
              · have hrk := hr k
                have fl := @Fr_length (w.getD k [])
                simp (config := { maxSteps := 1000000 }) (disch := ((try simp only [awL]); omega)) only [ml, MxL_get, ↓awU, awV, awF, ofVal, ofVal0, isShift, aggK, forall_const, ↓reduceIte, ↓reduceDIte, ↓purePost, combine, idsA, cellsA, numsOf, srcA, calleeA, refsA, isScalar, scalarD, scalar0, AV.one, putL, unfA, implies_true, IntKind.signed, Nat.reduceAdd, Nat.reduceSub, Nat.reduceMul, Nat.reducePow, Nat.reduceDiv, Nat.reduceMod, Int.reduceAdd, Int.reduceSub, Int.reduceMul, Int.reducePow, Int.reduceNeg, Int.reduceToNat, Int.reduceLT, Int.reduceLE, Nat.reduceEqDiff, sidsB, Nat.reduceBEq, keyKD, isIntK]
                refine LoopC.fr 54700703481856 (α := Nat) (fun j => (w.getD k []).length - j) (fun j => [(46, .d (.int .i64 j))]) (fun _ => []) (fun j => j ≤ (w.getD k []).length ∧ ∀ i, i < j → ¬ (w.getD k []).getD i 0 < 0) 0 ⟨Nat.zero_le _, by omega⟩ ?_ ?_
                · exact ⟨[], rfl, by simp, by simp [setsA, keepA, SWeak, AWeak], by simp [HWeak, BWeak, SWeak, AWeak]⟩
                · rintro j ⟨hj, hvj⟩
                  simp only [keepA_z8, keepA_z, keepA_cons, keepA_nil, setsA_nil, setsA_cons, List.set_cons_zero, List.set_cons_succ, set_8, Nat.reduceMod, Nat.reduceDiv, Nat.zero_mod, Nat.zero_ne_one, if_true, if_false, reduceIte]
                  rcases Nat.lt_or_ge j (w.getD k []).length with h2 | h2
                  · simp (config := { maxSteps := 1000000 }) (disch := ((try simp only [awL]); omega)) only [fl, Fr_get, ↓awU, awV, awF, ofVal, ofVal0, isShift, aggK, forall_const, ↓reduceIte, ↓reduceDIte, ↓purePost, combine, idsA, cellsA, numsOf, srcA, calleeA, refsA, isScalar, scalarD, scalar0, AV.one, putL, unfA, implies_true, IntKind.signed, Nat.reduceAdd, Nat.reduceSub, Nat.reduceMul, Nat.reducePow, Nat.reduceDiv, Nat.reduceMod, Int.reduceAdd, Int.reduceSub, Int.reduceMul, Int.reducePow, Int.reduceNeg, Int.reduceToNat, Int.reduceLT, Int.reduceLE, Nat.reduceEqDiff, sidsB, Nat.reduceBEq, keyKD, isIntK]
                    refine CallC.pure (sign_spec hG _ (hw.at h1 h2)) ?_
                    by_cases hneg : (w.getD k []).getD j 0 < 0
                    · have hc := cmpQ_neg.2 hneg
                      rw [ve_d s8 sl h1 h2 hneg]
                      simp (config := { maxSteps := 1000000 }) (disch := ((try simp only [awL]); omega)) only [↓awU, awV, awF, ofVal, ofVal0, isShift, aggK, forall_const, ↓reduceIte, ↓reduceDIte, ↓purePost, combine, idsA, cellsA, numsOf, srcA, calleeA, refsA, isScalar, scalarD, scalar0, AV.one, putL, unfA, implies_true, IntKind.signed, Nat.reduceAdd, Nat.reduceSub, Nat.reduceMul, Nat.reducePow, Nat.reduceDiv, Nat.reduceMod, Int.reduceAdd, Int.reduceSub, Int.reduceMul, Int.reducePow, Int.reduceNeg, Int.reduceToNat, Int.reduceLT, Int.reduceLE, Nat.reduceEqDiff, sidsB, Nat.reduceBEq, keyKD, isIntK]
                    · have hc : ¬ cmpQ ((w.getD k []).getD j 0) 0 < 0 := fun h => hneg (cmpQ_neg.1 h)
                      simp (config := { maxSteps := 1000000 }) (disch := ((try simp only [awL]); omega)) only [↓awU, awV, awF, ofVal, ofVal0, isShift, aggK, forall_const, ↓reduceIte, ↓reduceDIte, ↓purePost, combine, idsA, cellsA, numsOf, srcA, calleeA, refsA, isScalar, scalarD, scalar0, AV.one, putL, unfA, implies_true, IntKind.signed, Nat.reduceAdd, Nat.reduceSub, Nat.reduceMul, Nat.reducePow, Nat.reduceDiv, Nat.reduceMod, Int.reduceAdd, Int.reduceSub, Int.reduceMul, Int.reducePow, Int.reduceNeg, Int.reduceToNat, Int.reduceLT, Int.reduceLE, Nat.reduceEqDiff, sidsB, Nat.reduceBEq, keyKD, isIntK]
                      refine ⟨j + 1, ⟨h2, fun i hi => ?_⟩, by simp only; omega, ⟨[], rfl, by simp, by simp [setsA, keepA, SWeak, AWeak], by simp [HWeak, BWeak, SWeak, AWeak]⟩⟩
                      rcases Nat.lt_succ_iff_lt_or_eq.1 hi with h3 | rfl
                      · exact hvj i h3
                      · exact hneg
                  · simp (config := { maxSteps := 1000000 }) (disch := ((try simp only [awL]); omega)) only [↓awU, awV, awF, ofVal, ofVal0, isShift, aggK, forall_const, ↓reduceIte, ↓reduceDIte, ↓purePost, combine, idsA, cellsA, numsOf, srcA, calleeA, refsA, isScalar, scalarD, scalar0, AV.one, putL, unfA, implies_true, IntKind.signed, Nat.reduceAdd, Nat.reduceSub, Nat.reduceMul, Nat.reducePow, Nat.reduceDiv, Nat.reduceMod, Int.reduceAdd, Int.reduceSub, Int.reduceMul, Int.reducePow, Int.reduceNeg, Int.reduceToNat, Int.reduceLT, Int.reduceLE, Nat.reduceEqDiff, sidsB, Nat.reduceBEq, keyKD, isIntK]
                    refine ⟨k + 1, ⟨h1, fun i hi => ?_⟩, by simp only; omega, ⟨[], rfl, by simp, by simp [setsA, keepA, SWeak, AWeak], by simp [HWeak, BWeak, SWeak, AWeak]⟩⟩
                    rcases Nat.lt_succ_iff_lt_or_eq.1 hi with h3 | rfl
                    · exact hv i h3
                    · exact fun j hj => hvj j (by omega)
              · rw [ve_e s8 sl (fun i hi => hv i (by omega))]
                simp (config := { maxSteps := 1000000 }) (disch := ((try simp only [awL]); omega)) only [↓awU, awV, awF, ofVal, ofVal0, isShift, aggK, forall_const, ↓reduceIte, ↓reduceDIte, ↓purePost, combine, idsA, cellsA, numsOf, srcA, calleeA, refsA, isScalar, scalarD, scalar0, AV.one, putL, unfA, implies_true, IntKind.signed, Nat.reduceAdd, Nat.reduceSub, Nat.reduceMul, Nat.reducePow, Nat.reduceDiv, Nat.reduceMod, Int.reduceAdd, Int.reduceSub, Int.reduceMul, Int.reducePow, Int.reduceNeg, Int.reduceToNat, Int.reduceLT, Int.reduceLE, Nat.reduceEqDiff, sidsB, Nat.reduceBEq, keyKD, isIntK]
set_option maxHeartbeats 4000000 in
set_option maxRecDepth 100000 in
theorem rvalid27_spec (w : List (List Rat)) (hw : FVs w) (hl : w.length < 2 ^ 40) (hr : ∀ i, (w.getD i []).length < 2 ^ 40) : Ctr Tryd.prog G 23 [.d (Mx w)] [] (.d (.int .i64 (validE w))) [] := by
  refine Ctr.pure (M := M0) hmix Tryd.func23 rfl go23 ?_
  by_cases h8 : 8 < w.length
  · rw [ve_a h8]
    simp (config := { maxSteps := 1000000 }) (disch := ((try simp only [awL]); omega)) only [Tryd.f23, ↓awU, awV, awF, ofVal, ofVal0, isShift, aggK, forall_const, ↓reduceIte, ↓reduceDIte, ↓purePost, combine, idsA, cellsA, numsOf, srcA, calleeA, refsA, isScalar, scalarD, scalar0, AV.one, putL, unfA, implies_true, IntKind.signed, Nat.reduceAdd, Nat.reduceSub, Nat.reduceMul, Nat.reducePow, Nat.reduceDiv, Nat.reduceMod, Int.reduceAdd, Int.reduceSub, Int.reduceMul, Int.reducePow, Int.reduceNeg, Int.reduceToNat, Int.reduceLT, Int.reduceLE, Nat.reduceEqDiff, sidsB, Nat.reduceBEq, keyKD, isIntK]
  · have ml := @MxL_length w
    simp (config := { maxSteps := 1000000 }) (disch := ((try simp only [awL]); omega)) only [Tryd.f23, ↓awU, awV, awF, ofVal, ofVal0, isShift, aggK, forall_const, ↓reduceIte, ↓reduceDIte, ↓purePost, combine, idsA, cellsA, numsOf, srcA, calleeA, refsA, isScalar, scalarD, scalar0, AV.one, putL, unfA, implies_true, IntKind.signed, Nat.reduceAdd, Nat.reduceSub, Nat.reduceMul, Nat.reducePow, Nat.reduceDiv, Nat.reduceMod, Int.reduceAdd, Int.reduceSub, Int.reduceMul, Int.reducePow, Int.reduceNeg, Int.reduceToNat, Int.reduceLT, Int.reduceLE, Nat.reduceEqDiff, sidsB, Nat.reduceBEq, keyKD, isIntK]
    refine LoopC.fr 49153 (α := Nat) (fun k => w.length - k) (fun k => [(16, .d (.int .i64 k))]) (fun _ => []) (fun k => k ≤ w.length ∧ ∀ i, i < k → (w.getD i []).length ≤ 8) 0 ⟨Nat.zero_le _, by omega⟩ ?_ ?_
    · exact ⟨[], rfl, by simp, by simp [setsA, keepA, SWeak, AWeak], by simp [HWeak, BWeak, SWeak, AWeak]⟩
    · rintro k ⟨hk, hv⟩
      simp only [keepA_z8, keepA_z, keepA_cons, keepA_nil, setsA_nil, setsA_cons, List.set_cons_zero, List.set_cons_succ, set_8, Nat.reduceMod, Nat.reduceDiv, Nat.zero_mod, Nat.zero_ne_one, if_true, if_false, reduceIte]
      rcases Nat.lt_or_ge k w.length with h1 | h1
      · have hrk := hr k
        by_cases hb : 8 < (w.getD k []).length
        · rw [ve_b h1 hb]
          simp (config := { maxSteps := 1000000 }) (disch := ((try simp only [awL]); omega)) only [ml, MxL_get, ↓awU, awV, awF, ofVal, ofVal0, isShift, aggK, forall_const, ↓reduceIte, ↓reduceDIte, ↓purePost, combine, idsA, cellsA, numsOf, srcA, calleeA, refsA, isScalar, scalarD, scalar0, AV.one, putL, unfA, implies_true, IntKind.signed, Nat.reduceAdd, Nat.reduceSub, Nat.reduceMul, Nat.reducePow, Nat.reduceDiv, Nat.reduceMod, Int.reduceAdd, Int.reduceSub, Int.reduceMul, Int.reducePow, Int.reduceNeg, Int.reduceToNat, Int.reduceLT, Int.reduceLE, Nat.reduceEqDiff, sidsB, Nat.reduceBEq, keyKD, isIntK]
        · simp (config := { maxSteps := 1000000 }) (disch := ((try simp only [awL]); omega)) only [ml, MxL_get, ↓awU, awV, awF, ofVal, ofVal0, isShift, aggK, forall_const, ↓reduceIte, ↓reduceDIte, ↓purePost, combine, idsA, cellsA, numsOf, srcA, calleeA, refsA, isScalar, scalarD, scalar0, AV.one, putL, unfA, implies_true, IntKind.signed, Nat.reduceAdd, Nat.reduceSub, Nat.reduceMul, Nat.reducePow, Nat.reduceDiv, Nat.reduceMod, Int.reduceAdd, Int.reduceSub, Int.reduceMul, Int.reducePow, Int.reduceNeg, Int.reduceToNat, Int.reduceLT, Int.reduceLE, Nat.reduceEqDiff, sidsB, Nat.reduceBEq, keyKD, isIntK]
          refine ⟨k + 1, ⟨h1, fun i hi => ?_⟩, by simp only; omega, ⟨[], rfl, by simp, by simp [setsA, keepA, SWeak, AWeak], by simp [HWeak, BWeak, SWeak, AWeak]⟩⟩
          rcases Nat.lt_succ_iff_lt_or_eq.1 hi with h2 | rfl
          · exact hv i h2
          · omega
      · have s8 := side8_of h8 (fun i hi => hv i (by omega))
        simp (config := { maxSteps := 1000000 }) (disch := ((try simp only [awL]); omega)) only [↓awU, awV, awF, ofVal, ofVal0, isShift, aggK, forall_const, ↓reduceIte, ↓reduceDIte, ↓purePost, combine, idsA, cellsA, numsOf, srcA, calleeA, refsA, isScalar, scalarD, scalar0, AV.one, putL, unfA, implies_true, IntKind.signed, Nat.reduceAdd, Nat.reduceSub, Nat.reduceMul, Nat.reducePow, Nat.reduceDiv, Nat.reduceMod, Int.reduceAdd, Int.reduceSub, Int.reduceMul, Int.reducePow, Int.reduceNeg, Int.reduceToNat, Int.reduceLT, Int.reduceLE, Nat.reduceEqDiff, sidsB, Nat.reduceBEq, keyKD, isIntK]
        refine LoopC.fr 50331649 (α := Nat) (fun k => w.length - k) (fun k => [(26, .d (.int .i64 k))]) (fun _ => []) (fun k => k ≤ w.length ∧ ∀ i, i < k → (w.getD i []).length = (w.getD 0 []).length) 0 ⟨Nat.zero_le _, by omega⟩ ?_ ?_
        · exact ⟨[], rfl, by simp, by simp [setsA, keepA, SWeak, AWeak], by simp [HWeak, BWeak, SWeak, AWeak]⟩
        · rintro k ⟨hk, hv⟩
          simp only [keepA_z8, keepA_z, keepA_cons, keepA_nil, setsA_nil, setsA_cons, List.set_cons_zero, List.set_cons_succ, set_8, Nat.reduceMod, Nat.reduceDiv, Nat.zero_mod, Nat.zero_ne_one, if_true, if_false, reduceIte]
          rcases Nat.lt_or_ge k w.length with h1 | h1
          · have hrk := hr k
            have hr0 := hr 0
            by_cases hb : (w.getD k []).length = (w.getD 0 []).length
            · simp (config := { maxSteps := 1000000 }) (disch := ((try simp only [awL]); omega)) only [ml, MxL_get, ↓awU, awV, awF, ofVal, ofVal0, isShift, aggK, forall_const, ↓reduceIte, ↓reduceDIte, ↓purePost, combine, idsA, cellsA, numsOf, srcA, calleeA, refsA, isScalar, scalarD, scalar0, AV.one, putL, unfA, implies_true, IntKind.signed, Nat.reduceAdd, Nat.reduceSub, Nat.reduceMul, Nat.reducePow, Nat.reduceDiv, Nat.reduceMod, Int.reduceAdd, Int.reduceSub, Int.reduceMul, Int.reducePow, Int.reduceNeg, Int.reduceToNat, Int.reduceLT, Int.reduceLE, Nat.reduceEqDiff, sidsB, Nat.reduceBEq, keyKD, isIntK]
              refine ⟨k + 1, ⟨h1, fun i hi => ?_⟩, by simp only; omega, ⟨[], rfl, by simp, by simp [setsA, keepA, SWeak, AWeak], by simp [HWeak, BWeak, SWeak, AWeak]⟩⟩
              rcases Nat.lt_succ_iff_lt_or_eq.1 hi with h2 | rfl
              · exact hv i h2
              · exact hb
            · rw [ve_c s8 h1 hb]
              simp (config := { maxSteps := 1000000 }) (disch := ((try simp only [awL]); omega)) only [ml, MxL_get, ↓awU, awV, awF, ofVal, ofVal0, isShift, aggK, forall_const, ↓reduceIte, ↓reduceDIte, ↓purePost, combine, idsA, cellsA, numsOf, srcA, calleeA, refsA, isScalar, scalarD, scalar0, AV.one, putL, unfA, implies_true, IntKind.signed, Nat.reduceAdd, Nat.reduceSub, Nat.reduceMul, Nat.reducePow, Nat.reduceDiv, Nat.reduceMod, Int.reduceAdd, Int.reduceSub, Int.reduceMul, Int.reducePow, Int.reduceNeg, Int.reduceToNat, Int.reduceLT, Int.reduceLE, Nat.reduceEqDiff, sidsB, Nat.reduceBEq, keyKD, isIntK]
          · have sl := sameL_of (fun i hi => hv i (by omega))
            simp (config := { maxSteps := 1000000 }) (disch := ((try simp only [awL]); omega)) only [↓awU, awV, awF, ofVal, ofVal0, isShift, aggK, forall_const, ↓reduceIte, ↓reduceDIte, ↓purePost, combine, idsA, cellsA, numsOf, srcA, calleeA, refsA, isScalar, scalarD, scalar0, AV.one, putL, unfA, implies_true, IntKind.signed, Nat.reduceAdd, Nat.reduceSub, Nat.reduceMul, Nat.reducePow, Nat.reduceDiv, Nat.reduceMod, Int.reduceAdd, Int.reduceSub, Int.reduceMul, Int.reducePow, Int.reduceNeg, Int.reduceToNat, Int.reduceLT, Int.reduceLE, Nat.reduceEqDiff, sidsB, Nat.reduceBEq, keyKD, isIntK]
            refine LoopC.fr 824633720832 (α := Nat) (fun k => w.length - k) (fun k => [(40, .d (.int .i64 k))]) (fun _ => []) (fun k => k ≤ w.length ∧ ∀ i, i < k → ∀ j, j < (w.getD i []).length → ¬ (w.getD i []).getD j 0 < 0) 0 ⟨Nat.zero_le _, by omega⟩ ?_ ?_
            · exact ⟨[], rfl, by simp, by simp [setsA, keepA, SWeak, AWeak], by simp [HWeak, BWeak, SWeak, AWeak]⟩
            · rintro k ⟨hk, hv⟩
              simp only [keepA_z8, keepA_z, keepA_cons, keepA_nil, setsA_nil, setsA_cons, List.set_cons_zero, List.set_cons_succ, set_8, Nat.reduceMod, Nat.reduceDiv, Nat.zero_mod, Nat.zero_ne_one, if_true, if_false, reduceIte]
              rcases Nat.lt_or_ge k w.length with h1 | h1
              · have hrk := hr k
                have fl := @Fr_length (w.getD k [])
                simp (config := { maxSteps := 1000000 }) (disch := ((try simp only [awL]); omega)) only [ml, MxL_get, ↓awU, awV, awF, ofVal, ofVal0, isShift, aggK, forall_const, ↓reduceIte, ↓reduceDIte, ↓purePost, combine, idsA, cellsA, numsOf, srcA, calleeA, refsA, isScalar, scalarD, scalar0, AV.one, putL, unfA, implies_true, IntKind.signed, Nat.reduceAdd, Nat.reduceSub, Nat.reduceMul, Nat.reducePow, Nat.reduceDiv, Nat.reduceMod, Int.reduceAdd, Int.reduceSub, Int.reduceMul, Int.reducePow, Int.reduceNeg, Int.reduceToNat, Int.reduceLT, Int.reduceLE, Nat.reduceEqDiff, sidsB, Nat.reduceBEq, keyKD, isIntK]
                refine LoopC.fr 54700703481856 (α := Nat) (fun j => (w.getD k []).length - j) (fun j => [(46, .d (.int .i64 j))]) (fun _ => []) (fun j => j ≤ (w.getD k []).length ∧ ∀ i, i < j → ¬ (w.getD k []).getD i 0 < 0) 0 ⟨Nat.zero_le _, by omega⟩ ?_ ?_
                · exact ⟨[], rfl, by simp, by simp [setsA, keepA, SWeak, AWeak], by simp [HWeak, BWeak, SWeak, AWeak]⟩
                · rintro j ⟨hj, hvj⟩
                  simp only [keepA_z8, keepA_z, keepA_cons, keepA_nil, setsA_nil, setsA_cons, List.set_cons_zero, List.set_cons_succ, set_8, Nat.reduceMod, Nat.reduceDiv, Nat.zero_mod, Nat.zero_ne_one, if_true, if_false, reduceIte]
                  rcases Nat.lt_or_ge j (w.getD k []).length with h2 | h2
                  · simp (config := { maxSteps := 1000000 }) (disch := ((try simp only [awL]); omega)) only [fl, Fr_get, ↓awU, awV, awF, ofVal, ofVal0, isShift, aggK, forall_const, ↓reduceIte, ↓reduceDIte, ↓purePost, combine, idsA, cellsA, numsOf, srcA, calleeA, refsA, isScalar, scalarD, scalar0, AV.one, putL, unfA, implies_true, IntKind.signed, Nat.reduceAdd, Nat.reduceSub, Nat.reduceMul, Nat.reducePow, Nat.reduceDiv, Nat.reduceMod, Int.reduceAdd, Int.reduceSub, Int.reduceMul, Int.reducePow, Int.reduceNeg, Int.reduceToNat, Int.reduceLT, Int.reduceLE, Nat.reduceEqDiff, sidsB, Nat.reduceBEq, keyKD, isIntK]
                    refine CallC.pure rzero_spec ?_
                    simp (config := { maxSteps := 1000000 }) (disch := ((try simp only [awL]); omega)) only [↓awU, awV, awF, ofVal, ofVal0, isShift, aggK, forall_const, ↓reduceIte, ↓reduceDIte, ↓purePost, combine, idsA, cellsA, numsOf, srcA, calleeA, refsA, isScalar, scalarD, scalar0, AV.one, putL, unfA, implies_true, IntKind.signed, Nat.reduceAdd, Nat.reduceSub, Nat.reduceMul, Nat.reducePow, Nat.reduceDiv, Nat.reduceMod, Int.reduceAdd, Int.reduceSub, Int.reduceMul, Int.reducePow, Int.reduceNeg, Int.reduceToNat, Int.reduceLT, Int.reduceLE, Nat.reduceEqDiff, sidsB, Nat.reduceBEq, keyKD, isIntK]
                    refine CallC.pure (less_spec _ _ (hw.at h1 h2) FV0) ?_
                    by_cases hneg : (w.getD k []).getD j 0 < 0
                    · rw [decide_eq_true hneg, ve_d s8 sl h1 h2 hneg]
                      simp (config := { maxSteps := 1000000 }) (disch := ((try simp only [awL]); omega)) only [↓awU, awV, awF, ofVal, ofVal0, isShift, aggK, forall_const, ↓reduceIte, ↓reduceDIte, ↓purePost, combine, idsA, cellsA, numsOf, srcA, calleeA, refsA, isScalar, scalarD, scalar0, AV.one, putL, unfA, implies_true, IntKind.signed, Nat.reduceAdd, Nat.reduceSub, Nat.reduceMul, Nat.reducePow, Nat.reduceDiv, Nat.reduceMod, Int.reduceAdd, Int.reduceSub, Int.reduceMul, Int.reducePow, Int.reduceNeg, Int.reduceToNat, Int.reduceLT, Int.reduceLE, Nat.reduceEqDiff, sidsB, Nat.reduceBEq, keyKD, isIntK]
                      rfl
                    · rw [decide_eq_false hneg]
                      simp (config := { maxSteps := 1000000 }) (disch := ((try simp only [awL]); omega)) only [↓awU, awV, awF, ofVal, ofVal0, isShift, aggK, forall_const, ↓reduceIte, ↓reduceDIte, ↓purePost, combine, idsA, cellsA, numsOf, srcA, calleeA, refsA, isScalar, scalarD, scalar0, AV.one, putL, unfA, implies_true, IntKind.signed, Nat.reduceAdd, Nat.reduceSub, Nat.reduceMul, Nat.reducePow, Nat.reduceDiv, Nat.reduceMod, Int.reduceAdd, Int.reduceSub, Int.reduceMul, Int.reducePow, Int.reduceNeg, Int.reduceToNat, Int.reduceLT, Int.reduceLE, Nat.reduceEqDiff, sidsB, Nat.reduceBEq, keyKD, isIntK]
                      refine ⟨by rfl, j + 1, ⟨h2, fun i hi => ?_⟩, by simp only; omega, ⟨[], rfl, by simp, by simp [setsA, keepA, SWeak, AWeak], by simp [HWeak, BWeak, SWeak, AWeak]⟩⟩
                      rcases Nat.lt_succ_iff_lt_or_eq.1 hi with h3 | rfl
                      · exact hvj i h3
                      · exact hneg
                  · simp (config := { maxSteps := 1000000 }) (disch := ((try simp only [awL]); omega)) only [↓awU, awV, awF, ofVal, ofVal0, isShift, aggK, forall_const, ↓reduceIte, ↓reduceDIte, ↓purePost, combine, idsA, cellsA, numsOf, srcA, calleeA, refsA, isScalar, scalarD, scalar0, AV.one, putL, unfA, implies_true, IntKind.signed, Nat.reduceAdd, Nat.reduceSub, Nat.reduceMul, Nat.reducePow, Nat.reduceDiv, Nat.reduceMod, Int.reduceAdd, Int.reduceSub, Int.reduceMul, Int.reducePow, Int.reduceNeg, Int.reduceToNat, Int.reduceLT, Int.reduceLE, Nat.reduceEqDiff, sidsB, Nat.reduceBEq, keyKD, isIntK]
                    refine ⟨k + 1, ⟨h1, fun i hi => ?_⟩, by simp only; omega, ⟨[], rfl, by simp, by simp [setsA, keepA, SWeak, AWeak], by simp [HWeak, BWeak, SWeak, AWeak]⟩⟩
                    rcases Nat.lt_succ_iff_lt_or_eq.1 hi with h3 | rfl
                    · exact hv i h3
                    · exact fun j hj => hvj j (by omega)
              · rw [ve_e s8 sl (fun i hi => hv i (by omega))]
                simp (config := { maxSteps := 1000000 }) (disch := ((try simp only [awL]); omega)) only [↓awU, awV, awF, ofVal, ofVal0, isShift, aggK, forall_const, ↓reduceIte, ↓reduceDIte, ↓purePost, combine, idsA, cellsA, numsOf, srcA, calleeA, refsA, isScalar, scalarD, scalar0, AV.one, putL, unfA, implies_true, IntKind.signed, Nat.reduceAdd, Nat.reduceSub, Nat.reduceMul, Nat.reducePow, Nat.reduceDiv, Nat.reduceMod, Int.reduceAdd, Int.reduceSub, Int.reduceMul, Int.reducePow, Int.reduceNeg, Int.reduceToNat, Int.reduceLT, Int.reduceLE, Nat.reduceEqDiff, sidsB, Nat.reduceBEq, keyKD, isIntK]
end Go.Proofs.YtkppgdialedoeaaDoor

namespace Go.Proofs.YtkppgdialedoeaaDoor
open Go Go.Proofs Go.Abs
variable {G : Globals}
/-! The weight of an assignment. -/
def lEnt (w : List (List Rat)) (l : List Int) (i : Nat) : Rat := if 0 ≤ l.getD i 0 then (w.getD i []).getD (l.getD i 0).toNat 0 else 0
def sumW (w : List (List Rat)) (l : List Int) : Nat → Rat
  | 0 => 0
  | k + 1 => sumW w l k + lEnt w l k
def badE (w : List (List Rat)) (l : List Int) : Prop := ∃ i, i < l.length ∧ (l.getD i 0 < -1 ∨ (((w.getD i []).length : Nat) : Int) ≤ l.getD i 0)
def dupE (l : List Int) : Prop := ∃ j, j < l.length ∧ ∃ i, i < j ∧ 0 ≤ l.getD j 0 ∧ l.getD i 0 = l.getD j 0
open Classical in
noncomputable def weightR (w : List (List Rat)) (l : List Int) : D :=
  if validE w ≠ 0 then .tup [Zf, .int .i64 (validE w)] else if l.length ≠ w.length then .tup [Zf, .int .i64 1] else if badE w l then .tup [Zf, .int .i64 2]
  else if dupE l then .tup [Zf, .int .i64 6] else .tup [Frac (sumW w l l.length), .int .i64 0]
theorem wr_a {w : List (List Rat)} {l : List Int} (h : validE w ≠ 0) : weightR w l = .tup [Zf, .int .i64 (validE w)] := by rw [weightR, if_pos h]
theorem wr_b {w : List (List Rat)} {l : List Int} (h : validE w = 0) (h1 : l.length ≠ w.length) : weightR w l = .tup [Zf, .int .i64 1] := by
  rw [weightR, if_neg (by simp [h]), if_pos h1]
theorem wr_c {w : List (List Rat)} {l : List Int} (h : validE w = 0) (h1 : l.length = w.length) (h2 : badE w l) : weightR w l = .tup [Zf, .int .i64 2] := by
  rw [weightR, if_neg (by simp [h]), if_neg (by simp [h1]), if_pos h2]
theorem wr_d {w : List (List Rat)} {l : List Int} (h : validE w = 0) (h1 : l.length = w.length) (h2 : ¬ badE w l) (h3 : dupE l) : weightR w l = .tup [Zf, .int .i64 6] := by
  rw [weightR, if_neg (by simp [h]), if_neg (by simp [h1]), if_neg h2, if_pos h3]
theorem wr_e {w : List (List Rat)} {l : List Int} (h : validE w = 0) (h1 : l.length = w.length) (h2 : ¬ badE w l) (h3 : ¬ dupE l) : weightR w l = .tup [Frac (sumW w l l.length), .int .i64 0] := by
  rw [weightR, if_neg (by simp [h]), if_neg (by simp [h1]), if_neg h2, if_neg h3]
theorem valid_sides {w : List (List Rat)} (h : validE w = 0) : w.length ≤ 8 ∧ ∀ i, (w.getD i []).length ≤ 8 := by
  unfold validE at h
  split at h
  · cases h
  · rename_i h8
    refine ⟨?_, fun i => ?_⟩
    · rcases Nat.lt_or_ge 8 w.length with h | h
      · exact absurd (.inl h) h8
      · exact h
    · rcases Nat.lt_or_ge i w.length with hi | hi
      · rcases Nat.lt_or_ge 8 (w.getD i []).length with h | h
        · exact absurd (.inr ⟨_, mem_getD hi, h⟩) h8
        · exact h
      · rw [List.getD_eq_getElem?_getD, List.getElem?_eq_none hi]; simp
/-- The columns that are taken by the rows in front. -/
def usedB (l : List Int) (k c : Nat) : Bool := decide (∃ i, i < k ∧ l.getD i 0 = (c : Int))
def us (l : List Int) (k : Nat) : List AV := (List.range 8).map fun c => AV.d (.bool (usedB l k c))
theorem SWeak_d {α : Type} {fl : List (Option Nat)} (f : α → D) : ∀ l : List α, SWeak fl (l.map fun c => AV.d (f c)) (l.map fun c => AV.d (f c))
  | [] => trivial
  | x :: l => ⟨.inl rfl, SWeak_d f l⟩
theorem us_weak {fl : List (Option Nat)} {l : List Int} {k : Nat} : SWeak fl (us l k) (us l k) := SWeak_d (fun c => D.bool (usedB l k c)) _
theorem us_length {l : List Int} {k : Nat} : (us l k).length = 8 := by simp [us]
theorem us_get {l : List Int} {k c : Nat} {d : AV} (h : c < 8) : (us l k).getD c d = .d (.bool (usedB l k c)) := by
  simp [us, List.getD_eq_getElem?_getD, List.getElem?_map, List.getElem?_range h]
theorem used_next {l : List Int} {k c : Nat} : usedB l (k + 1) c = (usedB l k c || decide (l.getD k 0 = (c : Int))) := by
  unfold usedB
  rw [← Bool.decide_or]
  refine decide_eq_decide.2 ⟨?_, ?_⟩
  · rintro ⟨i, hi, h⟩
    rcases Nat.lt_succ_iff_lt_or_eq.1 hi with h2 | rfl
    · exact .inl ⟨i, h2, h⟩
    · exact .inr h
  · rintro (⟨i, hi, h⟩ | h)
    · exact ⟨i, by omega, h⟩
    · exact ⟨k, by omega, h⟩
theorem us_skip {l : List Int} {k : Nat} (h : l.getD k 0 < 0) : us l (k + 1) = us l k := by
  unfold us
  refine List.map_congr_left fun c _ => ?_
  rw [used_next, decide_eq_false (show ¬ l.getD k 0 = (c : Int) by omega), Bool.or_false]
theorem us_set {l : List Int} {k : Nat} (h : 0 ≤ l.getD k 0) (h8 : l.getD k 0 < 8) : (us l k).set (l.getD k 0).toNat (.d (.bool true)) = us l (k + 1) := by
  have hc : (l.getD k 0).toNat < 8 := by omega
  refine List.ext_getElem (by simp [us]) fun i h1 h2 => ?_
  have hi : i < 8 := by simpa [us] using h2
  rw [List.getElem_set]
  simp only [us, List.getElem_map, List.getElem_range, used_next]
  split
  · rename_i e; subst e
    rw [decide_eq_true (show l.getD k 0 = (((l.getD k 0).toNat : Nat) : Int) by omega), Bool.or_true]
  · rename_i e
    rw [decide_eq_false (show ¬ l.getD k 0 = (i : Int) by omega), Bool.or_false]
theorem us_zero {l : List Int} : us l 0 = [.d (.bool false), .d (.bool false), .d (.bool false), .d (.bool false), .d (.bool false), .d (.bool false), .d (.bool false), .d (.bool false)] := by
  have : ∀ c, usedB l 0 c = false := fun c => decide_eq_false (by rintro ⟨i, hi, _⟩; omega)
  simp [us, this, List.range_succ_eq_map]
theorem used_dup {l : List Int} {k : Nat} (hk : k < l.length) (h : 0 ≤ l.getD k 0) (hu : usedB l k (l.getD k 0).toNat = true) : dupE l := by
  obtain ⟨i, hi, he⟩ := of_decide_eq_true hu
  exact ⟨k, hk, i, hi, h, by rw [he]; omega⟩
theorem used_no {l : List Int} {k : Nat} (h : 0 ≤ l.getD k 0) (hu : usedB l k (l.getD k 0).toNat = false) : ∀ i, i < k → l.getD i 0 ≠ l.getD k 0 :=
  fun i hi he => of_decide_eq_false hu ⟨i, hi, by rw [he]; omega⟩
theorem no_dup {l : List Int} (h : ∀ k, k < l.length → 0 ≤ l.getD k 0 → ∀ i, i < k → l.getD i 0 ≠ l.getD k 0) : ¬ dupE l := by
  rintro ⟨j, hj, i, hi, h0, he⟩; exact h j hj h0 i hi he
def noD (l : List Int) (k i : Nat) : Prop := 0 ≤ l.getD k 0 → ∀ j, j < i → l.getD j 0 ≠ l.getD k 0
theorem sumW_skip {w : List (List Rat)} {l : List Int} {k : Nat} (h : l.getD k 0 < 0) : sumW w l (k + 1) = sumW w l k := by
  rw [sumW, lEnt, if_neg (by omega), Rat.add_zero]
theorem sumW_take {w : List (List Rat)} {l : List Int} {k : Nat} (h : 0 ≤ l.getD k 0) : sumW w l (k + 1) = sumW w l k + (w.getD k []).getD (l.getD k 0).toNat 0 := by
  rw [sumW, lEnt, if_pos h]
/-- What is asked of weights: few words, in the entries and in all sums. -/
structure Wok (w : List (List Rat)) : Prop where
  len : w.length < 2 ^ 40
  row : ∀ i, (w.getD i []).length < 2 ^ 40
  sm : ∀ r ∈ w, ∀ x ∈ r, Sm 1000 x
theorem Wok.fvs {w : List (List Rat)} (h : Wok w) : FVs w := fun r hr x hx => (h.sm r hr x hx).FV (by decide)
theorem Wok.entry {w : List (List Rat)} (h : Wok w) (l : List Int) (i : Nat) : Sm 1000 (lEnt w l i) := by
  unfold lEnt
  split
  · rcases Nat.lt_or_ge i w.length with hi | hi
    · rcases Nat.lt_or_ge (l.getD i 0).toNat (w.getD i []).length with hj | hj
      · exact h.sm _ (mem_getD hi) _ (mem_getD hj)
      · rw [List.getD_eq_getElem?_getD, List.getElem?_eq_none hj]; exact Sm.zero.mono (by decide)
    · have : w.getD i [] = [] := by rw [List.getD_eq_getElem?_getD, List.getElem?_eq_none hi]; rfl
      rw [this]; exact Sm.zero.mono (by decide)
  · exact Sm.zero.mono (by decide)
theorem Wok.sum {w : List (List Rat)} (h : Wok w) (l : List Int) (k : Nat) : Sm (1000 * k) (sumW w l k) := by
  induction k with
  | zero => exact Sm.zero
  | succ k ih => rw [Nat.mul_add]; exact ih.add (h.entry l k)
theorem not_bad {w : List (List Rat)} {l : List Int} (h : ∀ i, i < l.length → -1 ≤ l.getD i 0 ∧ l.getD i 0 < ((w.getD i []).length : Nat)) : ¬ badE w l := by
  rintro ⟨i, hi, h'⟩; have := h i hi; omega
set_option maxHeartbeats 4000000 in
set_option maxRecDepth 100000 in
theorem weight_spec (hG : HG G) (w : List (List Rat)) (l : List Int) (hw : Wok w) (hl : l.length < 2 ^ 40) (hli : ∀ i, -9223372036854775808 ≤ l.getD i 0 ∧ l.getD i 0 ≤ 9223372036854775807) :
    Ctr Tryd.prog G 30 [.d (Mx w), .d (.sl l.length false (ints .i64 l))] [] (.d (weightR w l)) [] := by
  refine Ctr.pure (M := M0) hmix Tryd.func30 rfl go30 ?_
  have ml := @MxL_length w
  simp (config := { maxSteps := 1000000 }) (disch := ((try simp only [awL]); omega)) only [Tryd.f30, ↓awU, awV, awF, ofVal, ofVal0, isShift, aggK, forall_const, ↓reduceIte, ↓reduceDIte, ↓purePost, combine, idsA, cellsA, numsOf, srcA, calleeA, refsA, isScalar, scalarD, scalar0, AV.one, putL, unfA, implies_true, IntKind.signed, Nat.reduceAdd, Nat.reduceSub, Nat.reduceMul, Nat.reducePow, Nat.reduceDiv, Nat.reduceMod, Int.reduceAdd, Int.reduceSub, Int.reduceMul, Int.reducePow, Int.reduceNeg, Int.reduceToNat, Int.reduceLT, Int.reduceLE, Nat.reduceEqDiff, sidsB, Nat.reduceBEq, keyKD, isIntK]
  refine CallC.pure (valid27_spec hG w hw.fvs hw.len hw.row) ?_
  by_cases hv : validE w = 0
  · have hs := valid_sides hv
    simp (config := { maxSteps := 1000000 }) (disch := ((try simp only [awL]); omega)) only [hv, ↓awU, awV, awF, ofVal, ofVal0, isShift, aggK, forall_const, ↓reduceIte, ↓reduceDIte, ↓purePost, combine, idsA, cellsA, numsOf, srcA, calleeA, refsA, isScalar, scalarD, scalar0, AV.one, putL, unfA, implies_true, IntKind.signed, Nat.reduceAdd, Nat.reduceSub, Nat.reduceMul, Nat.reducePow, Nat.reduceDiv, Nat.reduceMod, Int.reduceAdd, Int.reduceSub, Int.reduceMul, Int.reducePow, Int.reduceNeg, Int.reduceToNat, Int.reduceLT, Int.reduceLE, Nat.reduceEqDiff, sidsB, Nat.reduceBEq, keyKD, isIntK]
    by_cases hlen : l.length = w.length
    · simp (config := { maxSteps := 1000000 }) (disch := ((try simp only [awL]); omega)) only [hv, ↓awU, awV, awF, ofVal, ofVal0, isShift, aggK, forall_const, ↓reduceIte, ↓reduceDIte, ↓purePost, combine, idsA, cellsA, numsOf, srcA, calleeA, refsA, isScalar, scalarD, scalar0, AV.one, putL, unfA, implies_true, IntKind.signed, Nat.reduceAdd, Nat.reduceSub, Nat.reduceMul, Nat.reducePow, Nat.reduceDiv, Nat.reduceMod, Int.reduceAdd, Int.reduceSub, Int.reduceMul, Int.reducePow, Int.reduceNeg, Int.reduceToNat, Int.reduceLT, Int.reduceLE, Nat.reduceEqDiff, sidsB, Nat.reduceBEq, keyKD, isIntK]
      refine LoopC.fx 100663315 (α := Nat) (β := Unit) (fun k => l.length - k) (fun k => [(27, .d (.int .i64 k)), (35, .undef), (36, .undef), (37, .undef), (38, .undef), (39, .undef), (40, .undef), (41, .undef)]) (fun _ => [.box [.d (.bool false), .d (.sl 0 true []), .d (.bool false), .d (.sl 0 true [])]])
        (fun k => k ≤ l.length ∧ ∀ i, i < k → -1 ≤ l.getD i 0 ∧ l.getD i 0 < ((w.getD i []).length : Nat))
        19 (fun _ => []) (fun _ => [.box [.d (.bool false), .d (.sl 0 true []), .d (.bool false), .d (.sl 0 true [])]]) (fun _ => ∀ i, i < l.length → -1 ≤ l.getD i 0 ∧ l.getD i 0 < ((w.getD i []).length : Nat)) 0 ⟨Nat.zero_le _, by omega⟩ ?_ ?_ ?_
      · exact ⟨[some 0], rfl, by simp, by simp [setsA, keepA, SWeak, AWeak], by simp [HWeak, BWeak, SWeak, AWeak]⟩
      · rintro k ⟨hk, hvk⟩
        simp only [keepA_z8, keepA_z, keepA_cons, keepA_nil, setsA_nil, setsA_cons, List.set_cons_zero, List.set_cons_succ, set_8, Nat.reduceMod, Nat.reduceDiv, Nat.zero_mod, Nat.zero_ne_one, if_true, if_false, reduceIte]
        obtain ⟨b1, b2⟩ := hli k
        rcases Nat.lt_or_ge k l.length with h1 | h1
        · by_cases c1 : l.getD k 0 < -1
          · rw [wr_c hv hlen ⟨k, h1, .inl c1⟩]
            simp (config := { maxSteps := 1000000 }) (disch := ((try simp only [awL]); omega)) only [↓awU, awV, awF, ofVal, ofVal0, isShift, aggK, forall_const, ↓reduceIte, ↓reduceDIte, ↓purePost, combine, idsA, cellsA, numsOf, srcA, calleeA, refsA, isScalar, scalarD, scalar0, AV.one, putL, unfA, implies_true, IntKind.signed, Nat.reduceAdd, Nat.reduceSub, Nat.reduceMul, Nat.reducePow, Nat.reduceDiv, Nat.reduceMod, Int.reduceAdd, Int.reduceSub, Int.reduceMul, Int.reducePow, Int.reduceNeg, Int.reduceToNat, Int.reduceLT, Int.reduceLE, Nat.reduceEqDiff, sidsB, Nat.reduceBEq, keyKD, isIntK]
          · by_cases c2 : (((w.getD k []).length : Nat) : Int) ≤ l.getD k 0
            · rw [wr_c hv hlen ⟨k, h1, .inr c2⟩]
              simp (config := { maxSteps := 1000000 }) (disch := ((try simp only [awL]); omega)) only [ml, MxL_get, ↓awU, awV, awF, ofVal, ofVal0, isShift, aggK, forall_const, ↓reduceIte, ↓reduceDIte, ↓purePost, combine, idsA, cellsA, numsOf, srcA, calleeA, refsA, isScalar, scalarD, scalar0, AV.one, putL, unfA, implies_true, IntKind.signed, Nat.reduceAdd, Nat.reduceSub, Nat.reduceMul, Nat.reducePow, Nat.reduceDiv, Nat.reduceMod, Int.reduceAdd, Int.reduceSub, Int.reduceMul, Int.reducePow, Int.reduceNeg, Int.reduceToNat, Int.reduceLT, Int.reduceLE, Nat.reduceEqDiff, sidsB, Nat.reduceBEq, keyKD, isIntK]
            · simp (config := { maxSteps := 1000000 }) (disch := ((try simp only [awL]); omega)) only [ml, MxL_get, ↓awU, awV, awF, ofVal, ofVal0, isShift, aggK, forall_const, ↓reduceIte, ↓reduceDIte, ↓purePost, combine, idsA, cellsA, numsOf, srcA, calleeA, refsA, isScalar, scalarD, scalar0, AV.one, putL, unfA, implies_true, IntKind.signed, Nat.reduceAdd, Nat.reduceSub, Nat.reduceMul, Nat.reducePow, Nat.reduceDiv, Nat.reduceMod, Int.reduceAdd, Int.reduceSub, Int.reduceMul, Int.reducePow, Int.reduceNeg, Int.reduceToNat, Int.reduceLT, Int.reduceLE, Nat.reduceEqDiff, sidsB, Nat.reduceBEq, keyKD, isIntK]
              refine ⟨k + 1, ⟨h1, fun i hi => ?_⟩, by simp only; omega, ⟨[some 0], rfl, by simp, by simp [setsA, keepA, SWeak, AWeak], by simp [HWeak, BWeak, SWeak, AWeak]⟩⟩
              rcases Nat.lt_succ_iff_lt_or_eq.1 hi with h2 | rfl
              · exact hvk i h2
              · omega
        · simp (config := { maxSteps := 1000000 }) (disch := ((try simp only [awL]); omega)) only [↓awU, awV, awF, ofVal, ofVal0, isShift, aggK, forall_const, ↓reduceIte, ↓reduceDIte, ↓purePost, combine, idsA, cellsA, numsOf, srcA, calleeA, refsA, isScalar, scalarD, scalar0, AV.one, putL, unfA, implies_true, IntKind.signed, Nat.reduceAdd, Nat.reduceSub, Nat.reduceMul, Nat.reducePow, Nat.reduceDiv, Nat.reduceMod, Int.reduceAdd, Int.reduceSub, Int.reduceMul, Int.reducePow, Int.reduceNeg, Int.reduceToNat, Int.reduceLT, Int.reduceLE, Nat.reduceEqDiff, sidsB, Nat.reduceBEq, keyKD, isIntK]
          exact ⟨(), fun i hi => hvk i (by omega), ⟨[some 0], rfl, by simp, by simp [setsA, keepA, SWeak, AWeak], by simp [HWeak, BWeak, SWeak, AWeak]⟩⟩
      · rintro ⟨⟩ hrange
        have hnb := not_bad hrange
        simp only [keepA_z8, keepA_z, keepA_cons, keepA_nil, setsA_nil, setsA_cons, List.set_cons_zero, List.set_cons_succ, set_8, Nat.reduceMod, Nat.reduceDiv, Nat.zero_mod, Nat.zero_ne_one, if_true, if_false, reduceIte]
        simp (config := { maxSteps := 1000000 }) (disch := ((try simp only [awL]); omega)) only [↓awU, awV, awF, ofVal, ofVal0, isShift, aggK, forall_const, ↓reduceIte, ↓reduceDIte, ↓purePost, combine, idsA, cellsA, numsOf, srcA, calleeA, refsA, isScalar, scalarD, scalar0, AV.one, putL, unfA, implies_true, IntKind.signed, Nat.reduceAdd, Nat.reduceSub, Nat.reduceMul, Nat.reducePow, Nat.reduceDiv, Nat.reduceMod, Int.reduceAdd, Int.reduceSub, Int.reduceMul, Int.reducePow, Int.reduceNeg, Int.reduceToNat, Int.reduceLT, Int.reduceLE, Nat.reduceEqDiff, sidsB, Nat.reduceBEq, keyKD, isIntK]
        refine CallC.pure numZero_spec ?_
        simp (config := { maxSteps := 1000000 }) (disch := ((try simp only [awL]); omega)) only [↓awU, awV, awF, ofVal, ofVal0, isShift, aggK, forall_const, ↓reduceIte, ↓reduceDIte, ↓purePost, combine, idsA, cellsA, numsOf, srcA, calleeA, refsA, isScalar, scalarD, scalar0, AV.one, putL, unfA, implies_true, IntKind.signed, Nat.reduceAdd, Nat.reduceSub, Nat.reduceMul, Nat.reducePow, Nat.reduceDiv, Nat.reduceMod, Int.reduceAdd, Int.reduceSub, Int.reduceMul, Int.reducePow, Int.reduceNeg, Int.reduceToNat, Int.reduceLT, Int.reduceLE, Nat.reduceEqDiff, sidsB, Nat.reduceBEq, keyKD, isIntK]
        refine LoopC.fr 422212465067537 (α := Nat) (fun k => l.length - k) (fun k => [(49, .d (.int .i64 k))]) (fun k => [.box [.d (.bool false), .d (.sl 0 true []), .d (.bool false), .d (.sl 0 true [])],
            .box [.d (.bool (decide ((sumW w l k).num < 0))), .d (W (toW (sumW w l k).num.natAbs)), .d (.bool false), .d (W (toW (sumW w l k).den))], .box (us l k)])
          (fun k => k ≤ l.length ∧ ∀ j, j < k → 0 ≤ l.getD j 0 → ∀ i, i < j → l.getD i 0 ≠ l.getD j 0) 0 ⟨Nat.zero_le _, by omega⟩ ?_ ?_
        · refine ⟨[some 0, some 1, some 2], rfl, by simp, by simp [setsA, keepA, SWeak, AWeak], ?_⟩
          rw [us_zero]
          simp [HWeak, BWeak, SWeak, AWeak, sumW]
        · rintro k ⟨hk, hdk⟩
          simp only [keepA_z8, keepA_z, keepA_cons, keepA_nil, setsA_nil, setsA_cons, List.set_cons_zero, List.set_cons_succ, set_8, Nat.reduceMod, Nat.reduceDiv, Nat.zero_mod, Nat.zero_ne_one, if_true, if_false, reduceIte]
          obtain ⟨b1, b2⟩ := hli k
          rcases Nat.lt_or_ge k l.length with h1 | h1
          · obtain ⟨r1, r2⟩ := hrange k h1
            have r3 := hs.2 k
            by_cases c1 : l.getD k 0 < 0
            · simp (config := { maxSteps := 1000000 }) (disch := ((try simp only [awL]); omega)) only [↓awU, awV, awF, ofVal, ofVal0, isShift, aggK, forall_const, ↓reduceIte, ↓reduceDIte, ↓purePost, combine, idsA, cellsA, numsOf, srcA, calleeA, refsA, isScalar, scalarD, scalar0, AV.one, putL, unfA, implies_true, IntKind.signed, Nat.reduceAdd, Nat.reduceSub, Nat.reduceMul, Nat.reducePow, Nat.reduceDiv, Nat.reduceMod, Int.reduceAdd, Int.reduceSub, Int.reduceMul, Int.reducePow, Int.reduceNeg, Int.reduceToNat, Int.reduceLT, Int.reduceLE, Nat.reduceEqDiff, sidsB, Nat.reduceBEq, keyKD, isIntK]
              refine ⟨k + 1, ⟨h1, fun j hj h0 => ?_⟩, by simp only; omega, [some 0, some 1, some 2], rfl, by simp, by simp [setsA, keepA, SWeak, AWeak], ?_⟩
              · rcases Nat.lt_succ_iff_lt_or_eq.1 hj with h2 | rfl
                · exact hdk j h2 h0
                · omega
              · simp only [us_skip c1, sumW_skip c1]
                simp [HWeak, BWeak, SWeak, AWeak, us_weak]
            · have fl := @Fr_length (w.getD k [])
              cases hu : usedB l k (l.getD k 0).toNat with
              | true =>
                rw [wr_d hv hlen hnb (used_dup h1 (by omega) hu)]
                simp (config := { maxSteps := 1000000 }) (disch := ((try simp only [awL]); omega)) only [us_length, us_get, hu, ↓awU, awV, awF, ofVal, ofVal0, isShift, aggK, forall_const, ↓reduceIte, ↓reduceDIte, ↓purePost, combine, idsA, cellsA, numsOf, srcA, calleeA, refsA, isScalar, scalarD, scalar0, AV.one, putL, unfA, implies_true, IntKind.signed, Nat.reduceAdd, Nat.reduceSub, Nat.reduceMul, Nat.reducePow, Nat.reduceDiv, Nat.reduceMod, Int.reduceAdd, Int.reduceSub, Int.reduceMul, Int.reducePow, Int.reduceNeg, Int.reduceToNat, Int.reduceLT, Int.reduceLE, Nat.reduceEqDiff, sidsB, Nat.reduceBEq, keyKD, isIntK]
              | false =>
                simp (config := { maxSteps := 1000000 }) (disch := ((try simp only [awL]); omega)) only [us_length, us_get, hu, ml, MxL_get, fl, Fr_get, ↓awU, awV, awF, ofVal, ofVal0, isShift, aggK, forall_const, ↓reduceIte, ↓reduceDIte, ↓purePost, combine, idsA, cellsA, numsOf, srcA, calleeA, refsA, isScalar, scalarD, scalar0, AV.one, putL, unfA, implies_true, IntKind.signed, Nat.reduceAdd, Nat.reduceSub, Nat.reduceMul, Nat.reducePow, Nat.reduceDiv, Nat.reduceMod, Int.reduceAdd, Int.reduceSub, Int.reduceMul, Int.reducePow, Int.reduceNeg, Int.reduceToNat, Int.reduceLT, Int.reduceLE, Nat.reduceEqDiff, sidsB, Nat.reduceBEq, keyKD, isIntK]
                refine CallC.pure (numAdd_spec hG (sumW w l k) ((w.getD k []).getD (l.getD k 0).toNat 0) ((hw.sum l k).FV (by omega)) (hw.fvs.at (by omega) (by omega)) ?_) ?_
                · rw [← sumW_take (by omega)]; exact (hw.sum l (k + 1)).FV (by omega)
                rw [← sumW_take (by omega)]
                simp (config := { maxSteps := 1000000 }) (disch := ((try simp only [awL]); omega)) only [us_set, ↓awU, awV, awF, ofVal, ofVal0, isShift, aggK, forall_const, ↓reduceIte, ↓reduceDIte, ↓purePost, combine, idsA, cellsA, numsOf, srcA, calleeA, refsA, isScalar, scalarD, scalar0, AV.one, putL, unfA, implies_true, IntKind.signed, Nat.reduceAdd, Nat.reduceSub, Nat.reduceMul, Nat.reducePow, Nat.reduceDiv, Nat.reduceMod, Int.reduceAdd, Int.reduceSub, Int.reduceMul, Int.reducePow, Int.reduceNeg, Int.reduceToNat, Int.reduceLT, Int.reduceLE, Nat.reduceEqDiff, sidsB, Nat.reduceBEq, keyKD, isIntK]
                refine ⟨by rfl, k + 1, ⟨h1, fun j hj h0 => ?_⟩, by simp only; omega, [some 0, some 1, some 2], rfl, by simp, by simp [setsA, keepA, SWeak, AWeak], by simp [HWeak, BWeak, SWeak, AWeak, us_weak]⟩
                rcases Nat.lt_succ_iff_lt_or_eq.1 hj with h2 | rfl
                · exact hdk j h2 h0
                · exact used_no (by omega) hu
          · have hk2 : k = l.length := by omega
            subst hk2
            rw [wr_e hv hlen hnb (no_dup hdk)]
            simp (config := { maxSteps := 1000000 }) (disch := ((try simp only [awL]); omega)) only [↓awU, awV, awF, ofVal, ofVal0, isShift, aggK, forall_const, ↓reduceIte, ↓reduceDIte, ↓purePost, combine, idsA, cellsA, numsOf, srcA, calleeA, refsA, isScalar, scalarD, scalar0, AV.one, putL, unfA, implies_true, IntKind.signed, Nat.reduceAdd, Nat.reduceSub, Nat.reduceMul, Nat.reducePow, Nat.reduceDiv, Nat.reduceMod, Int.reduceAdd, Int.reduceSub, Int.reduceMul, Int.reducePow, Int.reduceNeg, Int.reduceToNat, Int.reduceLT, Int.reduceLE, Nat.reduceEqDiff, sidsB, Nat.reduceBEq, keyKD, isIntK]
    · rw [wr_b hv hlen]
      simp (config := { maxSteps := 1000000 }) (disch := ((try simp only [awL]); omega)) only [hv, ↓awU, awV, awF, ofVal, ofVal0, isShift, aggK, forall_const, ↓reduceIte, ↓reduceDIte, ↓purePost, combine, idsA, cellsA, numsOf, srcA, calleeA, refsA, isScalar, scalarD, scalar0, AV.one, putL, unfA, implies_true, IntKind.signed, Nat.reduceAdd, Nat.reduceSub, Nat.reduceMul, Nat.reducePow, Nat.reduceDiv, Nat.reduceMod, Int.reduceAdd, Int.reduceSub, Int.reduceMul, Int.reducePow, Int.reduceNeg, Int.reduceToNat, Int.reduceLT, Int.reduceLE, Nat.reduceEqDiff, sidsB, Nat.reduceBEq, keyKD, isIntK]
  · rw [wr_a hv]
    simp (config := { maxSteps := 1000000 }) (disch := ((try simp only [awL]); omega)) only [↓awU, awV, awF, ofVal, ofVal0, isShift, aggK, forall_const, ↓reduceIte, ↓reduceDIte, ↓purePost, combine, idsA, cellsA, numsOf, srcA, calleeA, refsA, isScalar, scalarD, scalar0, AV.one, putL, unfA, implies_true, IntKind.signed, Nat.reduceAdd, Nat.reduceSub, Nat.reduceMul, Nat.reducePow, Nat.reduceDiv, Nat.reduceMod, Int.reduceAdd, Int.reduceSub, Int.reduceMul, Int.reducePow, Int.reduceNeg, Int.reduceToNat, Int.reduceLT, Int.reduceLE, Nat.reduceEqDiff, sidsB, Nat.reduceBEq, keyKD, isIntK]
set_option maxHeartbeats 4000000 in
set_option maxRecDepth 100000 in
theorem rweight_spec (w : List (List Rat)) (l : List Int) (hw : Wok w) (hl : l.length < 2 ^ 40) (hli : ∀ i, -9223372036854775808 ≤ l.getD i 0 ∧ l.getD i 0 ≤ 9223372036854775807) :
    Ctr Tryd.prog G 31 [.d (Mx w), .d (.sl l.length false (ints .i64 l))] [] (.d (weightR w l)) [] := by
  refine Ctr.pure (M := M0) hmix Tryd.func31 rfl go31 ?_
  have ml := @MxL_length w
  simp (config := { maxSteps := 1000000 }) (disch := ((try simp only [awL]); omega)) only [Tryd.f31, ↓awU, awV, awF, ofVal, ofVal0, isShift, aggK, forall_const, ↓reduceIte, ↓reduceDIte, ↓purePost, combine, idsA, cellsA, numsOf, srcA, calleeA, refsA, isScalar, scalarD, scalar0, AV.one, putL, unfA, implies_true, IntKind.signed, Nat.reduceAdd, Nat.reduceSub, Nat.reduceMul, Nat.reducePow, Nat.reduceDiv, Nat.reduceMod, Int.reduceAdd, Int.reduceSub, Int.reduceMul, Int.reducePow, Int.reduceNeg, Int.reduceToNat, Int.reduceLT, Int.reduceLE, Nat.reduceEqDiff, sidsB, Nat.reduceBEq, keyKD, isIntK]
  refine CallC.pure (rvalid27_spec w hw.fvs hw.len hw.row) ?_
  by_cases hv : validE w = 0
  · have hs := valid_sides hv
    simp (config := { maxSteps := 1000000 }) (disch := ((try simp only [awL]); omega)) only [hv, ↓awU, awV, awF, ofVal, ofVal0, isShift, aggK, forall_const, ↓reduceIte, ↓reduceDIte, ↓purePost, combine, idsA, cellsA, numsOf, srcA, calleeA, refsA, isScalar, scalarD, scalar0, AV.one, putL, unfA, implies_true, IntKind.signed, Nat.reduceAdd, Nat.reduceSub, Nat.reduceMul, Nat.reducePow, Nat.reduceDiv, Nat.reduceMod, Int.reduceAdd, Int.reduceSub, Int.reduceMul, Int.reducePow, Int.reduceNeg, Int.reduceToNat, Int.reduceLT, Int.reduceLE, Nat.reduceEqDiff, sidsB, Nat.reduceBEq, keyKD, isIntK]
    by_cases hlen : l.length = w.length
    · simp (config := { maxSteps := 1000000 }) (disch := ((try simp only [awL]); omega)) only [hv, ↓awU, awV, awF, ofVal, ofVal0, isShift, aggK, forall_const, ↓reduceIte, ↓reduceDIte, ↓purePost, combine, idsA, cellsA, numsOf, srcA, calleeA, refsA, isScalar, scalarD, scalar0, AV.one, putL, unfA, implies_true, IntKind.signed, Nat.reduceAdd, Nat.reduceSub, Nat.reduceMul, Nat.reducePow, Nat.reduceDiv, Nat.reduceMod, Int.reduceAdd, Int.reduceSub, Int.reduceMul, Int.reducePow, Int.reduceNeg, Int.reduceToNat, Int.reduceLT, Int.reduceLE, Nat.reduceEqDiff, sidsB, Nat.reduceBEq, keyKD, isIntK]
      refine LoopC.fx 258254417032135049235 (α := Nat) (β := Unit) (fun k => l.length - k) (fun k => [(28, .d (.int .i64 k)), (36, .undef), (37, .undef), (38, .undef), (39, .undef), (40, .undef), (41, .undef), (42, .undef)]) (fun _ => [.box [.d (.bool false), .d (.sl 0 true []), .d (.bool false), .d (.sl 0 true [])]])
        (fun k => k ≤ l.length ∧ ∀ i, i < k → -1 ≤ l.getD i 0 ∧ l.getD i 0 < ((w.getD i []).length : Nat))
        258254417031933722643 (fun _ => []) (fun _ => [.box [.d (.bool false), .d (.sl 0 true []), .d (.bool false), .d (.sl 0 true [])]]) (fun _ => ∀ i, i < l.length → -1 ≤ l.getD i 0 ∧ l.getD i 0 < ((w.getD i []).length : Nat)) 0 ⟨Nat.zero_le _, by omega⟩ ?_ ?_ ?_
      · exact ⟨[some 0], rfl, by simp, by simp [setsA, keepA, SWeak, AWeak], by simp [HWeak, BWeak, SWeak, AWeak]⟩
      · rintro k ⟨hk, hvk⟩
        simp only [keepA_z8, keepA_z, keepA_cons, keepA_nil, setsA_nil, setsA_cons, List.set_cons_zero, List.set_cons_succ, set_8, Nat.reduceMod, Nat.reduceDiv, Nat.zero_mod, Nat.zero_ne_one, if_true, if_false, reduceIte]
        obtain ⟨b1, b2⟩ := hli k
        rcases Nat.lt_or_ge k l.length with h1 | h1
        · by_cases c1 : l.getD k 0 < -1
          · rw [wr_c hv hlen ⟨k, h1, .inl c1⟩]
            simp (config := { maxSteps := 1000000 }) (disch := ((try simp only [awL]); omega)) only [↓awU, awV, awF, ofVal, ofVal0, isShift, aggK, forall_const, ↓reduceIte, ↓reduceDIte, ↓purePost, combine, idsA, cellsA, numsOf, srcA, calleeA, refsA, isScalar, scalarD, scalar0, AV.one, putL, unfA, implies_true, IntKind.signed, Nat.reduceAdd, Nat.reduceSub, Nat.reduceMul, Nat.reducePow, Nat.reduceDiv, Nat.reduceMod, Int.reduceAdd, Int.reduceSub, Int.reduceMul, Int.reducePow, Int.reduceNeg, Int.reduceToNat, Int.reduceLT, Int.reduceLE, Nat.reduceEqDiff, sidsB, Nat.reduceBEq, keyKD, isIntK]
          · by_cases c2 : (((w.getD k []).length : Nat) : Int) ≤ l.getD k 0
            · rw [wr_c hv hlen ⟨k, h1, .inr c2⟩]
              simp (config := { maxSteps := 1000000 }) (disch := ((try simp only [awL]); omega)) only [ml, MxL_get, ↓awU, awV, awF, ofVal, ofVal0, isShift, aggK, forall_const, ↓reduceIte, ↓reduceDIte, ↓purePost, combine, idsA, cellsA, numsOf, srcA, calleeA, refsA, isScalar, scalarD, scalar0, AV.one, putL, unfA, implies_true, IntKind.signed, Nat.reduceAdd, Nat.reduceSub, Nat.reduceMul, Nat.reducePow, Nat.reduceDiv, Nat.reduceMod, Int.reduceAdd, Int.reduceSub, Int.reduceMul, Int.reducePow, Int.reduceNeg, Int.reduceToNat, Int.reduceLT, Int.reduceLE, Nat.reduceEqDiff, sidsB, Nat.reduceBEq, keyKD, isIntK]
            · simp (config := { maxSteps := 1000000 }) (disch := ((try simp only [awL]); omega)) only [ml, MxL_get, ↓awU, awV, awF, ofVal, ofVal0, isShift, aggK, forall_const, ↓reduceIte, ↓reduceDIte, ↓purePost, combine, idsA, cellsA, numsOf, srcA, calleeA, refsA, isScalar, scalarD, scalar0, AV.one, putL, unfA, implies_true, IntKind.signed, Nat.reduceAdd, Nat.reduceSub, Nat.reduceMul, Nat.reducePow, Nat.reduceDiv, Nat.reduceMod, Int.reduceAdd, Int.reduceSub, Int.reduceMul, Int.reducePow, Int.reduceNeg, Int.reduceToNat, Int.reduceLT, Int.reduceLE, Nat.reduceEqDiff, sidsB, Nat.reduceBEq, keyKD, isIntK]
              refine ⟨k + 1, ⟨h1, fun i hi => ?_⟩, by simp only; omega, ⟨[some 0], rfl, by simp, by simp [setsA, keepA, SWeak, AWeak], by simp [HWeak, BWeak, SWeak, AWeak]⟩⟩
              rcases Nat.lt_succ_iff_lt_or_eq.1 hi with h2 | rfl
              · exact hvk i h2
              · omega
        · simp (config := { maxSteps := 1000000 }) (disch := ((try simp only [awL]); omega)) only [↓awU, awV, awF, ofVal, ofVal0, isShift, aggK, forall_const, ↓reduceIte, ↓reduceDIte, ↓purePost, combine, idsA, cellsA, numsOf, srcA, calleeA, refsA, isScalar, scalarD, scalar0, AV.one, putL, unfA, implies_true, IntKind.signed, Nat.reduceAdd, Nat.reduceSub, Nat.reduceMul, Nat.reducePow, Nat.reduceDiv, Nat.reduceMod, Int.reduceAdd, Int.reduceSub, Int.reduceMul, Int.reducePow, Int.reduceNeg, Int.reduceToNat, Int.reduceLT, Int.reduceLE, Nat.reduceEqDiff, sidsB, Nat.reduceBEq, keyKD, isIntK]
          exact ⟨(), fun i hi => hvk i (by omega), ⟨[some 0], rfl, by simp, by simp [setsA, keepA, SWeak, AWeak], by simp [HWeak, BWeak, SWeak, AWeak]⟩⟩
      · rintro ⟨⟩ hrange
        have hnb := not_bad hrange
        simp only [keepA_z8, keepA_z, keepA_cons, keepA_nil, setsA_nil, setsA_cons, List.set_cons_zero, List.set_cons_succ, set_8, Nat.reduceMod, Nat.reduceDiv, Nat.zero_mod, Nat.zero_ne_one, if_true, if_false, reduceIte]
        simp (config := { maxSteps := 1000000 }) (disch := ((try simp only [awL]); omega)) only [↓awU, awV, awF, ofVal, ofVal0, isShift, aggK, forall_const, ↓reduceIte, ↓reduceDIte, ↓purePost, combine, idsA, cellsA, numsOf, srcA, calleeA, refsA, isScalar, scalarD, scalar0, AV.one, putL, unfA, implies_true, IntKind.signed, Nat.reduceAdd, Nat.reduceSub, Nat.reduceMul, Nat.reducePow, Nat.reduceDiv, Nat.reduceMod, Int.reduceAdd, Int.reduceSub, Int.reduceMul, Int.reducePow, Int.reduceNeg, Int.reduceToNat, Int.reduceLT, Int.reduceLE, Nat.reduceEqDiff, sidsB, Nat.reduceBEq, keyKD, isIntK]
        refine CallC.pure rzero_spec ?_
        simp (config := { maxSteps := 1000000 }) (disch := ((try simp only [awL]); omega)) only [↓awU, awV, awF, ofVal, ofVal0, isShift, aggK, forall_const, ↓reduceIte, ↓reduceDIte, ↓purePost, combine, idsA, cellsA, numsOf, srcA, calleeA, refsA, isScalar, scalarD, scalar0, AV.one, putL, unfA, implies_true, IntKind.signed, Nat.reduceAdd, Nat.reduceSub, Nat.reduceMul, Nat.reducePow, Nat.reduceDiv, Nat.reduceMod, Int.reduceAdd, Int.reduceSub, Int.reduceMul, Int.reducePow, Int.reduceNeg, Int.reduceToNat, Int.reduceLT, Int.reduceLE, Nat.reduceEqDiff, sidsB, Nat.reduceBEq, keyKD, isIntK]
        refine LoopC.fr 422212465066515 (α := Nat) (fun k => l.length - k) (fun k => [(49, .d (.int .i64 k)), (65, .undef), (66, .undef), (67, .undef)]) (fun k => [.box [.d (.bool false), .d (.sl 0 true []), .d (.bool false), .d (.sl 0 true [])],
            .box [.d (.bool (decide ((sumW w l k).num < 0))), .d (W (toW (sumW w l k).num.natAbs)), .d (.bool false), .d (W (toW (sumW w l k).den))]])
          (fun k => k ≤ l.length ∧ ∀ j, j < k → 0 ≤ l.getD j 0 → ∀ i, i < j → l.getD i 0 ≠ l.getD j 0) 0 ⟨Nat.zero_le _, by omega⟩ ?_ ?_
        · refine ⟨[some 0, some 1], rfl, by simp, by simp [setsA, keepA, SWeak, AWeak], ?_⟩
          simp [HWeak, BWeak, SWeak, AWeak, sumW]
        · rintro k ⟨hk, hdk⟩
          simp only [keepA_z8, keepA_z, keepA_cons, keepA_nil, setsA_nil, setsA_cons, List.set_cons_zero, List.set_cons_succ, set_8, Nat.reduceMod, Nat.reduceDiv, Nat.zero_mod, Nat.zero_ne_one, if_true, if_false, reduceIte]
          obtain ⟨b1, b2⟩ := hli k
          rcases Nat.lt_or_ge k l.length with h1 | h1
          · obtain ⟨r1, r2⟩ := hrange k h1
            have r3 := hs.2 k
            have lt : (l.take k).length = k := by rw [List.length_take]; omega
            simp (config := { maxSteps := 1000000 }) (disch := ((try simp only [awL]); omega)) only [↓awU, awV, awF, ofVal, ofVal0, isShift, aggK, forall_const, ↓reduceIte, ↓reduceDIte, ↓purePost, combine, idsA, cellsA, numsOf, srcA, calleeA, refsA, isScalar, scalarD, scalar0, AV.one, putL, unfA, implies_true, IntKind.signed, Nat.reduceAdd, Nat.reduceSub, Nat.reduceMul, Nat.reducePow, Nat.reduceDiv, Nat.reduceMod, Int.reduceAdd, Int.reduceSub, Int.reduceMul, Int.reducePow, Int.reduceNeg, Int.reduceToNat, Int.reduceLT, Int.reduceLE, Nat.reduceEqDiff, sidsB, Nat.reduceBEq, keyKD, isIntK]
            refine LoopC.fx 217157944532274707 (α := Nat) (β := Unit) (fun i => k - i) (fun i => [(58, .d (.int .i64 i)), (65, .undef), (66, .undef), (67, .undef)]) (fun _ => [.box [.d (.bool false), .d (.sl 0 true []), .d (.bool false), .d (.sl 0 true [])],
                .box [.d (.bool (decide ((sumW w l k).num < 0))), .d (W (toW (sumW w l k).num.natAbs)), .d (.bool false), .d (W (toW (sumW w l k).den))]])
              (fun i => i ≤ k ∧ noD l k i)
              985162418490899 (fun _ => [(65, .undef), (66, .undef), (67, .undef)]) (fun _ => [.box [.d (.bool false), .d (.sl 0 true []), .d (.bool false), .d (.sl 0 true [])],
                .box [.d (.bool (decide ((sumW w l k).num < 0))), .d (W (toW (sumW w l k).num.natAbs)), .d (.bool false), .d (W (toW (sumW w l k).den))]])
              (fun _ => noD l k k) 0 ⟨Nat.zero_le _, fun _ j hj => by omega⟩ ?_ ?_ ?_
            · exact ⟨[some 0, some 1], rfl, by simp, by simp [setsA, keepA, SWeak, AWeak], by simp [HWeak, BWeak, SWeak, AWeak]⟩
            · rintro i ⟨hi, hdi⟩
              simp only [keepA_z8, keepA_z, keepA_cons, keepA_nil, setsA_nil, setsA_cons, List.set_cons_zero, List.set_cons_succ, set_8, Nat.reduceMod, Nat.reduceDiv, Nat.zero_mod, Nat.zero_ne_one, if_true, if_false, reduceIte]
              rcases Nat.lt_or_ge i k with h2 | h2
              · have e1 : (l.take k).getD i 0 = l.getD i 0 := by
                  rw [List.getD_eq_getElem?_getD, List.getElem?_take, if_pos h2, ← List.getD_eq_getElem?_getD]
                by_cases c1 : 0 ≤ l.getD k 0
                · by_cases c2 : l.getD i 0 = l.getD k 0
                  · rw [wr_d hv hlen hnb ⟨k, h1, i, h2, c1, c2⟩]
                    simp (config := { maxSteps := 1000000 }) (disch := ((try simp only [awL]); omega)) only [lt, e1, c2, ↓awU, awV, awF, ofVal, ofVal0, isShift, aggK, forall_const, ↓reduceIte, ↓reduceDIte, ↓purePost, combine, idsA, cellsA, numsOf, srcA, calleeA, refsA, isScalar, scalarD, scalar0, AV.one, putL, unfA, implies_true, IntKind.signed, Nat.reduceAdd, Nat.reduceSub, Nat.reduceMul, Nat.reducePow, Nat.reduceDiv, Nat.reduceMod, Int.reduceAdd, Int.reduceSub, Int.reduceMul, Int.reducePow, Int.reduceNeg, Int.reduceToNat, Int.reduceLT, Int.reduceLE, Nat.reduceEqDiff, sidsB, Nat.reduceBEq, keyKD, isIntK]
                  · simp (config := { maxSteps := 1000000 }) (disch := ((try simp only [awL]); omega)) only [lt, e1, c2, ↓awU, awV, awF, ofVal, ofVal0, isShift, aggK, forall_const, ↓reduceIte, ↓reduceDIte, ↓purePost, combine, idsA, cellsA, numsOf, srcA, calleeA, refsA, isScalar, scalarD, scalar0, AV.one, putL, unfA, implies_true, IntKind.signed, Nat.reduceAdd, Nat.reduceSub, Nat.reduceMul, Nat.reducePow, Nat.reduceDiv, Nat.reduceMod, Int.reduceAdd, Int.reduceSub, Int.reduceMul, Int.reducePow, Int.reduceNeg, Int.reduceToNat, Int.reduceLT, Int.reduceLE, Nat.reduceEqDiff, sidsB, Nat.reduceBEq, keyKD, isIntK]
                    refine ⟨i + 1, ⟨h2, fun h0 j hj => ?_⟩, by simp only; omega, ⟨[some 0, some 1], rfl, by simp, by simp [setsA, keepA, SWeak, AWeak], by simp [HWeak, BWeak, SWeak, AWeak]⟩⟩
                    rcases Nat.lt_succ_iff_lt_or_eq.1 hj with h3 | rfl
                    · exact hdi h0 j h3
                    · exact c2
                · simp (config := { maxSteps := 1000000 }) (disch := ((try simp only [awL]); omega)) only [lt, e1, ↓awU, awV, awF, ofVal, ofVal0, isShift, aggK, forall_const, ↓reduceIte, ↓reduceDIte, ↓purePost, combine, idsA, cellsA, numsOf, srcA, calleeA, refsA, isScalar, scalarD, scalar0, AV.one, putL, unfA, implies_true, IntKind.signed, Nat.reduceAdd, Nat.reduceSub, Nat.reduceMul, Nat.reducePow, Nat.reduceDiv, Nat.reduceMod, Int.reduceAdd, Int.reduceSub, Int.reduceMul, Int.reducePow, Int.reduceNeg, Int.reduceToNat, Int.reduceLT, Int.reduceLE, Nat.reduceEqDiff, sidsB, Nat.reduceBEq, keyKD, isIntK]
                  refine ⟨i + 1, ⟨h2, fun h0 => absurd h0 c1⟩, by simp only; omega, ⟨[some 0, some 1], rfl, by simp, by simp [setsA, keepA, SWeak, AWeak], by simp [HWeak, BWeak, SWeak, AWeak]⟩⟩
              · simp (config := { maxSteps := 1000000 }) (disch := ((try simp only [awL]); omega)) only [lt, ↓awU, awV, awF, ofVal, ofVal0, isShift, aggK, forall_const, ↓reduceIte, ↓reduceDIte, ↓purePost, combine, idsA, cellsA, numsOf, srcA, calleeA, refsA, isScalar, scalarD, scalar0, AV.one, putL, unfA, implies_true, IntKind.signed, Nat.reduceAdd, Nat.reduceSub, Nat.reduceMul, Nat.reducePow, Nat.reduceDiv, Nat.reduceMod, Int.reduceAdd, Int.reduceSub, Int.reduceMul, Int.reducePow, Int.reduceNeg, Int.reduceToNat, Int.reduceLT, Int.reduceLE, Nat.reduceEqDiff, sidsB, Nat.reduceBEq, keyKD, isIntK]
                have hik : i = k := by omega
                subst hik
                exact ⟨(), hdi, ⟨[some 0, some 1], rfl, by simp, by simp [setsA, keepA, SWeak, AWeak], by simp [HWeak, BWeak, SWeak, AWeak]⟩⟩
            · rintro ⟨⟩ hno
              simp only [keepA_z8, keepA_z, keepA_cons, keepA_nil, setsA_nil, setsA_cons, List.set_cons_zero, List.set_cons_succ, set_8, Nat.reduceMod, Nat.reduceDiv, Nat.zero_mod, Nat.zero_ne_one, if_true, if_false, reduceIte]
              have fl := @Fr_length (w.getD k [])
              by_cases c1 : 0 ≤ l.getD k 0
              · simp (config := { maxSteps := 1000000 }) (disch := ((try simp only [awL]); omega)) only [ml, MxL_get, fl, Fr_get, ↓awU, awV, awF, ofVal, ofVal0, isShift, aggK, forall_const, ↓reduceIte, ↓reduceDIte, ↓purePost, combine, idsA, cellsA, numsOf, srcA, calleeA, refsA, isScalar, scalarD, scalar0, AV.one, putL, unfA, implies_true, IntKind.signed, Nat.reduceAdd, Nat.reduceSub, Nat.reduceMul, Nat.reducePow, Nat.reduceDiv, Nat.reduceMod, Int.reduceAdd, Int.reduceSub, Int.reduceMul, Int.reducePow, Int.reduceNeg, Int.reduceToNat, Int.reduceLT, Int.reduceLE, Nat.reduceEqDiff, sidsB, Nat.reduceBEq, keyKD, isIntK]
                refine CallC.pure (radd23_spec (sumW w l k) ((w.getD k []).getD (l.getD k 0).toNat 0) ((hw.sum l k).FV (by omega)) (hw.fvs.at (by omega) (by omega)) ?_) ?_
                · rw [← sumW_take (by omega)]; exact (hw.sum l (k + 1)).FV (by omega)
                rw [← sumW_take (by omega)]
                simp (config := { maxSteps := 1000000 }) (disch := ((try simp only [awL]); omega)) only [↓awU, awV, awF, ofVal, ofVal0, isShift, aggK, forall_const, ↓reduceIte, ↓reduceDIte, ↓purePost, combine, idsA, cellsA, numsOf, srcA, calleeA, refsA, isScalar, scalarD, scalar0, AV.one, putL, unfA, implies_true, IntKind.signed, Nat.reduceAdd, Nat.reduceSub, Nat.reduceMul, Nat.reducePow, Nat.reduceDiv, Nat.reduceMod, Int.reduceAdd, Int.reduceSub, Int.reduceMul, Int.reducePow, Int.reduceNeg, Int.reduceToNat, Int.reduceLT, Int.reduceLE, Nat.reduceEqDiff, sidsB, Nat.reduceBEq, keyKD, isIntK]
                refine ⟨by rfl, k + 1, ⟨h1, fun j hj h0 => ?_⟩, by simp only; omega, ⟨[some 0, some 1], rfl, by simp, by simp [setsA, keepA, SWeak, AWeak], by simp [HWeak, BWeak, SWeak, AWeak]⟩⟩
                rcases Nat.lt_succ_iff_lt_or_eq.1 hj with h2 | rfl
                · exact hdk j h2 h0
                · exact hno h0
              · simp (config := { maxSteps := 1000000 }) (disch := ((try simp only [awL]); omega)) only [↓awU, awV, awF, ofVal, ofVal0, isShift, aggK, forall_const, ↓reduceIte, ↓reduceDIte, ↓purePost, combine, idsA, cellsA, numsOf, srcA, calleeA, refsA, isScalar, scalarD, scalar0, AV.one, putL, unfA, implies_true, IntKind.signed, Nat.reduceAdd, Nat.reduceSub, Nat.reduceMul, Nat.reducePow, Nat.reduceDiv, Nat.reduceMod, Int.reduceAdd, Int.reduceSub, Int.reduceMul, Int.reducePow, Int.reduceNeg, Int.reduceToNat, Int.reduceLT, Int.reduceLE, Nat.reduceEqDiff, sidsB, Nat.reduceBEq, keyKD, isIntK]
                refine ⟨k + 1, ⟨h1, fun j hj h0 => ?_⟩, by simp only; omega, [some 0, some 1], rfl, by simp, by simp [setsA, keepA, SWeak, AWeak], ?_⟩
                · rcases Nat.lt_succ_iff_lt_or_eq.1 hj with h2 | rfl
                  · exact hdk j h2 h0
                  · exact hno h0
                · simp only [sumW_skip (show l.getD k 0 < 0 by omega)]
                  simp [HWeak, BWeak, SWeak, AWeak]
          · have hk2 : k = l.length := by omega
            subst hk2
            rw [wr_e hv hlen hnb (no_dup hdk)]
            simp (config := { maxSteps := 1000000 }) (disch := ((try simp only [awL]); omega)) only [↓awU, awV, awF, ofVal, ofVal0, isShift, aggK, forall_const, ↓reduceIte, ↓reduceDIte, ↓purePost, combine, idsA, cellsA, numsOf, srcA, calleeA, refsA, isScalar, scalarD, scalar0, AV.one, putL, unfA, implies_true, IntKind.signed, Nat.reduceAdd, Nat.reduceSub, Nat.reduceMul, Nat.reducePow, Nat.reduceDiv, Nat.reduceMod, Int.reduceAdd, Int.reduceSub, Int.reduceMul, Int.reducePow, Int.reduceNeg, Int.reduceToNat, Int.reduceLT, Int.reduceLE, Nat.reduceEqDiff, sidsB, Nat.reduceBEq, keyKD, isIntK]
    · rw [wr_b hv hlen]
      simp (config := { maxSteps := 1000000 }) (disch := ((try simp only [awL]); omega)) only [hv, ↓awU, awV, awF, ofVal, ofVal0, isShift, aggK, forall_const, ↓reduceIte, ↓reduceDIte, ↓purePost, combine, idsA, cellsA, numsOf, srcA, calleeA, refsA, isScalar, scalarD, scalar0, AV.one, putL, unfA, implies_true, IntKind.signed, Nat.reduceAdd, Nat.reduceSub, Nat.reduceMul, Nat.reducePow, Nat.reduceDiv, Nat.reduceMod, Int.reduceAdd, Int.reduceSub, Int.reduceMul, Int.reducePow, Int.reduceNeg, Int.reduceToNat, Int.reduceLT, Int.reduceLE, Nat.reduceEqDiff, sidsB, Nat.reduceBEq, keyKD, isIntK]
  · rw [wr_a hv]
    simp (config := { maxSteps := 1000000 }) (disch := ((try simp only [awL]); omega)) only [↓awU, awV, awF, ofVal, ofVal0, isShift, aggK, forall_const, ↓reduceIte, ↓reduceDIte, ↓purePost, combine, idsA, cellsA, numsOf, srcA, calleeA, refsA, isScalar, scalarD, scalar0, AV.one, putL, unfA, implies_true, IntKind.signed, Nat.reduceAdd, Nat.reduceSub, Nat.reduceMul, Nat.reducePow, Nat.reduceDiv, Nat.reduceMod, Int.reduceAdd, Int.reduceSub, Int.reduceMul, Int.reducePow, Int.reduceNeg, Int.reduceToNat, Int.reduceLT, Int.reduceLE, Nat.reduceEqDiff, sidsB, Nat.reduceBEq, keyKD, isIntK]
end Go.Proofs.YtkppgdialedoeaaDoor

namespace Go.Proofs.YtkppgdialedoeaaDoor
open Go Go.Proofs Go.Abs
variable {G : Globals}
/-! The best weight: by memory, and without. -/
abbrev Memo := List ((Nat × Nat) × Rat)
abbrev mkey (i u : Nat) : D := .agg [.int .i64 i, .int .i64 u]
def enc (m : Memo) : List (D × D) := m.map fun e => (mkey e.1.1 e.1.2, Frac e.2)
def lookM (i u : Nat) : Memo → Option (Nat × Rat)
  | [] => none
  | e :: r => if i = e.1.1 ∧ u = e.1.2 then some (0, e.2) else (lookM i u r).map fun x => (x.1 + 1, x.2)
def updM (m : Memo) (i u : Nat) (x : Rat) : Memo :=
  match lookM i u m with
  | some (j, _) => m.set j ((i, u), x)
  | none => m ++ [((i, u), x)]
theorem keyEq_mkey {i u i' u' : Nat} : keyEq (mkey i u) (mkey i' u') = decide (i = i' ∧ u = u') := by
  have h1 : (((i : Nat) : Int) == ((i' : Nat) : Int)) = decide (i = i') := by rw [ibeq]; exact decide_eq_decide.2 (by omega)
  have h2 : (((u : Nat) : Int) == ((u' : Nat) : Int)) = decide (u = u') := by rw [ibeq]; exact decide_eq_decide.2 (by omega)
  simp only [keyEq, keyEqL, h1, h2, Bool.and_true]
  exact (Bool.decide_and ..).symm
theorem findE_enc {i u : Nat} : ∀ {m : Memo}, findE (mkey i u) (enc m) = (lookM i u m).map fun x => (x.1, Frac x.2)
  | [] => rfl
  | e :: m => by
    have ih := @findE_enc i u m
    simp only [enc, List.map_cons, findE, keyEq_mkey, lookM] at ih ⊢
    by_cases h : i = e.1.1 ∧ u = e.1.2
    · simp [h]
    · rw [decide_eq_false h, if_neg (by decide), if_neg h, ih]
      cases lookM i u m <;> rfl
theorem updE_enc {i u : Nat} {x : Rat} {m : Memo} : updE (enc m) (mkey i u) (Frac x) = enc (updM m i u x) := by
  unfold updE updM
  rw [findE_enc]
  cases h : lookM i u m with
  | none => simp [enc]
  | some y => simp [enc, List.map_set]
theorem lookM_mem {i u : Nat} : ∀ {m : Memo} {j : Nat} {x : Rat}, lookM i u m = some (j, x) → ((i, u), x) ∈ m
  | [], _, _, h => by simp [lookM] at h
  | e :: m, j, x, h => by
    simp only [lookM] at h
    split at h
    · rename_i he
      cases h
      have : e = ((i, u), e.2) := Prod.ext (Prod.ext he.1.symm he.2.symm) rfl
      rw [this]; simp
    · cases hm : lookM i u m with
      | none => simp [hm] at h
      | some y =>
        simp [hm] at h
        obtain ⟨_, rfl⟩ := h
        exact List.mem_cons_of_mem _ (lookM_mem hm)
theorem updM_mem {i u : Nat} {m : Memo} {x : Rat} {e : (Nat × Nat) × Rat} (h : e ∈ updM m i u x) : e ∈ m ∨ e = ((i, u), x) := by
  unfold updM at h
  split at h
  · rcases List.mem_or_eq_of_mem_set h with h | h
    · exact .inl h
    · exact .inr h
  · rcases List.mem_append.1 h with h | h
    · exact .inl h
    · exact .inr (by simpa using h)
theorem enc_ok (m : Memo) : keysOK Tryd.prog 108 (enc m) = true := by
  simp only [keysOK, enc, List.all_map, List.all_eq_true]
  intro e _
  simp only [Function.comp, isKeyD, ti108, keyKD, ie3, mkey, List.all_cons, List.all_nil, isIntK, decide_true, List.length_cons, List.length_nil]
  rfl
abbrev FM := Nat → Memo → Rat × Memo
def stepF (f : FM) (r : List Rat) (u k : Nat) (s : Rat × Memo) : Rat × Memo :=
  if u.testBit k = true ∨ r.getD k 0 = 0 then s else (if s.1 < r.getD k 0 + (f (u ||| 2 ^ k) s.2).1 then r.getD k 0 + (f (u ||| 2 ^ k) s.2).1 else s.1, (f (u ||| 2 ^ k) s.2).2)
def loopF (f : FM) (r : List Rat) (u : Nat) (s : Rat × Memo) : Nat → Rat × Memo
  | 0 => s
  | k + 1 => stepF f r u k (loopF f r u s k)
def frF (w : List (List Rat)) : Nat → Nat → FM
  | 0, _ => fun _ m => (0, m)
  | n + 1, i => fun u m => match lookM i u m with
    | some x => (x.2, m)
    | none => ((loopF (frF w n (i + 1)) (w.getD i []) u (frF w n (i + 1) u m) (w.getD i []).length).1, updM (loopF (frF w n (i + 1)) (w.getD i []) u (frF w n (i + 1) u m) (w.getD i []).length).2 i u
        (loopF (frF w n (i + 1)) (w.getD i []) u (frF w n (i + 1) u m) (w.getD i []).length).1)
def bstep (f : Nat → Rat) (r : List Rat) (u k : Nat) (b : Rat) : Rat :=
  if u.testBit k = true ∨ r.getD k 0 = 0 then b else if b < r.getD k 0 + f (u ||| 2 ^ k) then r.getD k 0 + f (u ||| 2 ^ k) else b
def bloop (f : Nat → Rat) (r : List Rat) (u : Nat) (b : Rat) : Nat → Rat
  | 0 => b
  | k + 1 => bstep f r u k (bloop f r u b k)
/-- The best weight of rows, without the columns of a set. -/
def bst : List (List Rat) → Nat → Rat
  | [], _ => 0
  | r :: rs, u => bloop (bst rs) r u (bst rs u) r.length
def Inv (w : List (List Rat)) (m : Memo) : Prop := ∀ i u x, ((i, u), x) ∈ m → x = bst (w.drop i) u
theorem Inv.nil {w : List (List Rat)} : Inv w [] := fun _ _ _ h => by cases h
theorem drop_getD {w : List (List Rat)} {i : Nat} (h : i < w.length) : w.drop i = w.getD i [] :: w.drop (i + 1) := by
  rw [List.drop_eq_getElem_cons h, List.getD_eq_getElem?_getD, List.getElem?_eq_getElem h]; rfl
theorem loopF_ok {w : List (List Rat)} {f : FM} {g : Nat → Rat} (hf : ∀ u m, Inv w m → (f u m).1 = g u ∧ Inv w (f u m).2) {r : List Rat} {u : Nat} {s : Rat × Memo} {b : Rat} (h1 : s.1 = b) (h2 : Inv w s.2) :
    ∀ k, (loopF f r u s k).1 = bloop g r u b k ∧ Inv w (loopF f r u s k).2
  | 0 => ⟨h1, h2⟩
  | k + 1 => by
    obtain ⟨i1, i2⟩ := loopF_ok hf (r := r) (u := u) h1 h2 k
    simp only [loopF, bloop, stepF, bstep]
    split
    · exact ⟨i1, i2⟩
    · obtain ⟨j1, j2⟩ := hf (u ||| 2 ^ k) _ i2
      rw [i1, j1]
      exact ⟨rfl, j2⟩
theorem frF_ok {w : List (List Rat)} : ∀ (n i u : Nat) (m : Memo), i + n = w.length → Inv w m → (frF w n i u m).1 = bst (w.drop i) u ∧ Inv w (frF w n i u m).2
  | 0, i, u, m, hi, hm => by
    rw [List.drop_of_length_le (by omega)]
    exact ⟨rfl, hm⟩
  | n + 1, i, u, m, hi, hm => by
    have ih := fun u m (hm : Inv w m) => frF_ok n (i + 1) u m (by omega) hm
    rw [drop_getD (by omega)]
    simp only [frF, bst]
    cases hl : lookM i u m with
    | some x =>
      have := hm i u x.2 (lookM_mem hl)
      rw [drop_getD (by omega)] at this
      exact ⟨this, hm⟩
    | none =>
      obtain ⟨k1, k2⟩ := loopF_ok ih (r := w.getD i []) (u := u) (ih u m hm).1 (ih u m hm).2 (w.getD i []).length
      refine ⟨k1, fun i' u' x' h => ?_⟩
      rcases updM_mem h with h | h
      · exact k2 i' u' x' h
      · simp only [Prod.mk.injEq] at h
        obtain ⟨⟨rfl, rfl⟩, rfl⟩ := h
        rw [k1, drop_getD (w := w) (i := i') (by omega)]; rfl
theorem bloop_Sm {f : Nat → Rat} {r : List Rat} {u : Nat} {b : Rat} {n : Nat} (hf : ∀ u, Sm n (f u)) (hr : ∀ k, Sm 1000 (r.getD k 0)) (hb : Sm n b) : ∀ k, Sm (n + 1000) (bloop f r u b k)
  | 0 => hb.mono (by omega)
  | k + 1 => by
    have ih := bloop_Sm (u := u) hf hr hb k
    simp only [bloop, bstep]
    split
    · exact ih
    · split
      · exact ((hr k).add (hf _)).mono (by omega)
      · exact ih
theorem bst_Sm : ∀ (w : List (List Rat)), (∀ r ∈ w, ∀ x ∈ r, Sm 1000 x) → ∀ u, Sm (1000 * w.length) (bst w u)
  | [], _, u => Sm.zero
  | r :: rs, h, u => by
    have ih := bst_Sm rs fun r hr => h r (by simp [hr])
    rw [List.length_cons, Nat.mul_add]
    refine bloop_Sm ih (fun k => ?_) (ih u) r.length
    rcases Nat.lt_or_ge k r.length with hk | hk
    · exact h r (by simp) _ (mem_getD hk)
    · rw [List.getD_eq_getElem?_getD, List.getElem?_eq_none hk]; exact Sm.zero.mono (by decide)
theorem bits8 : ∀ u : Fin 256, ∀ k : Fin 8, (u.val / 2 ^ k.val % 2 = 1 ↔ u.val.testBit k.val = true) ∧ u.val ||| 2 ^ k.val < 256 := by decide +kernel
theorem bit_t {u k : Nat} (hu : u < 256) (hk : k < 8) (h : u.testBit k = true) : u / 2 ^ k % 2 = 1 := ((bits8 ⟨u, hu⟩ ⟨k, hk⟩).1).2 h
theorem bit_f {u k : Nat} (hu : u < 256) (hk : k < 8) (h : ¬ u.testBit k = true) : ¬ u / 2 ^ k % 2 = 1 := fun h2 => h (((bits8 ⟨u, hu⟩ ⟨k, hk⟩).1).1 h2)
theorem bit_lt {u k : Nat} (hu : u < 256) (hk : k < 8) : u ||| 2 ^ k < 256 := (bits8 ⟨u, hu⟩ ⟨k, hk⟩).2
theorem and_i64 {a b : Nat} (ha : a < 2 ^ 62) (hb : b < 2 ^ 62) : bitsI .and .i64 (a : Int) (b : Int) = ((a &&& b : Nat) : Int) := by
  have h1 : a &&& b < 2 ^ 62 := Nat.and_lt_two_pow _ hb
  show IntKind.i64.wrap (((BitVec.ofInt 64 (a : Int) &&& BitVec.ofInt 64 (b : Int)).toNat : Nat) : Int) = _
  rw [BitVec.toNat_and, BitVec.toNat_ofInt, BitVec.toNat_ofInt]
  have e1 : ((a : Int) % ((2 ^ 64 : Nat) : Int)).toNat = a := by omega
  have e2 : ((b : Int) % ((2 ^ 64 : Nat) : Int)).toNat = b := by omega
  rw [e1, e2]
  simp [IntKind.wrap, IntKind.bits, IntKind.signed]
  omega
theorem or_i64 {a b : Nat} (ha : a < 2 ^ 62) (hb : b < 2 ^ 62) : bitsI .or .i64 (a : Int) (b : Int) = ((a ||| b : Nat) : Int) := by
  have h1 : a ||| b < 2 ^ 62 := Nat.or_lt_two_pow ha hb
  show IntKind.i64.wrap (((BitVec.ofInt 64 (a : Int) ||| BitVec.ofInt 64 (b : Int)).toNat : Nat) : Int) = _
  rw [BitVec.toNat_or, BitVec.toNat_ofInt, BitVec.toNat_ofInt]
  have e1 : ((a : Int) % ((2 ^ 64 : Nat) : Int)).toNat = a := by omega
  have e2 : ((b : Int) % ((2 ^ 64 : Nat) : Int)).toNat = b := by omega
  rw [e1, e2]
  simp [IntKind.wrap, IntKind.bits, IntKind.signed]
  omega
theorem and1_i64 {a : Nat} (ha : a < 2 ^ 62) : bitsI .and .i64 (a : Int) 1 = ((a % 2 : Nat) : Int) := by
  have := and_i64 (a := a) (b := 1) ha (by decide)
  rw [Nat.and_one_is_mod] at this
  exact this
end Go.Proofs.YtkppgdialedoeaaDoor

namespace Go.Proofs.YtkppgdialedoeaaDoor
open Go Go.Proofs Go.Abs
variable {G : Globals}
abbrev FinH (w : List (List Rat)) (m : Memo) : List ABlk := [.box [.d (Mx w), .mp 1], .map (enc m)]
/-- What 'with' hands back, and what is remembered then. -/
def withF (f : FM) (r : List Rat) (u k : Nat) (m : Memo) : Rat × Bool × Memo :=
  if u.testBit k = true ∨ r.getD k 0 = 0 then (0, false, m) else (r.getD k 0 + (f (u ||| 2 ^ k) m).1, true, (f (u ||| 2 ^ k) m).2)
theorem cmpQ_zero {x y : Rat} : cmpQ x y = 0 ↔ x = y := by
  unfold cmpQ
  split
  · rename_i h; exact ⟨fun h' => absurd h' (by decide), fun h' => by subst h'; exact absurd h (Rat.lt_irrefl)⟩
  · rename_i h; split
    · rename_i h2; exact ⟨fun h' => absurd h' (by decide), fun h' => by subst h'; exact absurd h2 (Rat.lt_irrefl)⟩
    · rename_i h2; exact ⟨fun _ => Rat.le_antisymm (Rat.not_lt.1 h2) (Rat.not_lt.1 h), fun _ => rfl⟩
theorem cmpQ_pos {x y : Rat} : cmpQ x y > 0 ↔ y < x := by
  unfold cmpQ
  split
  · rename_i h; exact ⟨fun h' => absurd h' (by decide), fun h' => absurd h (Rat.not_lt.2 (Rat.le_of_lt h'))⟩
  · rename_i h; split
    · rename_i h2; exact ⟨fun _ => h2, fun _ => by decide⟩
    · rename_i h2; exact ⟨fun h' => absurd h' (by decide), fun h' => absurd h' h2⟩
set_option maxHeartbeats 4000000 in
set_option maxRecDepth 100000 in
theorem with_spec (hG : HG G) (w : List (List Rat)) (hw : Wok w) (h8 : w.length ≤ 8) (f : FM) (i u k : Nat) (m : Memo) (hi : i < w.length) (hu : u < 256) (hk : k < (w.getD i []).length) (hr8 : (w.getD i []).length ≤ 8)
    (hf : ∀ u' : Nat, u' < 256 → Ctr Tryd.prog G 46 [.ptr 0 0, .d (.int .i64 (i + 1 : Nat)), .d (.int .i64 u')] (FinH w m) (.d (Frac (f u' m).1)) (FinH w (f u' m).2))
    (hs : ∀ u' : Nat, Sm 8000 (f u' m).1) :
    Ctr Tryd.prog G 47 [.ptr 0 0, .d (.int .i64 i), .d (.int .i64 u), .d (.int .i64 k)] (FinH w m)
      (.d (.tup [Frac (withF f (w.getD i []) u k m).1, .bool (withF f (w.getD i []) u k m).2.1])) (FinH w (withF f (w.getD i []) u k m).2.2) := by
  have ml := @MxL_length w
  have fl := @Fr_length (w.getD i [])
  have hk8 : k < 8 := by omega
  have hx := hw.fvs.at hi hk
  have hm : (2 : Int) ^ k = ((2 ^ k : Nat) : Int) := by simp
  have hmin : min k 64 = k := by omega
  have hle := Nat.div_le_self u (2 ^ k)
  have hp8 : 2 ^ k < 2 ^ 62 := Nat.pow_lt_pow_right (by decide) (by omega)
  have ha1 := and1_i64 (a := u / 2 ^ k) (by omega)
  have hwr : IntKind.i64.wrap ((2 ^ k : Nat) : Int) = ((2 ^ k : Nat) : Int) := by generalize 2 ^ k = q at hp8 ⊢; exact wr_i64 (by omega) (by omega)
  have hor := or_i64 (a := u) (b := 2 ^ k) (by omega) hp8
  have hlt := bit_lt hu hk8
  refine Ctr.body (M := M0) hmix Tryd.func47 rfl go47 ?_
  by_cases hb : u.testBit k = true
  · have hb2 := bit_t hu hk8 hb
    simp only [withF, hb, true_or, if_true]
    simp (config := { maxSteps := 1000000 }) (disch := ((try simp only [awL]); omega)) only [Tryd.f47, hm, hmin, fdiv_nat, ha1, hb2, ↓awU, awV, awF, ofVal, ofVal0, isShift, aggK, forall_const, ↓reduceIte, ↓reduceDIte, ↓purePost, combine, idsA, cellsA, numsOf, srcA, calleeA, refsA, isScalar, scalarD, scalar0, AV.one, putL, unfA, implies_true, IntKind.signed, Nat.reduceAdd, Nat.reduceSub, Nat.reduceMul, Nat.reducePow, Nat.reduceDiv, Nat.reduceMod, Int.reduceAdd, Int.reduceSub, Int.reduceMul, Int.reducePow, Int.reduceNeg, Int.reduceToNat, Int.reduceLT, Int.reduceLE, Nat.reduceEqDiff, sidsB, Nat.reduceBEq, keyKD, isIntK]
    refine CallC.pure numZero_spec ?_
    simp (config := { maxSteps := 1000000 }) (disch := ((try simp only [awL]); omega)) only [↓awU, awV, awF, ofVal, ofVal0, isShift, aggK, forall_const, ↓reduceIte, ↓reduceDIte, ↓purePost, combine, idsA, cellsA, numsOf, srcA, calleeA, refsA, isScalar, scalarD, scalar0, AV.one, putL, unfA, implies_true, IntKind.signed, Nat.reduceAdd, Nat.reduceSub, Nat.reduceMul, Nat.reducePow, Nat.reduceDiv, Nat.reduceMod, Int.reduceAdd, Int.reduceSub, Int.reduceMul, Int.reducePow, Int.reduceNeg, Int.reduceToNat, Int.reduceLT, Int.reduceLE, Nat.reduceEqDiff, sidsB, Nat.reduceBEq, keyKD, isIntK]
    refine ⟨[some 0, some 1], rfl, by simp, by simp [HWeak, BWeak, SWeak, AWeak], .inr ⟨_, rfl, ?_, rfl⟩⟩
    simp (config := { maxSteps := 1000000 }) (disch := ((try simp only [awL]); omega)) only [↓awU, awV, awF, ofVal, ofVal0, isShift, aggK, forall_const, ↓reduceIte, ↓reduceDIte, ↓purePost, combine, idsA, cellsA, numsOf, srcA, calleeA, refsA, isScalar, scalarD, scalar0, AV.one, putL, unfA, implies_true, IntKind.signed, Nat.reduceAdd, Nat.reduceSub, Nat.reduceMul, Nat.reducePow, Nat.reduceDiv, Nat.reduceMod, Int.reduceAdd, Int.reduceSub, Int.reduceMul, Int.reducePow, Int.reduceNeg, Int.reduceToNat, Int.reduceLT, Int.reduceLE, Nat.reduceEqDiff, sidsB, Nat.reduceBEq, keyKD, isIntK]
  · have hb2 := bit_f hu hk8 hb
    simp (config := { maxSteps := 1000000 }) (disch := ((try simp only [awL]); omega)) only [Tryd.f47, hm, hmin, fdiv_nat, ha1, hb2, ml, MxL_get, fl, Fr_get, ↓awU, awV, awF, ofVal, ofVal0, isShift, aggK, forall_const, ↓reduceIte, ↓reduceDIte, ↓purePost, combine, idsA, cellsA, numsOf, srcA, calleeA, refsA, isScalar, scalarD, scalar0, AV.one, putL, unfA, implies_true, IntKind.signed, Nat.reduceAdd, Nat.reduceSub, Nat.reduceMul, Nat.reducePow, Nat.reduceDiv, Nat.reduceMod, Int.reduceAdd, Int.reduceSub, Int.reduceMul, Int.reducePow, Int.reduceNeg, Int.reduceToNat, Int.reduceLT, Int.reduceLE, Nat.reduceEqDiff, sidsB, Nat.reduceBEq, keyKD, isIntK]
    refine CallC.pure (sign_spec hG _ hx) ?_
    by_cases hz : (w.getD i []).getD k 0 = 0
    · have hc := cmpQ_zero.2 hz
      simp only [withF, hz, or_true, if_true]
      rw [hz] at hc
      simp (config := { maxSteps := 1000000 }) (disch := ((try simp only [awL]); omega)) only [hc, ↓awU, awV, awF, ofVal, ofVal0, isShift, aggK, forall_const, ↓reduceIte, ↓reduceDIte, ↓purePost, combine, idsA, cellsA, numsOf, srcA, calleeA, refsA, isScalar, scalarD, scalar0, AV.one, putL, unfA, implies_true, IntKind.signed, Nat.reduceAdd, Nat.reduceSub, Nat.reduceMul, Nat.reducePow, Nat.reduceDiv, Nat.reduceMod, Int.reduceAdd, Int.reduceSub, Int.reduceMul, Int.reducePow, Int.reduceNeg, Int.reduceToNat, Int.reduceLT, Int.reduceLE, Nat.reduceEqDiff, sidsB, Nat.reduceBEq, keyKD, isIntK]
      refine CallC.pure numZero_spec ?_
      simp (config := { maxSteps := 1000000 }) (disch := ((try simp only [awL]); omega)) only [↓awU, awV, awF, ofVal, ofVal0, isShift, aggK, forall_const, ↓reduceIte, ↓reduceDIte, ↓purePost, combine, idsA, cellsA, numsOf, srcA, calleeA, refsA, isScalar, scalarD, scalar0, AV.one, putL, unfA, implies_true, IntKind.signed, Nat.reduceAdd, Nat.reduceSub, Nat.reduceMul, Nat.reducePow, Nat.reduceDiv, Nat.reduceMod, Int.reduceAdd, Int.reduceSub, Int.reduceMul, Int.reducePow, Int.reduceNeg, Int.reduceToNat, Int.reduceLT, Int.reduceLE, Nat.reduceEqDiff, sidsB, Nat.reduceBEq, keyKD, isIntK]
      refine ⟨[some 0, some 1], rfl, by simp, by simp [HWeak, BWeak, SWeak, AWeak], .inr ⟨_, rfl, ?_, rfl⟩⟩
      simp (config := { maxSteps := 1000000 }) (disch := ((try simp only [awL]); omega)) only [↓awU, awV, awF, ofVal, ofVal0, isShift, aggK, forall_const, ↓reduceIte, ↓reduceDIte, ↓purePost, combine, idsA, cellsA, numsOf, srcA, calleeA, refsA, isScalar, scalarD, scalar0, AV.one, putL, unfA, implies_true, IntKind.signed, Nat.reduceAdd, Nat.reduceSub, Nat.reduceMul, Nat.reducePow, Nat.reduceDiv, Nat.reduceMod, Int.reduceAdd, Int.reduceSub, Int.reduceMul, Int.reducePow, Int.reduceNeg, Int.reduceToNat, Int.reduceLT, Int.reduceLE, Nat.reduceEqDiff, sidsB, Nat.reduceBEq, keyKD, isIntK]
    · have hc : ¬ cmpQ ((w.getD i []).getD k 0) 0 = 0 := fun h => hz (cmpQ_zero.1 h)
      have e1 : withF f (w.getD i []) u k m = ((w.getD i []).getD k 0 + (f (u ||| 2 ^ k) m).1, true, (f (u ||| 2 ^ k) m).2) := by
        rw [withF, if_neg (fun h => h.elim hb hz)]
      rw [e1]
      simp (config := { maxSteps := 1000000 }) (disch := ((try simp only [awL]); omega)) only [hc, hm, hmin, hwr, hor, Int.one_mul, ml, MxL_get, fl, Fr_get, ↓awU, awV, awF, ofVal, ofVal0, isShift, aggK, forall_const, ↓reduceIte, ↓reduceDIte, ↓purePost, combine, idsA, cellsA, numsOf, srcA, calleeA, refsA, isScalar, scalarD, scalar0, AV.one, putL, unfA, implies_true, IntKind.signed, Nat.reduceAdd, Nat.reduceSub, Nat.reduceMul, Nat.reducePow, Nat.reduceDiv, Nat.reduceMod, Int.reduceAdd, Int.reduceSub, Int.reduceMul, Int.reducePow, Int.reduceNeg, Int.reduceToNat, Int.reduceLT, Int.reduceLE, Nat.reduceEqDiff, sidsB, Nat.reduceBEq, keyKD, isIntK]
      refine CallC.keep [0] (hf (u ||| 2 ^ k) hlt) rfl rfl (Nat.le_refl _) (by simp [callEff, outW, outN, frz]) (by simp [callEff, outW, outN, renB, renL, renA, frz]) ?_
      simp (config := { maxSteps := 1000000 }) (disch := ((try simp only [awL]); omega)) only [↓awU, awV, awF, ofVal, ofVal0, isShift, aggK, forall_const, ↓reduceIte, ↓reduceDIte, ↓purePost, combine, idsA, cellsA, numsOf, srcA, calleeA, refsA, isScalar, scalarD, scalar0, AV.one, putL, unfA, implies_true, IntKind.signed, Nat.reduceAdd, Nat.reduceSub, Nat.reduceMul, Nat.reducePow, Nat.reduceDiv, Nat.reduceMod, Int.reduceAdd, Int.reduceSub, Int.reduceMul, Int.reducePow, Int.reduceNeg, Int.reduceToNat, Int.reduceLT, Int.reduceLE, Nat.reduceEqDiff, sidsB, Nat.reduceBEq, keyKD, isIntK]
      refine CallC.pure (numAdd_spec hG ((w.getD i []).getD k 0) (f (u ||| 2 ^ k) m).1 hx ((hs _).FV (by decide)) (((hw.sm _ (mem_getD hi) _ (mem_getD hk)).add (hs _)).FV (by decide))) ?_
      simp (config := { maxSteps := 1000000 }) (disch := ((try simp only [awL]); omega)) only [↓awU, awV, awF, ofVal, ofVal0, isShift, aggK, forall_const, ↓reduceIte, ↓reduceDIte, ↓purePost, combine, idsA, cellsA, numsOf, srcA, calleeA, refsA, isScalar, scalarD, scalar0, AV.one, putL, unfA, implies_true, IntKind.signed, Nat.reduceAdd, Nat.reduceSub, Nat.reduceMul, Nat.reducePow, Nat.reduceDiv, Nat.reduceMod, Int.reduceAdd, Int.reduceSub, Int.reduceMul, Int.reducePow, Int.reduceNeg, Int.reduceToNat, Int.reduceLT, Int.reduceLE, Nat.reduceEqDiff, sidsB, Nat.reduceBEq, keyKD, isIntK]
      refine ⟨by rfl, ?_⟩
      refine ⟨[some 0, some 1], rfl, by simp, by simp [HWeak, BWeak, SWeak, AWeak], .inr ⟨_, rfl, ?_, rfl⟩⟩
      simp (config := { maxSteps := 1000000 }) (disch := ((try simp only [awL]); omega)) only [↓awU, awV, awF, ofVal, ofVal0, isShift, aggK, forall_const, ↓reduceIte, ↓reduceDIte, ↓purePost, combine, idsA, cellsA, numsOf, srcA, calleeA, refsA, isScalar, scalarD, scalar0, AV.one, putL, unfA, implies_true, IntKind.signed, Nat.reduceAdd, Nat.reduceSub, Nat.reduceMul, Nat.reducePow, Nat.reduceDiv, Nat.reduceMod, Int.reduceAdd, Int.reduceSub, Int.reduceMul, Int.reducePow, Int.reduceNeg, Int.reduceToNat, Int.reduceLT, Int.reduceLE, Nat.reduceEqDiff, sidsB, Nat.reduceBEq, keyKD, isIntK]
set_option maxHeartbeats 4000000 in
set_option maxRecDepth 100000 in
theorem from_spec (hG : HG G) (w : List (List Rat)) (hw : Wok w) (h8 : w.length ≤ 8) (hr8 : ∀ i, (w.getD i []).length ≤ 8) : ∀ (n i u : Nat) (m : Memo), i + n = w.length → u < 256 → Inv w m →
    Ctr Tryd.prog G 46 [.ptr 0 0, .d (.int .i64 i), .d (.int .i64 u)] (FinH w m) (.d (Frac (frF w n i u m).1)) (FinH w (frF w n i u m).2)
  | 0, i, u, m, hi, hu, hm => by
    have ei : i = w.length := by omega
    have ml := @MxL_length w
    refine Ctr.body (M := M0) hmix Tryd.func46 rfl go46 ?_
    simp (config := { maxSteps := 1000000 }) (disch := ((try simp only [awL]); omega)) only [Tryd.f46, ↓awU, awV, awF, ofVal, ofVal0, isShift, aggK, forall_const, ↓reduceIte, ↓reduceDIte, ↓purePost, combine, idsA, cellsA, numsOf, srcA, calleeA, refsA, isScalar, scalarD, scalar0, AV.one, putL, unfA, implies_true, IntKind.signed, Nat.reduceAdd, Nat.reduceSub, Nat.reduceMul, Nat.reducePow, Nat.reduceDiv, Nat.reduceMod, Int.reduceAdd, Int.reduceSub, Int.reduceMul, Int.reducePow, Int.reduceNeg, Int.reduceToNat, Int.reduceLT, Int.reduceLE, Nat.reduceEqDiff, sidsB, Nat.reduceBEq, keyKD, isIntK]
    refine CallC.pure numZero_spec ?_
    simp (config := { maxSteps := 1000000 }) (disch := ((try simp only [awL]); omega)) only [frF, ↓awU, awV, awF, ofVal, ofVal0, isShift, aggK, forall_const, ↓reduceIte, ↓reduceDIte, ↓purePost, combine, idsA, cellsA, numsOf, srcA, calleeA, refsA, isScalar, scalarD, scalar0, AV.one, putL, unfA, implies_true, IntKind.signed, Nat.reduceAdd, Nat.reduceSub, Nat.reduceMul, Nat.reducePow, Nat.reduceDiv, Nat.reduceMod, Int.reduceAdd, Int.reduceSub, Int.reduceMul, Int.reducePow, Int.reduceNeg, Int.reduceToNat, Int.reduceLT, Int.reduceLE, Nat.reduceEqDiff, sidsB, Nat.reduceBEq, keyKD, isIntK]
    refine ⟨[some 0, some 1], rfl, by simp, by simp [HWeak, BWeak, SWeak, AWeak], .inr ⟨_, rfl, ?_, rfl⟩⟩
    simp (config := { maxSteps := 1000000 }) (disch := ((try simp only [awL]); omega)) only [↓awU, awV, awF, ofVal, ofVal0, isShift, aggK, forall_const, ↓reduceIte, ↓reduceDIte, ↓purePost, combine, idsA, cellsA, numsOf, srcA, calleeA, refsA, isScalar, scalarD, scalar0, AV.one, putL, unfA, implies_true, IntKind.signed, Nat.reduceAdd, Nat.reduceSub, Nat.reduceMul, Nat.reducePow, Nat.reduceDiv, Nat.reduceMod, Int.reduceAdd, Int.reduceSub, Int.reduceMul, Int.reducePow, Int.reduceNeg, Int.reduceToNat, Int.reduceLT, Int.reduceLE, Nat.reduceEqDiff, sidsB, Nat.reduceBEq, keyKD, isIntK]
  | n + 1, i, u, m, hi, hu, hm => by
    have ih := fun (u' : Nat) (m' : Memo) (hu' : u' < 256) (hm' : Inv w m') => from_spec hG w hw h8 hr8 n (i + 1) u' m' (by omega) hu' hm'
    have iv := fun (u' : Nat) (m' : Memo) (hm' : Inv w m') => frF_ok n (i + 1) u' m' (by omega) hm'
    have bs := fun u' => bst_Sm (w.drop (i + 1)) (fun r hr => hw.sm r (List.mem_of_mem_drop hr)) u'
    have hil : i < w.length := by omega
    have h8i := hr8 i
    have ml := @MxL_length w
    have smf : ∀ (u' : Nat) (m' : Memo), Inv w m' → Sm 8000 (frF w n (i + 1) u' m').1 := fun u' m' hm' => by
      rw [(iv u' m' hm').1]; exact (bs u').mono (by rw [List.length_drop]; omega)
    refine Ctr.body (M := M0) hmix Tryd.func46 rfl go46 ?_
    cases hl : lookM i u m with
    | some x =>
      have hf : findE (mkey i u) (enc m) = some (x.1, Frac x.2) := by rw [findE_enc, hl]; rfl
      have e1 : frF w (n + 1) i u m = (x.2, m) := by simp only [frF, hl]
      rw [e1]
      simp (config := { maxSteps := 1000000 }) (disch := ((try simp only [awL]); omega)) only [Tryd.f46, enc_ok, lookV, hf, Option.getD_some, ↓awU, awV, awF, ofVal, ofVal0, isShift, aggK, forall_const, ↓reduceIte, ↓reduceDIte, ↓purePost, combine, idsA, cellsA, numsOf, srcA, calleeA, refsA, isScalar, scalarD, scalar0, AV.one, putL, unfA, implies_true, IntKind.signed, Nat.reduceAdd, Nat.reduceSub, Nat.reduceMul, Nat.reducePow, Nat.reduceDiv, Nat.reduceMod, Int.reduceAdd, Int.reduceSub, Int.reduceMul, Int.reducePow, Int.reduceNeg, Int.reduceToNat, Int.reduceLT, Int.reduceLE, Nat.reduceEqDiff, sidsB, Nat.reduceBEq, keyKD, isIntK]
      refine ⟨by rfl, ?_⟩
      refine ⟨[some 0, some 1], rfl, by simp, by simp [HWeak, BWeak, SWeak, AWeak], .inr ⟨_, rfl, ?_, rfl⟩⟩
      simp (config := { maxSteps := 1000000 }) (disch := ((try simp only [awL]); omega)) only [↓awU, awV, awF, ofVal, ofVal0, isShift, aggK, forall_const, ↓reduceIte, ↓reduceDIte, ↓purePost, combine, idsA, cellsA, numsOf, srcA, calleeA, refsA, isScalar, scalarD, scalar0, AV.one, putL, unfA, implies_true, IntKind.signed, Nat.reduceAdd, Nat.reduceSub, Nat.reduceMul, Nat.reducePow, Nat.reduceDiv, Nat.reduceMod, Int.reduceAdd, Int.reduceSub, Int.reduceMul, Int.reducePow, Int.reduceNeg, Int.reduceToNat, Int.reduceLT, Int.reduceLE, Nat.reduceEqDiff, sidsB, Nat.reduceBEq, keyKD, isIntK]
    | none =>
      have hf : findE (mkey i u) (enc m) = none := by rw [findE_enc, hl]; rfl
      generalize hr : w.getD i [] = r at *
      have hS : ∀ k, (loopF (frF w n (i + 1)) r u (frF w n (i + 1) u m) k).1 = bloop (bst (w.drop (i + 1))) r u (bst (w.drop (i + 1)) u) k ∧ Inv w (loopF (frF w n (i + 1)) r u (frF w n (i + 1) u m) k).2 :=
        loopF_ok iv (iv u m hm).1 (iv u m hm).2
      have hrm : ∀ k, k < r.length → Sm 1000 (r.getD k 0) := fun k hk => hw.sm r (hr ▸ mem_getD hil) _ (mem_getD hk)
      have hSm : ∀ k, Sm 9000 (loopF (frF w n (i + 1)) r u (frF w n (i + 1) u m) k).1 := fun k => by
        rw [(hS k).1]
        refine (bloop_Sm (n := 8000) (fun u' => (bs u').mono (by rw [List.length_drop]; omega)) (fun j => ?_) ((bs u).mono (by rw [List.length_drop]; omega)) k)
        rcases Nat.lt_or_ge j r.length with hj | hj
        · exact hrm j hj
        · rw [List.getD_eq_getElem?_getD, List.getElem?_eq_none hj]; exact Sm.zero.mono (by decide)
      have e1 : frF w (n + 1) i u m = ((loopF (frF w n (i + 1)) r u (frF w n (i + 1) u m) r.length).1, updM (loopF (frF w n (i + 1)) r u (frF w n (i + 1) u m) r.length).2 i u (loopF (frF w n (i + 1)) r u (frF w n (i + 1) u m) r.length).1) := by
        simp only [frF, hl, hr]
      rw [e1]
      have hstep : ∀ k, loopF (frF w n (i + 1)) r u (frF w n (i + 1) u m) (k + 1) = stepF (frF w n (i + 1)) r u k (loopF (frF w n (i + 1)) r u (frF w n (i + 1) u m) k) := fun k => rfl
      have hS0 : loopF (frF w n (i + 1)) r u (frF w n (i + 1) u m) 0 = frF w n (i + 1) u m := rfl
      simp (config := { maxSteps := 1000000 }) (disch := ((try simp only [awL]); omega)) only [Tryd.f46, enc_ok, lookV, hf, Option.getD_some, ↓awU, awV, awF, ofVal, ofVal0, isShift, aggK, forall_const, ↓reduceIte, ↓reduceDIte, ↓purePost, combine, idsA, cellsA, numsOf, srcA, calleeA, refsA, isScalar, scalarD, scalar0, AV.one, putL, unfA, implies_true, IntKind.signed, Nat.reduceAdd, Nat.reduceSub, Nat.reduceMul, Nat.reducePow, Nat.reduceDiv, Nat.reduceMod, Int.reduceAdd, Int.reduceSub, Int.reduceMul, Int.reducePow, Int.reduceNeg, Int.reduceToNat, Int.reduceLT, Int.reduceLE, Nat.reduceEqDiff, sidsB, Nat.reduceBEq, keyKD, isIntK]
      refine ⟨by rfl, ?_⟩
      refine CallC.by (ih u m hu hm) rfl rfl (Nat.le_refl _) ?_
      simp (config := { maxSteps := 1000000 }) (disch := ((try simp only [awL]); omega)) only [ml, MxL_get, hr, ↓awU, awV, awF, ofVal, ofVal0, isShift, aggK, forall_const, ↓reduceIte, ↓reduceDIte, ↓purePost, combine, idsA, cellsA, numsOf, srcA, calleeA, refsA, isScalar, scalarD, scalar0, AV.one, putL, unfA, implies_true, IntKind.signed, Nat.reduceAdd, Nat.reduceSub, Nat.reduceMul, Nat.reducePow, Nat.reduceDiv, Nat.reduceMod, Int.reduceAdd, Int.reduceSub, Int.reduceMul, Int.reducePow, Int.reduceNeg, Int.reduceToNat, Int.reduceLT, Int.reduceLE, Nat.reduceEqDiff, sidsB, Nat.reduceBEq, keyKD, isIntK]
      generalize hSg : loopF (frF w n (i + 1)) r u (frF w n (i + 1) u m) = S at *
      rw [← hS0]
      refine LoopC.fr 281474976711879 (α := Nat) (fun k => r.length - k) (fun k => [(49, .d (.int .i64 k)), (62, .undef), (63, .undef), (64, .undef), (65, .undef)])
        (fun k => [.box [.d (Mx w), .mp 1], .map (enc (S k).2), .box [.d (.bool false), .d (.sl 0 true []), .d (.bool false), .d (.sl 0 true [])], .box [.d (.int .i64 i), .d (.int .i64 u)], .dead,
          .box [.d (.bool (decide ((S k).1.num < 0))), .d (W (toW (S k).1.num.natAbs)), .d (.bool false), .d (W (toW (S k).1.den))]])
        (fun k => k ≤ r.length) 0 (Nat.zero_le _) ?_ ?_
      · exact ⟨[some 0, some 1, some 2, some 3, some 4, some 5], rfl, by simp, by simp [setsA, keepA, SWeak, AWeak], by simp [HWeak, BWeak, SWeak, AWeak]⟩
      · intro k hk
        simp only [keepA_z8, keepA_z, keepA_cons, keepA_nil, setsA_nil, setsA_cons, List.set_cons_zero, List.set_cons_succ, set_8, Nat.reduceMod, Nat.reduceDiv, Nat.zero_mod, Nat.zero_ne_one, if_true, if_false, reduceIte]
        rcases Nat.lt_or_ge k r.length with h1 | h1
        · simp (config := { maxSteps := 1000000 }) (disch := ((try simp only [awL]); omega)) only [↓awU, awV, awF, ofVal, ofVal0, isShift, aggK, forall_const, ↓reduceIte, ↓reduceDIte, ↓purePost, combine, idsA, cellsA, numsOf, srcA, calleeA, refsA, isScalar, scalarD, scalar0, AV.one, putL, unfA, implies_true, IntKind.signed, Nat.reduceAdd, Nat.reduceSub, Nat.reduceMul, Nat.reducePow, Nat.reduceDiv, Nat.reduceMod, Int.reduceAdd, Int.reduceSub, Int.reduceMul, Int.reducePow, Int.reduceNeg, Int.reduceToNat, Int.reduceLT, Int.reduceLE, Nat.reduceEqDiff, sidsB, Nat.reduceBEq, keyKD, isIntK]
          refine CallC.by (with_spec hG w hw h8 (frF w n (i + 1)) i u k (S k).2 hil hu (by rw [hr]; exact h1) (by rw [hr]; exact h8i) (fun u' hu' => ih u' _ hu' (hS k).2) (fun u' => smf u' _ (hS k).2)) rfl rfl (Nat.le_refl _) ?_
          rw [hr]
          by_cases hb : u.testBit k = true ∨ r.getD k 0 = 0
          · have e2 : withF (frF w n (i + 1)) r u k (S k).2 = (0, false, (S k).2) := by rw [withF, if_pos hb]
            have e3 : S (k + 1) = S k := by rw [hstep, stepF, if_pos hb]
            rw [e2]
            simp (config := { maxSteps := 1000000 }) (disch := ((try simp only [awL]); omega)) only [↓awU, awV, awF, ofVal, ofVal0, isShift, aggK, forall_const, ↓reduceIte, ↓reduceDIte, ↓purePost, combine, idsA, cellsA, numsOf, srcA, calleeA, refsA, isScalar, scalarD, scalar0, AV.one, putL, unfA, implies_true, IntKind.signed, Nat.reduceAdd, Nat.reduceSub, Nat.reduceMul, Nat.reducePow, Nat.reduceDiv, Nat.reduceMod, Int.reduceAdd, Int.reduceSub, Int.reduceMul, Int.reducePow, Int.reduceNeg, Int.reduceToNat, Int.reduceLT, Int.reduceLE, Nat.reduceEqDiff, sidsB, Nat.reduceBEq, keyKD, isIntK]
            refine ⟨k + 1, h1, by simp only; omega, [some 0, some 1, some 2, some 3, some 4, some 5], rfl, by simp, by simp [setsA, keepA, SWeak, AWeak], ?_⟩
            simp only [e3]
            simp [HWeak, BWeak, SWeak, AWeak]
          · have e2 : withF (frF w n (i + 1)) r u k (S k).2 = (r.getD k 0 + (frF w n (i + 1) (u ||| 2 ^ k) (S k).2).1, true, (frF w n (i + 1) (u ||| 2 ^ k) (S k).2).2) := by rw [withF, if_neg hb]
            have hy := smf (u ||| 2 ^ k) (S k).2 (hS k).2
            rw [e2]
            by_cases hlt : (S k).1 < r.getD k 0 + (frF w n (i + 1) (u ||| 2 ^ k) (S k).2).1
            · have e3 : S (k + 1) = (r.getD k 0 + (frF w n (i + 1) (u ||| 2 ^ k) (S k).2).1, (frF w n (i + 1) (u ||| 2 ^ k) (S k).2).2) := by rw [hstep, stepF, if_neg hb, if_pos hlt]
              have hc := cmpQ_pos.2 hlt
              simp (config := { maxSteps := 1000000 }) (disch := ((try simp only [awL]); omega)) only [↓awU, awV, awF, ofVal, ofVal0, isShift, aggK, forall_const, ↓reduceIte, ↓reduceDIte, ↓purePost, combine, idsA, cellsA, numsOf, srcA, calleeA, refsA, isScalar, scalarD, scalar0, AV.one, putL, unfA, implies_true, IntKind.signed, Nat.reduceAdd, Nat.reduceSub, Nat.reduceMul, Nat.reducePow, Nat.reduceDiv, Nat.reduceMod, Int.reduceAdd, Int.reduceSub, Int.reduceMul, Int.reducePow, Int.reduceNeg, Int.reduceToNat, Int.reduceLT, Int.reduceLE, Nat.reduceEqDiff, sidsB, Nat.reduceBEq, keyKD, isIntK]
              refine CallC.pure (cmpF_spec hG _ _ (((hrm k h1).add hy).FV (by decide)) ((hSm k).FV (by decide))) ?_
              simp (config := { maxSteps := 1000000 }) (disch := ((try simp only [awL]); omega)) only [↓awU, awV, awF, ofVal, ofVal0, isShift, aggK, forall_const, ↓reduceIte, ↓reduceDIte, ↓purePost, combine, idsA, cellsA, numsOf, srcA, calleeA, refsA, isScalar, scalarD, scalar0, AV.one, putL, unfA, implies_true, IntKind.signed, Nat.reduceAdd, Nat.reduceSub, Nat.reduceMul, Nat.reducePow, Nat.reduceDiv, Nat.reduceMod, Int.reduceAdd, Int.reduceSub, Int.reduceMul, Int.reducePow, Int.reduceNeg, Int.reduceToNat, Int.reduceLT, Int.reduceLE, Nat.reduceEqDiff, sidsB, Nat.reduceBEq, keyKD, isIntK]
              refine ⟨k + 1, h1, by simp only; omega, [some 0, some 1, some 2, some 3, some 4, some 5], rfl, by simp, by simp [setsA, keepA, SWeak, AWeak], ?_⟩
              simp only [e3]
              simp [HWeak, BWeak, SWeak, AWeak]
            · have e3 : S (k + 1) = ((S k).1, (frF w n (i + 1) (u ||| 2 ^ k) (S k).2).2) := by rw [hstep, stepF, if_neg hb, if_neg hlt]
              have hc : ¬ cmpQ (r.getD k 0 + (frF w n (i + 1) (u ||| 2 ^ k) (S k).2).1) (S k).1 > 0 := fun h => hlt (cmpQ_pos.1 h)
              simp (config := { maxSteps := 1000000 }) (disch := ((try simp only [awL]); omega)) only [↓awU, awV, awF, ofVal, ofVal0, isShift, aggK, forall_const, ↓reduceIte, ↓reduceDIte, ↓purePost, combine, idsA, cellsA, numsOf, srcA, calleeA, refsA, isScalar, scalarD, scalar0, AV.one, putL, unfA, implies_true, IntKind.signed, Nat.reduceAdd, Nat.reduceSub, Nat.reduceMul, Nat.reducePow, Nat.reduceDiv, Nat.reduceMod, Int.reduceAdd, Int.reduceSub, Int.reduceMul, Int.reducePow, Int.reduceNeg, Int.reduceToNat, Int.reduceLT, Int.reduceLE, Nat.reduceEqDiff, sidsB, Nat.reduceBEq, keyKD, isIntK]
              refine CallC.pure (cmpF_spec hG _ _ (((hrm k h1).add hy).FV (by decide)) ((hSm k).FV (by decide))) ?_
              simp (config := { maxSteps := 1000000 }) (disch := ((try simp only [awL]); omega)) only [↓awU, awV, awF, ofVal, ofVal0, isShift, aggK, forall_const, ↓reduceIte, ↓reduceDIte, ↓purePost, combine, idsA, cellsA, numsOf, srcA, calleeA, refsA, isScalar, scalarD, scalar0, AV.one, putL, unfA, implies_true, IntKind.signed, Nat.reduceAdd, Nat.reduceSub, Nat.reduceMul, Nat.reducePow, Nat.reduceDiv, Nat.reduceMod, Int.reduceAdd, Int.reduceSub, Int.reduceMul, Int.reducePow, Int.reduceNeg, Int.reduceToNat, Int.reduceLT, Int.reduceLE, Nat.reduceEqDiff, sidsB, Nat.reduceBEq, keyKD, isIntK]
              refine ⟨k + 1, h1, by simp only; omega, [some 0, some 1, some 2, some 3, some 4, some 5], rfl, by simp, by simp [setsA, keepA, SWeak, AWeak], ?_⟩
              simp only [e3]
              simp [HWeak, BWeak, SWeak, AWeak]
        · have ek : k = r.length := by omega
          subst ek
          have hue : updE (enc (S r.length).2) (.agg [.int .i64 i, .int .i64 u]) (.agg [.bool (decide ((S r.length).1.num < 0)), W (toW (S r.length).1.num.natAbs), .bool false, W (toW (S r.length).1.den)]) = enc (updM (S r.length).2 i u (S r.length).1) := updE_enc
          simp (config := { maxSteps := 1000000 }) (disch := ((try simp only [awL]); omega)) only [enc_ok, hue, Option.getD_some, ↓awU, awV, awF, ofVal, ofVal0, isShift, aggK, forall_const, ↓reduceIte, ↓reduceDIte, ↓purePost, combine, idsA, cellsA, numsOf, srcA, calleeA, refsA, isScalar, scalarD, scalar0, AV.one, putL, unfA, implies_true, IntKind.signed, Nat.reduceAdd, Nat.reduceSub, Nat.reduceMul, Nat.reducePow, Nat.reduceDiv, Nat.reduceMod, Int.reduceAdd, Int.reduceSub, Int.reduceMul, Int.reducePow, Int.reduceNeg, Int.reduceToNat, Int.reduceLT, Int.reduceLE, Nat.reduceEqDiff, sidsB, Nat.reduceBEq, keyKD, isIntK]
          refine ⟨by rfl, ?_⟩
          refine ⟨[some 0, some 1], rfl, by simp, by simp [HWeak, BWeak, SWeak, AWeak], .inr ⟨_, rfl, ?_, rfl⟩⟩
          simp (config := { maxSteps := 1000000 }) (disch := ((try simp only [awL]); omega)) only [↓awU, awV, awF, ofVal, ofVal0, isShift, aggK, forall_const, ↓reduceIte, ↓reduceDIte, ↓purePost, combine, idsA, cellsA, numsOf, srcA, calleeA, refsA, isScalar, scalarD, scalar0, AV.one, putL, unfA, implies_true, IntKind.signed, Nat.reduceAdd, Nat.reduceSub, Nat.reduceMul, Nat.reducePow, Nat.reduceDiv, Nat.reduceMod, Int.reduceAdd, Int.reduceSub, Int.reduceMul, Int.reducePow, Int.reduceNeg, Int.reduceToNat, Int.reduceLT, Int.reduceLE, Nat.reduceEqDiff, sidsB, Nat.reduceBEq, keyKD, isIntK]
end Go.Proofs.YtkppgdialedoeaaDoor

namespace Go.Proofs.YtkppgdialedoeaaDoor
open Go Go.Proofs Go.Abs
variable {G : Globals}
/-- Whether a column is taken by a row. -/
def okK (f : Nat → Rat) (r : List Rat) (u k : Nat) (b : Rat) : Prop := ¬ u.testBit k = true ∧ ¬ r.getD k 0 = 0 ∧ r.getD k 0 + f (u ||| 2 ^ k) = b
instance (f : Nat → Rat) (r : List Rat) (u k : Nat) (b : Rat) : Decidable (okK f r u k b) := inferInstanceAs (Decidable (_ ∧ _ ∧ _))
/-- The first column, from k on, that is taken. -/
def firstK (f : Nat → Rat) (r : List Rat) (u : Nat) (b : Rat) : Nat → Nat → Option Nat
  | _, 0 => none
  | k, n + 1 => if okK f r u k b then some k else firstK f r u b (k + 1) n
def bestL : List (List Rat) → Nat → List Int
  | [], _ => []
  | r :: rs, u => match firstK (bst rs) r u (bst (r :: rs) u) 0 r.length with
    | some k => (k : Int) :: bestL rs (u ||| 2 ^ k)
    | none => -1 :: bestL rs u
def bestR (w : List (List Rat)) : D :=
  if validE w ≠ 0 then .tup [.sl 0 false [], Zf, .int .i64 (validE w)] else .tup [.sl (bestL w 0).length false (ints .i64 (bestL w 0)), Frac (bst w 0), .int .i64 0]
theorem firstK_lt {f : Nat → Rat} {r : List Rat} {u : Nat} {b : Rat} : ∀ {n k j : Nat}, firstK f r u b k n = some j → k ≤ j ∧ j < k + n ∧ okK f r u j b
  | 0, k, j, h => by cases h
  | n + 1, k, j, h => by
    simp only [firstK] at h
    split at h
    · cases h; exact ⟨Nat.le_refl _, by omega, by assumption⟩
    · obtain ⟨a, b, c⟩ := firstK_lt h; exact ⟨by omega, by omega, c⟩
set_option maxHeartbeats 4000000 in
set_option maxRecDepth 100000 in
theorem best_spec (hG : HG G) (w : List (List Rat)) (hw : Wok w) : Ctr Tryd.prog G 18 [.d (Mx w)] [] (.d (bestR w)) [] := by
  refine Ctr.pure (M := M0) hmix Tryd.func18 rfl go18 ?_
  have ml := @MxL_length w
  simp (config := { maxSteps := 1000000 }) (disch := ((try simp only [awL]); omega)) only [Tryd.f18, ↓awU, awV, awF, ofVal, ofVal0, isShift, aggK, forall_const, ↓reduceIte, ↓reduceDIte, ↓purePost, combine, idsA, cellsA, numsOf, srcA, calleeA, refsA, isScalar, scalarD, scalar0, AV.one, putL, unfA, implies_true, IntKind.signed, Nat.reduceAdd, Nat.reduceSub, Nat.reduceMul, Nat.reducePow, Nat.reduceDiv, Nat.reduceMod, Int.reduceAdd, Int.reduceSub, Int.reduceMul, Int.reducePow, Int.reduceNeg, Int.reduceToNat, Int.reduceLT, Int.reduceLE, Nat.reduceEqDiff, sidsB, Nat.reduceBEq, keyKD, isIntK]
  refine CallC.pure (valid27_spec hG w hw.fvs hw.len hw.row) ?_
  by_cases hv : validE w = 0
  · obtain ⟨h8, hr8⟩ := valid_sides hv
    have e0 : bestR w = .tup [.sl (bestL w 0).length false (ints .i64 (bestL w 0)), Frac (bst w 0), .int .i64 0] := by rw [bestR, if_neg (by simp [hv])]
    rw [e0]
    simp (config := { maxSteps := 1000000 }) (disch := ((try simp only [awL]); omega)) only [hv, ↓awU, awV, awF, ofVal, ofVal0, isShift, aggK, forall_const, ↓reduceIte, ↓reduceDIte, ↓purePost, combine, idsA, cellsA, numsOf, srcA, calleeA, refsA, isScalar, scalarD, scalar0, AV.one, putL, unfA, implies_true, IntKind.signed, Nat.reduceAdd, Nat.reduceSub, Nat.reduceMul, Nat.reducePow, Nat.reduceDiv, Nat.reduceMod, Int.reduceAdd, Int.reduceSub, Int.reduceMul, Int.reducePow, Int.reduceNeg, Int.reduceToNat, Int.reduceLT, Int.reduceLE, Nat.reduceEqDiff, sidsB, Nat.reduceBEq, keyKD, isIntK]
    refine LoopC.fr 201326664 (α := Nat × Nat × List Int × Memo) (fun x => w.length - x.1) (fun x => [(7, .lsl 3 1 0 x.1), (8, .d (.int .i64 x.2.1)), (28, .d (.int .i64 x.1)), (52, .undef), (53, .undef), (54, .undef), (55, .undef)])
      (fun x => [.box [.d (.bool false), .d (.sl 0 true []), .d (.bool false), .d (.sl 0 true [])], .map (enc x.2.2.2), .box [.d (Mx w), .mp 1], .row false (ints .i64 x.2.2.1)])
      (fun x => x.1 ≤ w.length ∧ x.2.1 < 256 ∧ x.2.2.1.length = x.1 ∧ x.2.2.1 ++ bestL (w.drop x.1) x.2.1 = bestL w 0 ∧ Inv w x.2.2.2) (0, 0, [], []) ⟨Nat.zero_le _, by decide, rfl, rfl, Inv.nil⟩ ?_ ?_
    · refine ⟨[some 0, some 1, some 2, none], rfl, by simp, by simp [setsA, keepA, SWeak, AWeak], by simp [HWeak, BWeak, SWeak, AWeak, enc, ints]⟩
    · rintro ⟨i, u, out, m⟩ ⟨hi, hu, hol, hob, hm⟩
      simp only at hi hu hol hob hm
      simp only [keepA_z8, keepA_z, keepA_cons, keepA_nil, setsA_nil, setsA_cons, List.set_cons_zero, List.set_cons_succ, set_8, Nat.reduceMod, Nat.reduceDiv, Nat.zero_mod, Nat.zero_ne_one, if_true, if_false, reduceIte]
      replace hob := Hid.mk hob
      rcases Nat.lt_or_ge i w.length with h1 | h1
      · have h8i := hr8 i
        have ff := frF_ok (w.length - i) i u m (by omega) hm
        simp (config := { maxSteps := 1000000 }) (disch := ((try simp only [awL]); omega)) only [ml, MxL_get, ↓awU, awV, awF, ofVal, ofVal0, isShift, aggK, forall_const, ↓reduceIte, ↓reduceDIte, ↓purePost, combine, idsA, cellsA, numsOf, srcA, calleeA, refsA, isScalar, scalarD, scalar0, AV.one, putL, unfA, implies_true, IntKind.signed, Nat.reduceAdd, Nat.reduceSub, Nat.reduceMul, Nat.reducePow, Nat.reduceDiv, Nat.reduceMod, Int.reduceAdd, Int.reduceSub, Int.reduceMul, Int.reducePow, Int.reduceNeg, Int.reduceToNat, Int.reduceLT, Int.reduceLE, Nat.reduceEqDiff, sidsB, Nat.reduceBEq, keyKD, isIntK]
        refine CallC.by (from_spec hG w hw h8 hr8 (w.length - i) i u m (by omega) hu hm) rfl rfl (Nat.le_refl _) ?_
        rw [ff.1]
        have bsm := (bst_Sm (w.drop i) (fun r hr => hw.sm r (List.mem_of_mem_drop hr)) u).mono (show _ ≤ 9000 by rw [List.length_drop]; omega)
        have bsr := fun u' => (bst_Sm (w.drop (i + 1)) (fun r hr => hw.sm r (List.mem_of_mem_drop hr)) u').mono (show _ ≤ 8000 by rw [List.length_drop]; omega)
        have iv := fun (u' : Nat) (m' : Memo) (hm' : Inv w m') => frF_ok (w.length - (i + 1)) (i + 1) u' m' (by omega) hm'
        have hm1 := ff.2
        generalize (frF w (w.length - i) i u m).2 = m1 at *
        have hbd : bst (w.drop i) u = bst (w.getD i [] :: w.drop (i + 1)) u := by rw [← drop_getD h1]
        have hbl : bestL (w.drop i) u = match firstK (bst (w.drop (i + 1))) (w.getD i []) u (bst (w.drop i) u) 0 (w.getD i []).length with
            | some k => (k : Int) :: bestL (w.drop (i + 1)) (u ||| 2 ^ k)
            | none => -1 :: bestL (w.drop (i + 1)) u := by rw [hbd, drop_getD h1]; rfl
        have hrm : ∀ k, k < (w.getD i []).length → Sm 1000 ((w.getD i []).getD k 0) := fun k hk => hw.sm _ (mem_getD h1) _ (mem_getD hk)
        simp (config := { maxSteps := 1000000 }) (disch := ((try simp only [awL]); omega)) only [ml, MxL_get, ↓awU, awV, awF, ofVal, ofVal0, isShift, aggK, forall_const, ↓reduceIte, ↓reduceDIte, ↓purePost, combine, idsA, cellsA, numsOf, srcA, calleeA, refsA, isScalar, scalarD, scalar0, AV.one, putL, unfA, implies_true, IntKind.signed, Nat.reduceAdd, Nat.reduceSub, Nat.reduceMul, Nat.reducePow, Nat.reduceDiv, Nat.reduceMod, Int.reduceAdd, Int.reduceSub, Int.reduceMul, Int.reducePow, Int.reduceNeg, Int.reduceToNat, Int.reduceLT, Int.reduceLE, Nat.reduceEqDiff, sidsB, Nat.reduceBEq, keyKD, isIntK]
        refine LoopC.fx 275347671752 (α := Nat × Memo) (β := Int × Nat × Memo) (fun x => (w.getD i []).length - x.1) (fun x => [(8, .d (.int .i64 u)), (12, .d (.int .i64 (-1))), (39, .d (.int .i64 x.1)), (52, .undef), (53, .undef), (54, .undef), (55, .undef)])
          (fun x => [.box [.d (.bool false), .d (.sl 0 true []), .d (.bool false), .d (.sl 0 true [])], .map (enc x.2), .box [.d (Mx w), .mp 1], .row false (ints .i64 out),
            .box [.d (.bool (decide ((bst (w.drop i) u).num < 0))), .d (W (toW (bst (w.drop i) u).num.natAbs)), .d (.bool false), .d (W (toW (bst (w.drop i) u).den))]])
          (fun x => x.1 ≤ (w.getD i []).length ∧ Inv w x.2 ∧ firstK (bst (w.drop (i + 1))) (w.getD i []) u (bst (w.drop i) u) 0 (w.getD i []).length = firstK (bst (w.drop (i + 1))) (w.getD i []) u (bst (w.drop i) u) x.1 ((w.getD i []).length - x.1))
          469762248 (fun x => [(8, .d (.int .i64 x.2.1)), (12, .d (.int .i64 x.1)), (52, .undef), (53, .undef), (54, .undef), (55, .undef)]) (fun x => [.box [.d (.bool false), .d (.sl 0 true []), .d (.bool false), .d (.sl 0 true [])], .map (enc x.2.2), .box [.d (Mx w), .mp 1], .row false (ints .i64 out)])
          (fun x => Inv w x.2.2 ∧ x.2.1 < 256 ∧ -1 ≤ x.1 ∧ x.1 < 8 ∧ bestL (w.drop i) u = x.1 :: bestL (w.drop (i + 1)) x.2.1) (0, m1) ⟨Nat.zero_le _, hm1, rfl⟩ ?_ ?_ ?_
        · exact ⟨[some 0, some 1, some 2, some 3, some 4], rfl, by simp, by simp [setsA, keepA, SWeak, AWeak], by simp [HWeak, BWeak, SWeak, AWeak]⟩
        · rintro ⟨k, m2⟩ ⟨hk, hm2, hfk⟩
          simp only at hk hm2 hfk
          simp only [keepA_z8, keepA_z, keepA_cons, keepA_nil, setsA_nil, setsA_cons, List.set_cons_zero, List.set_cons_succ, set_8, Nat.reduceMod, Nat.reduceDiv, Nat.zero_mod, Nat.zero_ne_one, if_true, if_false, reduceIte]
          rcases Nat.lt_or_ge k (w.getD i []).length with h2 | h2
          · replace hfk := Hid.mk hfk
            replace hbl := Hid.mk hbl
            simp (config := { maxSteps := 1000000 }) (disch := ((try simp only [awL]); omega)) only [↓awU, awV, awF, ofVal, ofVal0, isShift, aggK, forall_const, ↓reduceIte, ↓reduceDIte, ↓purePost, combine, idsA, cellsA, numsOf, srcA, calleeA, refsA, isScalar, scalarD, scalar0, AV.one, putL, unfA, implies_true, IntKind.signed, Nat.reduceAdd, Nat.reduceSub, Nat.reduceMul, Nat.reducePow, Nat.reduceDiv, Nat.reduceMod, Int.reduceAdd, Int.reduceSub, Int.reduceMul, Int.reducePow, Int.reduceNeg, Int.reduceToNat, Int.reduceLT, Int.reduceLE, Nat.reduceEqDiff, sidsB, Nat.reduceBEq, keyKD, isIntK]
            refine CallC.by (with_spec hG w hw h8 (frF w (w.length - (i + 1)) (i + 1)) i u k m2 h1 hu h2 h8i (fun u' hu' => from_spec hG w hw h8 hr8 (w.length - (i + 1)) (i + 1) u' m2 (by omega) hu' hm2) (fun u' => by rw [(iv u' m2 hm2).1]; exact bsr u')) rfl rfl (Nat.le_refl _) ?_
            have hfn : firstK (bst (w.drop (i + 1))) (w.getD i []) u (bst (w.drop i) u) k ((w.getD i []).length - k) = if okK (bst (w.drop (i + 1))) (w.getD i []) u k (bst (w.drop i) u) then some k else firstK (bst (w.drop (i + 1))) (w.getD i []) u (bst (w.drop i) u) (k + 1) ((w.getD i []).length - (k + 1)) := by
              rw [show (w.getD i []).length - k = ((w.getD i []).length - (k + 1)) + 1 by omega]; rfl
            replace hfn := Hid.mk hfn
            by_cases hb : u.testBit k = true ∨ (w.getD i []).getD k 0 = 0
            · have e2 : withF (frF w (w.length - (i + 1)) (i + 1)) (w.getD i []) u k m2 = (0, false, m2) := by rw [withF, if_pos hb]
              have hno : ¬ okK (bst (w.drop (i + 1))) (w.getD i []) u k (bst (w.drop i) u) := fun h => hb.elim h.1 h.2.1
              rw [e2]
              simp (config := { maxSteps := 1000000 }) (disch := ((try simp only [awL]); omega)) only [↓awU, awV, awF, ofVal, ofVal0, isShift, aggK, forall_const, ↓reduceIte, ↓reduceDIte, ↓purePost, combine, idsA, cellsA, numsOf, srcA, calleeA, refsA, isScalar, scalarD, scalar0, AV.one, putL, unfA, implies_true, IntKind.signed, Nat.reduceAdd, Nat.reduceSub, Nat.reduceMul, Nat.reducePow, Nat.reduceDiv, Nat.reduceMod, Int.reduceAdd, Int.reduceSub, Int.reduceMul, Int.reducePow, Int.reduceNeg, Int.reduceToNat, Int.reduceLT, Int.reduceLE, Nat.reduceEqDiff, sidsB, Nat.reduceBEq, keyKD, isIntK]
              exact ⟨(k + 1, m2), ⟨h2, hm2, by simp only; rw [hfk.out, hfn.out, if_neg hno]⟩, by simp only; omega, ⟨[some 0, some 1, some 2, some 3, some 4], rfl, by simp, by simp [setsA, keepA, SWeak, AWeak], by simp [HWeak, BWeak, SWeak, AWeak]⟩⟩
            · have e2 : withF (frF w (w.length - (i + 1)) (i + 1)) (w.getD i []) u k m2 = ((w.getD i []).getD k 0 + (frF w (w.length - (i + 1)) (i + 1) (u ||| 2 ^ k) m2).1, true, (frF w (w.length - (i + 1)) (i + 1) (u ||| 2 ^ k) m2).2) := by rw [withF, if_neg hb]
              obtain ⟨j1, j2⟩ := iv (u ||| 2 ^ k) m2 hm2
              rw [e2, j1]
              generalize (frF w (w.length - (i + 1)) (i + 1) (u ||| 2 ^ k) m2).2 = m3 at *
              have fv1 := ((hrm k h2).add (bsr (u ||| 2 ^ k))).FV (by decide)
              by_cases he : (w.getD i []).getD k 0 + bst (w.drop (i + 1)) (u ||| 2 ^ k) = bst (w.drop i) u
              · have hc := cmpQ_zero.2 he
                have hyes : okK (bst (w.drop (i + 1))) (w.getD i []) u k (bst (w.drop i) u) := ⟨fun h => hb (.inl h), fun h => hb (.inr h), he⟩
                have hk8 : k < 8 := by omega
                have hlt := bit_lt hu hk8
                have hm' : (2 : Int) ^ k = ((2 ^ k : Nat) : Int) := by simp
                have hmin : min k 64 = k := by omega
                have hp8 : 2 ^ k < 2 ^ 62 := Nat.pow_lt_pow_right (by decide) (by omega)
                have hwr : IntKind.i64.wrap ((2 ^ k : Nat) : Int) = ((2 ^ k : Nat) : Int) := by generalize 2 ^ k = q at hp8 ⊢; exact wr_i64 (by omega) (by omega)
                have hor := or_i64 (a := u) (b := 2 ^ k) (by omega) hp8
                simp (config := { maxSteps := 1000000 }) (disch := ((try simp only [awL]); omega)) only [↓awU, awV, awF, ofVal, ofVal0, isShift, aggK, forall_const, ↓reduceIte, ↓reduceDIte, ↓purePost, combine, idsA, cellsA, numsOf, srcA, calleeA, refsA, isScalar, scalarD, scalar0, AV.one, putL, unfA, implies_true, IntKind.signed, Nat.reduceAdd, Nat.reduceSub, Nat.reduceMul, Nat.reducePow, Nat.reduceDiv, Nat.reduceMod, Int.reduceAdd, Int.reduceSub, Int.reduceMul, Int.reducePow, Int.reduceNeg, Int.reduceToNat, Int.reduceLT, Int.reduceLE, Nat.reduceEqDiff, sidsB, Nat.reduceBEq, keyKD, isIntK]
                refine CallC.pure (cmpF_spec hG _ _ fv1 (bsm.FV (by decide))) ?_
                simp (config := { maxSteps := 1000000 }) (disch := ((try simp only [awL]); omega)) only [hc, hm', hmin, hwr, hor, Int.one_mul, ↓awU, awV, awF, ofVal, ofVal0, isShift, aggK, forall_const, ↓reduceIte, ↓reduceDIte, ↓purePost, combine, idsA, cellsA, numsOf, srcA, calleeA, refsA, isScalar, scalarD, scalar0, AV.one, putL, unfA, implies_true, IntKind.signed, Nat.reduceAdd, Nat.reduceSub, Nat.reduceMul, Nat.reducePow, Nat.reduceDiv, Nat.reduceMod, Int.reduceAdd, Int.reduceSub, Int.reduceMul, Int.reducePow, Int.reduceNeg, Int.reduceToNat, Int.reduceLT, Int.reduceLE, Nat.reduceEqDiff, sidsB, Nat.reduceBEq, keyKD, isIntK]
                refine ⟨((k : Int), u ||| 2 ^ k, m3), ⟨j2, hlt, by simp only; omega, by simp only; omega, ?_⟩, ⟨[some 0, some 1, some 2, some 3], rfl, by simp, by simp [setsA, keepA, SWeak, AWeak], by simp [HWeak, BWeak, SWeak, AWeak]⟩⟩
                simp only
                rw [hbl.out, hfk.out, hfn.out, if_pos hyes]
              · have hc : ¬ cmpQ ((w.getD i []).getD k 0 + bst (w.drop (i + 1)) (u ||| 2 ^ k)) (bst (w.drop i) u) = 0 := fun h => he (cmpQ_zero.1 h)
                have hno : ¬ okK (bst (w.drop (i + 1))) (w.getD i []) u k (bst (w.drop i) u) := fun h => he h.2.2
                simp (config := { maxSteps := 1000000 }) (disch := ((try simp only [awL]); omega)) only [↓awU, awV, awF, ofVal, ofVal0, isShift, aggK, forall_const, ↓reduceIte, ↓reduceDIte, ↓purePost, combine, idsA, cellsA, numsOf, srcA, calleeA, refsA, isScalar, scalarD, scalar0, AV.one, putL, unfA, implies_true, IntKind.signed, Nat.reduceAdd, Nat.reduceSub, Nat.reduceMul, Nat.reducePow, Nat.reduceDiv, Nat.reduceMod, Int.reduceAdd, Int.reduceSub, Int.reduceMul, Int.reducePow, Int.reduceNeg, Int.reduceToNat, Int.reduceLT, Int.reduceLE, Nat.reduceEqDiff, sidsB, Nat.reduceBEq, keyKD, isIntK]
                refine CallC.pure (cmpF_spec hG _ _ fv1 (bsm.FV (by decide))) ?_
                simp (config := { maxSteps := 1000000 }) (disch := ((try simp only [awL]); omega)) only [hc, ↓awU, awV, awF, ofVal, ofVal0, isShift, aggK, forall_const, ↓reduceIte, ↓reduceDIte, ↓purePost, combine, idsA, cellsA, numsOf, srcA, calleeA, refsA, isScalar, scalarD, scalar0, AV.one, putL, unfA, implies_true, IntKind.signed, Nat.reduceAdd, Nat.reduceSub, Nat.reduceMul, Nat.reducePow, Nat.reduceDiv, Nat.reduceMod, Int.reduceAdd, Int.reduceSub, Int.reduceMul, Int.reducePow, Int.reduceNeg, Int.reduceToNat, Int.reduceLT, Int.reduceLE, Nat.reduceEqDiff, sidsB, Nat.reduceBEq, keyKD, isIntK]
                exact ⟨(k + 1, m3), ⟨h2, j2, by simp only; rw [hfk.out, hfn.out, if_neg hno]⟩, by simp only; omega, ⟨[some 0, some 1, some 2, some 3, some 4], rfl, by simp, by simp [setsA, keepA, SWeak, AWeak], by simp [HWeak, BWeak, SWeak, AWeak]⟩⟩
          · simp (config := { maxSteps := 1000000 }) (disch := ((try simp only [awL]); omega)) only [↓awU, awV, awF, ofVal, ofVal0, isShift, aggK, forall_const, ↓reduceIte, ↓reduceDIte, ↓purePost, combine, idsA, cellsA, numsOf, srcA, calleeA, refsA, isScalar, scalarD, scalar0, AV.one, putL, unfA, implies_true, IntKind.signed, Nat.reduceAdd, Nat.reduceSub, Nat.reduceMul, Nat.reducePow, Nat.reduceDiv, Nat.reduceMod, Int.reduceAdd, Int.reduceSub, Int.reduceMul, Int.reducePow, Int.reduceNeg, Int.reduceToNat, Int.reduceLT, Int.reduceLE, Nat.reduceEqDiff, sidsB, Nat.reduceBEq, keyKD, isIntK]
            refine ⟨(-1, u, m2), ⟨hm2, hu, by simp, by simp, ?_⟩, ⟨[some 0, some 1, some 2, some 3], rfl, by simp, by simp [setsA, keepA, SWeak, AWeak], by simp [HWeak, BWeak, SWeak, AWeak]⟩⟩
            simp only
            rw [hbl, hfk, show (w.getD i []).length - k = 0 by omega]; rfl
        · rintro ⟨tk, u', m'⟩ ⟨hm', hu', t1, t2, hb'⟩
          simp only at hm' hu' t1 t2 hb'
          simp only [keepA_z8, keepA_z, keepA_cons, keepA_nil, setsA_nil, setsA_cons, List.set_cons_zero, List.set_cons_succ, set_8, Nat.reduceMod, Nat.reduceDiv, Nat.zero_mod, Nat.zero_ne_one, if_true, if_false, reduceIte]
          replace hb' := Hid.mk hb'
          simp (config := { maxSteps := 1000000 }) (disch := ((try simp only [awL]); omega)) only [ints_length, ↓awU, awV, awF, ofVal, ofVal0, isShift, aggK, forall_const, ↓reduceIte, ↓reduceDIte, ↓purePost, combine, idsA, cellsA, numsOf, srcA, calleeA, refsA, isScalar, scalarD, scalar0, AV.one, putL, unfA, implies_true, IntKind.signed, Nat.reduceAdd, Nat.reduceSub, Nat.reduceMul, Nat.reducePow, Nat.reduceDiv, Nat.reduceMod, Int.reduceAdd, Int.reduceSub, Int.reduceMul, Int.reducePow, Int.reduceNeg, Int.reduceToNat, Int.reduceLT, Int.reduceLE, Nat.reduceEqDiff, sidsB, Nat.reduceBEq, keyKD, isIntK]
          rw [ints_one, ints_append]
          refine ⟨(i + 1, u', out ++ [tk], m'), ⟨h1, hu', by simp [hol], ?_, hm'⟩, by simp only; omega, [some 0, some 1, some 2, some 5], rfl, by simp, by simp [setsA, keepA, SWeak, AWeak], by simp [HWeak, BWeak, SWeak, AWeak]⟩
          simp only
          rw [List.append_assoc, ← hob.out, hb'.out]; rfl
      · have ei : i = w.length := by omega
        subst ei
        simp (config := { maxSteps := 1000000 }) (disch := ((try simp only [awL]); omega)) only [ints_length, ↓awU, awV, awF, ofVal, ofVal0, isShift, aggK, forall_const, ↓reduceIte, ↓reduceDIte, ↓purePost, combine, idsA, cellsA, numsOf, srcA, calleeA, refsA, isScalar, scalarD, scalar0, AV.one, putL, unfA, implies_true, IntKind.signed, Nat.reduceAdd, Nat.reduceSub, Nat.reduceMul, Nat.reducePow, Nat.reduceDiv, Nat.reduceMod, Int.reduceAdd, Int.reduceSub, Int.reduceMul, Int.reducePow, Int.reduceNeg, Int.reduceToNat, Int.reduceLT, Int.reduceLE, Nat.reduceEqDiff, sidsB, Nat.reduceBEq, keyKD, isIntK]
        have ff := frF_ok w.length 0 0 m (by omega) hm
        refine CallC.by (from_spec hG w hw h8 hr8 w.length 0 0 m (by omega) (by decide) hm) rfl rfl (Nat.le_refl _) ?_
        rw [ff.1, List.drop_zero]
        have bsm := (bst_Sm w (fun r hr => hw.sm r hr) 0).mono (show _ ≤ 8000 by omega)
        have hob' := hob.out
        rw [List.drop_of_length_le (Nat.le_refl _), show bestL [] u = [] from rfl, List.append_nil] at hob'
        subst hob'
        simp (config := { maxSteps := 1000000 }) (disch := ((try simp only [awL]); omega)) only [↓awU, awV, awF, ofVal, ofVal0, isShift, aggK, forall_const, ↓reduceIte, ↓reduceDIte, ↓purePost, combine, idsA, cellsA, numsOf, srcA, calleeA, refsA, isScalar, scalarD, scalar0, AV.one, putL, unfA, implies_true, IntKind.signed, Nat.reduceAdd, Nat.reduceSub, Nat.reduceMul, Nat.reducePow, Nat.reduceDiv, Nat.reduceMod, Int.reduceAdd, Int.reduceSub, Int.reduceMul, Int.reducePow, Int.reduceNeg, Int.reduceToNat, Int.reduceLT, Int.reduceLE, Nat.reduceEqDiff, sidsB, Nat.reduceBEq, keyKD, isIntK]
        refine CallC.pure (own_spec _ (bsm.FV (by decide))) ?_
        simp (config := { maxSteps := 1000000 }) (disch := ((try simp only [awL]); omega)) only [ints_length, ↓awU, awV, awF, ofVal, ofVal0, isShift, aggK, forall_const, ↓reduceIte, ↓reduceDIte, ↓purePost, combine, idsA, cellsA, numsOf, srcA, calleeA, refsA, isScalar, scalarD, scalar0, AV.one, putL, unfA, implies_true, IntKind.signed, Nat.reduceAdd, Nat.reduceSub, Nat.reduceMul, Nat.reducePow, Nat.reduceDiv, Nat.reduceMod, Int.reduceAdd, Int.reduceSub, Int.reduceMul, Int.reducePow, Int.reduceNeg, Int.reduceToNat, Int.reduceLT, Int.reduceLE, Nat.reduceEqDiff, sidsB, Nat.reduceBEq, keyKD, isIntK]
        rw [hol]
  · have e0 : bestR w = .tup [.sl 0 false [], Zf, .int .i64 (validE w)] := by rw [bestR, if_pos hv]
    rw [e0]
    simp (config := { maxSteps := 1000000 }) (disch := ((try simp only [awL]); omega)) only [↓awU, awV, awF, ofVal, ofVal0, isShift, aggK, forall_const, ↓reduceIte, ↓reduceDIte, ↓purePost, combine, idsA, cellsA, numsOf, srcA, calleeA, refsA, isScalar, scalarD, scalar0, AV.one, putL, unfA, implies_true, IntKind.signed, Nat.reduceAdd, Nat.reduceSub, Nat.reduceMul, Nat.reducePow, Nat.reduceDiv, Nat.reduceMod, Int.reduceAdd, Int.reduceSub, Int.reduceMul, Int.reducePow, Int.reduceNeg, Int.reduceToNat, Int.reduceLT, Int.reduceLE, Nat.reduceEqDiff, sidsB, Nat.reduceBEq, keyKD, isIntK]
end Go.Proofs.YtkppgdialedoeaaDoor

namespace Go.Proofs.YtkppgdialedoeaaDoor
open Go Go.Proofs Go.Abs
variable {G : Globals}
set_option maxHeartbeats 4000000 in
set_option maxRecDepth 100000 in
theorem sameInts_spec (a b : List Int) (ha : a.length < 2 ^ 40) (hb : b.length < 2 ^ 40) : Ctr Tryd.prog G 20 [.d (.sl a.length false (ints .i64 a)), .d (.sl b.length false (ints .i64 b))] [] (.d (.bool (decide (a = b)))) [] := by
  refine Ctr.pure (M := M0) hmix Tryd.func20 rfl go20 ?_
  by_cases hl : a.length = b.length
  · simp (config := { maxSteps := 1000000 }) (disch := ((try simp only [awL]); omega)) only [Tryd.f20, ↓awU, awV, awF, ofVal, ofVal0, isShift, aggK, forall_const, ↓reduceIte, ↓reduceDIte, ↓purePost, combine, idsA, cellsA, numsOf, srcA, calleeA, refsA, isScalar, scalarD, scalar0, AV.one, putL, unfA, implies_true, IntKind.signed, Nat.reduceAdd, Nat.reduceSub, Nat.reduceMul, Nat.reducePow, Nat.reduceDiv, Nat.reduceMod, Int.reduceAdd, Int.reduceSub, Int.reduceMul, Int.reducePow, Int.reduceNeg, Int.reduceToNat, Int.reduceLT, Int.reduceLE, Nat.reduceEqDiff, sidsB, Nat.reduceBEq, keyKD, isIntK]
    refine LoopC.fr 12290 (α := Nat) (fun k => a.length - k) (fun k => [(14, .d (.int .i64 k))]) (fun _ => []) (fun k => k ≤ a.length ∧ a.take k = b.take k) 0 ⟨Nat.zero_le _, rfl⟩ ?_ ?_
    · exact ⟨[], rfl, by simp, by simp [setsA, keepA, SWeak, AWeak], by simp [HWeak, BWeak, SWeak, AWeak]⟩
    · rintro k ⟨hk, hv⟩
      simp only [keepA_z8, keepA_z, keepA_cons, keepA_nil, setsA_nil, setsA_cons, List.set_cons_zero, List.set_cons_succ, set_8, Nat.reduceMod, Nat.reduceDiv, Nat.zero_mod, Nat.zero_ne_one, if_true, if_false, reduceIte]
      rcases Nat.lt_or_ge k a.length with h1 | h1
      · by_cases he : b.getD k 0 = a.getD k 0
        · simp (config := { maxSteps := 1000000 }) (disch := ((try simp only [awL]); omega)) only [he, ↓awU, awV, awF, ofVal, ofVal0, isShift, aggK, forall_const, ↓reduceIte, ↓reduceDIte, ↓purePost, combine, idsA, cellsA, numsOf, srcA, calleeA, refsA, isScalar, scalarD, scalar0, AV.one, putL, unfA, implies_true, IntKind.signed, Nat.reduceAdd, Nat.reduceSub, Nat.reduceMul, Nat.reducePow, Nat.reduceDiv, Nat.reduceMod, Int.reduceAdd, Int.reduceSub, Int.reduceMul, Int.reducePow, Int.reduceNeg, Int.reduceToNat, Int.reduceLT, Int.reduceLE, Nat.reduceEqDiff, sidsB, Nat.reduceBEq, keyKD, isIntK]
          refine ⟨k + 1, ⟨h1, ?_⟩, by simp only; omega, ⟨[], rfl, by simp, by simp [setsA, keepA, SWeak, AWeak], by simp [HWeak, BWeak, SWeak, AWeak]⟩⟩
          have h2 : k < b.length := by omega
          rw [List.take_add_one, List.take_add_one, hv, List.getElem?_eq_getElem h1, List.getElem?_eq_getElem h2]
          simp [List.getD_eq_getElem?_getD, List.getElem?_eq_getElem h1, List.getElem?_eq_getElem h2] at he
          rw [he]
        · have : ¬ a = b := fun h => he (by rw [h])
          rw [decide_eq_false this]
          simp (config := { maxSteps := 1000000 }) (disch := ((try simp only [awL]); omega)) only [he, ↓awU, awV, awF, ofVal, ofVal0, isShift, aggK, forall_const, ↓reduceIte, ↓reduceDIte, ↓purePost, combine, idsA, cellsA, numsOf, srcA, calleeA, refsA, isScalar, scalarD, scalar0, AV.one, putL, unfA, implies_true, IntKind.signed, Nat.reduceAdd, Nat.reduceSub, Nat.reduceMul, Nat.reducePow, Nat.reduceDiv, Nat.reduceMod, Int.reduceAdd, Int.reduceSub, Int.reduceMul, Int.reducePow, Int.reduceNeg, Int.reduceToNat, Int.reduceLT, Int.reduceLE, Nat.reduceEqDiff, sidsB, Nat.reduceBEq, keyKD, isIntK]
      · rw [List.take_of_length_le h1, List.take_of_length_le (by omega)] at hv
        rw [decide_eq_true hv]
        simp (config := { maxSteps := 1000000 }) (disch := ((try simp only [awL]); omega)) only [↓awU, awV, awF, ofVal, ofVal0, isShift, aggK, forall_const, ↓reduceIte, ↓reduceDIte, ↓purePost, combine, idsA, cellsA, numsOf, srcA, calleeA, refsA, isScalar, scalarD, scalar0, AV.one, putL, unfA, implies_true, IntKind.signed, Nat.reduceAdd, Nat.reduceSub, Nat.reduceMul, Nat.reducePow, Nat.reduceDiv, Nat.reduceMod, Int.reduceAdd, Int.reduceSub, Int.reduceMul, Int.reducePow, Int.reduceNeg, Int.reduceToNat, Int.reduceLT, Int.reduceLE, Nat.reduceEqDiff, sidsB, Nat.reduceBEq, keyKD, isIntK]
  · have : ¬ a = b := fun h => hl (by rw [h])
    rw [decide_eq_false this]
    simp (config := { maxSteps := 1000000 }) (disch := ((try simp only [awL]); omega)) only [Tryd.f20, ↓awU, awV, awF, ofVal, ofVal0, isShift, aggK, forall_const, ↓reduceIte, ↓reduceDIte, ↓purePost, combine, idsA, cellsA, numsOf, srcA, calleeA, refsA, isScalar, scalarD, scalar0, AV.one, putL, unfA, implies_true, IntKind.signed, Nat.reduceAdd, Nat.reduceSub, Nat.reduceMul, Nat.reducePow, Nat.reduceDiv, Nat.reduceMod, Int.reduceAdd, Int.reduceSub, Int.reduceMul, Int.reducePow, Int.reduceNeg, Int.reduceToNat, Int.reduceLT, Int.reduceLE, Nat.reduceEqDiff, sidsB, Nat.reduceBEq, keyKD, isIntK]
def w0 : List (List Rat) := [[((3 : Int) : Rat), ((2 : Int) : Rat)], [((2 : Int) : Rat), ((0 : Int) : Rat)]]
theorem w0_valid : validE w0 = 0 := by decide +kernel
theorem w0_best : bestL w0 0 = [1, 0] ∧ bst w0 0 = ((4 : Int) : Rat) := by decide +kernel
theorem w0_ok : Wok w0 := by
  refine ⟨by decide, fun i => ?_, ?_⟩
  · rcases i with _ | _ | i <;> simp [w0]
  · intro r hr x hx
    have e : ∀ a : Int, a.natAbs ≤ 5 → Sm 1000 (a : Rat) := fun a ha => by
      have := (Sm.of (a := a) (b := 1) (by decide) (by decide)).mono (show _ ≤ 1000 by omega)
      rwa [show Rat.divInt a ((1 : Nat) : Int) = (a : Rat) from divInt_1] at this
    simp only [w0, List.mem_cons, List.not_mem_nil, or_false] at hr
    rcases hr with rfl | rfl <;> simp only [List.mem_cons, List.not_mem_nil, or_false] at hx <;> rcases hx with rfl | rfl <;> exact e _ (by decide)
theorem FV_int {a : Int} (h : a.natAbs ≤ 1000) : FV (a : Rat) := by
  have := (Sm.of (a := a) (b := 1) (by decide) (by decide)).FV (by omega)
  rwa [show Rat.divInt a ((1 : Nat) : Int) = (a : Rat) from divInt_1] at this
set_option maxHeartbeats 4000000 in
set_option maxRecDepth 100000 in
theorem awake_spec (hG : HG G) : Ctr Tryd.prog G 12 [] [] (.d (.bool true)) [] := by
  have eb : bestR w0 = .tup [.sl 2 false (ints .i64 [1, 0]), Frac ((4 : Int) : Rat), .int .i64 0] := by
    rw [bestR, if_neg (by rw [w0_valid]; decide), w0_best.1, w0_best.2]; rfl
  refine Ctr.pure (M := M0) hmix Tryd.func12 rfl go12 ?_
  simp (config := { maxSteps := 1000000 }) (disch := ((try simp only [awL]); omega)) only [Tryd.f12, ↓awU, awV, awF, ofVal, ofVal0, isShift, aggK, forall_const, ↓reduceIte, ↓reduceDIte, ↓purePost, combine, idsA, cellsA, numsOf, srcA, calleeA, refsA, isScalar, scalarD, scalar0, AV.one, putL, unfA, implies_true, IntKind.signed, Nat.reduceAdd, Nat.reduceSub, Nat.reduceMul, Nat.reducePow, Nat.reduceDiv, Nat.reduceMod, Int.reduceAdd, Int.reduceSub, Int.reduceMul, Int.reducePow, Int.reduceNeg, Int.reduceToNat, Int.reduceLT, Int.reduceLE, Nat.reduceEqDiff, sidsB, Nat.reduceBEq, keyKD, isIntK]
  refine CallC.pure (rint_spec 3 (by decide) (by decide)) ?_
  simp (config := { maxSteps := 1000000 }) (disch := ((try simp only [awL]); omega)) only [↓awU, awV, awF, ofVal, ofVal0, isShift, aggK, forall_const, ↓reduceIte, ↓reduceDIte, ↓purePost, combine, idsA, cellsA, numsOf, srcA, calleeA, refsA, isScalar, scalarD, scalar0, AV.one, putL, unfA, implies_true, IntKind.signed, Nat.reduceAdd, Nat.reduceSub, Nat.reduceMul, Nat.reducePow, Nat.reduceDiv, Nat.reduceMod, Int.reduceAdd, Int.reduceSub, Int.reduceMul, Int.reducePow, Int.reduceNeg, Int.reduceToNat, Int.reduceLT, Int.reduceLE, Nat.reduceEqDiff, sidsB, Nat.reduceBEq, keyKD, isIntK]
  refine CallC.pure (rint_spec 2 (by decide) (by decide)) ?_
  simp (config := { maxSteps := 1000000 }) (disch := ((try simp only [awL]); omega)) only [↓awU, awV, awF, ofVal, ofVal0, isShift, aggK, forall_const, ↓reduceIte, ↓reduceDIte, ↓purePost, combine, idsA, cellsA, numsOf, srcA, calleeA, refsA, isScalar, scalarD, scalar0, AV.one, putL, unfA, implies_true, IntKind.signed, Nat.reduceAdd, Nat.reduceSub, Nat.reduceMul, Nat.reducePow, Nat.reduceDiv, Nat.reduceMod, Int.reduceAdd, Int.reduceSub, Int.reduceMul, Int.reducePow, Int.reduceNeg, Int.reduceToNat, Int.reduceLT, Int.reduceLE, Nat.reduceEqDiff, sidsB, Nat.reduceBEq, keyKD, isIntK]
  refine CallC.pure (rint_spec 2 (by decide) (by decide)) ?_
  simp (config := { maxSteps := 1000000 }) (disch := ((try simp only [awL]); omega)) only [↓awU, awV, awF, ofVal, ofVal0, isShift, aggK, forall_const, ↓reduceIte, ↓reduceDIte, ↓purePost, combine, idsA, cellsA, numsOf, srcA, calleeA, refsA, isScalar, scalarD, scalar0, AV.one, putL, unfA, implies_true, IntKind.signed, Nat.reduceAdd, Nat.reduceSub, Nat.reduceMul, Nat.reducePow, Nat.reduceDiv, Nat.reduceMod, Int.reduceAdd, Int.reduceSub, Int.reduceMul, Int.reducePow, Int.reduceNeg, Int.reduceToNat, Int.reduceLT, Int.reduceLE, Nat.reduceEqDiff, sidsB, Nat.reduceBEq, keyKD, isIntK]
  refine CallC.pure (rint_spec 0 (by decide) (by decide)) ?_
  simp (config := { maxSteps := 1000000 }) (disch := ((try simp only [awL]); omega)) only [↓awU, awV, awF, ofVal, ofVal0, isShift, aggK, forall_const, ↓reduceIte, ↓reduceDIte, ↓purePost, combine, idsA, cellsA, numsOf, srcA, calleeA, refsA, isScalar, scalarD, scalar0, AV.one, putL, unfA, implies_true, IntKind.signed, Nat.reduceAdd, Nat.reduceSub, Nat.reduceMul, Nat.reducePow, Nat.reduceDiv, Nat.reduceMod, Int.reduceAdd, Int.reduceSub, Int.reduceMul, Int.reducePow, Int.reduceNeg, Int.reduceToNat, Int.reduceLT, Int.reduceLE, Nat.reduceEqDiff, sidsB, Nat.reduceBEq, keyKD, isIntK]
  refine CallC.frozenE (best_spec hG w0 w0_ok) (by rfl) ?_
  rw [eb]
  simp (config := { maxSteps := 1000000 }) (disch := ((try simp only [awL]); omega)) only [↓awU, awV, awF, ofVal, ofVal0, isShift, aggK, forall_const, ↓reduceIte, ↓reduceDIte, ↓purePost, combine, idsA, cellsA, numsOf, srcA, calleeA, refsA, isScalar, scalarD, scalar0, AV.one, putL, unfA, implies_true, IntKind.signed, Nat.reduceAdd, Nat.reduceSub, Nat.reduceMul, Nat.reducePow, Nat.reduceDiv, Nat.reduceMod, Int.reduceAdd, Int.reduceSub, Int.reduceMul, Int.reducePow, Int.reduceNeg, Int.reduceToNat, Int.reduceLT, Int.reduceLE, Nat.reduceEqDiff, sidsB, Nat.reduceBEq, keyKD, isIntK]
  refine CallC.frozenE (sameInts_spec [1, 0] [1, 0] (by decide) (by decide)) (by rfl) ?_
  rw [decide_eq_true rfl]
  simp (config := { maxSteps := 1000000 }) (disch := ((try simp only [awL]); omega)) only [↓awU, awV, awF, ofVal, ofVal0, isShift, aggK, forall_const, ↓reduceIte, ↓reduceDIte, ↓purePost, combine, idsA, cellsA, numsOf, srcA, calleeA, refsA, isScalar, scalarD, scalar0, AV.one, putL, unfA, implies_true, IntKind.signed, Nat.reduceAdd, Nat.reduceSub, Nat.reduceMul, Nat.reducePow, Nat.reduceDiv, Nat.reduceMod, Int.reduceAdd, Int.reduceSub, Int.reduceMul, Int.reducePow, Int.reduceNeg, Int.reduceToNat, Int.reduceLT, Int.reduceLE, Nat.reduceEqDiff, sidsB, Nat.reduceBEq, keyKD, isIntK]
  refine CallC.pure (rint_spec 4 (by decide) (by decide)) ?_
  simp (config := { maxSteps := 1000000 }) (disch := ((try simp only [awL]); omega)) only [↓awU, awV, awF, ofVal, ofVal0, isShift, aggK, forall_const, ↓reduceIte, ↓reduceDIte, ↓purePost, combine, idsA, cellsA, numsOf, srcA, calleeA, refsA, isScalar, scalarD, scalar0, AV.one, putL, unfA, implies_true, IntKind.signed, Nat.reduceAdd, Nat.reduceSub, Nat.reduceMul, Nat.reducePow, Nat.reduceDiv, Nat.reduceMod, Int.reduceAdd, Int.reduceSub, Int.reduceMul, Int.reducePow, Int.reduceNeg, Int.reduceToNat, Int.reduceLT, Int.reduceLE, Nat.reduceEqDiff, sidsB, Nat.reduceBEq, keyKD, isIntK]
  refine CallC.pure (sameF_spec _ _ (FV_int (by decide)) (FV_int (by decide))) ?_
  rw [decide_eq_true rfl]
  simp (config := { maxSteps := 1000000 }) (disch := ((try simp only [awL]); omega)) only [↓awU, awV, awF, ofVal, ofVal0, isShift, aggK, forall_const, ↓reduceIte, ↓reduceDIte, ↓purePost, combine, idsA, cellsA, numsOf, srcA, calleeA, refsA, isScalar, scalarD, scalar0, AV.one, putL, unfA, implies_true, IntKind.signed, Nat.reduceAdd, Nat.reduceSub, Nat.reduceMul, Nat.reducePow, Nat.reduceDiv, Nat.reduceMod, Int.reduceAdd, Int.reduceSub, Int.reduceMul, Int.reducePow, Int.reduceNeg, Int.reduceToNat, Int.reduceLT, Int.reduceLE, Nat.reduceEqDiff, sidsB, Nat.reduceBEq, keyKD, isIntK]
  try rfl
end Go.Proofs.YtkppgdialedoeaaDoor

namespace Go.Proofs.YtkppgdialedoeaaDoor
open Go Go.Proofs Go.Abs
variable {G : Globals}
/-- A list of ints. -/
def OkI (t : List Int) : Prop := ∀ i, -9223372036854775808 ≤ t.getD i 0 ∧ t.getD i 0 ≤ 9223372036854775807
theorem matW_ok {t : List Int} {k r c : Nat} (hr : r ≤ 500) (hc : c ≤ 500) : Wok (matW t k r c) := by
  refine ⟨by rw [matW_length]; omega, fun i => ?_, fun row hrow x hx => ?_⟩
  · rcases Nat.lt_or_ge i (matW t k r c).length with h | h
    · have := mem_getD (d := []) h
      simp only [matW, List.mem_map] at this
      obtain ⟨j, _, e⟩ := this
      simp only [matW]
      rw [← e, rowW_length]; omega
    · rw [List.getD_eq_getElem?_getD, List.getElem?_eq_none h]; simp
  · simp only [matW, List.mem_map] at hrow
    obtain ⟨j, _, rfl⟩ := hrow
    simp only [rowW, List.mem_map] at hx
    obtain ⟨i, _, rfl⟩ := hx
    exact ent_Sm.1.mono (by decide)
theorem bigz : sz 0 ≤ 256 := by simp [sz, toW_zero]
theorem weightR_shape {w : List (List Rat)} {l : List Int} (hw : Wok w) (hl : l.length < 2 ^ 40) : ∃ n d e, weightR w l = .tup [FracI n d, .int .i64 e] ∧ sz n < 2 ^ 40 ∧ sz d < 2 ^ 40 := by
  have z : sz 0 < 2 ^ 40 := by have := bigz; omega
  unfold weightR
  split
  · exact ⟨0, 0, _, by rw [Zf_I], z, z⟩
  · split
    · exact ⟨0, 0, _, by rw [Zf_I], z, z⟩
    · split
      · exact ⟨0, 0, _, by rw [Zf_I], z, z⟩
      · split
        · exact ⟨0, 0, _, by rw [Zf_I], z, z⟩
        · have fv := (hw.sum l l.length).FV (by omega)
          refine ⟨(sumW w l l.length).num, (sumW w l l.length).den, 0, by rw [Frac_I], by have := fv.1; omega, ?_⟩
          have := fv.2
          simp only [sz, Int.natAbs_natCast]; omega
def lL (t : List Int) (K j : Nat) : List Int := (List.range j).map fun i => nx t (K + i) 6 - 1
theorem lL_length {t : List Int} {K j : Nat} : (lL t K j).length = j := by simp [lL]
theorem lL_push {t : List Int} {K j : Nat} : ints .i64 (lL t K j) ++ [.int .i64 (nx t (K + j) 6 - 1)] = ints .i64 (lL t K (j + 1)) := by
  rw [ints_one, ints_append]; simp [lL, List.range_succ]
theorem lL_ok {t : List Int} {K j : Nat} : OkI (lL t K j) := by
  intro i
  rcases Nat.lt_or_ge i (lL t K j).length with h | h
  · have := mem_getD (d := 0) h
    simp only [lL, List.mem_map] at this
    obtain ⟨q, _, e⟩ := this
    have := @nx_range t (K + q) 6 (by decide)
    simp only [lL]
    rw [← e]; omega
  · rw [List.getD_eq_getElem?_getD, List.getElem?_eq_none h]; simp
theorem take_ok {l : List Int} {n : Nat} (h : OkI l) : OkI (l.take n) := by
  intro i
  have hi := h i
  simp only [List.getD_eq_getElem?_getD, List.getElem?_take] at hi ⊢
  split
  · exact hi
  · simp
set_option maxHeartbeats 4000000 in
set_option maxRecDepth 100000 in
theorem weights_law (hG : HG G) (t raw : List Int) (ht : OkI t) (hr : OkI raw) : Ctr Tryd.prog G 7 [.d (.sl t.length false (ints .i64 t)), .d (.sl raw.length false (ints .i64 raw))] [] (.d (.bool true)) [] := by
  refine Ctr.pure (M := M0) hmix Tryd.func7 rfl go7 ?_
  simp (config := { maxSteps := 1000000 }) (disch := ((try simp only [awL]); omega)) only [Tryd.f7, ↓awU, awV, awF, ofVal, ofVal0, isShift, aggK, forall_const, ↓reduceIte, ↓reduceDIte, ↓purePost, combine, idsA, cellsA, numsOf, srcA, calleeA, refsA, isScalar, scalarD, scalar0, AV.one, putL, unfA, implies_true, IntKind.signed, Nat.reduceAdd, Nat.reduceSub, Nat.reduceMul, Nat.reducePow, Nat.reduceDiv, Nat.reduceMod, Int.reduceAdd, Int.reduceSub, Int.reduceMul, Int.reducePow, Int.reduceNeg, Int.reduceToNat, Int.reduceLT, Int.reduceLE, Nat.reduceEqDiff, sidsB, Nat.reduceBEq, keyKD, isIntK]
  refine CallC.pure (light_spec t) ?_
  by_cases hl : t.length ≤ 500
  · rw [decide_eq_true hl]
    by_cases hrl : raw.length ≤ 20
    · have hT : OkT t := ⟨hl, ht⟩
      simp (config := { maxSteps := 1000000 }) (disch := ((try simp only [awL]); omega)) only [↓awU, awV, awF, ofVal, ofVal0, isShift, aggK, forall_const, ↓reduceIte, ↓reduceDIte, ↓purePost, combine, idsA, cellsA, numsOf, srcA, calleeA, refsA, isScalar, scalarD, scalar0, AV.one, putL, unfA, implies_true, IntKind.signed, Nat.reduceAdd, Nat.reduceSub, Nat.reduceMul, Nat.reducePow, Nat.reduceDiv, Nat.reduceMod, Int.reduceAdd, Int.reduceSub, Int.reduceMul, Int.reducePow, Int.reduceNeg, Int.reduceToNat, Int.reduceLT, Int.reduceLE, Nat.reduceEqDiff, sidsB, Nat.reduceBEq, keyKD, isIntK]
      refine CallC.by (roll_spec t hl) rfl rfl (Nat.zero_le _) ?_
      simp (config := { maxSteps := 1000000 }) (disch := ((try simp only [awL]); omega)) only [↓awU, awV, awF, ofVal, ofVal0, isShift, aggK, forall_const, ↓reduceIte, ↓reduceDIte, ↓purePost, combine, idsA, cellsA, numsOf, srcA, calleeA, refsA, isScalar, scalarD, scalar0, AV.one, putL, unfA, implies_true, IntKind.signed, Nat.reduceAdd, Nat.reduceSub, Nat.reduceMul, Nat.reducePow, Nat.reduceDiv, Nat.reduceMod, Int.reduceAdd, Int.reduceSub, Int.reduceMul, Int.reducePow, Int.reduceNeg, Int.reduceToNat, Int.reduceLT, Int.reduceLE, Nat.reduceEqDiff, sidsB, Nat.reduceBEq, keyKD, isIntK]
      refine CallC.by (next_spec t 0 5 hT (by decide) (by decide)) (by rfl) (by rfl) (Nat.le_refl _) ?_
      simp (config := { maxSteps := 1000000 }) (disch := ((try simp only [awL]); omega)) only [↓awU, awV, awF, ofVal, ofVal0, isShift, aggK, forall_const, ↓reduceIte, ↓reduceDIte, ↓purePost, combine, idsA, cellsA, numsOf, srcA, calleeA, refsA, isScalar, scalarD, scalar0, AV.one, putL, unfA, implies_true, IntKind.signed, Nat.reduceAdd, Nat.reduceSub, Nat.reduceMul, Nat.reducePow, Nat.reduceDiv, Nat.reduceMod, Int.reduceAdd, Int.reduceSub, Int.reduceMul, Int.reducePow, Int.reduceNeg, Int.reduceToNat, Int.reduceLT, Int.reduceLE, Nat.reduceEqDiff, sidsB, Nat.reduceBEq, keyKD, isIntK]
      refine CallC.by (next_spec t 1 5 hT (by decide) (by decide)) (by rfl) (by rfl) (Nat.le_refl _) ?_
      simp (config := { maxSteps := 1000000 }) (disch := ((try simp only [awL]); omega)) only [↓awU, awV, awF, ofVal, ofVal0, isShift, aggK, forall_const, ↓reduceIte, ↓reduceDIte, ↓purePost, combine, idsA, cellsA, numsOf, srcA, calleeA, refsA, isScalar, scalarD, scalar0, AV.one, putL, unfA, implies_true, IntKind.signed, Nat.reduceAdd, Nat.reduceSub, Nat.reduceMul, Nat.reducePow, Nat.reduceDiv, Nat.reduceMod, Int.reduceAdd, Int.reduceSub, Int.reduceMul, Int.reducePow, Int.reduceNeg, Int.reduceToNat, Int.reduceLT, Int.reduceLE, Nat.reduceEqDiff, sidsB, Nat.reduceBEq, keyKD, isIntK]
      have n1 := @nx_range t 0 5 (by decide)
      have n2 := @nx_range t 1 5 (by decide)
      obtain ⟨r, hr'⟩ : ∃ r : Nat, nx t 0 5 = r := ⟨(nx t 0 5).toNat, by omega⟩
      obtain ⟨c, hc'⟩ : ∃ c : Nat, nx t 1 5 = c := ⟨(nx t 1 5).toNat, by omega⟩
      rw [hr', hc']
      refine CallC.by (weights_spec t 2 r c hT (by omega) (by omega)) (by rfl) (by rfl) (Nat.le_refl _) ?_
      have hw := @matW_ok t 2 r c (by omega) (by omega)
      have hwl := @matW_length t 2 r c
      generalize matW t 2 r c = w at *
      generalize 2 + 2 * c * r = K at *
      simp (config := { maxSteps := 1000000 }) (disch := ((try simp only [awL]); omega)) only [↓awU, awV, awF, ofVal, ofVal0, isShift, aggK, forall_const, ↓reduceIte, ↓reduceDIte, ↓purePost, combine, idsA, cellsA, numsOf, srcA, calleeA, refsA, isScalar, scalarD, scalar0, AV.one, putL, unfA, implies_true, IntKind.signed, Nat.reduceAdd, Nat.reduceSub, Nat.reduceMul, Nat.reducePow, Nat.reduceDiv, Nat.reduceMod, Int.reduceAdd, Int.reduceSub, Int.reduceMul, Int.reducePow, Int.reduceNeg, Int.reduceToNat, Int.reduceLT, Int.reduceLE, Nat.reduceEqDiff, sidsB, Nat.reduceBEq, keyKD, isIntK]
      refine LoopC.fr 132226261520354360950882 (α := Nat) (fun j => w.length - j) (fun j => [(7, .lsl 1 1 0 j), (33, .d (.int .i64 j))]) (fun j => [DiceB t (K + j), .row false (ints .i64 (lL t K j))]) (fun j => j ≤ w.length) 0 (Nat.zero_le _) ?_ ?_
      · exact ⟨[some 0, none], rfl, by simp, by simp [setsA, keepA, SWeak, AWeak], by simp [HWeak, BWeak, SWeak, AWeak, lL, ints]⟩
      · intro j hj
        simp only [keepA_z8, keepA_z, keepA_cons, keepA_nil, setsA_nil, setsA_cons, List.set_cons_zero, List.set_cons_succ, set_8, Nat.reduceMod, Nat.reduceDiv, Nat.zero_mod, Nat.zero_ne_one, if_true, if_false, reduceIte]
        rcases Nat.lt_or_ge j w.length with h1 | h1
        · have n3 := @nx_range t (K + j) 6 (by decide)
          simp (config := { maxSteps := 1000000 }) (disch := ((try simp only [awL]); omega)) only [↓awU, awV, awF, ofVal, ofVal0, isShift, aggK, forall_const, ↓reduceIte, ↓reduceDIte, ↓purePost, combine, idsA, cellsA, numsOf, srcA, calleeA, refsA, isScalar, scalarD, scalar0, AV.one, putL, unfA, implies_true, IntKind.signed, Nat.reduceAdd, Nat.reduceSub, Nat.reduceMul, Nat.reducePow, Nat.reduceDiv, Nat.reduceMod, Int.reduceAdd, Int.reduceSub, Int.reduceMul, Int.reducePow, Int.reduceNeg, Int.reduceToNat, Int.reduceLT, Int.reduceLE, Nat.reduceEqDiff, sidsB, Nat.reduceBEq, keyKD, isIntK]
          refine CallC.by (next_spec t (K + j) 6 hT (by decide) (by decide)) (by rfl) (by rfl) (Nat.le_refl _) ?_
          have ll := @lL_length t K j
          simp (config := { maxSteps := 1000000 }) (disch := ((try simp only [awL]); omega)) only [ints_length, ll, lL_push, ↓awU, awV, awF, ofVal, ofVal0, isShift, aggK, forall_const, ↓reduceIte, ↓reduceDIte, ↓purePost, combine, idsA, cellsA, numsOf, srcA, calleeA, refsA, isScalar, scalarD, scalar0, AV.one, putL, unfA, implies_true, IntKind.signed, Nat.reduceAdd, Nat.reduceSub, Nat.reduceMul, Nat.reducePow, Nat.reduceDiv, Nat.reduceMod, Int.reduceAdd, Int.reduceSub, Int.reduceMul, Int.reducePow, Int.reduceNeg, Int.reduceToNat, Int.reduceLT, Int.reduceLE, Nat.reduceEqDiff, sidsB, Nat.reduceBEq, keyKD, isIntK]
          rw [show K + j + 1 = K + (j + 1) by omega]
          exact ⟨j + 1, h1, by simp only; omega, ⟨[some 0, some 3], rfl, by simp, by simp [setsA, keepA, SWeak, AWeak], by simp [HWeak, BWeak, SWeak, AWeak]⟩⟩
        · have ej : j = w.length := by omega
          subst ej
          simp (config := { maxSteps := 1000000 }) (disch := ((try simp only [awL]); omega)) only [↓awU, awV, awF, ofVal, ofVal0, isShift, aggK, forall_const, ↓reduceIte, ↓reduceDIte, ↓purePost, combine, idsA, cellsA, numsOf, srcA, calleeA, refsA, isScalar, scalarD, scalar0, AV.one, putL, unfA, implies_true, IntKind.signed, Nat.reduceAdd, Nat.reduceSub, Nat.reduceMul, Nat.reducePow, Nat.reduceDiv, Nat.reduceMod, Int.reduceAdd, Int.reduceSub, Int.reduceMul, Int.reducePow, Int.reduceNeg, Int.reduceToNat, Int.reduceLT, Int.reduceLE, Nat.reduceEqDiff, sidsB, Nat.reduceBEq, keyKD, isIntK]
          refine CallC.by (next_spec t (K + w.length) (w.length + 1) hT (by omega) (by omega)) (by rfl) (by rfl) (Nat.le_refl _) ?_
          have n3 := @nx_range t (K + w.length) (w.length + 1) (by omega)
          obtain ⟨n, hn⟩ : ∃ n : Nat, nx t (K + w.length) (w.length + 1) = n := ⟨(nx t (K + w.length) (w.length + 1)).toNat, by omega⟩
          have ll := @lL_length t K w.length
          have lok := @lL_ok t K w.length
          generalize lL t K w.length = l at *
          have lt : (l.take n).length = n := by rw [List.length_take]; omega
          have hnl : n ≤ w.length := by omega
          rw [hn]
          simp (config := { maxSteps := 1000000 }) (disch := ((try simp only [awL]); omega)) only [ints_length, ll, ↓awU, awV, awF, ofVal, ofVal0, isShift, aggK, forall_const, ↓reduceIte, ↓reduceDIte, ↓purePost, combine, idsA, cellsA, numsOf, srcA, calleeA, refsA, isScalar, scalarD, scalar0, AV.one, putL, unfA, implies_true, IntKind.signed, Nat.reduceAdd, Nat.reduceSub, Nat.reduceMul, Nat.reducePow, Nat.reduceDiv, Nat.reduceMod, Int.reduceAdd, Int.reduceSub, Int.reduceMul, Int.reducePow, Int.reduceNeg, Int.reduceToNat, Int.reduceLT, Int.reduceLE, Nat.reduceEqDiff, sidsB, Nat.reduceBEq, keyKD, isIntK]
          refine LoopC.fr 6755399441055808 (α := Nat) (fun j => 3 - j) (fun j => [(53, .d (.int .i64 j)), (74, .undef), (75, .undef), (76, .undef)]) (fun _ => [DiceB t (K + w.length + 1), .row true (ints .i64 l), .row false [.sl w.length false (ints .i64 l), .sl raw.length false (ints .i64 raw), .sl n false (ints .i64 (l.take n))]]) (fun j => j ≤ 3) 0 (Nat.zero_le _) ?_ ?_
          · exact ⟨[some 0, some 1, some 2], rfl, by simp, by simp [setsA, keepA, SWeak, AWeak], by simp [HWeak, BWeak, SWeak, AWeak]⟩
          · intro j hj
            simp only [keepA_z8, keepA_z, keepA_cons, keepA_nil, setsA_nil, setsA_cons, List.set_cons_zero, List.set_cons_succ, set_8, Nat.reduceMod, Nat.reduceDiv, Nat.zero_mod, Nat.zero_ne_one, if_true, if_false, reduceIte]
            rcases j with _ | _ | _ | _ | j
            · have hwl : w.length ≤ 500 := by omega
              simp (config := { maxSteps := 1000000 }) (disch := ((try simp only [awL]); omega)) only [List.getD_cons_zero, List.getD_cons_succ, ↓awU, awV, awF, ofVal, ofVal0, isShift, aggK, forall_const, ↓reduceIte, ↓reduceDIte, ↓purePost, combine, idsA, cellsA, numsOf, srcA, calleeA, refsA, isScalar, scalarD, scalar0, AV.one, putL, unfA, implies_true, IntKind.signed, Nat.reduceAdd, Nat.reduceSub, Nat.reduceMul, Nat.reducePow, Nat.reduceDiv, Nat.reduceMod, Int.reduceAdd, Int.reduceSub, Int.reduceMul, Int.reducePow, Int.reduceNeg, Int.reduceToNat, Int.reduceLT, Int.reduceLE, Nat.reduceEqDiff, sidsB, Nat.reduceBEq, keyKD, isIntK]
              refine CallC.of (weight_spec hG w l hw (by omega) lok) (by rw [ll]) ?_
              obtain ⟨x, d, e, hR, z1, z2⟩ := weightR_shape (l := l) hw (by omega)
              rw [hR]
              simp (config := { maxSteps := 1000000 }) (disch := ((try simp only [awL]); omega)) only [↓awU, awV, awF, ofVal, ofVal0, isShift, aggK, forall_const, ↓reduceIte, ↓reduceDIte, ↓purePost, combine, idsA, cellsA, numsOf, srcA, calleeA, refsA, isScalar, scalarD, scalar0, AV.one, putL, unfA, implies_true, IntKind.signed, Nat.reduceAdd, Nat.reduceSub, Nat.reduceMul, Nat.reducePow, Nat.reduceDiv, Nat.reduceMod, Int.reduceAdd, Int.reduceSub, Int.reduceMul, Int.reducePow, Int.reduceNeg, Int.reduceToNat, Int.reduceLT, Int.reduceLE, Nat.reduceEqDiff, sidsB, Nat.reduceBEq, keyKD, isIntK]
              refine CallC.of (rweight_spec w l hw (by omega) lok) (by rw [ll]) ?_
              rw [hR]
              simp (config := { maxSteps := 1000000 }) (disch := ((try simp only [awL]); omega)) only [↓awU, awV, awF, ofVal, ofVal0, isShift, aggK, forall_const, ↓reduceIte, ↓reduceDIte, ↓purePost, combine, idsA, cellsA, numsOf, srcA, calleeA, refsA, isScalar, scalarD, scalar0, AV.one, putL, unfA, implies_true, IntKind.signed, Nat.reduceAdd, Nat.reduceSub, Nat.reduceMul, Nat.reducePow, Nat.reduceDiv, Nat.reduceMod, Int.reduceAdd, Int.reduceSub, Int.reduceMul, Int.reducePow, Int.reduceNeg, Int.reduceToNat, Int.reduceLT, Int.reduceLE, Nat.reduceEqDiff, sidsB, Nat.reduceBEq, keyKD, isIntK]
              refine CallC.of (same_spec x d x d z1 z2 z1 z2) (by rfl) ?_
              have es : decide (x = x ∧ d = d) = true := decide_eq_true ⟨rfl, rfl⟩
              rw [es]
              simp (config := { maxSteps := 1000000 }) (disch := ((try simp only [awL]); omega)) only [↓awU, awV, awF, ofVal, ofVal0, isShift, aggK, forall_const, ↓reduceIte, ↓reduceDIte, ↓purePost, combine, idsA, cellsA, numsOf, srcA, calleeA, refsA, isScalar, scalarD, scalar0, AV.one, putL, unfA, implies_true, IntKind.signed, Nat.reduceAdd, Nat.reduceSub, Nat.reduceMul, Nat.reducePow, Nat.reduceDiv, Nat.reduceMod, Int.reduceAdd, Int.reduceSub, Int.reduceMul, Int.reducePow, Int.reduceNeg, Int.reduceToNat, Int.reduceLT, Int.reduceLE, Nat.reduceEqDiff, sidsB, Nat.reduceBEq, keyKD, isIntK]
              exact ⟨1, by decide, by decide, ⟨[some 0, some 1, some 2], rfl, by simp, by simp [setsA, keepA, SWeak, AWeak], by simp [HWeak, BWeak, SWeak, AWeak]⟩⟩
            · have hwl : w.length ≤ 500 := by omega
              simp (config := { maxSteps := 1000000 }) (disch := ((try simp only [awL]); omega)) only [List.getD_cons_zero, List.getD_cons_succ, ↓awU, awV, awF, ofVal, ofVal0, isShift, aggK, forall_const, ↓reduceIte, ↓reduceDIte, ↓purePost, combine, idsA, cellsA, numsOf, srcA, calleeA, refsA, isScalar, scalarD, scalar0, AV.one, putL, unfA, implies_true, IntKind.signed, Nat.reduceAdd, Nat.reduceSub, Nat.reduceMul, Nat.reducePow, Nat.reduceDiv, Nat.reduceMod, Int.reduceAdd, Int.reduceSub, Int.reduceMul, Int.reducePow, Int.reduceNeg, Int.reduceToNat, Int.reduceLT, Int.reduceLE, Nat.reduceEqDiff, sidsB, Nat.reduceBEq, keyKD, isIntK]
              refine CallC.of (weight_spec hG w raw hw (by omega) hr) (by rfl) ?_
              obtain ⟨x, d, e, hR, z1, z2⟩ := weightR_shape (l := raw) hw (by omega)
              rw [hR]
              simp (config := { maxSteps := 1000000 }) (disch := ((try simp only [awL]); omega)) only [↓awU, awV, awF, ofVal, ofVal0, isShift, aggK, forall_const, ↓reduceIte, ↓reduceDIte, ↓purePost, combine, idsA, cellsA, numsOf, srcA, calleeA, refsA, isScalar, scalarD, scalar0, AV.one, putL, unfA, implies_true, IntKind.signed, Nat.reduceAdd, Nat.reduceSub, Nat.reduceMul, Nat.reducePow, Nat.reduceDiv, Nat.reduceMod, Int.reduceAdd, Int.reduceSub, Int.reduceMul, Int.reducePow, Int.reduceNeg, Int.reduceToNat, Int.reduceLT, Int.reduceLE, Nat.reduceEqDiff, sidsB, Nat.reduceBEq, keyKD, isIntK]
              refine CallC.of (rweight_spec w raw hw (by omega) hr) (by rfl) ?_
              rw [hR]
              simp (config := { maxSteps := 1000000 }) (disch := ((try simp only [awL]); omega)) only [↓awU, awV, awF, ofVal, ofVal0, isShift, aggK, forall_const, ↓reduceIte, ↓reduceDIte, ↓purePost, combine, idsA, cellsA, numsOf, srcA, calleeA, refsA, isScalar, scalarD, scalar0, AV.one, putL, unfA, implies_true, IntKind.signed, Nat.reduceAdd, Nat.reduceSub, Nat.reduceMul, Nat.reducePow, Nat.reduceDiv, Nat.reduceMod, Int.reduceAdd, Int.reduceSub, Int.reduceMul, Int.reducePow, Int.reduceNeg, Int.reduceToNat, Int.reduceLT, Int.reduceLE, Nat.reduceEqDiff, sidsB, Nat.reduceBEq, keyKD, isIntK]
              refine CallC.of (same_spec x d x d z1 z2 z1 z2) (by rfl) ?_
              have es : decide (x = x ∧ d = d) = true := decide_eq_true ⟨rfl, rfl⟩
              rw [es]
              simp (config := { maxSteps := 1000000 }) (disch := ((try simp only [awL]); omega)) only [↓awU, awV, awF, ofVal, ofVal0, isShift, aggK, forall_const, ↓reduceIte, ↓reduceDIte, ↓purePost, combine, idsA, cellsA, numsOf, srcA, calleeA, refsA, isScalar, scalarD, scalar0, AV.one, putL, unfA, implies_true, IntKind.signed, Nat.reduceAdd, Nat.reduceSub, Nat.reduceMul, Nat.reducePow, Nat.reduceDiv, Nat.reduceMod, Int.reduceAdd, Int.reduceSub, Int.reduceMul, Int.reducePow, Int.reduceNeg, Int.reduceToNat, Int.reduceLT, Int.reduceLE, Nat.reduceEqDiff, sidsB, Nat.reduceBEq, keyKD, isIntK]
              exact ⟨2, by decide, by decide, ⟨[some 0, some 1, some 2], rfl, by simp, by simp [setsA, keepA, SWeak, AWeak], by simp [HWeak, BWeak, SWeak, AWeak]⟩⟩
            · have hwl : w.length ≤ 500 := by omega
              simp (config := { maxSteps := 1000000 }) (disch := ((try simp only [awL]); omega)) only [List.getD_cons_zero, List.getD_cons_succ, ↓awU, awV, awF, ofVal, ofVal0, isShift, aggK, forall_const, ↓reduceIte, ↓reduceDIte, ↓purePost, combine, idsA, cellsA, numsOf, srcA, calleeA, refsA, isScalar, scalarD, scalar0, AV.one, putL, unfA, implies_true, IntKind.signed, Nat.reduceAdd, Nat.reduceSub, Nat.reduceMul, Nat.reducePow, Nat.reduceDiv, Nat.reduceMod, Int.reduceAdd, Int.reduceSub, Int.reduceMul, Int.reducePow, Int.reduceNeg, Int.reduceToNat, Int.reduceLT, Int.reduceLE, Nat.reduceEqDiff, sidsB, Nat.reduceBEq, keyKD, isIntK]
              refine CallC.of (weight_spec hG w (l.take n) hw (by omega) (take_ok lok)) (by rw [lt]) ?_
              obtain ⟨x, d, e, hR, z1, z2⟩ := weightR_shape (l := (l.take n)) hw (by omega)
              rw [hR]
              simp (config := { maxSteps := 1000000 }) (disch := ((try simp only [awL]); omega)) only [↓awU, awV, awF, ofVal, ofVal0, isShift, aggK, forall_const, ↓reduceIte, ↓reduceDIte, ↓purePost, combine, idsA, cellsA, numsOf, srcA, calleeA, refsA, isScalar, scalarD, scalar0, AV.one, putL, unfA, implies_true, IntKind.signed, Nat.reduceAdd, Nat.reduceSub, Nat.reduceMul, Nat.reducePow, Nat.reduceDiv, Nat.reduceMod, Int.reduceAdd, Int.reduceSub, Int.reduceMul, Int.reducePow, Int.reduceNeg, Int.reduceToNat, Int.reduceLT, Int.reduceLE, Nat.reduceEqDiff, sidsB, Nat.reduceBEq, keyKD, isIntK]
              refine CallC.of (rweight_spec w (l.take n) hw (by omega) (take_ok lok)) (by rw [lt]) ?_
              rw [hR]
              simp (config := { maxSteps := 1000000 }) (disch := ((try simp only [awL]); omega)) only [↓awU, awV, awF, ofVal, ofVal0, isShift, aggK, forall_const, ↓reduceIte, ↓reduceDIte, ↓purePost, combine, idsA, cellsA, numsOf, srcA, calleeA, refsA, isScalar, scalarD, scalar0, AV.one, putL, unfA, implies_true, IntKind.signed, Nat.reduceAdd, Nat.reduceSub, Nat.reduceMul, Nat.reducePow, Nat.reduceDiv, Nat.reduceMod, Int.reduceAdd, Int.reduceSub, Int.reduceMul, Int.reducePow, Int.reduceNeg, Int.reduceToNat, Int.reduceLT, Int.reduceLE, Nat.reduceEqDiff, sidsB, Nat.reduceBEq, keyKD, isIntK]
              refine CallC.of (same_spec x d x d z1 z2 z1 z2) (by rfl) ?_
              have es : decide (x = x ∧ d = d) = true := decide_eq_true ⟨rfl, rfl⟩
              rw [es]
              simp (config := { maxSteps := 1000000 }) (disch := ((try simp only [awL]); omega)) only [↓awU, awV, awF, ofVal, ofVal0, isShift, aggK, forall_const, ↓reduceIte, ↓reduceDIte, ↓purePost, combine, idsA, cellsA, numsOf, srcA, calleeA, refsA, isScalar, scalarD, scalar0, AV.one, putL, unfA, implies_true, IntKind.signed, Nat.reduceAdd, Nat.reduceSub, Nat.reduceMul, Nat.reducePow, Nat.reduceDiv, Nat.reduceMod, Int.reduceAdd, Int.reduceSub, Int.reduceMul, Int.reducePow, Int.reduceNeg, Int.reduceToNat, Int.reduceLT, Int.reduceLE, Nat.reduceEqDiff, sidsB, Nat.reduceBEq, keyKD, isIntK]
              exact ⟨3, by decide, by decide, ⟨[some 0, some 1, some 2], rfl, by simp, by simp [setsA, keepA, SWeak, AWeak], by simp [HWeak, BWeak, SWeak, AWeak]⟩⟩
            · simp (config := { maxSteps := 1000000 }) (disch := ((try simp only [awL]); omega)) only [↓awU, awV, awF, ofVal, ofVal0, isShift, aggK, forall_const, ↓reduceIte, ↓reduceDIte, ↓purePost, combine, idsA, cellsA, numsOf, srcA, calleeA, refsA, isScalar, scalarD, scalar0, AV.one, putL, unfA, implies_true, IntKind.signed, Nat.reduceAdd, Nat.reduceSub, Nat.reduceMul, Nat.reducePow, Nat.reduceDiv, Nat.reduceMod, Int.reduceAdd, Int.reduceSub, Int.reduceMul, Int.reducePow, Int.reduceNeg, Int.reduceToNat, Int.reduceLT, Int.reduceLE, Nat.reduceEqDiff, sidsB, Nat.reduceBEq, keyKD, isIntK]
              refine CallC.pure (awake_spec hG) ?_
              simp (config := { maxSteps := 1000000 }) (disch := ((try simp only [awL]); omega)) only [↓awU, awV, awF, ofVal, ofVal0, isShift, aggK, forall_const, ↓reduceIte, ↓reduceDIte, ↓purePost, combine, idsA, cellsA, numsOf, srcA, calleeA, refsA, isScalar, scalarD, scalar0, AV.one, putL, unfA, implies_true, IntKind.signed, Nat.reduceAdd, Nat.reduceSub, Nat.reduceMul, Nat.reducePow, Nat.reduceDiv, Nat.reduceMod, Int.reduceAdd, Int.reduceSub, Int.reduceMul, Int.reducePow, Int.reduceNeg, Int.reduceToNat, Int.reduceLT, Int.reduceLE, Nat.reduceEqDiff, sidsB, Nat.reduceBEq, keyKD, isIntK]
            · exact absurd hj (by omega)
    · simp (config := { maxSteps := 1000000 }) (disch := ((try simp only [awL]); omega)) only [↓awU, awV, awF, ofVal, ofVal0, isShift, aggK, forall_const, ↓reduceIte, ↓reduceDIte, ↓purePost, combine, idsA, cellsA, numsOf, srcA, calleeA, refsA, isScalar, scalarD, scalar0, AV.one, putL, unfA, implies_true, IntKind.signed, Nat.reduceAdd, Nat.reduceSub, Nat.reduceMul, Nat.reducePow, Nat.reduceDiv, Nat.reduceMod, Int.reduceAdd, Int.reduceSub, Int.reduceMul, Int.reducePow, Int.reduceNeg, Int.reduceToNat, Int.reduceLT, Int.reduceLE, Nat.reduceEqDiff, sidsB, Nat.reduceBEq, keyKD, isIntK]
      refine CallC.pure (awake_spec hG) ?_
      simp (config := { maxSteps := 1000000 }) (disch := ((try simp only [awL]); omega)) only [↓awU, awV, awF, ofVal, ofVal0, isShift, aggK, forall_const, ↓reduceIte, ↓reduceDIte, ↓purePost, combine, idsA, cellsA, numsOf, srcA, calleeA, refsA, isScalar, scalarD, scalar0, AV.one, putL, unfA, implies_true, IntKind.signed, Nat.reduceAdd, Nat.reduceSub, Nat.reduceMul, Nat.reducePow, Nat.reduceDiv, Nat.reduceMod, Int.reduceAdd, Int.reduceSub, Int.reduceMul, Int.reducePow, Int.reduceNeg, Int.reduceToNat, Int.reduceLT, Int.reduceLE, Nat.reduceEqDiff, sidsB, Nat.reduceBEq, keyKD, isIntK]
  · rw [decide_eq_false hl]
    simp (config := { maxSteps := 1000000 }) (disch := ((try simp only [awL]); omega)) only [↓awU, awV, awF, ofVal, ofVal0, isShift, aggK, forall_const, ↓reduceIte, ↓reduceDIte, ↓purePost, combine, idsA, cellsA, numsOf, srcA, calleeA, refsA, isScalar, scalarD, scalar0, AV.one, putL, unfA, implies_true, IntKind.signed, Nat.reduceAdd, Nat.reduceSub, Nat.reduceMul, Nat.reducePow, Nat.reduceDiv, Nat.reduceMod, Int.reduceAdd, Int.reduceSub, Int.reduceMul, Int.reducePow, Int.reduceNeg, Int.reduceToNat, Int.reduceLT, Int.reduceLE, Nat.reduceEqDiff, sidsB, Nat.reduceBEq, keyKD, isIntK]
    refine CallC.pure (awake_spec hG) ?_
    simp (config := { maxSteps := 1000000 }) (disch := ((try simp only [awL]); omega)) only [↓awU, awV, awF, ofVal, ofVal0, isShift, aggK, forall_const, ↓reduceIte, ↓reduceDIte, ↓purePost, combine, idsA, cellsA, numsOf, srcA, calleeA, refsA, isScalar, scalarD, scalar0, AV.one, putL, unfA, implies_true, IntKind.signed, Nat.reduceAdd, Nat.reduceSub, Nat.reduceMul, Nat.reducePow, Nat.reduceDiv, Nat.reduceMod, Int.reduceAdd, Int.reduceSub, Int.reduceMul, Int.reducePow, Int.reduceNeg, Int.reduceToNat, Int.reduceLT, Int.reduceLE, Nat.reduceEqDiff, sidsB, Nat.reduceBEq, keyKD, isIntK]
end Go.Proofs.YtkppgdialedoeaaDoor

/-
  What every law of this seat needs: what the listed variable holds, and a world that lays it.
-/
namespace Go.Proofs.YtkppgdialedoeaaDoor
open Go Go.Proofs Go.Abs Go.RowKit Go.ChangeShapes Go.WideShapes Go.ChangeAt
theorem own : ownKnob Tryd.prog.godebug = none := by kernel_rfl
theorem laidOut : laidOutB Tryd.prog = true := by kernel_rfl
theorem gOne : Tryd.prog.globalNamed "tablefinder/fraction.one" = some 0 := by kernel_rfl
theorem tOne : (Tryd.prog.globals[0]?).map (·.type) = some 96 := by kernel_rfl
theorem cU32 : Tryd.prog.cellsOf 98 = 1 := by kernel_rfl
theorem cInt : Tryd.prog.cellsOf 3 = 1 := by kernel_rfl
/-- What the contracts are told of the variables. -/
def G1 : Globals := fun g => if g = 0 then some [W [1]] else none
theorem hG1 : HG G1 := by simp [HG, G1]
theorem globOK {X : World} (h : Lib.VarReads Tryd.prog X "tablefinder/fraction.one" Rows.laid_tablefinder_fraction_one) : GlobOK G1 X := by
  obtain ⟨g, t, cs, fuel, p, hg, ht, hv, hd⟩ := h
  obtain rfl := Option.some.inj (gOne.symm.trans hg)
  obtain rfl := Option.some.inj (tOne.symm.trans ht)
  rcases open_ints Tryd.underlying96 Tryd.underlying98 cU32 hd with ⟨_, hx⟩ | ⟨a, len, cap, zs, hcs, _, hl, hm, hz, hx, hcell, _⟩
  · simp [Rows.laid_tablefinder_fraction_one] at hx
  · have hz : zs.length = cap := by simpa using hz
    simp only [Rows.laid_tablefinder_fraction_one, Prod.mk.injEq, DataW.slice.injEq] at hx
    obtain ⟨⟨h1, h2⟩, _⟩ := hx
    have e1 : (zs.take len).length = 1 := by
      have := congrArg List.length h1; simpa [lits] using this.symm
    have e2 : (zs.drop len).length = 0 := by
      have := congrArg List.length h2; simpa [lits] using this.symm
    have e3 : len = 1 ∧ cap = 1 := by simp at e1 e2; omega
    obtain ⟨rfl, rfl⟩ := e3
    obtain ⟨z, rfl⟩ : ∃ z, zs = [z] := by
      match zs, hz with
      | [z], _ => exact ⟨z, rfl⟩
    have ez : z = 1 := by
      have := h1; simp [lits] at this; exact this.symm
    subst ez
    have h0 := World.var?_cell hg hv 0
    have e4 : cs[0]? = some (.slice (some a) 1 1) := by
      have : cs = #[.slice (some a) 1 1] := by rw [← Array.toArray_toList (xs := cs), hcs]
      rw [this]; rfl
    rw [e4] at h0
    rcases RD_ints (W := X) (k := .u32) hl (by simp) hcell with hr | hr
    · intro g ds hgd
      simp only [G1] at hgd
      split at hgd
      · rename_i hgg
        subst hgg
        cases hgd
        refine ⟨fun _ => .slice (some a) 1 1, fun i x hx => ?_, fun i x hx => ?_⟩
        · rcases i with _ | i
          · exact h0
          · simp at hx
        · rcases i with _ | i
          · simp at hx; subst hx; exact hr
          · simp at hx
      · cases hgd
    · cases hr
/-- A WORLD FOR THE WITNESS: the settled one, with one block more, to which the variable points. -/
noncomputable def laidWorld (os : Os) : World :=
  { World.holding Tryd.prog os ⟨#[.cells #[.int .u32 1] 98], #[], []⟩ with heap := (World.holding Tryd.prog os ⟨#[.cells #[.int .u32 1] 98], #[], []⟩).heap.modify 0 fun
      | .cells _ t frozen => .cells #[.slice (some ⟨(World.settled Tryd.prog os).heap.size, 0, none⟩) 1 1] t frozen
      | o => o }
theorem laid_met (os : Os) (args : Array Value) : laidMet Tryd.prog [("tablefinder/fraction.one", Rows.laid_tablefinder_fraction_one)] ((laidWorld os).forCall (fun _ _ => 0) ⟨#[], args, []⟩).memory :=
  laidMet_of_run' 8 (by kernel_rfl) (by kernel_rfl)
theorem list_ok {l : List Int} (h : ∀ n ∈ l, (Lit.int .i64 n).wf = true) : OkI l := by
  intro i
  rcases Nat.lt_or_ge i l.length with hi | hi
  · have := h _ (mem_getD (d := 0) hi)
    simp [Lit.wf, IntKind.min, IntKind.max, IntKind.bits, IntKind.signed] at this
    rw [List.getD_eq_getElem?_getD]
    omega
  · rw [List.getD_eq_getElem?_getD, List.getElem?_eq_none hi]; simp
end Go.Proofs.YtkppgdialedoeaaDoor
