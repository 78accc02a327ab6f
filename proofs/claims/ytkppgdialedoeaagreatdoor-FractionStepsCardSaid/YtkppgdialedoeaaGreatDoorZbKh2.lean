/-
  Contracts of the functions, one after another.
-/
import Derived.Test.YtkppgdialedoeaaGreatDoorZbKh1
set_option linter.all false
namespace Go.Proofs.YtkppgdialedoeaaGreatDoor
open Go Go.Proofs Go.Abs
variable {G : Globals}
/-! Trim, and which texts are digits. -/
theorem setB_fold {l : List UInt8} : (setD l).map AV.d = setB l := rfl
theorem setB_putL {L : List AV} {l : List UInt8} (h : L.length = 256) : putL L 0 ((setD l).map AV.d) = setB l := by
  rw [setB_fold]
  obtain ⟨a, b, cs, e⟩ := setB_two l
  have q := @setB_length l
  rw [e] at q ⊢
  have hd : L.drop (0 + (a :: b :: cs).length) = [] := List.drop_eq_nil_of_le (by omega)
  simp only [putL, hd, List.take_zero, List.nil_append, List.append_nil]
set_option maxRecDepth 10000 in
theorem setB_putL' {l : List UInt8} : putL ([.d (.bool false), .d (.bool false), .d (.bool false), .d (.bool false), .d (.bool false), .d (.bool false), .d (.bool false), .d (.bool false), .d (.bool false), .d (.bool false), .d (.bool false), .d (.bool false), .d (.bool false), .d (.bool false), .d (.bool false), .d (.bool false), .d (.bool false), .d (.bool false), .d (.bool false), .d (.bool false), .d (.bool false), .d (.bool false), .d (.bool false), .d (.bool false), .d (.bool false), .d (.bool false), .d (.bool false), .d (.bool false), .d (.bool false), .d (.bool false), .d (.bool false), .d (.bool false), .d (.bool false), .d (.bool false), .d (.bool false), .d (.bool false), .d (.bool false), .d (.bool false), .d (.bool false), .d (.bool false), .d (.bool false), .d (.bool false), .d (.bool false), .d (.bool false), .d (.bool false), .d (.bool false), .d (.bool false), .d (.bool false), .d (.bool false), .d (.bool false), .d (.bool false), .d (.bool false), .d (.bool false), .d (.bool false), .d (.bool false), .d (.bool false), .d (.bool false), .d (.bool false), .d (.bool false), .d (.bool false), .d (.bool false), .d (.bool false), .d (.bool false), .d (.bool false), .d (.bool false), .d (.bool false), .d (.bool false), .d (.bool false), .d (.bool false), .d (.bool false), .d (.bool false), .d (.bool false), .d (.bool false), .d (.bool false), .d (.bool false), .d (.bool false), .d (.bool false), .d (.bool false), .d (.bool false), .d (.bool false), .d (.bool false), .d (.bool false), .d (.bool false), .d (.bool false), .d (.bool false), .d (.bool false), .d (.bool false), .d (.bool false), .d (.bool false), .d (.bool false), .d (.bool false), .d (.bool false), .d (.bool false), .d (.bool false), .d (.bool false), .d (.bool false), .d (.bool false), .d (.bool false), .d (.bool false), .d (.bool false), .d (.bool false), .d (.bool false), .d (.bool false), .d (.bool false), .d (.bool false), .d (.bool false), .d (.bool false), .d (.bool false), .d (.bool false), .d (.bool false), .d (.bool false), .d (.bool false), .d (.bool false), .d (.bool false), .d (.bool false), .d (.bool false), .d (.bool false), .d (.bool false), .d (.bool false), .d (.bool false), .d (.bool false), .d (.bool false), .d (.bool false), .d (.bool false), .d (.bool false), .d (.bool false), .d (.bool false), .d (.bool false), .d (.bool false), .d (.bool false), .d (.bool false), .d (.bool false), .d (.bool false), .d (.bool false), .d (.bool false), .d (.bool false), .d (.bool false), .d (.bool false), .d (.bool false), .d (.bool false), .d (.bool false), .d (.bool false), .d (.bool false), .d (.bool false), .d (.bool false), .d (.bool false), .d (.bool false), .d (.bool false), .d (.bool false), .d (.bool false), .d (.bool false), .d (.bool false), .d (.bool false), .d (.bool false), .d (.bool false), .d (.bool false), .d (.bool false), .d (.bool false), .d (.bool false), .d (.bool false), .d (.bool false), .d (.bool false), .d (.bool false), .d (.bool false), .d (.bool false), .d (.bool false), .d (.bool false), .d (.bool false), .d (.bool false), .d (.bool false), .d (.bool false), .d (.bool false), .d (.bool false), .d (.bool false), .d (.bool false), .d (.bool false), .d (.bool false), .d (.bool false), .d (.bool false), .d (.bool false), .d (.bool false), .d (.bool false), .d (.bool false), .d (.bool false), .d (.bool false), .d (.bool false), .d (.bool false), .d (.bool false), .d (.bool false), .d (.bool false), .d (.bool false), .d (.bool false), .d (.bool false), .d (.bool false), .d (.bool false), .d (.bool false), .d (.bool false), .d (.bool false), .d (.bool false), .d (.bool false), .d (.bool false), .d (.bool false), .d (.bool false), .d (.bool false), .d (.bool false), .d (.bool false), .d (.bool false), .d (.bool false), .d (.bool false), .d (.bool false), .d (.bool false), .d (.bool false), .d (.bool false), .d (.bool false), .d (.bool false), .d (.bool false), .d (.bool false), .d (.bool false), .d (.bool false), .d (.bool false), .d (.bool false), .d (.bool false), .d (.bool false), .d (.bool false), .d (.bool false), .d (.bool false), .d (.bool false), .d (.bool false), .d (.bool false), .d (.bool false), .d (.bool false), .d (.bool false), .d (.bool false), .d (.bool false), .d (.bool false), .d (.bool false), .d (.bool false), .d (.bool false), .d (.bool false), .d (.bool false), .d (.bool false), .d (.bool false), .d (.bool false), .d (.bool false), .d (.bool false), .d (.bool false), .d (.bool false), .d (.bool false), .d (.bool false), .d (.bool false), .d (.bool false), .d (.bool false), .d (.bool false), .d (.bool false), .d (.bool false), .d (.bool false)] : List AV) 0 (setB l) = setB l := setB_putL rfl
set_option maxHeartbeats 4000000 in
set_option maxRecDepth 100000 in
theorem trim_spec (s l : List UInt8) (hs : s.length < 2 ^ 62) (hl : l.length < 2 ^ 62) (h2 : 2 ≤ l.length) (ha : ∀ b ∈ l, b.toNat < 128) : Ctr Tryz.prog G 111 [.d (S s), .d (S l)] [] (.d (S (trimL l (trimR l s)))) [] := by
  refine Ctr.pure (M := M0) hmix Tryz.func111 rfl go111 ?_
  have q := @setB_length l
  have tr : (trimR l s).length ≤ s.length := by
    simp only [trimR, List.length_reverse]
    exact Nat.le_trans (List.dropWhile_sublist _).length_le (by simp)
  simp (config := { maxSteps := 1000000 }) (disch := ((try simp only [awL]); omega)) only [nextC_more, nextC_over, bs_size, bs_extract, bs_toList, bs_append, byteAt_bs, bs_cells, nums_length, nums_getD, setB_refs, setB_pass, setB_sids, setB_ren, Tryz.f111, ↓awU, awV, awF, ofVal, ofVal0, isShift, aggK, forall_const, ↓reduceIte, ↓reduceDIte, ↓purePost, combine, idsA, cellsA, numsOf, srcA, calleeA, refsA, isScalar, scalarD, scalar0, AV.one, putL, unfA, implies_true, IntKind.signed, Nat.reduceAdd, Nat.reduceSub, Nat.reduceMul, Nat.reducePow, Nat.reduceDiv, Nat.reduceMod, Int.reduceAdd, Int.reduceSub, Int.reduceMul, Int.reducePow, Int.reduceNeg, Int.reduceToNat, Int.reduceLT, Int.reduceLE, Nat.reduceEqDiff, sidsB, Nat.reduceBEq, keyKD, isIntK]
  refine ⟨fun h => ⟨fun h3 => ?_, fun h3 => ?_⟩, fun h => ?_⟩
  · subst h3; simp at h2
  · refine CallC.pure (makeSet_spec l hl ha) ?_
    have tk : (setD l).take 256 = setD l := List.take_of_length_le (by rw [setD_length]; omega)
    simp (config := { maxSteps := 1000000 }) (disch := ((try simp only [awL]); omega)) only [nextC_more, nextC_over, bs_size, bs_extract, bs_toList, bs_append, byteAt_bs, bs_cells, nums_length, nums_getD, ↓ setB_putL', setB_putL', setB_fold, q, setB_refs, setB_pass, setB_sids, setB_ren, ↓awU, awV, awF, ofVal, ofVal0, isShift, aggK, forall_const, ↓reduceIte, ↓reduceDIte, ↓purePost, combine, idsA, cellsA, numsOf, srcA, calleeA, refsA, isScalar, scalarD, scalar0, AV.one, putL, unfA, implies_true, IntKind.signed, Nat.reduceAdd, Nat.reduceSub, Nat.reduceMul, Nat.reducePow, Nat.reduceDiv, Nat.reduceMod, Int.reduceAdd, Int.reduceSub, Int.reduceMul, Int.reducePow, Int.reduceNeg, Int.reduceToNat, Int.reduceLT, Int.reduceLE, Nat.reduceEqDiff, sidsB, Nat.reduceBEq, keyKD, isIntK]
    refine ⟨setB_one, ?_⟩
    refine CallC.by (trimRA_spec l s hs) (by rfl) (by rfl) (Nat.le_refl _) ?_
    simp (config := { maxSteps := 1000000 }) (disch := ((try simp only [awL]); omega)) only [nextC_more, nextC_over, bs_size, bs_extract, bs_toList, bs_append, byteAt_bs, bs_cells, nums_length, nums_getD, setB_fold, setB_refs, setB_pass, setB_sids, setB_ren, ↓awU, awV, awF, ofVal, ofVal0, isShift, aggK, forall_const, ↓reduceIte, ↓reduceDIte, ↓purePost, combine, idsA, cellsA, numsOf, srcA, calleeA, refsA, isScalar, scalarD, scalar0, AV.one, putL, unfA, implies_true, IntKind.signed, Nat.reduceAdd, Nat.reduceSub, Nat.reduceMul, Nat.reducePow, Nat.reduceDiv, Nat.reduceMod, Int.reduceAdd, Int.reduceSub, Int.reduceMul, Int.reducePow, Int.reduceNeg, Int.reduceToNat, Int.reduceLT, Int.reduceLE, Nat.reduceEqDiff, sidsB, Nat.reduceBEq, keyKD, isIntK]
    refine CallC.by (trimLA_spec l (trimR l s) (by omega)) (by rfl) (by rfl) (Nat.le_refl _) ?_
    simp (config := { maxSteps := 1000000 }) (disch := ((try simp only [awL]); omega)) only [nextC_more, nextC_over, bs_size, bs_extract, bs_toList, bs_append, byteAt_bs, bs_cells, nums_length, nums_getD, setB_fold, setB_refs, setB_pass, setB_sids, setB_ren, ↓awU, awV, awF, ofVal, ofVal0, isShift, aggK, forall_const, ↓reduceIte, ↓reduceDIte, ↓purePost, combine, idsA, cellsA, numsOf, srcA, calleeA, refsA, isScalar, scalarD, scalar0, AV.one, putL, unfA, implies_true, IntKind.signed, Nat.reduceAdd, Nat.reduceSub, Nat.reduceMul, Nat.reducePow, Nat.reduceDiv, Nat.reduceMod, Int.reduceAdd, Int.reduceSub, Int.reduceMul, Int.reducePow, Int.reduceNeg, Int.reduceToNat, Int.reduceLT, Int.reduceLE, Nat.reduceEqDiff, sidsB, Nat.reduceBEq, keyKD, isIntK]
  · subst h; rfl
theorem dropWhile_nil {l : List UInt8} {p : UInt8 → Bool} : l.dropWhile p = [] ↔ l.all p = true := by
  induction l with
  | nil => simp
  | cons b l ih =>
    rw [List.dropWhile_cons, List.all_cons]
    cases h : p b <;> simp [ih]
theorem trim_nil {l s : List UInt8} : trimL l (trimR l s) = [] ↔ s.all l.contains = true := by
  rw [trimL, dropWhile_nil, trimR]
  rw [List.all_reverse]
  constructor
  · intro h
    by_cases e : s.reverse.dropWhile l.contains = []
    · have := dropWhile_nil.1 e
      rwa [List.all_reverse] at this
    · exfalso
      have h1 := List.head_dropWhile_not l.contains e
      have h2 := List.all_eq_true.1 h _ (List.head_mem e)
      rw [h1] at h2; cases h2
  · intro h
    have : s.reverse.dropWhile l.contains = [] := dropWhile_nil.2 (by rwa [List.all_reverse])
    rw [this]; rfl
abbrev dig10 : List UInt8 := [48, 49, 50, 51, 52, 53, 54, 55, 56, 57]
def digB (s : List UInt8) (m : Int) : Bool := decide (1 ≤ s.length ∧ (s.length : Int) ≤ m) && s.all dig10.contains
theorem digits_spec (s : List UInt8) (m : Int) (hs : s.length < 2 ^ 62) : Ctr Tryz.prog G 88 [.d (S s), .d (.int .i64 m)] [] (.d (.bool (digB s m))) [] := by
  refine Ctr.pure (M := M0) hmix Tryz.func88 rfl go88 ?_
  simp (config := { maxSteps := 1000000 }) (disch := ((try simp only [awL]); omega)) only [nextC_more, nextC_over, bs_size, bs_extract, bs_toList, bs_append, byteAt_bs, bs_cells, nums_length, nums_getD, Tryz.f88, ↓awU, awV, awF, ofVal, ofVal0, isShift, aggK, forall_const, ↓reduceIte, ↓reduceDIte, ↓purePost, combine, idsA, cellsA, numsOf, srcA, calleeA, refsA, isScalar, scalarD, scalar0, AV.one, putL, unfA, implies_true, IntKind.signed, Nat.reduceAdd, Nat.reduceSub, Nat.reduceMul, Nat.reducePow, Nat.reduceDiv, Nat.reduceMod, Int.reduceAdd, Int.reduceSub, Int.reduceMul, Int.reducePow, Int.reduceNeg, Int.reduceToNat, Int.reduceLT, Int.reduceLE, Nat.reduceEqDiff, sidsB, Nat.reduceBEq, keyKD, isIntK]
  refine ⟨fun h1 => ⟨fun h2 => ?_, fun h2 => ?_⟩, fun h1 => ?_⟩
  · refine CallC.pure (trim_spec s dig10 hs (by decide) (by decide) (by decide)) ?_
    simp (config := { maxSteps := 1000000 }) (disch := ((try simp only [awL]); omega)) only [nextC_more, nextC_over, bs_size, bs_extract, bs_toList, bs_append, byteAt_bs, bs_cells, nums_length, nums_getD, ↓awU, awV, awF, ofVal, ofVal0, isShift, aggK, forall_const, ↓reduceIte, ↓reduceDIte, ↓purePost, combine, idsA, cellsA, numsOf, srcA, calleeA, refsA, isScalar, scalarD, scalar0, AV.one, putL, unfA, implies_true, IntKind.signed, Nat.reduceAdd, Nat.reduceSub, Nat.reduceMul, Nat.reducePow, Nat.reduceDiv, Nat.reduceMod, Int.reduceAdd, Int.reduceSub, Int.reduceMul, Int.reducePow, Int.reduceNeg, Int.reduceToNat, Int.reduceLT, Int.reduceLE, Nat.reduceEqDiff, sidsB, Nat.reduceBEq, keyKD, isIntK]
    rw [digB, decide_eq_true (show 1 ≤ s.length ∧ (s.length : Int) ≤ m by omega), Bool.true_and]
    cases h : s.all dig10.contains
    · rw [decide_eq_false fun e => by rw [trim_nil, h] at e; cases e]
    · rw [decide_eq_true (trim_nil.2 h)]
  · rw [digB, decide_eq_false (by omega)]; rfl
  · rw [digB, decide_eq_false (by omega)]; rfl
end Go.Proofs.YtkppgdialedoeaaGreatDoor

namespace Go.Proofs.YtkppgdialedoeaaGreatDoor
open Go Go.Proofs Go.Abs
variable {G : Globals}
/-! The decimal digits of a number. -/
/-- The digits as bytes, the least one first; none of 0. -/
def dgs (n : Nat) : List Int := if h : n = 0 then [] else ((48 + n % 10 : Nat) : Int) :: dgs (n / 10)
termination_by n
decreasing_by exact Nat.div_lt_self (by omega) (by decide)
theorem dgs_zero : dgs 0 = [] := by unfold dgs; simp
theorem dgs_pos {n : Nat} (h : n ≠ 0) : dgs n = ((48 + n % 10 : Nat) : Int) :: dgs (n / 10) := by
  rw [dgs]; simp [h]
def decS (n : Nat) : List UInt8 := if n = 0 then [48] else (dgs n).reverse.map fun z => UInt8.ofNat z.toNat
theorem dgs_len : ∀ {k n : Nat}, n < 10 ^ k → (dgs n).length ≤ k
  | 0, n, h => by
    obtain rfl : n = 0 := by simp at h; exact h
    rw [dgs_zero]; exact Nat.le_refl _
  | k + 1, n, h => by
    by_cases h0 : n = 0
    · subst h0; rw [dgs_zero]; simp
    · rw [dgs_pos h0, List.length_cons]
      have := dgs_len (k := k) (n := n / 10) (by rw [Nat.pow_succ] at h; omega)
      omega
theorem dgs_bound (n : Nat) : (dgs n).length ≤ 10 * (toW n).length := by
  refine dgs_len ?_
  have h1 := val_lt (dig_toW n)
  rw [val_toW] at h1
  refine Nat.lt_of_lt_of_le h1 ?_
  rw [Nat.pow_mul]
  exact Nat.pow_le_pow_left (by decide) _
/-- What is reversed up to a place. -/
def revK (l : List Int) (i : Nat) : List Int := (List.range l.length).map fun p => if p < i ∨ l.length ≤ p + i then l.getD (l.length - 1 - p) 0 else l.getD p 0
theorem revK_length {l : List Int} {i : Nat} : (revK l i).length = l.length := by simp [revK]
theorem revK_get {l : List Int} {i p : Nat} (h : p < l.length) : (revK l i).getD p 0 = if p < i ∨ l.length ≤ p + i then l.getD (l.length - 1 - p) 0 else l.getD p 0 := by
  simp only [revK, List.getD_eq_getElem?_getD, List.getElem?_map, List.getElem?_range h, Option.map_some, Option.getD_some]
theorem getD_ext {l m : List Int} (h : l.length = m.length) (hg : ∀ p, p < l.length → l.getD p 0 = m.getD p 0) : l = m := by
  apply List.ext_getElem h
  intro p h1 h2
  have := hg p h1
  rw [List.getD_eq_getElem?_getD, List.getD_eq_getElem?_getD, List.getElem?_eq_getElem h1, List.getElem?_eq_getElem h2] at this
  exact this
theorem revK_zero {l : List Int} : revK l 0 = l := by
  refine getD_ext revK_length fun p hp => ?_
  rw [revK_length] at hp
  rw [revK_get hp, if_neg (by omega)]
theorem getD_set {l : List Int} {i p : Nat} {x : Int} (h : i < l.length) : (l.set i x).getD p 0 = if i = p then x else l.getD p 0 := by
  rw [List.getD_eq_getElem?_getD, List.getElem?_set, List.getD_eq_getElem?_getD]
  split
  · first | rfl | (rw [if_pos h]; rfl)
  · rfl
theorem revK_step {l : List Int} {i : Nat} (h : i + i + 1 < l.length) : ((revK l i).set i ((revK l i).getD (l.length - 1 - i) 0)).set (l.length - 1 - i) ((revK l i).getD i 0) = revK l (i + 1) := by
  refine getD_ext (by simp only [List.length_set, revK_length]) fun p hp => ?_
  simp only [List.length_set, revK_length] at hp
  rw [getD_set (by rw [List.length_set, revK_length]; omega), getD_set (by rw [revK_length]; omega), revK_get hp, revK_get (by omega), revK_get (by omega), revK_get hp]
  by_cases h1 : l.length - 1 - i = p
  · rw [if_pos h1, if_neg (by omega), if_pos (by omega)]
    congr 1; omega
  · rw [if_neg h1]
    by_cases h2 : i = p
    · subst h2
      rw [if_pos rfl, if_neg (by omega), if_pos (by omega)]
    · rw [if_neg h2]
      by_cases h3 : p < i ∨ l.length ≤ p + i
      · rw [if_pos h3, if_pos (by omega)]
      · rw [if_neg h3, if_neg (by omega)]
theorem revK_all {l : List Int} {i : Nat} (h : l.length ≤ i + i + 1) (hi : i ≤ l.length) : revK l i = l.reverse := by
  refine getD_ext (by rw [revK_length, List.length_reverse]) fun p hp => ?_
  rw [revK_length] at hp
  rw [revK_get hp]
  have : l.reverse.getD p 0 = l.getD (l.length - 1 - p) 0 := by
    rw [List.getD_eq_getElem?_getD, List.getElem?_reverse hp, List.getD_eq_getElem?_getD]
  rw [this]
  split
  · rfl
  · congr 1; omega
set_option maxRecDepth 10000 in
theorem reverse_spec (l : List Int) (hl : l.length < 2 ^ 62) : Ctr Tryz.prog G 102 [.lsl 0 1 0 l.length] [.row false (ints .u8 l)] (.tup []) [.row false (ints .u8 l.reverse)] := by
  refine Ctr.body (M := M0) hmix Tryz.func102 rfl go102 ?_
  simp (config := { maxSteps := 1000000 }) (disch := ((try simp only [awL]); omega)) only [Tryz.f102, ↓awU, awV, awF, ofVal, ofVal0, isShift, aggK, forall_const, ↓reduceIte, ↓reduceDIte, ↓purePost, combine, idsA, cellsA, numsOf, srcA, calleeA, refsA, isScalar, scalarD, scalar0, AV.one, putL, unfA, implies_true, IntKind.signed, Nat.reduceAdd, Nat.reduceSub, Nat.reduceMul, Nat.reducePow, Nat.reduceDiv, Nat.reduceMod, Int.reduceAdd, Int.reduceSub, Int.reduceMul, Int.reducePow, Int.reduceNeg, Int.reduceToNat, Int.reduceLT, Int.reduceLE, Nat.reduceEqDiff, sidsB, Nat.reduceBEq, keyKD, isIntK]
  refine LoopC.fr 1 (α := Nat) (fun i => l.length - i) (fun i => [(2, .d (.int .i64 i)), (3, .d (.int .i64 (l.length - 1 - i)))]) (fun i => [.row false (ints .u8 (revK l i))]) (fun i => i + i ≤ l.length) 0 (Nat.zero_le _) ?_ ?_
  · rw [revK_zero]
    exact ⟨[some 0], rfl, by simp, by simp [setsA, keepA, SWeak, AWeak], by simp [HWeak, BWeak, SWeak, AWeak]⟩
  · intro i hi
    have rl := @revK_length l i
    simp only [keepA_z8, keepA_z, keepA_cons, keepA_nil, setsA_nil, setsA_cons, List.set_cons_zero, List.set_cons_succ, set_8, Nat.reduceMod, Nat.reduceDiv, Nat.zero_mod, Nat.zero_ne_one, if_true, if_false, reduceIte]
    rcases Nat.lt_or_ge (i + i + 1) l.length with h1 | h1
    · have hs := revK_step h1
      have e1 : ((l.length : Int) - 1 - i).toNat = l.length - 1 - i := by omega
      simp (config := { maxSteps := 1000000 }) (disch := ((try simp only [awL]); omega)) only [rl, e1, ↓awU, awV, awF, ofVal, ofVal0, isShift, aggK, forall_const, ↓reduceIte, ↓reduceDIte, ↓purePost, combine, idsA, cellsA, numsOf, srcA, calleeA, refsA, isScalar, scalarD, scalar0, AV.one, putL, unfA, implies_true, IntKind.signed, Nat.reduceAdd, Nat.reduceSub, Nat.reduceMul, Nat.reducePow, Nat.reduceDiv, Nat.reduceMod, Int.reduceAdd, Int.reduceSub, Int.reduceMul, Int.reducePow, Int.reduceNeg, Int.reduceToNat, Int.reduceLT, Int.reduceLE, Nat.reduceEqDiff, sidsB, Nat.reduceBEq, keyKD, isIntK]
      have e2 : (l.length : Int) - 1 - i - 1 = l.length - 1 - ((i + 1 : Nat) : Int) := by omega
      rw [hs, e2]
      exact ⟨by rfl, i + 1, by omega, by simp only; omega, ⟨[some 0], rfl, by simp, by simp [setsA, keepA, SWeak, AWeak], by simp [HWeak, BWeak, SWeak, AWeak]⟩⟩
    · have hr := revK_all h1 (by omega)
      simp (config := { maxSteps := 1000000 }) (disch := ((try simp only [awL]); omega)) only [rl, ↓awU, awV, awF, ofVal, ofVal0, isShift, aggK, forall_const, ↓reduceIte, ↓reduceDIte, ↓purePost, combine, idsA, cellsA, numsOf, srcA, calleeA, refsA, isScalar, scalarD, scalar0, AV.one, putL, unfA, implies_true, IntKind.signed, Nat.reduceAdd, Nat.reduceSub, Nat.reduceMul, Nat.reducePow, Nat.reduceDiv, Nat.reduceMod, Int.reduceAdd, Int.reduceSub, Int.reduceMul, Int.reducePow, Int.reduceNeg, Int.reduceToNat, Int.reduceLT, Int.reduceLE, Nat.reduceEqDiff, sidsB, Nat.reduceBEq, keyKD, isIntK]
      rw [hr]
      exact ⟨[some 0], rfl, by simp, by simp [HWeak, BWeak, SWeak, AWeak], .inl (by simp [AWeak, SWeak])⟩
abbrev MR : Muts := fun f => Nat.beq f 102
theorem ints_push {k : IntKind} {l : List Int} {x : Int} : ints k l ++ [.int k x] = ints k (l ++ [x]) := by simp [ints]
theorem byte_digit (c : Nat) : IntKind.u8.wrap (IntKind.u32.wrap (48 + (c : Int).tmod 10)) = ((48 + c % 10 : Nat) : Int) := by
  have h : (c : Int).tmod 10 = ((c % 10 : Nat) : Int) := by rw [Int.tmod_eq_emod_of_nonneg (by omega)]; rfl
  rw [h, wr_u32 (by omega) (by omega), wr_u8 (by omega) (by omega)]
  omega
theorem word_tenth {c : Nat} (hc : c < 1000000000) : IntKind.u32.wrap ((c : Int).tdiv 10) = ((c / 10 : Nat) : Int) := by
  have h : (c : Int).tdiv 10 = ((c / 10 : Nat) : Int) := by rw [Int.tdiv_eq_ediv_of_nonneg (by omega)]; rfl
  rw [h, wr_u32 (by omega) (by omega)]
theorem dgs_step {q n i : Nat} (hi : i < 9) (hn : n < 10 ^ (9 - i)) (h0 : q ≠ 0 ∨ n ≠ 0) : dgs (q * 10 ^ (9 - i) + n) = ((48 + n % 10 : Nat) : Int) :: dgs (q * 10 ^ (9 - (i + 1)) + n / 10) := by
  have e : 10 ^ (9 - i) = 10 * 10 ^ (9 - (i + 1)) := by
    rw [show 9 - i = 9 - (i + 1) + 1 by omega, Nat.pow_succ, Nat.mul_comm]
  have hp : 0 < 10 ^ (9 - (i + 1)) := Nat.pow_pos (by decide)
  rw [e, Nat.mul_left_comm] at *
  rw [dgs_pos (by
    intro h
    rcases h0 with h0 | h0
    · have : 0 < q * 10 ^ (9 - (i + 1)) := Nat.mul_pos (by omega) hp
      omega
    · omega)]
  congr 2
  · omega
  · omega
set_option maxHeartbeats 1000000 in
set_option maxRecDepth 10000 in
theorem decimal_spec (n : Nat) (hn : (toW n).length < 2 ^ 36) : Ctr Tryz.prog G 80 [.d (W (toW n))] [] (.d (S (decS n))) [] := by
  refine Ctr.pure (M := MR) hmix Tryz.func80 rfl go80 ?_
  have hz := @toW_nil n
  have hb := dgs_bound n
  by_cases h0 : n = 0
  · subst h0
    rw [toW_zero]
    simp (config := { maxSteps := 1000000 }) (disch := ((try simp only [awL]); omega)) only [MR, Nat.beq_eq, nextC_more, nextC_over, bs_size, bs_extract, bs_toList, bs_append, byteAt_bs, bs_cells, nums_length, nums_getD, Tryz.f80, ↓awU, awV, awF, ofVal, ofVal0, isShift, aggK, forall_const, ↓reduceIte, ↓reduceDIte, ↓purePost, combine, idsA, cellsA, numsOf, srcA, calleeA, refsA, isScalar, scalarD, scalar0, AV.one, putL, unfA, implies_true, IntKind.signed, Nat.reduceAdd, Nat.reduceSub, Nat.reduceMul, Nat.reducePow, Nat.reduceDiv, Nat.reduceMod, Int.reduceAdd, Int.reduceSub, Int.reduceMul, Int.reducePow, Int.reduceNeg, Int.reduceToNat, Int.reduceLT, Int.reduceLE, Nat.reduceEqDiff, sidsB, Nat.reduceBEq, keyKD, isIntK]
    rfl
  · have hl : 0 < (toW n).length := by rw [Nat.pos_iff_ne_zero, ne_eq, List.length_eq_zero_iff, toW_nil]; exact h0
    simp (config := { maxSteps := 1000000 }) (disch := ((try simp only [awL]); omega)) only [MR, Nat.beq_eq, nextC_more, nextC_over, bs_size, bs_extract, bs_toList, bs_append, byteAt_bs, bs_cells, nums_length, nums_getD, Tryz.f80, ↓awU, awV, awF, ofVal, ofVal0, isShift, aggK, forall_const, ↓reduceIte, ↓reduceDIte, ↓purePost, combine, idsA, cellsA, numsOf, srcA, calleeA, refsA, isScalar, scalarD, scalar0, AV.one, putL, unfA, implies_true, IntKind.signed, Nat.reduceAdd, Nat.reduceSub, Nat.reduceMul, Nat.reducePow, Nat.reduceDiv, Nat.reduceMod, Int.reduceAdd, Int.reduceSub, Int.reduceMul, Int.reducePow, Int.reduceNeg, Int.reduceToNat, Int.reduceLT, Int.reduceLE, Nat.reduceEqDiff, sidsB, Nat.reduceBEq, keyKD, isIntK]
    refine LoopC.fr 0 (α := Nat × List Int) (fun a => a.1) (fun a => [(0, .d (W (toW a.1))), (3, .lsl 0 1 0 a.2.length)]) (fun a => [.row false (ints .u8 a.2)]) (fun a => dgs n = a.2 ++ dgs a.1 ∧ a.1 ≤ n) (n, []) ⟨rfl, Nat.le_refl _⟩ ?_ ?_
    · exact ⟨[none], rfl, by simp, by simp [setsA, keepA, SWeak, AWeak], by simp [HWeak, BWeak, SWeak, AWeak, ints]⟩
    · rintro ⟨m, P⟩ ⟨hP, hm⟩
      simp only at hP hm
      have hmw := toW_len_mono hm
      have hPl := congrArg List.length hP
      rw [List.length_append] at hPl
      simp only [keepA_z8, keepA_z, keepA_cons, keepA_nil, setsA_nil, setsA_cons, List.set_cons_zero, List.set_cons_succ, set_8, Nat.reduceMod, Nat.reduceDiv, Nat.zero_mod, Nat.zero_ne_one, if_true, if_false, reduceIte]
      by_cases m0 : m = 0
      · subst m0
        rw [dgs_zero, List.append_nil] at hP
        rw [toW_zero]
        simp (config := { maxSteps := 1000000 }) (disch := ((try simp only [awL]); omega)) only [MR, Nat.beq_eq, nextC_more, nextC_over, bs_size, bs_extract, bs_toList, bs_append, byteAt_bs, bs_cells, nums_length, nums_getD, ↓awU, awV, awF, ofVal, ofVal0, isShift, aggK, forall_const, ↓reduceIte, ↓reduceDIte, ↓purePost, combine, idsA, cellsA, numsOf, srcA, calleeA, refsA, isScalar, scalarD, scalar0, AV.one, putL, unfA, implies_true, IntKind.signed, Nat.reduceAdd, Nat.reduceSub, Nat.reduceMul, Nat.reducePow, Nat.reduceDiv, Nat.reduceMod, Int.reduceAdd, Int.reduceSub, Int.reduceMul, Int.reducePow, Int.reduceNeg, Int.reduceToNat, Int.reduceLT, Int.reduceLE, Nat.reduceEqDiff, sidsB, Nat.reduceBEq, keyKD, isIntK]
        refine CallC.by (reverse_spec P (by rw [← hP]; omega)) (by rfl) (by rfl) (Nat.le_refl _) ?_
        simp (config := { maxSteps := 1000000 }) (disch := ((try simp only [awL]); omega)) only [MR, Nat.beq_eq, nextC_more, nextC_over, bs_size, bs_extract, bs_toList, bs_append, byteAt_bs, bs_cells, nums_length, nums_getD, numsOf_ints, strOfNums_bs, List.length_reverse, ↓awU, awV, awF, ofVal, ofVal0, isShift, aggK, forall_const, ↓reduceIte, ↓reduceDIte, ↓purePost, combine, idsA, cellsA, numsOf, srcA, calleeA, refsA, isScalar, scalarD, scalar0, AV.one, putL, unfA, implies_true, IntKind.signed, Nat.reduceAdd, Nat.reduceSub, Nat.reduceMul, Nat.reducePow, Nat.reduceDiv, Nat.reduceMod, Int.reduceAdd, Int.reduceSub, Int.reduceMul, Int.reducePow, Int.reduceNeg, Int.reduceToNat, Int.reduceLT, Int.reduceLE, Nat.reduceEqDiff, sidsB, Nat.reduceBEq, keyKD, isIntK]
        rw [List.take_of_length_le (by rw [List.length_reverse]; omega), ← hP, decS, if_neg h0]
      · have hlm : 0 < (toW m).length := by rw [Nat.pos_iff_ne_zero, ne_eq, List.length_eq_zero_iff, toW_nil]; exact m0
        have hq : m / 1000000000 < m := Nat.div_lt_self (by omega) (by decide)
        have hc0 : m % 1000000000 < 1000000000 := Nat.mod_lt _ (by decide)
        have hm9 : dgs m = dgs (m / 1000000000 * 10 ^ (9 - 0) + m % 1000000000) := by congr 1; omega
        simp (config := { maxSteps := 1000000 }) (disch := ((try simp only [awL]); omega)) only [MR, Nat.beq_eq, nextC_more, nextC_over, bs_size, bs_extract, bs_toList, bs_append, byteAt_bs, bs_cells, nums_length, nums_getD, ↓awU, awV, awF, ofVal, ofVal0, isShift, aggK, forall_const, ↓reduceIte, ↓reduceDIte, ↓purePost, combine, idsA, cellsA, numsOf, srcA, calleeA, refsA, isScalar, scalarD, scalar0, AV.one, putL, unfA, implies_true, IntKind.signed, Nat.reduceAdd, Nat.reduceSub, Nat.reduceMul, Nat.reducePow, Nat.reduceDiv, Nat.reduceMod, Int.reduceAdd, Int.reduceSub, Int.reduceMul, Int.reducePow, Int.reduceNeg, Int.reduceToNat, Int.reduceLT, Int.reduceLE, Nat.reduceEqDiff, sidsB, Nat.reduceBEq, keyKD, isIntK]
        refine CallC.pure (short_spec m 1000000000 (by decide) (by decide) (by omega)) ?_
        generalize m / 1000000000 = q at *
        generalize m % 1000000000 = c0 at *
        simp (config := { maxSteps := 1000000 }) (disch := ((try simp only [awL]); omega)) only [MR, Nat.beq_eq, nextC_more, nextC_over, bs_size, bs_extract, bs_toList, bs_append, byteAt_bs, bs_cells, nums_length, nums_getD, ↓awU, awV, awF, ofVal, ofVal0, isShift, aggK, forall_const, ↓reduceIte, ↓reduceDIte, ↓purePost, combine, idsA, cellsA, numsOf, srcA, calleeA, refsA, isScalar, scalarD, scalar0, AV.one, putL, unfA, implies_true, IntKind.signed, Nat.reduceAdd, Nat.reduceSub, Nat.reduceMul, Nat.reducePow, Nat.reduceDiv, Nat.reduceMod, Int.reduceAdd, Int.reduceSub, Int.reduceMul, Int.reducePow, Int.reduceNeg, Int.reduceToNat, Int.reduceLT, Int.reduceLE, Nat.reduceEqDiff, sidsB, Nat.reduceBEq, keyKD, isIntK]
        refine LoopC.fr 1 (α := Nat × Nat × List Int) (fun a => 9 - a.1) (fun a => [(3, .lsl 0 1 0 a.2.2.length), (4, .d (.int .u32 a.2.1)), (5, .d (.int .i64 a.1))]) (fun a => [.row false (ints .u8 a.2.2)])
          (fun a => a.1 ≤ 9 ∧ a.2.1 < 10 ^ (9 - a.1) ∧ dgs n = a.2.2 ++ dgs (q * 10 ^ (9 - a.1) + a.2.1)) (0, c0, P) ⟨Nat.zero_le _, hc0, by rw [hP, hm9]⟩ ?_ ?_
        · exact ⟨[some 0], rfl, by simp, by simp [setsA, keepA, SWeak, AWeak], by simp [HWeak, BWeak, SWeak, AWeak]⟩
        · rintro ⟨i, c, Q⟩ ⟨hi, hc, hQ⟩
          simp only at hi hc hQ
          have hQl := congrArg List.length hQ
          rw [List.length_append] at hQl
          have hcB : c < 1000000000 := Nat.lt_of_lt_of_le hc (Nat.pow_le_pow_right (n := 10) (j := 9) (by decide) (by omega))
          have hqz := @toW_nil q
          have stop : (i = 9 ∨ (q = 0 ∧ c = 0)) → dgs n = Q ++ dgs q := fun h => by
            rw [hQ]
            rcases h with h | ⟨h, h'⟩
            · subst h; congr 2; simp at hc; omega
            · subst h; subst h'; simp
          have step : i < 9 → (q ≠ 0 ∨ c ≠ 0) → c / 10 < 10 ^ (9 - (i + 1)) ∧ dgs n = (Q ++ [((48 + c % 10 : Nat) : Int)]) ++ dgs (q * 10 ^ (9 - (i + 1)) + c / 10) := fun h1 h2 => by
            refine ⟨?_, ?_⟩
            · rw [show 9 - i = 9 - (i + 1) + 1 by omega, Nat.pow_succ] at hc; omega
            · rw [hQ, dgs_step h1 hc h2, List.append_assoc]; rfl
          simp only [keepA_z8, keepA_z, keepA_cons, keepA_nil, setsA_nil, setsA_cons, List.set_cons_zero, List.set_cons_succ, set_8, Nat.reduceMod, Nat.reduceDiv, Nat.zero_mod, Nat.zero_ne_one, if_true, if_false, reduceIte]
          rcases Nat.lt_or_ge i 9 with i9 | i9
          · by_cases q0 : q = 0
            · by_cases c0' : c = 0
              · have := stop (.inr ⟨q0, c0'⟩)
                have lq : (toW q).length = 0 := by rw [q0, toW_zero]; rfl
                simp (config := { maxSteps := 1000000 }) (disch := ((try simp only [awL]); omega)) only [MR, Nat.beq_eq, nextC_more, nextC_over, bs_size, bs_extract, bs_toList, bs_append, byteAt_bs, bs_cells, nums_length, nums_getD, lq, ↓awU, awV, awF, ofVal, ofVal0, isShift, aggK, forall_const, ↓reduceIte, ↓reduceDIte, ↓purePost, combine, idsA, cellsA, numsOf, srcA, calleeA, refsA, isScalar, scalarD, scalar0, AV.one, putL, unfA, implies_true, IntKind.signed, Nat.reduceAdd, Nat.reduceSub, Nat.reduceMul, Nat.reducePow, Nat.reduceDiv, Nat.reduceMod, Int.reduceAdd, Int.reduceSub, Int.reduceMul, Int.reducePow, Int.reduceNeg, Int.reduceToNat, Int.reduceLT, Int.reduceLE, Nat.reduceEqDiff, sidsB, Nat.reduceBEq, keyKD, isIntK]
                exact ⟨(q, Q), ⟨this, by omega⟩, hq, ⟨[some 0], rfl, by simp, by simp [setsA, keepA, SWeak, AWeak], by simp [HWeak, BWeak, SWeak, AWeak]⟩⟩
              · have := step i9 (.inr c0')
                have lq : (toW q).length = 0 := by rw [q0, toW_zero]; rfl
                simp (config := { maxSteps := 1000000 }) (disch := ((try simp only [awL]); omega)) only [MR, Nat.beq_eq, nextC_more, nextC_over, bs_size, bs_extract, bs_toList, bs_append, byteAt_bs, bs_cells, nums_length, nums_getD, lq, ↓awU, awV, awF, ofVal, ofVal0, isShift, aggK, forall_const, ↓reduceIte, ↓reduceDIte, ↓purePost, combine, idsA, cellsA, numsOf, srcA, calleeA, refsA, isScalar, scalarD, scalar0, AV.one, putL, unfA, implies_true, IntKind.signed, Nat.reduceAdd, Nat.reduceSub, Nat.reduceMul, Nat.reducePow, Nat.reduceDiv, Nat.reduceMod, Int.reduceAdd, Int.reduceSub, Int.reduceMul, Int.reducePow, Int.reduceNeg, Int.reduceToNat, Int.reduceLT, Int.reduceLE, Nat.reduceEqDiff, sidsB, Nat.reduceBEq, keyKD, isIntK]
                rw [word_tenth hcB, byte_digit, ints_push]
                exact ⟨(i + 1, c / 10, Q ++ [((48 + c % 10 : Nat) : Int)]), ⟨by simp only; omega, this.1, this.2⟩, by simp only; omega, ⟨[some 2], rfl, by simp, by simp [setsA, keepA, SWeak, AWeak], by simp [HWeak, BWeak, SWeak, AWeak]⟩⟩
            · have := step i9 (.inl q0)
              have lq : 0 < (toW q).length := by rw [Nat.pos_iff_ne_zero, ne_eq, List.length_eq_zero_iff, toW_nil]; exact q0
              simp (config := { maxSteps := 1000000 }) (disch := ((try simp only [awL]); omega)) only [MR, Nat.beq_eq, nextC_more, nextC_over, bs_size, bs_extract, bs_toList, bs_append, byteAt_bs, bs_cells, nums_length, nums_getD, ↓awU, awV, awF, ofVal, ofVal0, isShift, aggK, forall_const, ↓reduceIte, ↓reduceDIte, ↓purePost, combine, idsA, cellsA, numsOf, srcA, calleeA, refsA, isScalar, scalarD, scalar0, AV.one, putL, unfA, implies_true, IntKind.signed, Nat.reduceAdd, Nat.reduceSub, Nat.reduceMul, Nat.reducePow, Nat.reduceDiv, Nat.reduceMod, Int.reduceAdd, Int.reduceSub, Int.reduceMul, Int.reducePow, Int.reduceNeg, Int.reduceToNat, Int.reduceLT, Int.reduceLE, Nat.reduceEqDiff, sidsB, Nat.reduceBEq, keyKD, isIntK]
              rw [word_tenth hcB, byte_digit, ints_push]
              exact ⟨(i + 1, c / 10, Q ++ [((48 + c % 10 : Nat) : Int)]), ⟨by simp only; omega, this.1, this.2⟩, by simp only; omega, ⟨[some 2], rfl, by simp, by simp [setsA, keepA, SWeak, AWeak], by simp [HWeak, BWeak, SWeak, AWeak]⟩⟩
          · have := stop (.inl (by omega))
            simp (config := { maxSteps := 1000000 }) (disch := ((try simp only [awL]); omega)) only [MR, Nat.beq_eq, nextC_more, nextC_over, bs_size, bs_extract, bs_toList, bs_append, byteAt_bs, bs_cells, nums_length, nums_getD, ↓awU, awV, awF, ofVal, ofVal0, isShift, aggK, forall_const, ↓reduceIte, ↓reduceDIte, ↓purePost, combine, idsA, cellsA, numsOf, srcA, calleeA, refsA, isScalar, scalarD, scalar0, AV.one, putL, unfA, implies_true, IntKind.signed, Nat.reduceAdd, Nat.reduceSub, Nat.reduceMul, Nat.reducePow, Nat.reduceDiv, Nat.reduceMod, Int.reduceAdd, Int.reduceSub, Int.reduceMul, Int.reducePow, Int.reduceNeg, Int.reduceToNat, Int.reduceLT, Int.reduceLE, Nat.reduceEqDiff, sidsB, Nat.reduceBEq, keyKD, isIntK]
            exact ⟨(q, Q), ⟨this, by omega⟩, hq, ⟨[some 0], rfl, by simp, by simp [setsA, keepA, SWeak, AWeak], by simp [HWeak, BWeak, SWeak, AWeak]⟩⟩
end Go.Proofs.YtkppgdialedoeaaGreatDoor

namespace Go.Proofs.YtkppgdialedoeaaGreatDoor
open Go Go.Proofs Go.Abs
variable {G : Globals}
/-! The texts of big integers and of fractions. -/
theorem decS_len (n : Nat) : (decS n).length ≤ 10 * (toW n).length + 1 := by
  unfold decS
  split
  · simp
  · have := dgs_bound n
    simp only [List.length_map, List.length_reverse]; omega
def textB (n : Int) : List UInt8 := if sz n ≤ 256 then (if n < 0 then 45 :: decS n.natAbs else decS n.natAbs) else []
theorem textB_len {n : Int} : (textB n).length ≤ 2562 := by
  have := decS_len n.natAbs
  unfold textB
  split
  · rename_i h
    simp only [sz] at h
    split
    · rw [List.length_cons]; omega
    · omega
  · simp
set_option maxHeartbeats 1000000 in
theorem textBig_spec (n : Int) : Ctr Tryz.prog G 48 [.d (Big n)] [] (.d (S (textB n))) [] := by
  refine Ctr.pure (M := M0) hmix Tryz.func48 rfl go48 ?_
  have dl := decS_len n.natAbs
  simp (config := { maxSteps := 1000000 }) (disch := ((try simp only [awL]); omega)) only [nextC_more, nextC_over, bs_size, bs_extract, bs_toList, bs_append, byteAt_bs, bs_cells, nums_length, nums_getD, Tryz.f48, ↓awU, awV, awF, ofVal, ofVal0, isShift, aggK, forall_const, ↓reduceIte, ↓reduceDIte, ↓purePost, combine, idsA, cellsA, numsOf, srcA, calleeA, refsA, isScalar, scalarD, scalar0, AV.one, putL, unfA, implies_true, IntKind.signed, Nat.reduceAdd, Nat.reduceSub, Nat.reduceMul, Nat.reducePow, Nat.reduceDiv, Nat.reduceMod, Int.reduceAdd, Int.reduceSub, Int.reduceMul, Int.reducePow, Int.reduceNeg, Int.reduceToNat, Int.reduceLT, Int.reduceLE, Nat.reduceEqDiff, sidsB, Nat.reduceBEq, keyKD, isIntK]
  refine CallC.pure (validBig_spec n) ?_
  by_cases hv : sz n ≤ 256
  · rw [decide_eq_true hv, textB, if_pos hv]
    simp only [sz] at hv
    by_cases h0 : n < 0
    · rw [if_pos h0]
      simp (config := { maxSteps := 1000000 }) (disch := ((try simp only [awL]); omega)) only [nextC_more, nextC_over, bs_size, bs_extract, bs_toList, bs_append, byteAt_bs, bs_cells, nums_length, nums_getD, ↓awU, awV, awF, ofVal, ofVal0, isShift, aggK, forall_const, ↓reduceIte, ↓reduceDIte, ↓purePost, combine, idsA, cellsA, numsOf, srcA, calleeA, refsA, isScalar, scalarD, scalar0, AV.one, putL, unfA, implies_true, IntKind.signed, Nat.reduceAdd, Nat.reduceSub, Nat.reduceMul, Nat.reducePow, Nat.reduceDiv, Nat.reduceMod, Int.reduceAdd, Int.reduceSub, Int.reduceMul, Int.reducePow, Int.reduceNeg, Int.reduceToNat, Int.reduceLT, Int.reduceLE, Nat.reduceEqDiff, sidsB, Nat.reduceBEq, keyKD, isIntK]
      refine CallC.pure (decimal_spec n.natAbs (by omega)) ?_
      simp (config := { maxSteps := 1000000 }) (disch := ((try simp only [awL]); omega)) only [nextC_more, nextC_over, bs_size, bs_extract, bs_toList, bs_append, byteAt_bs, bs_cells, nums_length, nums_getD, ↓awU, awV, awF, ofVal, ofVal0, isShift, aggK, forall_const, ↓reduceIte, ↓reduceDIte, ↓purePost, combine, idsA, cellsA, numsOf, srcA, calleeA, refsA, isScalar, scalarD, scalar0, AV.one, putL, unfA, implies_true, IntKind.signed, Nat.reduceAdd, Nat.reduceSub, Nat.reduceMul, Nat.reducePow, Nat.reduceDiv, Nat.reduceMod, Int.reduceAdd, Int.reduceSub, Int.reduceMul, Int.reducePow, Int.reduceNeg, Int.reduceToNat, Int.reduceLT, Int.reduceLE, Nat.reduceEqDiff, sidsB, Nat.reduceBEq, keyKD, isIntK]
      first | done | rfl
    · rw [if_neg h0]
      simp (config := { maxSteps := 1000000 }) (disch := ((try simp only [awL]); omega)) only [nextC_more, nextC_over, bs_size, bs_extract, bs_toList, bs_append, byteAt_bs, bs_cells, nums_length, nums_getD, ↓awU, awV, awF, ofVal, ofVal0, isShift, aggK, forall_const, ↓reduceIte, ↓reduceDIte, ↓purePost, combine, idsA, cellsA, numsOf, srcA, calleeA, refsA, isScalar, scalarD, scalar0, AV.one, putL, unfA, implies_true, IntKind.signed, Nat.reduceAdd, Nat.reduceSub, Nat.reduceMul, Nat.reducePow, Nat.reduceDiv, Nat.reduceMod, Int.reduceAdd, Int.reduceSub, Int.reduceMul, Int.reducePow, Int.reduceNeg, Int.reduceToNat, Int.reduceLT, Int.reduceLE, Nat.reduceEqDiff, sidsB, Nat.reduceBEq, keyKD, isIntK]
      refine CallC.pure (decimal_spec n.natAbs (by omega)) ?_
      simp (config := { maxSteps := 1000000 }) (disch := ((try simp only [awL]); omega)) only [nextC_more, nextC_over, bs_size, bs_extract, bs_toList, bs_append, byteAt_bs, bs_cells, nums_length, nums_getD, ↓awU, awV, awF, ofVal, ofVal0, isShift, aggK, forall_const, ↓reduceIte, ↓reduceDIte, ↓purePost, combine, idsA, cellsA, numsOf, srcA, calleeA, refsA, isScalar, scalarD, scalar0, AV.one, putL, unfA, implies_true, IntKind.signed, Nat.reduceAdd, Nat.reduceSub, Nat.reduceMul, Nat.reducePow, Nat.reduceDiv, Nat.reduceMod, Int.reduceAdd, Int.reduceSub, Int.reduceMul, Int.reducePow, Int.reduceNeg, Int.reduceToNat, Int.reduceLT, Int.reduceLE, Nat.reduceEqDiff, sidsB, Nat.reduceBEq, keyKD, isIntK]
      first | done | rfl
  · rw [decide_eq_false hv, textB, if_neg hv]
    simp (config := { maxSteps := 1000000 }) (disch := ((try simp only [awL]); omega)) only [nextC_more, nextC_over, bs_size, bs_extract, bs_toList, bs_append, byteAt_bs, bs_cells, nums_length, nums_getD, ↓awU, awV, awF, ofVal, ofVal0, isShift, aggK, forall_const, ↓reduceIte, ↓reduceDIte, ↓purePost, combine, idsA, cellsA, numsOf, srcA, calleeA, refsA, isScalar, scalarD, scalar0, AV.one, putL, unfA, implies_true, IntKind.signed, Nat.reduceAdd, Nat.reduceSub, Nat.reduceMul, Nat.reducePow, Nat.reduceDiv, Nat.reduceMod, Int.reduceAdd, Int.reduceSub, Int.reduceMul, Int.reducePow, Int.reduceNeg, Int.reduceToNat, Int.reduceLT, Int.reduceLE, Nat.reduceEqDiff, sidsB, Nat.reduceBEq, keyKD, isIntK]
    first | done | rfl
def textF (x : Rat) : List UInt8 := if x.den = 1 then textB x.num else textB x.num ++ [47] ++ textB x.den
set_option maxHeartbeats 2000000 in
set_option maxRecDepth 100000 in
theorem text_spec (hG : HG G) (x : Rat) (hx : FV x) : Ctr Tryz.prog G 27 [.d (Frac x)] [] (.d (S (textF x))) [] := by
  have hx' := hx
  obtain ⟨h1, h2⟩ := hx'
  have hG' := hG
  unfold HG at hG
  have t1 := @textB_len x.num
  have t2 := @textB_len x.den
  refine Ctr.pure (M := M0) hmix Tryz.func27 rfl go27 ?_
  simp (config := { maxSteps := 1000000 }) (disch := ((try simp only [awL]); omega)) only [nextC_more, nextC_over, bs_size, bs_extract, bs_toList, bs_append, byteAt_bs, bs_cells, nums_length, nums_getD, Tryz.f27, ↓awU, awV, awF, ofVal, ofVal0, isShift, aggK, forall_const, ↓reduceIte, ↓reduceDIte, ↓purePost, combine, idsA, cellsA, numsOf, srcA, calleeA, refsA, isScalar, scalarD, scalar0, AV.one, putL, unfA, implies_true, IntKind.signed, Nat.reduceAdd, Nat.reduceSub, Nat.reduceMul, Nat.reducePow, Nat.reduceDiv, Nat.reduceMod, Int.reduceAdd, Int.reduceSub, Int.reduceMul, Int.reducePow, Int.reduceNeg, Int.reduceToNat, Int.reduceLT, Int.reduceLE, Nat.reduceEqDiff, sidsB, Nat.reduceBEq, keyKD, isIntK]
  refine CallC.pure (valid_spec hG' x (by omega) (by omega)) ?_
  rw [decide_eq_true hx]
  simp (config := { maxSteps := 1000000 }) (disch := ((try simp only [awL]); omega)) only [hG, nextC_more, nextC_over, bs_size, bs_extract, bs_toList, bs_append, byteAt_bs, bs_cells, nums_length, nums_getD, ↓awU, awV, awF, ofVal, ofVal0, isShift, aggK, forall_const, ↓reduceIte, ↓reduceDIte, ↓purePost, combine, idsA, cellsA, numsOf, srcA, calleeA, refsA, isScalar, scalarD, scalar0, AV.one, putL, unfA, implies_true, IntKind.signed, Nat.reduceAdd, Nat.reduceSub, Nat.reduceMul, Nat.reducePow, Nat.reduceDiv, Nat.reduceMod, Int.reduceAdd, Int.reduceSub, Int.reduceMul, Int.reducePow, Int.reduceNeg, Int.reduceToNat, Int.reduceLT, Int.reduceLE, Nat.reduceEqDiff, sidsB, Nat.reduceBEq, keyKD, isIntK]
  refine CallC.of (compare_spec x.den 1 (by omega) (by rw [toW_one]; decide)) (by rw [toW_one]; rfl) ?_
  by_cases hd : x.den = 1
  · have : cmpI (x.den : Int) ((1 : Nat) : Int) = 0 := cmpI_eq (by omega)
    rw [this, textF, if_pos hd]
    simp (config := { maxSteps := 1000000 }) (disch := ((try simp only [awL]); omega)) only [hG, nextC_more, nextC_over, bs_size, bs_extract, bs_toList, bs_append, byteAt_bs, bs_cells, nums_length, nums_getD, ↓awU, awV, awF, ofVal, ofVal0, isShift, aggK, forall_const, ↓reduceIte, ↓reduceDIte, ↓purePost, combine, idsA, cellsA, numsOf, srcA, calleeA, refsA, isScalar, scalarD, scalar0, AV.one, putL, unfA, implies_true, IntKind.signed, Nat.reduceAdd, Nat.reduceSub, Nat.reduceMul, Nat.reducePow, Nat.reduceDiv, Nat.reduceMod, Int.reduceAdd, Int.reduceSub, Int.reduceMul, Int.reducePow, Int.reduceNeg, Int.reduceToNat, Int.reduceLT, Int.reduceLE, Nat.reduceEqDiff, sidsB, Nat.reduceBEq, keyKD, isIntK]
    refine CallC.of (textBig_spec x.num) (by simp [bigL, W]) ?_
    simp (config := { maxSteps := 1000000 }) (disch := ((try simp only [awL]); omega)) only [hG, nextC_more, nextC_over, bs_size, bs_extract, bs_toList, bs_append, byteAt_bs, bs_cells, nums_length, nums_getD, ↓awU, awV, awF, ofVal, ofVal0, isShift, aggK, forall_const, ↓reduceIte, ↓reduceDIte, ↓purePost, combine, idsA, cellsA, numsOf, srcA, calleeA, refsA, isScalar, scalarD, scalar0, AV.one, putL, unfA, implies_true, IntKind.signed, Nat.reduceAdd, Nat.reduceSub, Nat.reduceMul, Nat.reducePow, Nat.reduceDiv, Nat.reduceMod, Int.reduceAdd, Int.reduceSub, Int.reduceMul, Int.reducePow, Int.reduceNeg, Int.reduceToNat, Int.reduceLT, Int.reduceLE, Nat.reduceEqDiff, sidsB, Nat.reduceBEq, keyKD, isIntK]
    first | done | rfl
  · have hc : cmpI (x.den : Int) ((1 : Nat) : Int) ≠ 0 := by
      have := x.den_pos
      rw [cmpI_gt (by omega)]; decide
    rw [textF, if_neg hd]
    generalize cmpI (x.den : Int) ((1 : Nat) : Int) = z at *
    simp (config := { maxSteps := 1000000 }) (disch := ((try simp only [awL]); omega)) only [hG, nextC_more, nextC_over, bs_size, bs_extract, bs_toList, bs_append, byteAt_bs, bs_cells, nums_length, nums_getD, ↓awU, awV, awF, ofVal, ofVal0, isShift, aggK, forall_const, ↓reduceIte, ↓reduceDIte, ↓purePost, combine, idsA, cellsA, numsOf, srcA, calleeA, refsA, isScalar, scalarD, scalar0, AV.one, putL, unfA, implies_true, IntKind.signed, Nat.reduceAdd, Nat.reduceSub, Nat.reduceMul, Nat.reducePow, Nat.reduceDiv, Nat.reduceMod, Int.reduceAdd, Int.reduceSub, Int.reduceMul, Int.reducePow, Int.reduceNeg, Int.reduceToNat, Int.reduceLT, Int.reduceLE, Nat.reduceEqDiff, sidsB, Nat.reduceBEq, keyKD, isIntK]
    refine CallC.of (textBig_spec x.num) (by simp [bigL, W]) ?_
    simp (config := { maxSteps := 1000000 }) (disch := ((try simp only [awL]); omega)) only [hG, nextC_more, nextC_over, bs_size, bs_extract, bs_toList, bs_append, byteAt_bs, bs_cells, nums_length, nums_getD, ↓awU, awV, awF, ofVal, ofVal0, isShift, aggK, forall_const, ↓reduceIte, ↓reduceDIte, ↓purePost, combine, idsA, cellsA, numsOf, srcA, calleeA, refsA, isScalar, scalarD, scalar0, AV.one, putL, unfA, implies_true, IntKind.signed, Nat.reduceAdd, Nat.reduceSub, Nat.reduceMul, Nat.reducePow, Nat.reduceDiv, Nat.reduceMod, Int.reduceAdd, Int.reduceSub, Int.reduceMul, Int.reducePow, Int.reduceNeg, Int.reduceToNat, Int.reduceLT, Int.reduceLE, Nat.reduceEqDiff, sidsB, Nat.reduceBEq, keyKD, isIntK]
    refine CallC.of (textBig_spec x.den) (by rw [Big, bigL_nat]) ?_
    simp (config := { maxSteps := 1000000 }) (disch := ((try simp only [awL]); omega)) only [hG, nextC_more, nextC_over, bs_size, bs_extract, bs_toList, bs_append, byteAt_bs, bs_cells, nums_length, nums_getD, ↓awU, awV, awF, ofVal, ofVal0, isShift, aggK, forall_const, ↓reduceIte, ↓reduceDIte, ↓purePost, combine, idsA, cellsA, numsOf, srcA, calleeA, refsA, isScalar, scalarD, scalar0, AV.one, putL, unfA, implies_true, IntKind.signed, Nat.reduceAdd, Nat.reduceSub, Nat.reduceMul, Nat.reducePow, Nat.reduceDiv, Nat.reduceMod, Int.reduceAdd, Int.reduceSub, Int.reduceMul, Int.reducePow, Int.reduceNeg, Int.reduceToNat, Int.reduceLT, Int.reduceLE, Nat.reduceEqDiff, sidsB, Nat.reduceBEq, keyKD, isIntK]
    first | done | rfl
end Go.Proofs.YtkppgdialedoeaaGreatDoor

namespace Go.Proofs.YtkppgdialedoeaaGreatDoor
open Go Go.Proofs Go.Abs
variable {G : Globals}
/-! Decimals. -/
def decNeg (s : List UInt8) : Bool := hasP s [45]
def decBody (s : List UInt8) : List UInt8 := if hasP s [45] then s.drop 1 else if hasP s [43] then s.drop 1 else s
def decF (s : List UInt8) : List UInt8 := cutL 46 (decBody s)
def decB (s : List UInt8) : List UInt8 := cutR 46 (decBody s)
def decOk (s : List UInt8) : Bool := digB (decF s) 15 && (!decide (46 ∈ decBody s) || digB (decB s) 9)
def decNum (l : List UInt8) : Nat := l.foldl (fun v b => v * 10 + (b.toNat - 48)) 0
def decVal (s : List UInt8) : Rat := Rat.divInt (if decNeg s then -(decNum (decF s ++ decB s) : Int) else (decNum (decF s ++ decB s) : Int)) ((10 ^ (decB s).length : Nat) : Int)
theorem decNum_push {l : List UInt8} {i : Nat} (h : i < l.length) : decNum (l.take i) * 10 + ((l.getD i 0).toNat - 48) = decNum (l.take (i + 1)) := by
  rw [take_snoc h, decNum, decNum, List.foldl_append]; rfl
theorem cutL_len {c : UInt8} : ∀ s : List UInt8, (cutL c s).length ≤ s.length
  | [] => Nat.le_refl _
  | b :: l => by
    have := cutL_len (c := c) l
    rw [cutL]; split <;> simp; exact this
theorem cutR_none {c : UInt8} {s : List UInt8} (h : c ∉ s) : cutR c s = [] := ((cut_index c s).2 h).2.2
theorem cutR_len {c : UInt8} : ∀ s : List UInt8, (cutR c s).length ≤ s.length
  | [] => Nat.le_refl _
  | b :: l => by
    have := cutR_len (c := c) l
    rw [cutR]; split <;> simp; omega
theorem dig_range {b : UInt8} (h : dig10.contains b = true) : 48 ≤ b.toNat ∧ b.toNat ≤ 57 := by
  have : b ∈ dig10 := by simpa using h
  simp only [dig10, List.mem_cons, List.not_mem_nil, or_false] at this
  rcases this with rfl | rfl | rfl | rfl | rfl | rfl | rfl | rfl | rfl | rfl <;> decide
theorem decNum_lt {l : List UInt8} (h : ∀ b ∈ l, dig10.contains b = true) : decNum l < 10 ^ l.length := by
  have key : ∀ (l : List UInt8) (v : Nat), (∀ b ∈ l, dig10.contains b = true) → l.foldl (fun v b => v * 10 + (b.toNat - 48)) v < (v + 1) * 10 ^ l.length := by
    intro l
    induction l with
    | nil => intro v _; simp
    | cons b l ih =>
      intro v hl
      have hb := dig_range (hl b (List.mem_cons_self ..))
      have := ih (v * 10 + (b.toNat - 48)) (fun c hc => hl c (List.mem_cons_of_mem _ hc))
      rw [List.foldl_cons, List.length_cons, Nat.pow_succ]
      refine Nat.lt_of_lt_of_le this ?_
      rw [Nat.mul_comm (10 ^ l.length) 10, ← Nat.mul_assoc]
      exact Nat.mul_le_mul_right _ (by omega)
  have := key l 0 h
  rw [Nat.zero_add, Nat.one_mul] at this
  exact this
theorem cells_nums {l : List UInt8} : (l.map fun b => D.int .u8 (b.toNat : Int)) = ints .u8 (nums l) := by simp [ints, nums]
theorem decOk_facts {s : List UInt8} (h : decOk s = true) : (∀ b ∈ decF s ++ decB s, dig10.contains b = true) ∧ (decF s ++ decB s).length ≤ 24 ∧ (decB s).length ≤ 9 := by
  unfold decOk at h
  rw [Bool.and_eq_true, Bool.or_eq_true] at h
  obtain ⟨h1, h2⟩ := h
  unfold digB at h1
  rw [Bool.and_eq_true, decide_eq_true_eq] at h1
  have hb : (decB s).length ≤ 9 ∧ ∀ b ∈ decB s, dig10.contains b = true := by
    rcases h2 with h2 | h2
    · have e : decB s = [] := cutR_none (by simpa using h2)
      rw [e]; exact ⟨by simp, fun b hb => by cases hb⟩
    · unfold digB at h2
      rw [Bool.and_eq_true, decide_eq_true_eq] at h2
      exact ⟨by omega, fun b hb => List.all_eq_true.1 h2.2 b hb⟩
  refine ⟨fun b hb' => ?_, by rw [List.length_append]; omega, hb.1⟩
  rcases List.mem_append.1 hb' with h | h
  · exact List.all_eq_true.1 h1.2 b h
  · exact hb.2 b h
theorem toW_10 : toW 10 = [10] := by rw [toW_pos (by decide), show 10 / B = 0 from rfl, toW_zero]; rfl
theorem sz_small {n k : Nat} (h : n < 10 ^ k) : (toW n).length ≤ k := toW_length_le (Nat.lt_of_lt_of_le h (Nat.pow_le_pow_left (by decide) _))
set_option maxHeartbeats 4000000 in
set_option maxRecDepth 100000 in
theorem decimalF_spec (hG : HG G) (s : List UInt8) (hs : s.length ≤ 1000) : Ctr Tryz.prog G 53 [.d (S s)] [] (.d (.tup [if decOk s = true then Frac (decVal s) else Zf, .bool (decOk s)])) [] := by
  have hG' := hG
  unfold HG at hG
  refine Ctr.pure (M := M0) hmix Tryz.func53 rfl go53 ?_
  simp (config := { maxSteps := 1000000 }) (disch := ((try simp only [awL]); omega)) only [nextC_more, nextC_over, bs_size, bs_extract, bs_toList, bs_append, byteAt_bs, bs_cells, nums_length, nums_getD, Tryz.f53, ↓awU, awV, awF, ofVal, ofVal0, isShift, aggK, forall_const, ↓reduceIte, ↓reduceDIte, ↓purePost, combine, idsA, cellsA, numsOf, srcA, calleeA, refsA, isScalar, scalarD, scalar0, AV.one, putL, unfA, implies_true, IntKind.signed, Nat.reduceAdd, Nat.reduceSub, Nat.reduceMul, Nat.reducePow, Nat.reduceDiv, Nat.reduceMod, Int.reduceAdd, Int.reduceSub, Int.reduceMul, Int.reducePow, Int.reduceNeg, Int.reduceToNat, Int.reduceLT, Int.reduceLE, Nat.reduceEqDiff, sidsB, Nat.reduceBEq, keyKD, isIntK]
  refine CallC.pure (cutPrefix_spec s [45]) ?_
  have hbody : (decBody s).length ≤ s.length := by
    unfold decBody
    split
    · simp
    · split <;> simp
  have l1 := cutL_len (c := 46) (decBody s)
  have l2 := cutR_len (c := 46) (decBody s)
  have hno : decide (46 ∈ decBody s) = false → decB s = [] := fun h => cutR_none (of_decide_eq_false h)
  have hok : decOk s = (digB (decF s) 15 && (!decide (46 ∈ decBody s) || digB (decB s) 9)) := rfl
  have hdv : decVal s = Rat.divInt (if decNeg s then -(decNum (decF s ++ decB s) : Int) else (decNum (decF s ++ decB s) : Int)) ((10 ^ (decB s).length : Nat) : Int) := rfl
  have f1 : cutL 46 (decBody s) = decF s := rfl
  have f2 : cutR 46 (decBody s) = decB s := rfl
  rw [f1] at l1
  rw [f2] at l2
  cases h45 : hasP s [45]
  · simp (config := { maxSteps := 1000000 }) (disch := ((try simp only [awL]); omega)) only [nextC_more, nextC_over, bs_size, bs_extract, bs_toList, bs_append, byteAt_bs, bs_cells, nums_length, nums_getD, ↓awU, awV, awF, ofVal, ofVal0, isShift, aggK, forall_const, ↓reduceIte, ↓reduceDIte, ↓purePost, combine, idsA, cellsA, numsOf, srcA, calleeA, refsA, isScalar, scalarD, scalar0, AV.one, putL, unfA, implies_true, IntKind.signed, Nat.reduceAdd, Nat.reduceSub, Nat.reduceMul, Nat.reducePow, Nat.reduceDiv, Nat.reduceMod, Int.reduceAdd, Int.reduceSub, Int.reduceMul, Int.reducePow, Int.reduceNeg, Int.reduceToNat, Int.reduceLT, Int.reduceLE, Nat.reduceEqDiff, sidsB, Nat.reduceBEq, keyKD, isIntK]
    refine CallC.pure (trimPrefix_spec s [43]) ?_
    have eb : (if hasP s [43] then s.drop ([43] : List UInt8).length else s) = decBody s := by rw [decBody, h45]; rfl
    have en : decNeg s = false := h45
    rw [eb]
    rw [en] at hdv
    simp (config := { maxSteps := 1000000 }) (disch := ((try simp only [awL]); omega)) only [nextC_more, nextC_over, bs_size, bs_extract, bs_toList, bs_append, byteAt_bs, bs_cells, nums_length, nums_getD, ↓awU, awV, awF, ofVal, ofVal0, isShift, aggK, forall_const, ↓reduceIte, ↓reduceDIte, ↓purePost, combine, idsA, cellsA, numsOf, srcA, calleeA, refsA, isScalar, scalarD, scalar0, AV.one, putL, unfA, implies_true, IntKind.signed, Nat.reduceAdd, Nat.reduceSub, Nat.reduceMul, Nat.reducePow, Nat.reduceDiv, Nat.reduceMod, Int.reduceAdd, Int.reduceSub, Int.reduceMul, Int.reducePow, Int.reduceNeg, Int.reduceToNat, Int.reduceLT, Int.reduceLE, Nat.reduceEqDiff, sidsB, Nat.reduceBEq, keyKD, isIntK]
    refine CallC.pure (cut_spec (decBody s) 46 (by omega)) ?_
    rw [f1, f2]
    simp (config := { maxSteps := 1000000 }) (disch := ((try simp only [awL]); omega)) only [nextC_more, nextC_over, bs_size, bs_extract, bs_toList, bs_append, byteAt_bs, bs_cells, nums_length, nums_getD, ↓awU, awV, awF, ofVal, ofVal0, isShift, aggK, forall_const, ↓reduceIte, ↓reduceDIte, ↓purePost, combine, idsA, cellsA, numsOf, srcA, calleeA, refsA, isScalar, scalarD, scalar0, AV.one, putL, unfA, implies_true, IntKind.signed, Nat.reduceAdd, Nat.reduceSub, Nat.reduceMul, Nat.reducePow, Nat.reduceDiv, Nat.reduceMod, Int.reduceAdd, Int.reduceSub, Int.reduceMul, Int.reducePow, Int.reduceNeg, Int.reduceToNat, Int.reduceLT, Int.reduceLE, Nat.reduceEqDiff, sidsB, Nat.reduceBEq, keyKD, isIntK]
    refine CallC.pure (digits_spec (decF s) 15 (by omega)) ?_
    cases d1 : digB (decF s) 15
    · rw [hok, d1, Bool.false_and]
      simp (config := { maxSteps := 1000000 }) (disch := ((try simp only [awL]); omega)) only [nextC_more, nextC_over, bs_size, bs_extract, bs_toList, bs_append, byteAt_bs, bs_cells, nums_length, nums_getD, ↓awU, awV, awF, ofVal, ofVal0, isShift, aggK, forall_const, ↓reduceIte, ↓reduceDIte, ↓purePost, combine, idsA, cellsA, numsOf, srcA, calleeA, refsA, isScalar, scalarD, scalar0, AV.one, putL, unfA, implies_true, IntKind.signed, Nat.reduceAdd, Nat.reduceSub, Nat.reduceMul, Nat.reducePow, Nat.reduceDiv, Nat.reduceMod, Int.reduceAdd, Int.reduceSub, Int.reduceMul, Int.reducePow, Int.reduceNeg, Int.reduceToNat, Int.reduceLT, Int.reduceLE, Nat.reduceEqDiff, sidsB, Nat.reduceBEq, keyKD, isIntK]
      first | done | rfl
    · rw [d1, Bool.true_and] at hok
      cases dp : decide (46 ∈ decBody s)
      · rw [dp, Bool.not_false, Bool.true_or] at hok
        obtain ⟨hall, hlen, hlb⟩ := decOk_facts hok
        have hsm : ∀ i, i ≤ (decF s ++ decB s).length → (toW (decNum ((decF s ++ decB s).take i))).length ≤ 30 := fun i hi => by
          have h := decNum_lt (l := (decF s ++ decB s).take i) fun b hb => hall b (List.mem_of_mem_take hb)
          exact sz_small (Nat.lt_of_lt_of_le h (Nat.pow_le_pow_right (by decide) (by rw [List.length_take]; omega)))
        have hlt : ∀ i, i ≤ (decF s ++ decB s).length → decNum ((decF s ++ decB s).take i) * 10 < 10 ^ 30 := fun i hi => by
          have h := decNum_lt (l := (decF s ++ decB s).take i) fun b hb => hall b (List.mem_of_mem_take hb)
          have h2 : 10 ^ ((decF s ++ decB s).take i).length ≤ 10 ^ 29 := Nat.pow_le_pow_right (by decide) (by rw [List.length_take]; omega)
          have h3 : (10 : Nat) ^ 30 = 10 ^ 29 * 10 := rfl
          omega
        rw [if_pos hok, hok]
        generalize hL : decF s ++ decB s = L at *
        simp (config := { maxSteps := 1000000 }) (disch := ((try simp only [awL]); omega)) only [hG, nextC_more, nextC_over, bs_size, bs_extract, bs_toList, bs_append, byteAt_bs, bs_cells, nums_length, nums_getD, ↓awU, awV, awF, ofVal, ofVal0, isShift, aggK, forall_const, ↓reduceIte, ↓reduceDIte, ↓purePost, combine, idsA, cellsA, numsOf, srcA, calleeA, refsA, isScalar, scalarD, scalar0, AV.one, putL, unfA, implies_true, IntKind.signed, Nat.reduceAdd, Nat.reduceSub, Nat.reduceMul, Nat.reducePow, Nat.reduceDiv, Nat.reduceMod, Int.reduceAdd, Int.reduceSub, Int.reduceMul, Int.reducePow, Int.reduceNeg, Int.reduceToNat, Int.reduceLT, Int.reduceLE, Nat.reduceEqDiff, sidsB, Nat.reduceBEq, keyKD, isIntK]
        refine CallC.of (clone_spec [1] (by decide)) (by rfl) ?_
        simp (config := { maxSteps := 1000000 }) (disch := ((try simp only [awL]); omega)) only [hG, nextC_more, nextC_over, bs_size, bs_extract, bs_toList, bs_append, byteAt_bs, bs_cells, nums_length, nums_getD, hL, cells_nums, ↓awU, awV, awF, ofVal, ofVal0, isShift, aggK, forall_const, ↓reduceIte, ↓reduceDIte, ↓purePost, combine, idsA, cellsA, numsOf, srcA, calleeA, refsA, isScalar, scalarD, scalar0, AV.one, putL, unfA, implies_true, IntKind.signed, Nat.reduceAdd, Nat.reduceSub, Nat.reduceMul, Nat.reducePow, Nat.reduceDiv, Nat.reduceMod, Int.reduceAdd, Int.reduceSub, Int.reduceMul, Int.reducePow, Int.reduceNeg, Int.reduceToNat, Int.reduceLT, Int.reduceLE, Nat.reduceEqDiff, sidsB, Nat.reduceBEq, keyKD, isIntK]
        refine LoopC.fr 422212465069220 (α := Nat) (fun i => L.length - i) (fun i => [(9, .d (W (toW (decNum (L.take i))))), (49, .d (.int .i64 i))])
          (fun _ => [.box [.d (.bool false), .d (.sl 0 true []), .d (.bool false), .d (.sl 0 true [])], .row true (nats .u32 [10]), .row false (ints .u8 (nums L))]) (fun i => i ≤ L.length) 0 (Nat.zero_le _) ?_ ?_
        · exact ⟨[some 0, some 1, some 2], rfl, by simp, by simp [setsA, keepA, SWeak, AWeak, decNum, toW_zero, nats], by simp [HWeak, BWeak, SWeak, AWeak, nats]⟩
        · intro i hi
          have lt := hsm i hi
          have nl := @nums_length L
          simp only [keepA_z8, keepA_z, keepA_cons, keepA_nil, setsA_nil, setsA_cons, List.set_cons_zero, List.set_cons_succ, set_8, Nat.reduceMod, Nat.reduceDiv, Nat.zero_mod, Nat.zero_ne_one, if_true, if_false, reduceIte]
          rcases Nat.lt_or_ge i L.length with h1 | h1
          · have hb := dig_range (hall _ (mem_getDU (d := 0) h1))
            have hp := decNum_push h1
            have ls := sz_small (n := (L.getD i 0).toNat - 48) (k := 2) (by omega)
            have e48 : ((L.getD i 0).toNat : Int) - 48 = (((L.getD i 0).toNat - 48 : Nat) : Int) := by omega
            have lm : (toW (decNum (L.take i) * 10)).length ≤ 40 := sz_small (Nat.lt_of_lt_of_le (hlt i hi) (by decide))
            simp (config := { maxSteps := 1000000 }) (disch := ((try simp only [awL]); omega)) only [hG, nextC_more, nextC_over, bs_size, bs_extract, bs_toList, bs_append, byteAt_bs, bs_cells, nums_length, nums_getD, nl, ↓awU, awV, awF, ofVal, ofVal0, isShift, aggK, forall_const, ↓reduceIte, ↓reduceDIte, ↓purePost, combine, idsA, cellsA, numsOf, srcA, calleeA, refsA, isScalar, scalarD, scalar0, AV.one, putL, unfA, implies_true, IntKind.signed, Nat.reduceAdd, Nat.reduceSub, Nat.reduceMul, Nat.reducePow, Nat.reduceDiv, Nat.reduceMod, Int.reduceAdd, Int.reduceSub, Int.reduceMul, Int.reducePow, Int.reduceNeg, Int.reduceToNat, Int.reduceLT, Int.reduceLE, Nat.reduceEqDiff, sidsB, Nat.reduceBEq, keyKD, isIntK]
            refine CallC.frozenE (times_spec (decNum (L.take i)) 10 (by omega) (by rw [toW_10]; decide)) (by rw [toW_10]; rfl) ?_
            simp (config := { maxSteps := 1000000 }) (disch := ((try simp only [awL]); omega)) only [hG, nextC_more, nextC_over, bs_size, bs_extract, bs_toList, bs_append, byteAt_bs, bs_cells, nums_length, nums_getD, nl, e48, ↓awU, awV, awF, ofVal, ofVal0, isShift, aggK, forall_const, ↓reduceIte, ↓reduceDIte, ↓purePost, combine, idsA, cellsA, numsOf, srcA, calleeA, refsA, isScalar, scalarD, scalar0, AV.one, putL, unfA, implies_true, IntKind.signed, Nat.reduceAdd, Nat.reduceSub, Nat.reduceMul, Nat.reducePow, Nat.reduceDiv, Nat.reduceMod, Int.reduceAdd, Int.reduceSub, Int.reduceMul, Int.reducePow, Int.reduceNeg, Int.reduceToNat, Int.reduceLT, Int.reduceLE, Nat.reduceEqDiff, sidsB, Nat.reduceBEq, keyKD, isIntK]
            refine CallC.pure (natural_spec ((L.getD i 0).toNat - 48) (by omega)) ?_
            simp (config := { maxSteps := 1000000 }) (disch := ((try simp only [awL]); omega)) only [hG, nextC_more, nextC_over, bs_size, bs_extract, bs_toList, bs_append, byteAt_bs, bs_cells, nums_length, nums_getD, nl, ↓awU, awV, awF, ofVal, ofVal0, isShift, aggK, forall_const, ↓reduceIte, ↓reduceDIte, ↓purePost, combine, idsA, cellsA, numsOf, srcA, calleeA, refsA, isScalar, scalarD, scalar0, AV.one, putL, unfA, implies_true, IntKind.signed, Nat.reduceAdd, Nat.reduceSub, Nat.reduceMul, Nat.reducePow, Nat.reduceDiv, Nat.reduceMod, Int.reduceAdd, Int.reduceSub, Int.reduceMul, Int.reducePow, Int.reduceNeg, Int.reduceToNat, Int.reduceLT, Int.reduceLE, Nat.reduceEqDiff, sidsB, Nat.reduceBEq, keyKD, isIntK]
            refine CallC.pure (plus_spec (decNum (L.take i) * 10) ((L.getD i 0).toNat - 48) (by omega) (by omega)) ?_
            rw [hp]
            simp (config := { maxSteps := 1000000 }) (disch := ((try simp only [awL]); omega)) only [hG, nextC_more, nextC_over, bs_size, bs_extract, bs_toList, bs_append, byteAt_bs, bs_cells, nums_length, nums_getD, nl, ↓awU, awV, awF, ofVal, ofVal0, isShift, aggK, forall_const, ↓reduceIte, ↓reduceDIte, ↓purePost, combine, idsA, cellsA, numsOf, srcA, calleeA, refsA, isScalar, scalarD, scalar0, AV.one, putL, unfA, implies_true, IntKind.signed, Nat.reduceAdd, Nat.reduceSub, Nat.reduceMul, Nat.reducePow, Nat.reduceDiv, Nat.reduceMod, Int.reduceAdd, Int.reduceSub, Int.reduceMul, Int.reducePow, Int.reduceNeg, Int.reduceToNat, Int.reduceLT, Int.reduceLE, Nat.reduceEqDiff, sidsB, Nat.reduceBEq, keyKD, isIntK]
            exact ⟨i + 1, h1, by simp only; omega, ⟨[some 0, some 1, some 2], rfl, by simp, by simp [setsA, keepA, SWeak, AWeak], by simp [HWeak, BWeak, SWeak, AWeak]⟩⟩
          · obtain rfl : i = L.length := by omega
            rw [List.take_length] at *
            simp (config := { maxSteps := 1000000 }) (disch := ((try simp only [awL]); omega)) only [hG, nextC_more, nextC_over, bs_size, bs_extract, bs_toList, bs_append, byteAt_bs, bs_cells, nums_length, nums_getD, nl, ↓awU, awV, awF, ofVal, ofVal0, isShift, aggK, forall_const, ↓reduceIte, ↓reduceDIte, ↓purePost, combine, idsA, cellsA, numsOf, srcA, calleeA, refsA, isScalar, scalarD, scalar0, AV.one, putL, unfA, implies_true, IntKind.signed, Nat.reduceAdd, Nat.reduceSub, Nat.reduceMul, Nat.reducePow, Nat.reduceDiv, Nat.reduceMod, Int.reduceAdd, Int.reduceSub, Int.reduceMul, Int.reducePow, Int.reduceNeg, Int.reduceToNat, Int.reduceLT, Int.reduceLE, Nat.reduceEqDiff, sidsB, Nat.reduceBEq, keyKD, isIntK]
            refine LoopC.fr 9223372036854777380 (α := Nat) (fun j => (decB s).length - j) (fun j => [(11, .d (W (toW (10 ^ j)))), (64, .d (.int .i64 j))])
              (fun _ => [.box [.d (.bool false), .d (.sl 0 true []), .d (.bool false), .d (.sl 0 true [])], .row true (nats .u32 [10]), .row false (ints .u8 (nums L))]) (fun j => j ≤ (decB s).length) 0 (Nat.zero_le _) ?_ ?_
            · exact ⟨[some 0, some 1, some 2], rfl, by simp, by simp [setsA, keepA, SWeak, AWeak, toW_one], by simp [HWeak, BWeak, SWeak, AWeak, nats]⟩
            · intro j hj
              have lj : (toW (10 ^ j)).length ≤ 10 := sz_small (Nat.pow_lt_pow_right (by decide) (by omega))
              simp only [keepA_z8, keepA_z, keepA_cons, keepA_nil, setsA_nil, setsA_cons, List.set_cons_zero, List.set_cons_succ, set_8, Nat.reduceMod, Nat.reduceDiv, Nat.zero_mod, Nat.zero_ne_one, if_true, if_false, reduceIte]
              rcases Nat.lt_or_ge j (decB s).length with h2 | h2
              · simp (config := { maxSteps := 1000000 }) (disch := ((try simp only [awL]); omega)) only [hG, nextC_more, nextC_over, bs_size, bs_extract, bs_toList, bs_append, byteAt_bs, bs_cells, nums_length, nums_getD, ↓awU, awV, awF, ofVal, ofVal0, isShift, aggK, forall_const, ↓reduceIte, ↓reduceDIte, ↓purePost, combine, idsA, cellsA, numsOf, srcA, calleeA, refsA, isScalar, scalarD, scalar0, AV.one, putL, unfA, implies_true, IntKind.signed, Nat.reduceAdd, Nat.reduceSub, Nat.reduceMul, Nat.reducePow, Nat.reduceDiv, Nat.reduceMod, Int.reduceAdd, Int.reduceSub, Int.reduceMul, Int.reducePow, Int.reduceNeg, Int.reduceToNat, Int.reduceLT, Int.reduceLE, Nat.reduceEqDiff, sidsB, Nat.reduceBEq, keyKD, isIntK]
                refine CallC.frozenE (times_spec (10 ^ j) 10 (by omega) (by rw [toW_10]; decide)) (by rw [toW_10]; rfl) ?_
                rw [← Nat.pow_succ]
                simp (config := { maxSteps := 1000000 }) (disch := ((try simp only [awL]); omega)) only [hG, nextC_more, nextC_over, bs_size, bs_extract, bs_toList, bs_append, byteAt_bs, bs_cells, nums_length, nums_getD, ↓awU, awV, awF, ofVal, ofVal0, isShift, aggK, forall_const, ↓reduceIte, ↓reduceDIte, ↓purePost, combine, idsA, cellsA, numsOf, srcA, calleeA, refsA, isScalar, scalarD, scalar0, AV.one, putL, unfA, implies_true, IntKind.signed, Nat.reduceAdd, Nat.reduceSub, Nat.reduceMul, Nat.reducePow, Nat.reduceDiv, Nat.reduceMod, Int.reduceAdd, Int.reduceSub, Int.reduceMul, Int.reducePow, Int.reduceNeg, Int.reduceToNat, Int.reduceLT, Int.reduceLE, Nat.reduceEqDiff, sidsB, Nat.reduceBEq, keyKD, isIntK]
                exact ⟨j + 1, h2, by simp only; omega, ⟨[some 0, some 1, some 2], rfl, by simp, by simp [setsA, keepA, SWeak, AWeak], by simp [HWeak, BWeak, SWeak, AWeak]⟩⟩
              · obtain rfl : j = (decB s).length := by omega
                have hd0 : ((10 ^ (decB s).length : Nat) : Int) ≠ 0 := by
                  have : 0 < 10 ^ (decB s).length := Nat.pow_pos (by decide)
                  omega
                simp (config := { maxSteps := 1000000 }) (disch := ((try simp only [awL]); omega)) only [hG, nextC_more, nextC_over, bs_size, bs_extract, bs_toList, bs_append, byteAt_bs, bs_cells, nums_length, nums_getD, ↓awU, awV, awF, ofVal, ofVal0, isShift, aggK, forall_const, ↓reduceIte, ↓reduceDIte, ↓purePost, combine, idsA, cellsA, numsOf, srcA, calleeA, refsA, isScalar, scalarD, scalar0, AV.one, putL, unfA, implies_true, IntKind.signed, Nat.reduceAdd, Nat.reduceSub, Nat.reduceMul, Nat.reducePow, Nat.reduceDiv, Nat.reduceMod, Int.reduceAdd, Int.reduceSub, Int.reduceMul, Int.reducePow, Int.reduceNeg, Int.reduceToNat, Int.reduceLT, Int.reduceLE, Nat.reduceEqDiff, sidsB, Nat.reduceBEq, keyKD, isIntK]
                refine CallC.pure (signed_spec false (decNum L) (by omega)) ?_
                simp (config := { maxSteps := 1000000 }) (disch := ((try simp only [awL]); omega)) only [hG, nextC_more, nextC_over, bs_size, bs_extract, bs_toList, bs_append, byteAt_bs, bs_cells, nums_length, nums_getD, ↓awU, awV, awF, ofVal, ofVal0, isShift, aggK, forall_const, ↓reduceIte, ↓reduceDIte, ↓purePost, combine, idsA, cellsA, numsOf, srcA, calleeA, refsA, isScalar, scalarD, scalar0, AV.one, putL, unfA, implies_true, IntKind.signed, Nat.reduceAdd, Nat.reduceSub, Nat.reduceMul, Nat.reducePow, Nat.reduceDiv, Nat.reduceMod, Int.reduceAdd, Int.reduceSub, Int.reduceMul, Int.reducePow, Int.reduceNeg, Int.reduceToNat, Int.reduceLT, Int.reduceLE, Nat.reduceEqDiff, sidsB, Nat.reduceBEq, keyKD, isIntK]
                refine CallC.pure (signed_spec false (10 ^ (decB s).length) (by omega)) ?_
                simp (config := { maxSteps := 1000000 }) (disch := ((try simp only [awL]); omega)) only [hG, nextC_more, nextC_over, bs_size, bs_extract, bs_toList, bs_append, byteAt_bs, bs_cells, nums_length, nums_getD, ↓awU, awV, awF, ofVal, ofVal0, isShift, aggK, forall_const, ↓reduceIte, ↓reduceDIte, ↓purePost, combine, idsA, cellsA, numsOf, srcA, calleeA, refsA, isScalar, scalarD, scalar0, AV.one, putL, unfA, implies_true, IntKind.signed, Nat.reduceAdd, Nat.reduceSub, Nat.reduceMul, Nat.reducePow, Nat.reduceDiv, Nat.reduceMod, Int.reduceAdd, Int.reduceSub, Int.reduceMul, Int.reducePow, Int.reduceNeg, Int.reduceToNat, Int.reduceLT, Int.reduceLE, Nat.reduceEqDiff, sidsB, Nat.reduceBEq, keyKD, isIntK]
                refine CallC.of (reduced_spec (if false = true then -(decNum L : Int) else (decNum L : Int)) ((10 ^ (decB s).length : Nat) : Int) hd0 (by simp only [sz]; split <;> simp <;> omega) (by simp only [sz, Int.natAbs_natCast]; omega)) (by rfl) ?_
                rw [← hdv]
                simp (config := { maxSteps := 1000000 }) (disch := ((try simp only [awL]); omega)) only [hG, nextC_more, nextC_over, bs_size, bs_extract, bs_toList, bs_append, byteAt_bs, bs_cells, nums_length, nums_getD, ↓awU, awV, awF, ofVal, ofVal0, isShift, aggK, forall_const, ↓reduceIte, ↓reduceDIte, ↓purePost, combine, idsA, cellsA, numsOf, srcA, calleeA, refsA, isScalar, scalarD, scalar0, AV.one, putL, unfA, implies_true, IntKind.signed, Nat.reduceAdd, Nat.reduceSub, Nat.reduceMul, Nat.reducePow, Nat.reduceDiv, Nat.reduceMod, Int.reduceAdd, Int.reduceSub, Int.reduceMul, Int.reducePow, Int.reduceNeg, Int.reduceToNat, Int.reduceLT, Int.reduceLE, Nat.reduceEqDiff, sidsB, Nat.reduceBEq, keyKD, isIntK]
                first | done | rfl
      · rw [dp, Bool.not_true, Bool.false_or] at hok
        simp (config := { maxSteps := 1000000 }) (disch := ((try simp only [awL]); omega)) only [nextC_more, nextC_over, bs_size, bs_extract, bs_toList, bs_append, byteAt_bs, bs_cells, nums_length, nums_getD, ↓awU, awV, awF, ofVal, ofVal0, isShift, aggK, forall_const, ↓reduceIte, ↓reduceDIte, ↓purePost, combine, idsA, cellsA, numsOf, srcA, calleeA, refsA, isScalar, scalarD, scalar0, AV.one, putL, unfA, implies_true, IntKind.signed, Nat.reduceAdd, Nat.reduceSub, Nat.reduceMul, Nat.reducePow, Nat.reduceDiv, Nat.reduceMod, Int.reduceAdd, Int.reduceSub, Int.reduceMul, Int.reducePow, Int.reduceNeg, Int.reduceToNat, Int.reduceLT, Int.reduceLE, Nat.reduceEqDiff, sidsB, Nat.reduceBEq, keyKD, isIntK]
        refine CallC.pure (digits_spec (decB s) 9 (by omega)) ?_
        cases d2 : digB (decB s) 9
        · rw [hok, d2]
          simp (config := { maxSteps := 1000000 }) (disch := ((try simp only [awL]); omega)) only [nextC_more, nextC_over, bs_size, bs_extract, bs_toList, bs_append, byteAt_bs, bs_cells, nums_length, nums_getD, ↓awU, awV, awF, ofVal, ofVal0, isShift, aggK, forall_const, ↓reduceIte, ↓reduceDIte, ↓purePost, combine, idsA, cellsA, numsOf, srcA, calleeA, refsA, isScalar, scalarD, scalar0, AV.one, putL, unfA, implies_true, IntKind.signed, Nat.reduceAdd, Nat.reduceSub, Nat.reduceMul, Nat.reducePow, Nat.reduceDiv, Nat.reduceMod, Int.reduceAdd, Int.reduceSub, Int.reduceMul, Int.reducePow, Int.reduceNeg, Int.reduceToNat, Int.reduceLT, Int.reduceLE, Nat.reduceEqDiff, sidsB, Nat.reduceBEq, keyKD, isIntK]
          first | done | rfl
        · rw [d2] at hok
          obtain ⟨hall, hlen, hlb⟩ := decOk_facts hok
          have hsm : ∀ i, i ≤ (decF s ++ decB s).length → (toW (decNum ((decF s ++ decB s).take i))).length ≤ 30 := fun i hi => by
            have h := decNum_lt (l := (decF s ++ decB s).take i) fun b hb => hall b (List.mem_of_mem_take hb)
            exact sz_small (Nat.lt_of_lt_of_le h (Nat.pow_le_pow_right (by decide) (by rw [List.length_take]; omega)))
          have hlt : ∀ i, i ≤ (decF s ++ decB s).length → decNum ((decF s ++ decB s).take i) * 10 < 10 ^ 30 := fun i hi => by
            have h := decNum_lt (l := (decF s ++ decB s).take i) fun b hb => hall b (List.mem_of_mem_take hb)
            have h2 : 10 ^ ((decF s ++ decB s).take i).length ≤ 10 ^ 29 := Nat.pow_le_pow_right (by decide) (by rw [List.length_take]; omega)
            have h3 : (10 : Nat) ^ 30 = 10 ^ 29 * 10 := rfl
            omega
          rw [if_pos hok, hok]
          generalize hL : decF s ++ decB s = L at *
          simp (config := { maxSteps := 1000000 }) (disch := ((try simp only [awL]); omega)) only [hG, nextC_more, nextC_over, bs_size, bs_extract, bs_toList, bs_append, byteAt_bs, bs_cells, nums_length, nums_getD, ↓awU, awV, awF, ofVal, ofVal0, isShift, aggK, forall_const, ↓reduceIte, ↓reduceDIte, ↓purePost, combine, idsA, cellsA, numsOf, srcA, calleeA, refsA, isScalar, scalarD, scalar0, AV.one, putL, unfA, implies_true, IntKind.signed, Nat.reduceAdd, Nat.reduceSub, Nat.reduceMul, Nat.reducePow, Nat.reduceDiv, Nat.reduceMod, Int.reduceAdd, Int.reduceSub, Int.reduceMul, Int.reducePow, Int.reduceNeg, Int.reduceToNat, Int.reduceLT, Int.reduceLE, Nat.reduceEqDiff, sidsB, Nat.reduceBEq, keyKD, isIntK]
          refine CallC.of (clone_spec [1] (by decide)) (by rfl) ?_
          simp (config := { maxSteps := 1000000 }) (disch := ((try simp only [awL]); omega)) only [hG, nextC_more, nextC_over, bs_size, bs_extract, bs_toList, bs_append, byteAt_bs, bs_cells, nums_length, nums_getD, hL, cells_nums, ↓awU, awV, awF, ofVal, ofVal0, isShift, aggK, forall_const, ↓reduceIte, ↓reduceDIte, ↓purePost, combine, idsA, cellsA, numsOf, srcA, calleeA, refsA, isScalar, scalarD, scalar0, AV.one, putL, unfA, implies_true, IntKind.signed, Nat.reduceAdd, Nat.reduceSub, Nat.reduceMul, Nat.reducePow, Nat.reduceDiv, Nat.reduceMod, Int.reduceAdd, Int.reduceSub, Int.reduceMul, Int.reducePow, Int.reduceNeg, Int.reduceToNat, Int.reduceLT, Int.reduceLE, Nat.reduceEqDiff, sidsB, Nat.reduceBEq, keyKD, isIntK]
          refine LoopC.fr 422212465069220 (α := Nat) (fun i => L.length - i) (fun i => [(9, .d (W (toW (decNum (L.take i))))), (49, .d (.int .i64 i))])
            (fun _ => [.box [.d (.bool false), .d (.sl 0 true []), .d (.bool false), .d (.sl 0 true [])], .row true (nats .u32 [10]), .row false (ints .u8 (nums L))]) (fun i => i ≤ L.length) 0 (Nat.zero_le _) ?_ ?_
          · exact ⟨[some 0, some 1, some 2], rfl, by simp, by simp [setsA, keepA, SWeak, AWeak, decNum, toW_zero, nats], by simp [HWeak, BWeak, SWeak, AWeak, nats]⟩
          · intro i hi
            have lt := hsm i hi
            have nl := @nums_length L
            simp only [keepA_z8, keepA_z, keepA_cons, keepA_nil, setsA_nil, setsA_cons, List.set_cons_zero, List.set_cons_succ, set_8, Nat.reduceMod, Nat.reduceDiv, Nat.zero_mod, Nat.zero_ne_one, if_true, if_false, reduceIte]
            rcases Nat.lt_or_ge i L.length with h1 | h1
            · have hb := dig_range (hall _ (mem_getDU (d := 0) h1))
              have hp := decNum_push h1
              have ls := sz_small (n := (L.getD i 0).toNat - 48) (k := 2) (by omega)
              have e48 : ((L.getD i 0).toNat : Int) - 48 = (((L.getD i 0).toNat - 48 : Nat) : Int) := by omega
              have lm : (toW (decNum (L.take i) * 10)).length ≤ 40 := sz_small (Nat.lt_of_lt_of_le (hlt i hi) (by decide))
              simp (config := { maxSteps := 1000000 }) (disch := ((try simp only [awL]); omega)) only [hG, nextC_more, nextC_over, bs_size, bs_extract, bs_toList, bs_append, byteAt_bs, bs_cells, nums_length, nums_getD, nl, ↓awU, awV, awF, ofVal, ofVal0, isShift, aggK, forall_const, ↓reduceIte, ↓reduceDIte, ↓purePost, combine, idsA, cellsA, numsOf, srcA, calleeA, refsA, isScalar, scalarD, scalar0, AV.one, putL, unfA, implies_true, IntKind.signed, Nat.reduceAdd, Nat.reduceSub, Nat.reduceMul, Nat.reducePow, Nat.reduceDiv, Nat.reduceMod, Int.reduceAdd, Int.reduceSub, Int.reduceMul, Int.reducePow, Int.reduceNeg, Int.reduceToNat, Int.reduceLT, Int.reduceLE, Nat.reduceEqDiff, sidsB, Nat.reduceBEq, keyKD, isIntK]
              refine CallC.frozenE (times_spec (decNum (L.take i)) 10 (by omega) (by rw [toW_10]; decide)) (by rw [toW_10]; rfl) ?_
              simp (config := { maxSteps := 1000000 }) (disch := ((try simp only [awL]); omega)) only [hG, nextC_more, nextC_over, bs_size, bs_extract, bs_toList, bs_append, byteAt_bs, bs_cells, nums_length, nums_getD, nl, e48, ↓awU, awV, awF, ofVal, ofVal0, isShift, aggK, forall_const, ↓reduceIte, ↓reduceDIte, ↓purePost, combine, idsA, cellsA, numsOf, srcA, calleeA, refsA, isScalar, scalarD, scalar0, AV.one, putL, unfA, implies_true, IntKind.signed, Nat.reduceAdd, Nat.reduceSub, Nat.reduceMul, Nat.reducePow, Nat.reduceDiv, Nat.reduceMod, Int.reduceAdd, Int.reduceSub, Int.reduceMul, Int.reducePow, Int.reduceNeg, Int.reduceToNat, Int.reduceLT, Int.reduceLE, Nat.reduceEqDiff, sidsB, Nat.reduceBEq, keyKD, isIntK]
              refine CallC.pure (natural_spec ((L.getD i 0).toNat - 48) (by omega)) ?_
              simp (config := { maxSteps := 1000000 }) (disch := ((try simp only [awL]); omega)) only [hG, nextC_more, nextC_over, bs_size, bs_extract, bs_toList, bs_append, byteAt_bs, bs_cells, nums_length, nums_getD, nl, ↓awU, awV, awF, ofVal, ofVal0, isShift, aggK, forall_const, ↓reduceIte, ↓reduceDIte, ↓purePost, combine, idsA, cellsA, numsOf, srcA, calleeA, refsA, isScalar, scalarD, scalar0, AV.one, putL, unfA, implies_true, IntKind.signed, Nat.reduceAdd, Nat.reduceSub, Nat.reduceMul, Nat.reducePow, Nat.reduceDiv, Nat.reduceMod, Int.reduceAdd, Int.reduceSub, Int.reduceMul, Int.reducePow, Int.reduceNeg, Int.reduceToNat, Int.reduceLT, Int.reduceLE, Nat.reduceEqDiff, sidsB, Nat.reduceBEq, keyKD, isIntK]
              refine CallC.pure (plus_spec (decNum (L.take i) * 10) ((L.getD i 0).toNat - 48) (by omega) (by omega)) ?_
              rw [hp]
              simp (config := { maxSteps := 1000000 }) (disch := ((try simp only [awL]); omega)) only [hG, nextC_more, nextC_over, bs_size, bs_extract, bs_toList, bs_append, byteAt_bs, bs_cells, nums_length, nums_getD, nl, ↓awU, awV, awF, ofVal, ofVal0, isShift, aggK, forall_const, ↓reduceIte, ↓reduceDIte, ↓purePost, combine, idsA, cellsA, numsOf, srcA, calleeA, refsA, isScalar, scalarD, scalar0, AV.one, putL, unfA, implies_true, IntKind.signed, Nat.reduceAdd, Nat.reduceSub, Nat.reduceMul, Nat.reducePow, Nat.reduceDiv, Nat.reduceMod, Int.reduceAdd, Int.reduceSub, Int.reduceMul, Int.reducePow, Int.reduceNeg, Int.reduceToNat, Int.reduceLT, Int.reduceLE, Nat.reduceEqDiff, sidsB, Nat.reduceBEq, keyKD, isIntK]
              exact ⟨i + 1, h1, by simp only; omega, ⟨[some 0, some 1, some 2], rfl, by simp, by simp [setsA, keepA, SWeak, AWeak], by simp [HWeak, BWeak, SWeak, AWeak]⟩⟩
            · obtain rfl : i = L.length := by omega
              rw [List.take_length] at *
              simp (config := { maxSteps := 1000000 }) (disch := ((try simp only [awL]); omega)) only [hG, nextC_more, nextC_over, bs_size, bs_extract, bs_toList, bs_append, byteAt_bs, bs_cells, nums_length, nums_getD, nl, ↓awU, awV, awF, ofVal, ofVal0, isShift, aggK, forall_const, ↓reduceIte, ↓reduceDIte, ↓purePost, combine, idsA, cellsA, numsOf, srcA, calleeA, refsA, isScalar, scalarD, scalar0, AV.one, putL, unfA, implies_true, IntKind.signed, Nat.reduceAdd, Nat.reduceSub, Nat.reduceMul, Nat.reducePow, Nat.reduceDiv, Nat.reduceMod, Int.reduceAdd, Int.reduceSub, Int.reduceMul, Int.reducePow, Int.reduceNeg, Int.reduceToNat, Int.reduceLT, Int.reduceLE, Nat.reduceEqDiff, sidsB, Nat.reduceBEq, keyKD, isIntK]
              refine LoopC.fr 9223372036854777380 (α := Nat) (fun j => (decB s).length - j) (fun j => [(11, .d (W (toW (10 ^ j)))), (64, .d (.int .i64 j))])
                (fun _ => [.box [.d (.bool false), .d (.sl 0 true []), .d (.bool false), .d (.sl 0 true [])], .row true (nats .u32 [10]), .row false (ints .u8 (nums L))]) (fun j => j ≤ (decB s).length) 0 (Nat.zero_le _) ?_ ?_
              · exact ⟨[some 0, some 1, some 2], rfl, by simp, by simp [setsA, keepA, SWeak, AWeak, toW_one], by simp [HWeak, BWeak, SWeak, AWeak, nats]⟩
              · intro j hj
                have lj : (toW (10 ^ j)).length ≤ 10 := sz_small (Nat.pow_lt_pow_right (by decide) (by omega))
                simp only [keepA_z8, keepA_z, keepA_cons, keepA_nil, setsA_nil, setsA_cons, List.set_cons_zero, List.set_cons_succ, set_8, Nat.reduceMod, Nat.reduceDiv, Nat.zero_mod, Nat.zero_ne_one, if_true, if_false, reduceIte]
                rcases Nat.lt_or_ge j (decB s).length with h2 | h2
                · simp (config := { maxSteps := 1000000 }) (disch := ((try simp only [awL]); omega)) only [hG, nextC_more, nextC_over, bs_size, bs_extract, bs_toList, bs_append, byteAt_bs, bs_cells, nums_length, nums_getD, ↓awU, awV, awF, ofVal, ofVal0, isShift, aggK, forall_const, ↓reduceIte, ↓reduceDIte, ↓purePost, combine, idsA, cellsA, numsOf, srcA, calleeA, refsA, isScalar, scalarD, scalar0, AV.one, putL, unfA, implies_true, IntKind.signed, Nat.reduceAdd, Nat.reduceSub, Nat.reduceMul, Nat.reducePow, Nat.reduceDiv, Nat.reduceMod, Int.reduceAdd, Int.reduceSub, Int.reduceMul, Int.reducePow, Int.reduceNeg, Int.reduceToNat, Int.reduceLT, Int.reduceLE, Nat.reduceEqDiff, sidsB, Nat.reduceBEq, keyKD, isIntK]
                  refine CallC.frozenE (times_spec (10 ^ j) 10 (by omega) (by rw [toW_10]; decide)) (by rw [toW_10]; rfl) ?_
                  rw [← Nat.pow_succ]
                  simp (config := { maxSteps := 1000000 }) (disch := ((try simp only [awL]); omega)) only [hG, nextC_more, nextC_over, bs_size, bs_extract, bs_toList, bs_append, byteAt_bs, bs_cells, nums_length, nums_getD, ↓awU, awV, awF, ofVal, ofVal0, isShift, aggK, forall_const, ↓reduceIte, ↓reduceDIte, ↓purePost, combine, idsA, cellsA, numsOf, srcA, calleeA, refsA, isScalar, scalarD, scalar0, AV.one, putL, unfA, implies_true, IntKind.signed, Nat.reduceAdd, Nat.reduceSub, Nat.reduceMul, Nat.reducePow, Nat.reduceDiv, Nat.reduceMod, Int.reduceAdd, Int.reduceSub, Int.reduceMul, Int.reducePow, Int.reduceNeg, Int.reduceToNat, Int.reduceLT, Int.reduceLE, Nat.reduceEqDiff, sidsB, Nat.reduceBEq, keyKD, isIntK]
                  exact ⟨j + 1, h2, by simp only; omega, ⟨[some 0, some 1, some 2], rfl, by simp, by simp [setsA, keepA, SWeak, AWeak], by simp [HWeak, BWeak, SWeak, AWeak]⟩⟩
                · obtain rfl : j = (decB s).length := by omega
                  have hd0 : ((10 ^ (decB s).length : Nat) : Int) ≠ 0 := by
                    have : 0 < 10 ^ (decB s).length := Nat.pow_pos (by decide)
                    omega
                  simp (config := { maxSteps := 1000000 }) (disch := ((try simp only [awL]); omega)) only [hG, nextC_more, nextC_over, bs_size, bs_extract, bs_toList, bs_append, byteAt_bs, bs_cells, nums_length, nums_getD, ↓awU, awV, awF, ofVal, ofVal0, isShift, aggK, forall_const, ↓reduceIte, ↓reduceDIte, ↓purePost, combine, idsA, cellsA, numsOf, srcA, calleeA, refsA, isScalar, scalarD, scalar0, AV.one, putL, unfA, implies_true, IntKind.signed, Nat.reduceAdd, Nat.reduceSub, Nat.reduceMul, Nat.reducePow, Nat.reduceDiv, Nat.reduceMod, Int.reduceAdd, Int.reduceSub, Int.reduceMul, Int.reducePow, Int.reduceNeg, Int.reduceToNat, Int.reduceLT, Int.reduceLE, Nat.reduceEqDiff, sidsB, Nat.reduceBEq, keyKD, isIntK]
                  refine CallC.pure (signed_spec false (decNum L) (by omega)) ?_
                  simp (config := { maxSteps := 1000000 }) (disch := ((try simp only [awL]); omega)) only [hG, nextC_more, nextC_over, bs_size, bs_extract, bs_toList, bs_append, byteAt_bs, bs_cells, nums_length, nums_getD, ↓awU, awV, awF, ofVal, ofVal0, isShift, aggK, forall_const, ↓reduceIte, ↓reduceDIte, ↓purePost, combine, idsA, cellsA, numsOf, srcA, calleeA, refsA, isScalar, scalarD, scalar0, AV.one, putL, unfA, implies_true, IntKind.signed, Nat.reduceAdd, Nat.reduceSub, Nat.reduceMul, Nat.reducePow, Nat.reduceDiv, Nat.reduceMod, Int.reduceAdd, Int.reduceSub, Int.reduceMul, Int.reducePow, Int.reduceNeg, Int.reduceToNat, Int.reduceLT, Int.reduceLE, Nat.reduceEqDiff, sidsB, Nat.reduceBEq, keyKD, isIntK]
                  refine CallC.pure (signed_spec false (10 ^ (decB s).length) (by omega)) ?_
                  simp (config := { maxSteps := 1000000 }) (disch := ((try simp only [awL]); omega)) only [hG, nextC_more, nextC_over, bs_size, bs_extract, bs_toList, bs_append, byteAt_bs, bs_cells, nums_length, nums_getD, ↓awU, awV, awF, ofVal, ofVal0, isShift, aggK, forall_const, ↓reduceIte, ↓reduceDIte, ↓purePost, combine, idsA, cellsA, numsOf, srcA, calleeA, refsA, isScalar, scalarD, scalar0, AV.one, putL, unfA, implies_true, IntKind.signed, Nat.reduceAdd, Nat.reduceSub, Nat.reduceMul, Nat.reducePow, Nat.reduceDiv, Nat.reduceMod, Int.reduceAdd, Int.reduceSub, Int.reduceMul, Int.reducePow, Int.reduceNeg, Int.reduceToNat, Int.reduceLT, Int.reduceLE, Nat.reduceEqDiff, sidsB, Nat.reduceBEq, keyKD, isIntK]
                  refine CallC.of (reduced_spec (if false = true then -(decNum L : Int) else (decNum L : Int)) ((10 ^ (decB s).length : Nat) : Int) hd0 (by simp only [sz]; split <;> simp <;> omega) (by simp only [sz, Int.natAbs_natCast]; omega)) (by rfl) ?_
                  rw [← hdv]
                  simp (config := { maxSteps := 1000000 }) (disch := ((try simp only [awL]); omega)) only [hG, nextC_more, nextC_over, bs_size, bs_extract, bs_toList, bs_append, byteAt_bs, bs_cells, nums_length, nums_getD, ↓awU, awV, awF, ofVal, ofVal0, isShift, aggK, forall_const, ↓reduceIte, ↓reduceDIte, ↓purePost, combine, idsA, cellsA, numsOf, srcA, calleeA, refsA, isScalar, scalarD, scalar0, AV.one, putL, unfA, implies_true, IntKind.signed, Nat.reduceAdd, Nat.reduceSub, Nat.reduceMul, Nat.reducePow, Nat.reduceDiv, Nat.reduceMod, Int.reduceAdd, Int.reduceSub, Int.reduceMul, Int.reducePow, Int.reduceNeg, Int.reduceToNat, Int.reduceLT, Int.reduceLE, Nat.reduceEqDiff, sidsB, Nat.reduceBEq, keyKD, isIntK]
                  first | done | rfl
  · have eb : s.drop 1 = decBody s := by rw [decBody, h45]; rfl
    have en : decNeg s = true := h45
    rw [en] at hdv
    simp (config := { maxSteps := 1000000 }) (disch := ((try simp only [awL]); omega)) only [nextC_more, nextC_over, bs_size, bs_extract, bs_toList, bs_append, byteAt_bs, bs_cells, nums_length, nums_getD, eb, ↓awU, awV, awF, ofVal, ofVal0, isShift, aggK, forall_const, ↓reduceIte, ↓reduceDIte, ↓purePost, combine, idsA, cellsA, numsOf, srcA, calleeA, refsA, isScalar, scalarD, scalar0, AV.one, putL, unfA, implies_true, IntKind.signed, Nat.reduceAdd, Nat.reduceSub, Nat.reduceMul, Nat.reducePow, Nat.reduceDiv, Nat.reduceMod, Int.reduceAdd, Int.reduceSub, Int.reduceMul, Int.reducePow, Int.reduceNeg, Int.reduceToNat, Int.reduceLT, Int.reduceLE, Nat.reduceEqDiff, sidsB, Nat.reduceBEq, keyKD, isIntK]
    refine CallC.pure (cut_spec (decBody s) 46 (by omega)) ?_
    rw [f1, f2]
    simp (config := { maxSteps := 1000000 }) (disch := ((try simp only [awL]); omega)) only [nextC_more, nextC_over, bs_size, bs_extract, bs_toList, bs_append, byteAt_bs, bs_cells, nums_length, nums_getD, ↓awU, awV, awF, ofVal, ofVal0, isShift, aggK, forall_const, ↓reduceIte, ↓reduceDIte, ↓purePost, combine, idsA, cellsA, numsOf, srcA, calleeA, refsA, isScalar, scalarD, scalar0, AV.one, putL, unfA, implies_true, IntKind.signed, Nat.reduceAdd, Nat.reduceSub, Nat.reduceMul, Nat.reducePow, Nat.reduceDiv, Nat.reduceMod, Int.reduceAdd, Int.reduceSub, Int.reduceMul, Int.reducePow, Int.reduceNeg, Int.reduceToNat, Int.reduceLT, Int.reduceLE, Nat.reduceEqDiff, sidsB, Nat.reduceBEq, keyKD, isIntK]
    refine CallC.pure (digits_spec (decF s) 15 (by omega)) ?_
    cases d1 : digB (decF s) 15
    · rw [hok, d1, Bool.false_and]
      simp (config := { maxSteps := 1000000 }) (disch := ((try simp only [awL]); omega)) only [nextC_more, nextC_over, bs_size, bs_extract, bs_toList, bs_append, byteAt_bs, bs_cells, nums_length, nums_getD, ↓awU, awV, awF, ofVal, ofVal0, isShift, aggK, forall_const, ↓reduceIte, ↓reduceDIte, ↓purePost, combine, idsA, cellsA, numsOf, srcA, calleeA, refsA, isScalar, scalarD, scalar0, AV.one, putL, unfA, implies_true, IntKind.signed, Nat.reduceAdd, Nat.reduceSub, Nat.reduceMul, Nat.reducePow, Nat.reduceDiv, Nat.reduceMod, Int.reduceAdd, Int.reduceSub, Int.reduceMul, Int.reducePow, Int.reduceNeg, Int.reduceToNat, Int.reduceLT, Int.reduceLE, Nat.reduceEqDiff, sidsB, Nat.reduceBEq, keyKD, isIntK]
      first | done | rfl
    · rw [d1, Bool.true_and] at hok
      cases dp : decide (46 ∈ decBody s)
      · rw [dp, Bool.not_false, Bool.true_or] at hok
        obtain ⟨hall, hlen, hlb⟩ := decOk_facts hok
        have hsm : ∀ i, i ≤ (decF s ++ decB s).length → (toW (decNum ((decF s ++ decB s).take i))).length ≤ 30 := fun i hi => by
          have h := decNum_lt (l := (decF s ++ decB s).take i) fun b hb => hall b (List.mem_of_mem_take hb)
          exact sz_small (Nat.lt_of_lt_of_le h (Nat.pow_le_pow_right (by decide) (by rw [List.length_take]; omega)))
        have hlt : ∀ i, i ≤ (decF s ++ decB s).length → decNum ((decF s ++ decB s).take i) * 10 < 10 ^ 30 := fun i hi => by
          have h := decNum_lt (l := (decF s ++ decB s).take i) fun b hb => hall b (List.mem_of_mem_take hb)
          have h2 : 10 ^ ((decF s ++ decB s).take i).length ≤ 10 ^ 29 := Nat.pow_le_pow_right (by decide) (by rw [List.length_take]; omega)
          have h3 : (10 : Nat) ^ 30 = 10 ^ 29 * 10 := rfl
          omega
        rw [if_pos hok, hok]
        generalize hL : decF s ++ decB s = L at *
        simp (config := { maxSteps := 1000000 }) (disch := ((try simp only [awL]); omega)) only [hG, nextC_more, nextC_over, bs_size, bs_extract, bs_toList, bs_append, byteAt_bs, bs_cells, nums_length, nums_getD, ↓awU, awV, awF, ofVal, ofVal0, isShift, aggK, forall_const, ↓reduceIte, ↓reduceDIte, ↓purePost, combine, idsA, cellsA, numsOf, srcA, calleeA, refsA, isScalar, scalarD, scalar0, AV.one, putL, unfA, implies_true, IntKind.signed, Nat.reduceAdd, Nat.reduceSub, Nat.reduceMul, Nat.reducePow, Nat.reduceDiv, Nat.reduceMod, Int.reduceAdd, Int.reduceSub, Int.reduceMul, Int.reducePow, Int.reduceNeg, Int.reduceToNat, Int.reduceLT, Int.reduceLE, Nat.reduceEqDiff, sidsB, Nat.reduceBEq, keyKD, isIntK]
        refine CallC.of (clone_spec [1] (by decide)) (by rfl) ?_
        simp (config := { maxSteps := 1000000 }) (disch := ((try simp only [awL]); omega)) only [hG, nextC_more, nextC_over, bs_size, bs_extract, bs_toList, bs_append, byteAt_bs, bs_cells, nums_length, nums_getD, hL, cells_nums, ↓awU, awV, awF, ofVal, ofVal0, isShift, aggK, forall_const, ↓reduceIte, ↓reduceDIte, ↓purePost, combine, idsA, cellsA, numsOf, srcA, calleeA, refsA, isScalar, scalarD, scalar0, AV.one, putL, unfA, implies_true, IntKind.signed, Nat.reduceAdd, Nat.reduceSub, Nat.reduceMul, Nat.reducePow, Nat.reduceDiv, Nat.reduceMod, Int.reduceAdd, Int.reduceSub, Int.reduceMul, Int.reducePow, Int.reduceNeg, Int.reduceToNat, Int.reduceLT, Int.reduceLE, Nat.reduceEqDiff, sidsB, Nat.reduceBEq, keyKD, isIntK]
        refine LoopC.fr 422212465069220 (α := Nat) (fun i => L.length - i) (fun i => [(9, .d (W (toW (decNum (L.take i))))), (49, .d (.int .i64 i))])
          (fun _ => [.box [.d (.bool false), .d (.sl 0 true []), .d (.bool false), .d (.sl 0 true [])], .row true (nats .u32 [10]), .row false (ints .u8 (nums L))]) (fun i => i ≤ L.length) 0 (Nat.zero_le _) ?_ ?_
        · exact ⟨[some 0, some 1, some 2], rfl, by simp, by simp [setsA, keepA, SWeak, AWeak, decNum, toW_zero, nats], by simp [HWeak, BWeak, SWeak, AWeak, nats]⟩
        · intro i hi
          have lt := hsm i hi
          have nl := @nums_length L
          simp only [keepA_z8, keepA_z, keepA_cons, keepA_nil, setsA_nil, setsA_cons, List.set_cons_zero, List.set_cons_succ, set_8, Nat.reduceMod, Nat.reduceDiv, Nat.zero_mod, Nat.zero_ne_one, if_true, if_false, reduceIte]
          rcases Nat.lt_or_ge i L.length with h1 | h1
          · have hb := dig_range (hall _ (mem_getDU (d := 0) h1))
            have hp := decNum_push h1
            have ls := sz_small (n := (L.getD i 0).toNat - 48) (k := 2) (by omega)
            have e48 : ((L.getD i 0).toNat : Int) - 48 = (((L.getD i 0).toNat - 48 : Nat) : Int) := by omega
            have lm : (toW (decNum (L.take i) * 10)).length ≤ 40 := sz_small (Nat.lt_of_lt_of_le (hlt i hi) (by decide))
            simp (config := { maxSteps := 1000000 }) (disch := ((try simp only [awL]); omega)) only [hG, nextC_more, nextC_over, bs_size, bs_extract, bs_toList, bs_append, byteAt_bs, bs_cells, nums_length, nums_getD, nl, ↓awU, awV, awF, ofVal, ofVal0, isShift, aggK, forall_const, ↓reduceIte, ↓reduceDIte, ↓purePost, combine, idsA, cellsA, numsOf, srcA, calleeA, refsA, isScalar, scalarD, scalar0, AV.one, putL, unfA, implies_true, IntKind.signed, Nat.reduceAdd, Nat.reduceSub, Nat.reduceMul, Nat.reducePow, Nat.reduceDiv, Nat.reduceMod, Int.reduceAdd, Int.reduceSub, Int.reduceMul, Int.reducePow, Int.reduceNeg, Int.reduceToNat, Int.reduceLT, Int.reduceLE, Nat.reduceEqDiff, sidsB, Nat.reduceBEq, keyKD, isIntK]
            refine CallC.frozenE (times_spec (decNum (L.take i)) 10 (by omega) (by rw [toW_10]; decide)) (by rw [toW_10]; rfl) ?_
            simp (config := { maxSteps := 1000000 }) (disch := ((try simp only [awL]); omega)) only [hG, nextC_more, nextC_over, bs_size, bs_extract, bs_toList, bs_append, byteAt_bs, bs_cells, nums_length, nums_getD, nl, e48, ↓awU, awV, awF, ofVal, ofVal0, isShift, aggK, forall_const, ↓reduceIte, ↓reduceDIte, ↓purePost, combine, idsA, cellsA, numsOf, srcA, calleeA, refsA, isScalar, scalarD, scalar0, AV.one, putL, unfA, implies_true, IntKind.signed, Nat.reduceAdd, Nat.reduceSub, Nat.reduceMul, Nat.reducePow, Nat.reduceDiv, Nat.reduceMod, Int.reduceAdd, Int.reduceSub, Int.reduceMul, Int.reducePow, Int.reduceNeg, Int.reduceToNat, Int.reduceLT, Int.reduceLE, Nat.reduceEqDiff, sidsB, Nat.reduceBEq, keyKD, isIntK]
            refine CallC.pure (natural_spec ((L.getD i 0).toNat - 48) (by omega)) ?_
            simp (config := { maxSteps := 1000000 }) (disch := ((try simp only [awL]); omega)) only [hG, nextC_more, nextC_over, bs_size, bs_extract, bs_toList, bs_append, byteAt_bs, bs_cells, nums_length, nums_getD, nl, ↓awU, awV, awF, ofVal, ofVal0, isShift, aggK, forall_const, ↓reduceIte, ↓reduceDIte, ↓purePost, combine, idsA, cellsA, numsOf, srcA, calleeA, refsA, isScalar, scalarD, scalar0, AV.one, putL, unfA, implies_true, IntKind.signed, Nat.reduceAdd, Nat.reduceSub, Nat.reduceMul, Nat.reducePow, Nat.reduceDiv, Nat.reduceMod, Int.reduceAdd, Int.reduceSub, Int.reduceMul, Int.reducePow, Int.reduceNeg, Int.reduceToNat, Int.reduceLT, Int.reduceLE, Nat.reduceEqDiff, sidsB, Nat.reduceBEq, keyKD, isIntK]
            refine CallC.pure (plus_spec (decNum (L.take i) * 10) ((L.getD i 0).toNat - 48) (by omega) (by omega)) ?_
            rw [hp]
            simp (config := { maxSteps := 1000000 }) (disch := ((try simp only [awL]); omega)) only [hG, nextC_more, nextC_over, bs_size, bs_extract, bs_toList, bs_append, byteAt_bs, bs_cells, nums_length, nums_getD, nl, ↓awU, awV, awF, ofVal, ofVal0, isShift, aggK, forall_const, ↓reduceIte, ↓reduceDIte, ↓purePost, combine, idsA, cellsA, numsOf, srcA, calleeA, refsA, isScalar, scalarD, scalar0, AV.one, putL, unfA, implies_true, IntKind.signed, Nat.reduceAdd, Nat.reduceSub, Nat.reduceMul, Nat.reducePow, Nat.reduceDiv, Nat.reduceMod, Int.reduceAdd, Int.reduceSub, Int.reduceMul, Int.reducePow, Int.reduceNeg, Int.reduceToNat, Int.reduceLT, Int.reduceLE, Nat.reduceEqDiff, sidsB, Nat.reduceBEq, keyKD, isIntK]
            exact ⟨i + 1, h1, by simp only; omega, ⟨[some 0, some 1, some 2], rfl, by simp, by simp [setsA, keepA, SWeak, AWeak], by simp [HWeak, BWeak, SWeak, AWeak]⟩⟩
          · obtain rfl : i = L.length := by omega
            rw [List.take_length] at *
            simp (config := { maxSteps := 1000000 }) (disch := ((try simp only [awL]); omega)) only [hG, nextC_more, nextC_over, bs_size, bs_extract, bs_toList, bs_append, byteAt_bs, bs_cells, nums_length, nums_getD, nl, ↓awU, awV, awF, ofVal, ofVal0, isShift, aggK, forall_const, ↓reduceIte, ↓reduceDIte, ↓purePost, combine, idsA, cellsA, numsOf, srcA, calleeA, refsA, isScalar, scalarD, scalar0, AV.one, putL, unfA, implies_true, IntKind.signed, Nat.reduceAdd, Nat.reduceSub, Nat.reduceMul, Nat.reducePow, Nat.reduceDiv, Nat.reduceMod, Int.reduceAdd, Int.reduceSub, Int.reduceMul, Int.reducePow, Int.reduceNeg, Int.reduceToNat, Int.reduceLT, Int.reduceLE, Nat.reduceEqDiff, sidsB, Nat.reduceBEq, keyKD, isIntK]
            refine LoopC.fr 9223372036854777380 (α := Nat) (fun j => (decB s).length - j) (fun j => [(11, .d (W (toW (10 ^ j)))), (64, .d (.int .i64 j))])
              (fun _ => [.box [.d (.bool false), .d (.sl 0 true []), .d (.bool false), .d (.sl 0 true [])], .row true (nats .u32 [10]), .row false (ints .u8 (nums L))]) (fun j => j ≤ (decB s).length) 0 (Nat.zero_le _) ?_ ?_
            · exact ⟨[some 0, some 1, some 2], rfl, by simp, by simp [setsA, keepA, SWeak, AWeak, toW_one], by simp [HWeak, BWeak, SWeak, AWeak, nats]⟩
            · intro j hj
              have lj : (toW (10 ^ j)).length ≤ 10 := sz_small (Nat.pow_lt_pow_right (by decide) (by omega))
              simp only [keepA_z8, keepA_z, keepA_cons, keepA_nil, setsA_nil, setsA_cons, List.set_cons_zero, List.set_cons_succ, set_8, Nat.reduceMod, Nat.reduceDiv, Nat.zero_mod, Nat.zero_ne_one, if_true, if_false, reduceIte]
              rcases Nat.lt_or_ge j (decB s).length with h2 | h2
              · simp (config := { maxSteps := 1000000 }) (disch := ((try simp only [awL]); omega)) only [hG, nextC_more, nextC_over, bs_size, bs_extract, bs_toList, bs_append, byteAt_bs, bs_cells, nums_length, nums_getD, ↓awU, awV, awF, ofVal, ofVal0, isShift, aggK, forall_const, ↓reduceIte, ↓reduceDIte, ↓purePost, combine, idsA, cellsA, numsOf, srcA, calleeA, refsA, isScalar, scalarD, scalar0, AV.one, putL, unfA, implies_true, IntKind.signed, Nat.reduceAdd, Nat.reduceSub, Nat.reduceMul, Nat.reducePow, Nat.reduceDiv, Nat.reduceMod, Int.reduceAdd, Int.reduceSub, Int.reduceMul, Int.reducePow, Int.reduceNeg, Int.reduceToNat, Int.reduceLT, Int.reduceLE, Nat.reduceEqDiff, sidsB, Nat.reduceBEq, keyKD, isIntK]
                refine CallC.frozenE (times_spec (10 ^ j) 10 (by omega) (by rw [toW_10]; decide)) (by rw [toW_10]; rfl) ?_
                rw [← Nat.pow_succ]
                simp (config := { maxSteps := 1000000 }) (disch := ((try simp only [awL]); omega)) only [hG, nextC_more, nextC_over, bs_size, bs_extract, bs_toList, bs_append, byteAt_bs, bs_cells, nums_length, nums_getD, ↓awU, awV, awF, ofVal, ofVal0, isShift, aggK, forall_const, ↓reduceIte, ↓reduceDIte, ↓purePost, combine, idsA, cellsA, numsOf, srcA, calleeA, refsA, isScalar, scalarD, scalar0, AV.one, putL, unfA, implies_true, IntKind.signed, Nat.reduceAdd, Nat.reduceSub, Nat.reduceMul, Nat.reducePow, Nat.reduceDiv, Nat.reduceMod, Int.reduceAdd, Int.reduceSub, Int.reduceMul, Int.reducePow, Int.reduceNeg, Int.reduceToNat, Int.reduceLT, Int.reduceLE, Nat.reduceEqDiff, sidsB, Nat.reduceBEq, keyKD, isIntK]
                exact ⟨j + 1, h2, by simp only; omega, ⟨[some 0, some 1, some 2], rfl, by simp, by simp [setsA, keepA, SWeak, AWeak], by simp [HWeak, BWeak, SWeak, AWeak]⟩⟩
              · obtain rfl : j = (decB s).length := by omega
                have hd0 : ((10 ^ (decB s).length : Nat) : Int) ≠ 0 := by
                  have : 0 < 10 ^ (decB s).length := Nat.pow_pos (by decide)
                  omega
                simp (config := { maxSteps := 1000000 }) (disch := ((try simp only [awL]); omega)) only [hG, nextC_more, nextC_over, bs_size, bs_extract, bs_toList, bs_append, byteAt_bs, bs_cells, nums_length, nums_getD, ↓awU, awV, awF, ofVal, ofVal0, isShift, aggK, forall_const, ↓reduceIte, ↓reduceDIte, ↓purePost, combine, idsA, cellsA, numsOf, srcA, calleeA, refsA, isScalar, scalarD, scalar0, AV.one, putL, unfA, implies_true, IntKind.signed, Nat.reduceAdd, Nat.reduceSub, Nat.reduceMul, Nat.reducePow, Nat.reduceDiv, Nat.reduceMod, Int.reduceAdd, Int.reduceSub, Int.reduceMul, Int.reducePow, Int.reduceNeg, Int.reduceToNat, Int.reduceLT, Int.reduceLE, Nat.reduceEqDiff, sidsB, Nat.reduceBEq, keyKD, isIntK]
                refine CallC.pure (signed_spec true (decNum L) (by omega)) ?_
                simp (config := { maxSteps := 1000000 }) (disch := ((try simp only [awL]); omega)) only [hG, nextC_more, nextC_over, bs_size, bs_extract, bs_toList, bs_append, byteAt_bs, bs_cells, nums_length, nums_getD, ↓awU, awV, awF, ofVal, ofVal0, isShift, aggK, forall_const, ↓reduceIte, ↓reduceDIte, ↓purePost, combine, idsA, cellsA, numsOf, srcA, calleeA, refsA, isScalar, scalarD, scalar0, AV.one, putL, unfA, implies_true, IntKind.signed, Nat.reduceAdd, Nat.reduceSub, Nat.reduceMul, Nat.reducePow, Nat.reduceDiv, Nat.reduceMod, Int.reduceAdd, Int.reduceSub, Int.reduceMul, Int.reducePow, Int.reduceNeg, Int.reduceToNat, Int.reduceLT, Int.reduceLE, Nat.reduceEqDiff, sidsB, Nat.reduceBEq, keyKD, isIntK]
                refine CallC.pure (signed_spec false (10 ^ (decB s).length) (by omega)) ?_
                simp (config := { maxSteps := 1000000 }) (disch := ((try simp only [awL]); omega)) only [hG, nextC_more, nextC_over, bs_size, bs_extract, bs_toList, bs_append, byteAt_bs, bs_cells, nums_length, nums_getD, ↓awU, awV, awF, ofVal, ofVal0, isShift, aggK, forall_const, ↓reduceIte, ↓reduceDIte, ↓purePost, combine, idsA, cellsA, numsOf, srcA, calleeA, refsA, isScalar, scalarD, scalar0, AV.one, putL, unfA, implies_true, IntKind.signed, Nat.reduceAdd, Nat.reduceSub, Nat.reduceMul, Nat.reducePow, Nat.reduceDiv, Nat.reduceMod, Int.reduceAdd, Int.reduceSub, Int.reduceMul, Int.reducePow, Int.reduceNeg, Int.reduceToNat, Int.reduceLT, Int.reduceLE, Nat.reduceEqDiff, sidsB, Nat.reduceBEq, keyKD, isIntK]
                refine CallC.of (reduced_spec (if true = true then -(decNum L : Int) else (decNum L : Int)) ((10 ^ (decB s).length : Nat) : Int) hd0 (by simp only [sz]; split <;> simp <;> omega) (by simp only [sz, Int.natAbs_natCast]; omega)) (by rfl) ?_
                rw [← hdv]
                simp (config := { maxSteps := 1000000 }) (disch := ((try simp only [awL]); omega)) only [hG, nextC_more, nextC_over, bs_size, bs_extract, bs_toList, bs_append, byteAt_bs, bs_cells, nums_length, nums_getD, ↓awU, awV, awF, ofVal, ofVal0, isShift, aggK, forall_const, ↓reduceIte, ↓reduceDIte, ↓purePost, combine, idsA, cellsA, numsOf, srcA, calleeA, refsA, isScalar, scalarD, scalar0, AV.one, putL, unfA, implies_true, IntKind.signed, Nat.reduceAdd, Nat.reduceSub, Nat.reduceMul, Nat.reducePow, Nat.reduceDiv, Nat.reduceMod, Int.reduceAdd, Int.reduceSub, Int.reduceMul, Int.reducePow, Int.reduceNeg, Int.reduceToNat, Int.reduceLT, Int.reduceLE, Nat.reduceEqDiff, sidsB, Nat.reduceBEq, keyKD, isIntK]
                first | done | rfl
      · rw [dp, Bool.not_true, Bool.false_or] at hok
        simp (config := { maxSteps := 1000000 }) (disch := ((try simp only [awL]); omega)) only [nextC_more, nextC_over, bs_size, bs_extract, bs_toList, bs_append, byteAt_bs, bs_cells, nums_length, nums_getD, ↓awU, awV, awF, ofVal, ofVal0, isShift, aggK, forall_const, ↓reduceIte, ↓reduceDIte, ↓purePost, combine, idsA, cellsA, numsOf, srcA, calleeA, refsA, isScalar, scalarD, scalar0, AV.one, putL, unfA, implies_true, IntKind.signed, Nat.reduceAdd, Nat.reduceSub, Nat.reduceMul, Nat.reducePow, Nat.reduceDiv, Nat.reduceMod, Int.reduceAdd, Int.reduceSub, Int.reduceMul, Int.reducePow, Int.reduceNeg, Int.reduceToNat, Int.reduceLT, Int.reduceLE, Nat.reduceEqDiff, sidsB, Nat.reduceBEq, keyKD, isIntK]
        refine CallC.pure (digits_spec (decB s) 9 (by omega)) ?_
        cases d2 : digB (decB s) 9
        · rw [hok, d2]
          simp (config := { maxSteps := 1000000 }) (disch := ((try simp only [awL]); omega)) only [nextC_more, nextC_over, bs_size, bs_extract, bs_toList, bs_append, byteAt_bs, bs_cells, nums_length, nums_getD, ↓awU, awV, awF, ofVal, ofVal0, isShift, aggK, forall_const, ↓reduceIte, ↓reduceDIte, ↓purePost, combine, idsA, cellsA, numsOf, srcA, calleeA, refsA, isScalar, scalarD, scalar0, AV.one, putL, unfA, implies_true, IntKind.signed, Nat.reduceAdd, Nat.reduceSub, Nat.reduceMul, Nat.reducePow, Nat.reduceDiv, Nat.reduceMod, Int.reduceAdd, Int.reduceSub, Int.reduceMul, Int.reducePow, Int.reduceNeg, Int.reduceToNat, Int.reduceLT, Int.reduceLE, Nat.reduceEqDiff, sidsB, Nat.reduceBEq, keyKD, isIntK]
          first | done | rfl
        · rw [d2] at hok
          obtain ⟨hall, hlen, hlb⟩ := decOk_facts hok
          have hsm : ∀ i, i ≤ (decF s ++ decB s).length → (toW (decNum ((decF s ++ decB s).take i))).length ≤ 30 := fun i hi => by
            have h := decNum_lt (l := (decF s ++ decB s).take i) fun b hb => hall b (List.mem_of_mem_take hb)
            exact sz_small (Nat.lt_of_lt_of_le h (Nat.pow_le_pow_right (by decide) (by rw [List.length_take]; omega)))
          have hlt : ∀ i, i ≤ (decF s ++ decB s).length → decNum ((decF s ++ decB s).take i) * 10 < 10 ^ 30 := fun i hi => by
            have h := decNum_lt (l := (decF s ++ decB s).take i) fun b hb => hall b (List.mem_of_mem_take hb)
            have h2 : 10 ^ ((decF s ++ decB s).take i).length ≤ 10 ^ 29 := Nat.pow_le_pow_right (by decide) (by rw [List.length_take]; omega)
            have h3 : (10 : Nat) ^ 30 = 10 ^ 29 * 10 := rfl
            omega
          rw [if_pos hok, hok]
          generalize hL : decF s ++ decB s = L at *
          simp (config := { maxSteps := 1000000 }) (disch := ((try simp only [awL]); omega)) only [hG, nextC_more, nextC_over, bs_size, bs_extract, bs_toList, bs_append, byteAt_bs, bs_cells, nums_length, nums_getD, ↓awU, awV, awF, ofVal, ofVal0, isShift, aggK, forall_const, ↓reduceIte, ↓reduceDIte, ↓purePost, combine, idsA, cellsA, numsOf, srcA, calleeA, refsA, isScalar, scalarD, scalar0, AV.one, putL, unfA, implies_true, IntKind.signed, Nat.reduceAdd, Nat.reduceSub, Nat.reduceMul, Nat.reducePow, Nat.reduceDiv, Nat.reduceMod, Int.reduceAdd, Int.reduceSub, Int.reduceMul, Int.reducePow, Int.reduceNeg, Int.reduceToNat, Int.reduceLT, Int.reduceLE, Nat.reduceEqDiff, sidsB, Nat.reduceBEq, keyKD, isIntK]
          refine CallC.of (clone_spec [1] (by decide)) (by rfl) ?_
          simp (config := { maxSteps := 1000000 }) (disch := ((try simp only [awL]); omega)) only [hG, nextC_more, nextC_over, bs_size, bs_extract, bs_toList, bs_append, byteAt_bs, bs_cells, nums_length, nums_getD, hL, cells_nums, ↓awU, awV, awF, ofVal, ofVal0, isShift, aggK, forall_const, ↓reduceIte, ↓reduceDIte, ↓purePost, combine, idsA, cellsA, numsOf, srcA, calleeA, refsA, isScalar, scalarD, scalar0, AV.one, putL, unfA, implies_true, IntKind.signed, Nat.reduceAdd, Nat.reduceSub, Nat.reduceMul, Nat.reducePow, Nat.reduceDiv, Nat.reduceMod, Int.reduceAdd, Int.reduceSub, Int.reduceMul, Int.reducePow, Int.reduceNeg, Int.reduceToNat, Int.reduceLT, Int.reduceLE, Nat.reduceEqDiff, sidsB, Nat.reduceBEq, keyKD, isIntK]
          refine LoopC.fr 422212465069220 (α := Nat) (fun i => L.length - i) (fun i => [(9, .d (W (toW (decNum (L.take i))))), (49, .d (.int .i64 i))])
            (fun _ => [.box [.d (.bool false), .d (.sl 0 true []), .d (.bool false), .d (.sl 0 true [])], .row true (nats .u32 [10]), .row false (ints .u8 (nums L))]) (fun i => i ≤ L.length) 0 (Nat.zero_le _) ?_ ?_
          · exact ⟨[some 0, some 1, some 2], rfl, by simp, by simp [setsA, keepA, SWeak, AWeak, decNum, toW_zero, nats], by simp [HWeak, BWeak, SWeak, AWeak, nats]⟩
          · intro i hi
            have lt := hsm i hi
            have nl := @nums_length L
            simp only [keepA_z8, keepA_z, keepA_cons, keepA_nil, setsA_nil, setsA_cons, List.set_cons_zero, List.set_cons_succ, set_8, Nat.reduceMod, Nat.reduceDiv, Nat.zero_mod, Nat.zero_ne_one, if_true, if_false, reduceIte]
            rcases Nat.lt_or_ge i L.length with h1 | h1
            · have hb := dig_range (hall _ (mem_getDU (d := 0) h1))
              have hp := decNum_push h1
              have ls := sz_small (n := (L.getD i 0).toNat - 48) (k := 2) (by omega)
              have e48 : ((L.getD i 0).toNat : Int) - 48 = (((L.getD i 0).toNat - 48 : Nat) : Int) := by omega
              have lm : (toW (decNum (L.take i) * 10)).length ≤ 40 := sz_small (Nat.lt_of_lt_of_le (hlt i hi) (by decide))
              simp (config := { maxSteps := 1000000 }) (disch := ((try simp only [awL]); omega)) only [hG, nextC_more, nextC_over, bs_size, bs_extract, bs_toList, bs_append, byteAt_bs, bs_cells, nums_length, nums_getD, nl, ↓awU, awV, awF, ofVal, ofVal0, isShift, aggK, forall_const, ↓reduceIte, ↓reduceDIte, ↓purePost, combine, idsA, cellsA, numsOf, srcA, calleeA, refsA, isScalar, scalarD, scalar0, AV.one, putL, unfA, implies_true, IntKind.signed, Nat.reduceAdd, Nat.reduceSub, Nat.reduceMul, Nat.reducePow, Nat.reduceDiv, Nat.reduceMod, Int.reduceAdd, Int.reduceSub, Int.reduceMul, Int.reducePow, Int.reduceNeg, Int.reduceToNat, Int.reduceLT, Int.reduceLE, Nat.reduceEqDiff, sidsB, Nat.reduceBEq, keyKD, isIntK]
              refine CallC.frozenE (times_spec (decNum (L.take i)) 10 (by omega) (by rw [toW_10]; decide)) (by rw [toW_10]; rfl) ?_
              simp (config := { maxSteps := 1000000 }) (disch := ((try simp only [awL]); omega)) only [hG, nextC_more, nextC_over, bs_size, bs_extract, bs_toList, bs_append, byteAt_bs, bs_cells, nums_length, nums_getD, nl, e48, ↓awU, awV, awF, ofVal, ofVal0, isShift, aggK, forall_const, ↓reduceIte, ↓reduceDIte, ↓purePost, combine, idsA, cellsA, numsOf, srcA, calleeA, refsA, isScalar, scalarD, scalar0, AV.one, putL, unfA, implies_true, IntKind.signed, Nat.reduceAdd, Nat.reduceSub, Nat.reduceMul, Nat.reducePow, Nat.reduceDiv, Nat.reduceMod, Int.reduceAdd, Int.reduceSub, Int.reduceMul, Int.reducePow, Int.reduceNeg, Int.reduceToNat, Int.reduceLT, Int.reduceLE, Nat.reduceEqDiff, sidsB, Nat.reduceBEq, keyKD, isIntK]
              refine CallC.pure (natural_spec ((L.getD i 0).toNat - 48) (by omega)) ?_
              simp (config := { maxSteps := 1000000 }) (disch := ((try simp only [awL]); omega)) only [hG, nextC_more, nextC_over, bs_size, bs_extract, bs_toList, bs_append, byteAt_bs, bs_cells, nums_length, nums_getD, nl, ↓awU, awV, awF, ofVal, ofVal0, isShift, aggK, forall_const, ↓reduceIte, ↓reduceDIte, ↓purePost, combine, idsA, cellsA, numsOf, srcA, calleeA, refsA, isScalar, scalarD, scalar0, AV.one, putL, unfA, implies_true, IntKind.signed, Nat.reduceAdd, Nat.reduceSub, Nat.reduceMul, Nat.reducePow, Nat.reduceDiv, Nat.reduceMod, Int.reduceAdd, Int.reduceSub, Int.reduceMul, Int.reducePow, Int.reduceNeg, Int.reduceToNat, Int.reduceLT, Int.reduceLE, Nat.reduceEqDiff, sidsB, Nat.reduceBEq, keyKD, isIntK]
              refine CallC.pure (plus_spec (decNum (L.take i) * 10) ((L.getD i 0).toNat - 48) (by omega) (by omega)) ?_
              rw [hp]
              simp (config := { maxSteps := 1000000 }) (disch := ((try simp only [awL]); omega)) only [hG, nextC_more, nextC_over, bs_size, bs_extract, bs_toList, bs_append, byteAt_bs, bs_cells, nums_length, nums_getD, nl, ↓awU, awV, awF, ofVal, ofVal0, isShift, aggK, forall_const, ↓reduceIte, ↓reduceDIte, ↓purePost, combine, idsA, cellsA, numsOf, srcA, calleeA, refsA, isScalar, scalarD, scalar0, AV.one, putL, unfA, implies_true, IntKind.signed, Nat.reduceAdd, Nat.reduceSub, Nat.reduceMul, Nat.reducePow, Nat.reduceDiv, Nat.reduceMod, Int.reduceAdd, Int.reduceSub, Int.reduceMul, Int.reducePow, Int.reduceNeg, Int.reduceToNat, Int.reduceLT, Int.reduceLE, Nat.reduceEqDiff, sidsB, Nat.reduceBEq, keyKD, isIntK]
              exact ⟨i + 1, h1, by simp only; omega, ⟨[some 0, some 1, some 2], rfl, by simp, by simp [setsA, keepA, SWeak, AWeak], by simp [HWeak, BWeak, SWeak, AWeak]⟩⟩
            · obtain rfl : i = L.length := by omega
              rw [List.take_length] at *
              simp (config := { maxSteps := 1000000 }) (disch := ((try simp only [awL]); omega)) only [hG, nextC_more, nextC_over, bs_size, bs_extract, bs_toList, bs_append, byteAt_bs, bs_cells, nums_length, nums_getD, nl, ↓awU, awV, awF, ofVal, ofVal0, isShift, aggK, forall_const, ↓reduceIte, ↓reduceDIte, ↓purePost, combine, idsA, cellsA, numsOf, srcA, calleeA, refsA, isScalar, scalarD, scalar0, AV.one, putL, unfA, implies_true, IntKind.signed, Nat.reduceAdd, Nat.reduceSub, Nat.reduceMul, Nat.reducePow, Nat.reduceDiv, Nat.reduceMod, Int.reduceAdd, Int.reduceSub, Int.reduceMul, Int.reducePow, Int.reduceNeg, Int.reduceToNat, Int.reduceLT, Int.reduceLE, Nat.reduceEqDiff, sidsB, Nat.reduceBEq, keyKD, isIntK]
              refine LoopC.fr 9223372036854777380 (α := Nat) (fun j => (decB s).length - j) (fun j => [(11, .d (W (toW (10 ^ j)))), (64, .d (.int .i64 j))])
                (fun _ => [.box [.d (.bool false), .d (.sl 0 true []), .d (.bool false), .d (.sl 0 true [])], .row true (nats .u32 [10]), .row false (ints .u8 (nums L))]) (fun j => j ≤ (decB s).length) 0 (Nat.zero_le _) ?_ ?_
              · exact ⟨[some 0, some 1, some 2], rfl, by simp, by simp [setsA, keepA, SWeak, AWeak, toW_one], by simp [HWeak, BWeak, SWeak, AWeak, nats]⟩
              · intro j hj
                have lj : (toW (10 ^ j)).length ≤ 10 := sz_small (Nat.pow_lt_pow_right (by decide) (by omega))
                simp only [keepA_z8, keepA_z, keepA_cons, keepA_nil, setsA_nil, setsA_cons, List.set_cons_zero, List.set_cons_succ, set_8, Nat.reduceMod, Nat.reduceDiv, Nat.zero_mod, Nat.zero_ne_one, if_true, if_false, reduceIte]
                rcases Nat.lt_or_ge j (decB s).length with h2 | h2
                · simp (config := { maxSteps := 1000000 }) (disch := ((try simp only [awL]); omega)) only [hG, nextC_more, nextC_over, bs_size, bs_extract, bs_toList, bs_append, byteAt_bs, bs_cells, nums_length, nums_getD, ↓awU, awV, awF, ofVal, ofVal0, isShift, aggK, forall_const, ↓reduceIte, ↓reduceDIte, ↓purePost, combine, idsA, cellsA, numsOf, srcA, calleeA, refsA, isScalar, scalarD, scalar0, AV.one, putL, unfA, implies_true, IntKind.signed, Nat.reduceAdd, Nat.reduceSub, Nat.reduceMul, Nat.reducePow, Nat.reduceDiv, Nat.reduceMod, Int.reduceAdd, Int.reduceSub, Int.reduceMul, Int.reducePow, Int.reduceNeg, Int.reduceToNat, Int.reduceLT, Int.reduceLE, Nat.reduceEqDiff, sidsB, Nat.reduceBEq, keyKD, isIntK]
                  refine CallC.frozenE (times_spec (10 ^ j) 10 (by omega) (by rw [toW_10]; decide)) (by rw [toW_10]; rfl) ?_
                  rw [← Nat.pow_succ]
                  simp (config := { maxSteps := 1000000 }) (disch := ((try simp only [awL]); omega)) only [hG, nextC_more, nextC_over, bs_size, bs_extract, bs_toList, bs_append, byteAt_bs, bs_cells, nums_length, nums_getD, ↓awU, awV, awF, ofVal, ofVal0, isShift, aggK, forall_const, ↓reduceIte, ↓reduceDIte, ↓purePost, combine, idsA, cellsA, numsOf, srcA, calleeA, refsA, isScalar, scalarD, scalar0, AV.one, putL, unfA, implies_true, IntKind.signed, Nat.reduceAdd, Nat.reduceSub, Nat.reduceMul, Nat.reducePow, Nat.reduceDiv, Nat.reduceMod, Int.reduceAdd, Int.reduceSub, Int.reduceMul, Int.reducePow, Int.reduceNeg, Int.reduceToNat, Int.reduceLT, Int.reduceLE, Nat.reduceEqDiff, sidsB, Nat.reduceBEq, keyKD, isIntK]
                  exact ⟨j + 1, h2, by simp only; omega, ⟨[some 0, some 1, some 2], rfl, by simp, by simp [setsA, keepA, SWeak, AWeak], by simp [HWeak, BWeak, SWeak, AWeak]⟩⟩
                · obtain rfl : j = (decB s).length := by omega
                  have hd0 : ((10 ^ (decB s).length : Nat) : Int) ≠ 0 := by
                    have : 0 < 10 ^ (decB s).length := Nat.pow_pos (by decide)
                    omega
                  simp (config := { maxSteps := 1000000 }) (disch := ((try simp only [awL]); omega)) only [hG, nextC_more, nextC_over, bs_size, bs_extract, bs_toList, bs_append, byteAt_bs, bs_cells, nums_length, nums_getD, ↓awU, awV, awF, ofVal, ofVal0, isShift, aggK, forall_const, ↓reduceIte, ↓reduceDIte, ↓purePost, combine, idsA, cellsA, numsOf, srcA, calleeA, refsA, isScalar, scalarD, scalar0, AV.one, putL, unfA, implies_true, IntKind.signed, Nat.reduceAdd, Nat.reduceSub, Nat.reduceMul, Nat.reducePow, Nat.reduceDiv, Nat.reduceMod, Int.reduceAdd, Int.reduceSub, Int.reduceMul, Int.reducePow, Int.reduceNeg, Int.reduceToNat, Int.reduceLT, Int.reduceLE, Nat.reduceEqDiff, sidsB, Nat.reduceBEq, keyKD, isIntK]
                  refine CallC.pure (signed_spec true (decNum L) (by omega)) ?_
                  simp (config := { maxSteps := 1000000 }) (disch := ((try simp only [awL]); omega)) only [hG, nextC_more, nextC_over, bs_size, bs_extract, bs_toList, bs_append, byteAt_bs, bs_cells, nums_length, nums_getD, ↓awU, awV, awF, ofVal, ofVal0, isShift, aggK, forall_const, ↓reduceIte, ↓reduceDIte, ↓purePost, combine, idsA, cellsA, numsOf, srcA, calleeA, refsA, isScalar, scalarD, scalar0, AV.one, putL, unfA, implies_true, IntKind.signed, Nat.reduceAdd, Nat.reduceSub, Nat.reduceMul, Nat.reducePow, Nat.reduceDiv, Nat.reduceMod, Int.reduceAdd, Int.reduceSub, Int.reduceMul, Int.reducePow, Int.reduceNeg, Int.reduceToNat, Int.reduceLT, Int.reduceLE, Nat.reduceEqDiff, sidsB, Nat.reduceBEq, keyKD, isIntK]
                  refine CallC.pure (signed_spec false (10 ^ (decB s).length) (by omega)) ?_
                  simp (config := { maxSteps := 1000000 }) (disch := ((try simp only [awL]); omega)) only [hG, nextC_more, nextC_over, bs_size, bs_extract, bs_toList, bs_append, byteAt_bs, bs_cells, nums_length, nums_getD, ↓awU, awV, awF, ofVal, ofVal0, isShift, aggK, forall_const, ↓reduceIte, ↓reduceDIte, ↓purePost, combine, idsA, cellsA, numsOf, srcA, calleeA, refsA, isScalar, scalarD, scalar0, AV.one, putL, unfA, implies_true, IntKind.signed, Nat.reduceAdd, Nat.reduceSub, Nat.reduceMul, Nat.reducePow, Nat.reduceDiv, Nat.reduceMod, Int.reduceAdd, Int.reduceSub, Int.reduceMul, Int.reducePow, Int.reduceNeg, Int.reduceToNat, Int.reduceLT, Int.reduceLE, Nat.reduceEqDiff, sidsB, Nat.reduceBEq, keyKD, isIntK]
                  refine CallC.of (reduced_spec (if true = true then -(decNum L : Int) else (decNum L : Int)) ((10 ^ (decB s).length : Nat) : Int) hd0 (by simp only [sz]; split <;> simp <;> omega) (by simp only [sz, Int.natAbs_natCast]; omega)) (by rfl) ?_
                  rw [← hdv]
                  simp (config := { maxSteps := 1000000 }) (disch := ((try simp only [awL]); omega)) only [hG, nextC_more, nextC_over, bs_size, bs_extract, bs_toList, bs_append, byteAt_bs, bs_cells, nums_length, nums_getD, ↓awU, awV, awF, ofVal, ofVal0, isShift, aggK, forall_const, ↓reduceIte, ↓reduceDIte, ↓purePost, combine, idsA, cellsA, numsOf, srcA, calleeA, refsA, isScalar, scalarD, scalar0, AV.one, putL, unfA, implies_true, IntKind.signed, Nat.reduceAdd, Nat.reduceSub, Nat.reduceMul, Nat.reducePow, Nat.reduceDiv, Nat.reduceMod, Int.reduceAdd, Int.reduceSub, Int.reduceMul, Int.reducePow, Int.reduceNeg, Int.reduceToNat, Int.reduceLT, Int.reduceLE, Nat.reduceEqDiff, sidsB, Nat.reduceBEq, keyKD, isIntK]
                  first | done | rfl
end Go.Proofs.YtkppgdialedoeaaGreatDoor

namespace Go.Proofs.YtkppgdialedoeaaGreatDoor
open Go Go.Proofs Go.Abs
variable {G : Globals}
/-! The examples of the chapter. -/
def q12 : Rat := Rat.divInt 1 2
def q13 : Rat := Rat.divInt 1 3
theorem q_fv : FV q12 ∧ FV q13 ∧ FV (q12 + q13) := by decide +kernel
theorem q_text : textF (q12 + q13) = [53, 47, 54] := by decide +kernel
theorem q_t3 : textB (-3) = [45, 51] := by decide +kernel
theorem q_t1 : textB (-1) = [45, 49] := by decide +kernel
abbrev ex : List UInt8 := [45, 49, 50, 46, 53, 48]
theorem ex_ok : decOk ex = true ∧ FV (decVal ex) ∧ textF (decVal ex) = [45, 50, 53, 47, 50] := by decide +kernel
set_option maxHeartbeats 4000000 in
set_option maxRecDepth 100000 in
theorem sane_spec (hG : HG G) : Ctr Tryz.prog G 7 [] [] (.d (.bool true)) [] := by
  refine Ctr.pure (M := M0) hmix Tryz.func7 rfl go7 ?_
  obtain ⟨v1, v2, v3⟩ := q_fv
  obtain ⟨x1, x2, x3⟩ := ex_ok
  simp (config := { maxSteps := 1000000 }) (disch := ((try simp only [awL]); omega)) only [nextC_more, nextC_over, bs_size, bs_extract, bs_toList, bs_append, byteAt_bs, bs_cells, nums_length, nums_getD, Tryz.f7, ↓awU, awV, awF, ofVal, ofVal0, isShift, aggK, forall_const, ↓reduceIte, ↓reduceDIte, ↓purePost, combine, idsA, cellsA, numsOf, srcA, calleeA, refsA, isScalar, scalarD, scalar0, AV.one, putL, unfA, implies_true, IntKind.signed, Nat.reduceAdd, Nat.reduceSub, Nat.reduceMul, Nat.reducePow, Nat.reduceDiv, Nat.reduceMod, Int.reduceAdd, Int.reduceSub, Int.reduceMul, Int.reducePow, Int.reduceNeg, Int.reduceToNat, Int.reduceLT, Int.reduceLE, Nat.reduceEqDiff, sidsB, Nat.reduceBEq, keyKD, isIntK]
  refine CallC.pure (of_spec 1 2 (by decide) (by decide) (by decide) (by decide)) ?_
  rw [if_neg (by decide), if_neg (by decide), ← q12]
  simp (config := { maxSteps := 1000000 }) (disch := ((try simp only [awL]); omega)) only [nextC_more, nextC_over, bs_size, bs_extract, bs_toList, bs_append, byteAt_bs, bs_cells, nums_length, nums_getD, ↓awU, awV, awF, ofVal, ofVal0, isShift, aggK, forall_const, ↓reduceIte, ↓reduceDIte, ↓purePost, combine, idsA, cellsA, numsOf, srcA, calleeA, refsA, isScalar, scalarD, scalar0, AV.one, putL, unfA, implies_true, IntKind.signed, Nat.reduceAdd, Nat.reduceSub, Nat.reduceMul, Nat.reducePow, Nat.reduceDiv, Nat.reduceMod, Int.reduceAdd, Int.reduceSub, Int.reduceMul, Int.reducePow, Int.reduceNeg, Int.reduceToNat, Int.reduceLT, Int.reduceLE, Nat.reduceEqDiff, sidsB, Nat.reduceBEq, keyKD, isIntK]
  refine CallC.pure (of_spec 1 3 (by decide) (by decide) (by decide) (by decide)) ?_
  rw [if_neg (by decide), if_neg (by decide), ← q13]
  simp (config := { maxSteps := 1000000 }) (disch := ((try simp only [awL]); omega)) only [nextC_more, nextC_over, bs_size, bs_extract, bs_toList, bs_append, byteAt_bs, bs_cells, nums_length, nums_getD, ↓awU, awV, awF, ofVal, ofVal0, isShift, aggK, forall_const, ↓reduceIte, ↓reduceDIte, ↓purePost, combine, idsA, cellsA, numsOf, srcA, calleeA, refsA, isScalar, scalarD, scalar0, AV.one, putL, unfA, implies_true, IntKind.signed, Nat.reduceAdd, Nat.reduceSub, Nat.reduceMul, Nat.reducePow, Nat.reduceDiv, Nat.reduceMod, Int.reduceAdd, Int.reduceSub, Int.reduceMul, Int.reducePow, Int.reduceNeg, Int.reduceToNat, Int.reduceLT, Int.reduceLE, Nat.reduceEqDiff, sidsB, Nat.reduceBEq, keyKD, isIntK]
  refine CallC.pure (add_spec hG q12 q13 v1 v2 v3) ?_
  simp (config := { maxSteps := 1000000 }) (disch := ((try simp only [awL]); omega)) only [nextC_more, nextC_over, bs_size, bs_extract, bs_toList, bs_append, byteAt_bs, bs_cells, nums_length, nums_getD, ↓awU, awV, awF, ofVal, ofVal0, isShift, aggK, forall_const, ↓reduceIte, ↓reduceDIte, ↓purePost, combine, idsA, cellsA, numsOf, srcA, calleeA, refsA, isScalar, scalarD, scalar0, AV.one, putL, unfA, implies_true, IntKind.signed, Nat.reduceAdd, Nat.reduceSub, Nat.reduceMul, Nat.reducePow, Nat.reduceDiv, Nat.reduceMod, Int.reduceAdd, Int.reduceSub, Int.reduceMul, Int.reducePow, Int.reduceNeg, Int.reduceToNat, Int.reduceLT, Int.reduceLE, Nat.reduceEqDiff, sidsB, Nat.reduceBEq, keyKD, isIntK]
  refine CallC.pure (fromInt_spec (-7) (by decide) (by decide)) ?_
  simp (config := { maxSteps := 1000000 }) (disch := ((try simp only [awL]); omega)) only [nextC_more, nextC_over, bs_size, bs_extract, bs_toList, bs_append, byteAt_bs, bs_cells, nums_length, nums_getD, ↓awU, awV, awF, ofVal, ofVal0, isShift, aggK, forall_const, ↓reduceIte, ↓reduceDIte, ↓purePost, combine, idsA, cellsA, numsOf, srcA, calleeA, refsA, isScalar, scalarD, scalar0, AV.one, putL, unfA, implies_true, IntKind.signed, Nat.reduceAdd, Nat.reduceSub, Nat.reduceMul, Nat.reducePow, Nat.reduceDiv, Nat.reduceMod, Int.reduceAdd, Int.reduceSub, Int.reduceMul, Int.reducePow, Int.reduceNeg, Int.reduceToNat, Int.reduceLT, Int.reduceLE, Nat.reduceEqDiff, sidsB, Nat.reduceBEq, keyKD, isIntK]
  refine CallC.pure (fromInt_spec 2 (by decide) (by decide)) ?_
  simp (config := { maxSteps := 1000000 }) (disch := ((try simp only [awL]); omega)) only [nextC_more, nextC_over, bs_size, bs_extract, bs_toList, bs_append, byteAt_bs, bs_cells, nums_length, nums_getD, ↓awU, awV, awF, ofVal, ofVal0, isShift, aggK, forall_const, ↓reduceIte, ↓reduceDIte, ↓purePost, combine, idsA, cellsA, numsOf, srcA, calleeA, refsA, isScalar, scalarD, scalar0, AV.one, putL, unfA, implies_true, IntKind.signed, Nat.reduceAdd, Nat.reduceSub, Nat.reduceMul, Nat.reducePow, Nat.reduceDiv, Nat.reduceMod, Int.reduceAdd, Int.reduceSub, Int.reduceMul, Int.reducePow, Int.reduceNeg, Int.reduceToNat, Int.reduceLT, Int.reduceLE, Nat.reduceEqDiff, sidsB, Nat.reduceBEq, keyKD, isIntK]
  refine CallC.of (divBig_spec (-7) 2 (by decide +kernel) (by decide +kernel)) (by rfl) ?_
  rw [if_neg (by decide), if_neg (by decide), if_neg (by decide), show Int.tdiv (-7) 2 = -3 from rfl, show Int.tmod (-7) 2 = -1 from rfl]
  simp (config := { maxSteps := 1000000 }) (disch := ((try simp only [awL]); omega)) only [nextC_more, nextC_over, bs_size, bs_extract, bs_toList, bs_append, byteAt_bs, bs_cells, nums_length, nums_getD, ↓awU, awV, awF, ofVal, ofVal0, isShift, aggK, forall_const, ↓reduceIte, ↓reduceDIte, ↓purePost, combine, idsA, cellsA, numsOf, srcA, calleeA, refsA, isScalar, scalarD, scalar0, AV.one, putL, unfA, implies_true, IntKind.signed, Nat.reduceAdd, Nat.reduceSub, Nat.reduceMul, Nat.reducePow, Nat.reduceDiv, Nat.reduceMod, Int.reduceAdd, Int.reduceSub, Int.reduceMul, Int.reducePow, Int.reduceNeg, Int.reduceToNat, Int.reduceLT, Int.reduceLE, Nat.reduceEqDiff, sidsB, Nat.reduceBEq, keyKD, isIntK]
  refine CallC.pure (decimalF_spec hG ex (by decide)) ?_
  rw [x1, if_pos rfl]
  generalize decVal ex = y at *
  simp (config := { maxSteps := 1000000 }) (disch := ((try simp only [awL]); omega)) only [nextC_more, nextC_over, bs_size, bs_extract, bs_toList, bs_append, byteAt_bs, bs_cells, nums_length, nums_getD, ↓awU, awV, awF, ofVal, ofVal0, isShift, aggK, forall_const, ↓reduceIte, ↓reduceDIte, ↓purePost, combine, idsA, cellsA, numsOf, srcA, calleeA, refsA, isScalar, scalarD, scalar0, AV.one, putL, unfA, implies_true, IntKind.signed, Nat.reduceAdd, Nat.reduceSub, Nat.reduceMul, Nat.reducePow, Nat.reduceDiv, Nat.reduceMod, Int.reduceAdd, Int.reduceSub, Int.reduceMul, Int.reducePow, Int.reduceNeg, Int.reduceToNat, Int.reduceLT, Int.reduceLE, Nat.reduceEqDiff, sidsB, Nat.reduceBEq, keyKD, isIntK]
  refine CallC.pure (text_spec hG (q12 + q13) v3) ?_
  rw [q_text]
  simp (config := { maxSteps := 1000000 }) (disch := ((try simp only [awL]); omega)) only [nextC_more, nextC_over, bs_size, bs_extract, bs_toList, bs_append, byteAt_bs, bs_cells, nums_length, nums_getD, ↓awU, awV, awF, ofVal, ofVal0, isShift, aggK, forall_const, ↓reduceIte, ↓reduceDIte, ↓purePost, combine, idsA, cellsA, numsOf, srcA, calleeA, refsA, isScalar, scalarD, scalar0, AV.one, putL, unfA, implies_true, IntKind.signed, Nat.reduceAdd, Nat.reduceSub, Nat.reduceMul, Nat.reducePow, Nat.reduceDiv, Nat.reduceMod, Int.reduceAdd, Int.reduceSub, Int.reduceMul, Int.reducePow, Int.reduceNeg, Int.reduceToNat, Int.reduceLT, Int.reduceLE, Nat.reduceEqDiff, sidsB, Nat.reduceBEq, keyKD, isIntK]
  refine CallC.of (textBig_spec (-3)) (by rfl) ?_
  rw [q_t3]
  simp (config := { maxSteps := 1000000 }) (disch := ((try simp only [awL]); omega)) only [nextC_more, nextC_over, bs_size, bs_extract, bs_toList, bs_append, byteAt_bs, bs_cells, nums_length, nums_getD, ↓awU, awV, awF, ofVal, ofVal0, isShift, aggK, forall_const, ↓reduceIte, ↓reduceDIte, ↓purePost, combine, idsA, cellsA, numsOf, srcA, calleeA, refsA, isScalar, scalarD, scalar0, AV.one, putL, unfA, implies_true, IntKind.signed, Nat.reduceAdd, Nat.reduceSub, Nat.reduceMul, Nat.reducePow, Nat.reduceDiv, Nat.reduceMod, Int.reduceAdd, Int.reduceSub, Int.reduceMul, Int.reducePow, Int.reduceNeg, Int.reduceToNat, Int.reduceLT, Int.reduceLE, Nat.reduceEqDiff, sidsB, Nat.reduceBEq, keyKD, isIntK]
  refine CallC.of (textBig_spec (-1)) (by rfl) ?_
  rw [q_t1]
  simp (config := { maxSteps := 1000000 }) (disch := ((try simp only [awL]); omega)) only [nextC_more, nextC_over, bs_size, bs_extract, bs_toList, bs_append, byteAt_bs, bs_cells, nums_length, nums_getD, ↓awU, awV, awF, ofVal, ofVal0, isShift, aggK, forall_const, ↓reduceIte, ↓reduceDIte, ↓purePost, combine, idsA, cellsA, numsOf, srcA, calleeA, refsA, isScalar, scalarD, scalar0, AV.one, putL, unfA, implies_true, IntKind.signed, Nat.reduceAdd, Nat.reduceSub, Nat.reduceMul, Nat.reducePow, Nat.reduceDiv, Nat.reduceMod, Int.reduceAdd, Int.reduceSub, Int.reduceMul, Int.reducePow, Int.reduceNeg, Int.reduceToNat, Int.reduceLT, Int.reduceLE, Nat.reduceEqDiff, sidsB, Nat.reduceBEq, keyKD, isIntK]
  refine CallC.pure (text_spec hG y x2) ?_
  rw [x3]
  simp (config := { maxSteps := 1000000 }) (disch := ((try simp only [awL]); omega)) only [nextC_more, nextC_over, bs_size, bs_extract, bs_toList, bs_append, byteAt_bs, bs_cells, nums_length, nums_getD, ↓awU, awV, awF, ofVal, ofVal0, isShift, aggK, forall_const, ↓reduceIte, ↓reduceDIte, ↓purePost, combine, idsA, cellsA, numsOf, srcA, calleeA, refsA, isScalar, scalarD, scalar0, AV.one, putL, unfA, implies_true, IntKind.signed, Nat.reduceAdd, Nat.reduceSub, Nat.reduceMul, Nat.reducePow, Nat.reduceDiv, Nat.reduceMod, Int.reduceAdd, Int.reduceSub, Int.reduceMul, Int.reducePow, Int.reduceNeg, Int.reduceToNat, Int.reduceLT, Int.reduceLE, Nat.reduceEqDiff, sidsB, Nat.reduceBEq, keyKD, isIntK]
  first | done | rfl
end Go.Proofs.YtkppgdialedoeaaGreatDoor

namespace Go.Proofs.YtkppgdialedoeaaGreatDoor
open Go Go.Proofs Go.Abs
/-! Different numbers have different texts. -/
end Go.Proofs.YtkppgdialedoeaaGreatDoor

namespace Go.Proofs.YtkppgdialedoeaaGreatDoor
open Go Go.Proofs Go.Abs
variable {G : Globals}
/-! FractionOrder. -/
theorem Frac_neg (y : Rat) : Frac (-y) = .agg [.bool (decide ((-y).num < 0)), W (toW y.num.natAbs), .bool false, W (toW y.den)] := by
  simp only [Frac, Rat.neg_num, Rat.neg_den, Int.natAbs_neg]
theorem FV_neg {y : Rat} (h : FV y) : FV (-y) := by
  unfold FV at *
  simpa only [Rat.neg_num, Rat.neg_den, sz, Int.natAbs_neg] using h
theorem fsub_spec (hG : HG G) (x y : Rat) (h1 : FV x) (h2 : FV y) (h3 : FV (x - y)) :
    Ctr Tryz.prog G 17 [.d (Frac x), .d (Frac y)] [] (.d (.tup [Frac (x - y), .int .i64 0])) [] := by
  have h1' := h1
  have h2' := h2
  obtain ⟨b1, b2⟩ := h2'
  refine Ctr.pure (M := M0) hmix Tryz.func17 rfl go17 ?_
  simp (config := { maxSteps := 1000000 }) (disch := ((try simp only [awL]); omega)) only [Tryz.f17, ↓awU, awV, awF, ofVal, ofVal0, isShift, aggK, forall_const, ↓reduceIte, ↓reduceDIte, ↓purePost, combine, idsA, cellsA, numsOf, srcA, calleeA, refsA, isScalar, scalarD, scalar0, AV.one, putL, unfA, implies_true, IntKind.signed, Nat.reduceAdd, Nat.reduceSub, Nat.reduceMul, Nat.reducePow, Nat.reduceDiv, Nat.reduceMod, Int.reduceAdd, Int.reduceSub, Int.reduceMul, Int.reducePow, Int.reduceNeg, Int.reduceToNat, Int.reduceLT, Int.reduceLE, Nat.reduceEqDiff, sidsB, Nat.reduceBEq, keyKD, isIntK]
  refine CallC.pure (valid_spec hG y (by omega) (by omega)) ?_
  rw [decide_eq_true h2]
  simp (config := { maxSteps := 1000000 }) (disch := ((try simp only [awL]); omega)) only [↓awU, awV, awF, ofVal, ofVal0, isShift, aggK, forall_const, ↓reduceIte, ↓reduceDIte, ↓purePost, combine, idsA, cellsA, numsOf, srcA, calleeA, refsA, isScalar, scalarD, scalar0, AV.one, putL, unfA, implies_true, IntKind.signed, Nat.reduceAdd, Nat.reduceSub, Nat.reduceMul, Nat.reducePow, Nat.reduceDiv, Nat.reduceMod, Int.reduceAdd, Int.reduceSub, Int.reduceMul, Int.reducePow, Int.reduceNeg, Int.reduceToNat, Int.reduceLT, Int.reduceLE, Nat.reduceEqDiff, sidsB, Nat.reduceBEq, keyKD, isIntK]
  refine CallC.of (opposite_spec y.num) (by simp [bigL, W]) ?_
  simp (config := { maxSteps := 1000000 }) (disch := ((try simp only [awL]); omega)) only [bigL, ↓awU, awV, awF, ofVal, ofVal0, isShift, aggK, forall_const, ↓reduceIte, ↓reduceDIte, ↓purePost, combine, idsA, cellsA, numsOf, srcA, calleeA, refsA, isScalar, scalarD, scalar0, AV.one, putL, unfA, implies_true, IntKind.signed, Nat.reduceAdd, Nat.reduceSub, Nat.reduceMul, Nat.reducePow, Nat.reduceDiv, Nat.reduceMod, Int.reduceAdd, Int.reduceSub, Int.reduceMul, Int.reducePow, Int.reduceNeg, Int.reduceToNat, Int.reduceLT, Int.reduceLE, Nat.reduceEqDiff, sidsB, Nat.reduceBEq, keyKD, isIntK]
  rw [Rat.sub_eq_add_neg] at *
  refine CallC.of (result_plus hG x (-y) h1 (FV_neg h2) h3) (by rw [Frac_neg]; simp [W]; rfl) ?_
  simp (config := { maxSteps := 1000000 }) (disch := ((try simp only [awL]); omega)) only [↓awU, awV, awF, ofVal, ofVal0, isShift, aggK, forall_const, ↓reduceIte, ↓reduceDIte, ↓purePost, combine, idsA, cellsA, numsOf, srcA, calleeA, refsA, isScalar, scalarD, scalar0, AV.one, putL, unfA, implies_true, IntKind.signed, Nat.reduceAdd, Nat.reduceSub, Nat.reduceMul, Nat.reducePow, Nat.reduceDiv, Nat.reduceMod, Int.reduceAdd, Int.reduceSub, Int.reduceMul, Int.reducePow, Int.reduceNeg, Int.reduceToNat, Int.reduceLT, Int.reduceLE, Nat.reduceEqDiff, sidsB, Nat.reduceBEq, keyKD, isIntK]
  first | done | rfl
theorem Fw_sub {a b : Nat} {x y : Rat} (hx : Fw a x) (hy : Fw b y) : Fw (a + b + 2) (x - y) := by
  have e : x - y = Rat.divInt (x.num * y.den + (-y.num) * x.den) ((x.den * y.den : Nat) : Int) := by
    rw [Rat.sub_eq_add_neg, Rat.add_def', Rat.divInt_ofNat, Rat.neg_num, Rat.neg_den]
  have s1 := @sz_mul x.num y.den
  have s2 := @sz_mul (-y.num) x.den
  have s3 := @sz_add (x.num * y.den) ((-y.num) * x.den)
  have s4 := @times_len x.den y.den
  have hd : x.den * y.den ≠ 0 := Nat.mul_ne_zero x.den_nz y.den_nz
  obtain ⟨a1, a2⟩ := hx
  obtain ⟨b1, b2⟩ := hy
  have c1 : sz (-y.num) ≤ b := by simpa only [sz, Int.natAbs_neg] using b1
  have c2 : sz (x.den : Int) ≤ a := by simpa [sz] using a2
  have d2 : sz (y.den : Int) ≤ b := by simpa [sz] using b2
  rw [e]
  exact Fw_divInt (by omega) (by omega) (by simp only [sz, Int.natAbs_natCast]; omega)
/-- The seeds are bytes. -/
def OkS (t : List Int) : Prop := ∀ i, 0 ≤ t.getD i 0 ∧ t.getD i 0 ≤ 255
theorem OkS.take {t : List Int} (h : OkS t) : OkM (t.take 300) := by
  refine ⟨by rw [List.length_take]; omega, fun i => ?_⟩
  rw [List.getD_eq_getElem?_getD, List.getElem?_take]
  split
  · rw [← List.getD_eq_getElem?_getD]; exact h i
  · simp
end Go.Proofs.YtkppgdialedoeaaGreatDoor

namespace Go.Proofs.YtkppgdialedoeaaGreatDoor
open Go Go.Proofs Go.Abs
variable {G : Globals}
/-! Products and quotients of fractions. -/
def resF (n d : Int) : D := if d = 0 then .tup [Zf, .int .i64 8] else if FV (Rat.divInt n d) then .tup [Frac (Rat.divInt n d), .int .i64 0] else .tup [Zf, .int .i64 3]
set_option maxHeartbeats 4000000 in
set_option maxRecDepth 100000 in
theorem result_gen (hG : HG G) (op : FuncId) (x y : Rat) (h1 : FV x) (h2 : FV y) (n d : Int) (hn : sz n ≤ 1000) (hd : sz d ≤ 1000) (hop : Ctr Tryz.prog G op [.d (Frac x), .d (Frac y)] [] (.d (.tup [Big n, Big d])) []) :
    Ctr Tryz.prog G 59 [.d (.fn (.func op) [] []), .d (Frac x), .d (Frac y)] [] (.d (resF n d)) [] := by
  have h1' := h1
  have h2' := h2
  obtain ⟨a1, a2⟩ := h1'
  obtain ⟨b1, b2⟩ := h2'
  refine Ctr.pure (M := M0) hmix Tryz.func59 rfl go59 ?_
  simp (config := { maxSteps := 1000000 }) (disch := ((try simp only [awL]); omega)) only [Tryz.f59, ↓awU, awV, awF, ofVal, ofVal0, isShift, aggK, forall_const, ↓reduceIte, ↓reduceDIte, ↓purePost, combine, idsA, cellsA, numsOf, srcA, calleeA, refsA, isScalar, scalarD, scalar0, AV.one, putL, unfA, implies_true, IntKind.signed, Nat.reduceAdd, Nat.reduceSub, Nat.reduceMul, Nat.reducePow, Nat.reduceDiv, Nat.reduceMod, Int.reduceAdd, Int.reduceSub, Int.reduceMul, Int.reducePow, Int.reduceNeg, Int.reduceToNat, Int.reduceLT, Int.reduceLE, Nat.reduceEqDiff, sidsB, Nat.reduceBEq, keyKD, isIntK]
  refine CallC.pure (valid_spec hG x (by omega) (by omega)) ?_
  rw [decide_eq_true h1]
  simp (config := { maxSteps := 1000000 }) (disch := ((try simp only [awL]); omega)) only [↓awU, awV, awF, ofVal, ofVal0, isShift, aggK, forall_const, ↓reduceIte, ↓reduceDIte, ↓purePost, combine, idsA, cellsA, numsOf, srcA, calleeA, refsA, isScalar, scalarD, scalar0, AV.one, putL, unfA, implies_true, IntKind.signed, Nat.reduceAdd, Nat.reduceSub, Nat.reduceMul, Nat.reducePow, Nat.reduceDiv, Nat.reduceMod, Int.reduceAdd, Int.reduceSub, Int.reduceMul, Int.reducePow, Int.reduceNeg, Int.reduceToNat, Int.reduceLT, Int.reduceLE, Nat.reduceEqDiff, sidsB, Nat.reduceBEq, keyKD, isIntK]
  refine CallC.pure (valid_spec hG y (by omega) (by omega)) ?_
  rw [decide_eq_true h2]
  simp (config := { maxSteps := 1000000 }) (disch := ((try simp only [awL]); omega)) only [↓awU, awV, awF, ofVal, ofVal0, isShift, aggK, forall_const, ↓reduceIte, ↓reduceDIte, ↓purePost, combine, idsA, cellsA, numsOf, srcA, calleeA, refsA, isScalar, scalarD, scalar0, AV.one, putL, unfA, implies_true, IntKind.signed, Nat.reduceAdd, Nat.reduceSub, Nat.reduceMul, Nat.reducePow, Nat.reduceDiv, Nat.reduceMod, Int.reduceAdd, Int.reduceSub, Int.reduceMul, Int.reducePow, Int.reduceNeg, Int.reduceToNat, Int.reduceLT, Int.reduceLE, Nat.reduceEqDiff, sidsB, Nat.reduceBEq, keyKD, isIntK]
  refine CallC.pure hop ?_
  unfold resF
  by_cases h0 : d = 0
  · subst h0
    have e : (toW (0 : Int).natAbs).length = 0 := by rw [show (0 : Int).natAbs = 0 from rfl, toW_zero]; rfl
    rw [if_pos rfl]
    simp (config := { maxSteps := 1000000 }) (disch := ((try simp only [awL]); omega)) only [e, ↓awU, awV, awF, ofVal, ofVal0, isShift, aggK, forall_const, ↓reduceIte, ↓reduceDIte, ↓purePost, combine, idsA, cellsA, numsOf, srcA, calleeA, refsA, isScalar, scalarD, scalar0, AV.one, putL, unfA, implies_true, IntKind.signed, Nat.reduceAdd, Nat.reduceSub, Nat.reduceMul, Nat.reducePow, Nat.reduceDiv, Nat.reduceMod, Int.reduceAdd, Int.reduceSub, Int.reduceMul, Int.reducePow, Int.reduceNeg, Int.reduceToNat, Int.reduceLT, Int.reduceLE, Nat.reduceEqDiff, sidsB, Nat.reduceBEq, keyKD, isIntK]
  · have hp := (@sz_pos d.natAbs).2 (by omega)
    rw [if_neg h0]
    simp only [sz] at hn hd
    simp (config := { maxSteps := 1000000 }) (disch := ((try simp only [awL]); omega)) only [↓awU, awV, awF, ofVal, ofVal0, isShift, aggK, forall_const, ↓reduceIte, ↓reduceDIte, ↓purePost, combine, idsA, cellsA, numsOf, srcA, calleeA, refsA, isScalar, scalarD, scalar0, AV.one, putL, unfA, implies_true, IntKind.signed, Nat.reduceAdd, Nat.reduceSub, Nat.reduceMul, Nat.reducePow, Nat.reduceDiv, Nat.reduceMod, Int.reduceAdd, Int.reduceSub, Int.reduceMul, Int.reducePow, Int.reduceNeg, Int.reduceToNat, Int.reduceLT, Int.reduceLE, Nat.reduceEqDiff, sidsB, Nat.reduceBEq, keyKD, isIntK]
    refine CallC.pure (reduced_spec n d h0 (by simp only [sz]; omega) (by simp only [sz]; omega)) ?_
    by_cases hv : FV (Rat.divInt n d)
    · rw [if_pos hv]
      obtain ⟨e1, e2⟩ := hv
      simp only [sz] at e1
      generalize Rat.divInt n d = q at *
      simp (config := { maxSteps := 1000000 }) (disch := ((try simp only [awL]); omega)) only [↓awU, awV, awF, ofVal, ofVal0, isShift, aggK, forall_const, ↓reduceIte, ↓reduceDIte, ↓purePost, combine, idsA, cellsA, numsOf, srcA, calleeA, refsA, isScalar, scalarD, scalar0, AV.one, putL, unfA, implies_true, IntKind.signed, Nat.reduceAdd, Nat.reduceSub, Nat.reduceMul, Nat.reducePow, Nat.reduceDiv, Nat.reduceMod, Int.reduceAdd, Int.reduceSub, Int.reduceMul, Int.reducePow, Int.reduceNeg, Int.reduceToNat, Int.reduceLT, Int.reduceLE, Nat.reduceEqDiff, sidsB, Nat.reduceBEq, keyKD, isIntK]
    · rw [if_neg hv]
      generalize Rat.divInt n d = q at *
      have hv' : 256 < (toW q.num.natAbs).length ∨ 256 < (toW q.den).length := by
        rcases Nat.lt_or_ge 256 (toW q.num.natAbs).length with h | h
        · exact .inl h
        · exact .inr (Nat.lt_of_not_le fun h' => hv ⟨h, h'⟩)
      have hm : 256 < max (toW q.num.natAbs).length (toW q.den).length := by omega
      simp (config := { maxSteps := 1000000 }) (disch := ((try simp only [awL]); omega)) only [↓awU, awV, awF, ofVal, ofVal0, isShift, aggK, forall_const, ↓reduceIte, ↓reduceDIte, ↓purePost, combine, idsA, cellsA, numsOf, srcA, calleeA, refsA, isScalar, scalarD, scalar0, AV.one, putL, unfA, implies_true, IntKind.signed, Nat.reduceAdd, Nat.reduceSub, Nat.reduceMul, Nat.reducePow, Nat.reduceDiv, Nat.reduceMod, Int.reduceAdd, Int.reduceSub, Int.reduceMul, Int.reducePow, Int.reduceNeg, Int.reduceToNat, Int.reduceLT, Int.reduceLE, Nat.reduceEqDiff, sidsB, Nat.reduceBEq, keyKD, isIntK]
theorem times'_spec (x y : Rat) (h1 : FV x) (h2 : FV y) : Ctr Tryz.prog G 64 [.d (Frac x), .d (Frac y)] [] (.d (.tup [Big (x.num * y.num), Big ((x.den : Int) * y.den)])) [] := by
  obtain ⟨a1, a2⟩ := h1
  obtain ⟨b1, b2⟩ := h2
  have c2 : sz (x.den : Int) ≤ 256 := by simpa [sz] using a2
  have d2 : sz (y.den : Int) ≤ 256 := by simpa [sz] using b2
  refine Ctr.pure (M := M0) hmix Tryz.func64 rfl go64 ?_
  simp (config := { maxSteps := 1000000 }) (disch := ((try simp only [awL]); omega)) only [Tryz.f64, ↓awU, awV, awF, ofVal, ofVal0, isShift, aggK, forall_const, ↓reduceIte, ↓reduceDIte, ↓purePost, combine, idsA, cellsA, numsOf, srcA, calleeA, refsA, isScalar, scalarD, scalar0, AV.one, putL, unfA, implies_true, IntKind.signed, Nat.reduceAdd, Nat.reduceSub, Nat.reduceMul, Nat.reducePow, Nat.reduceDiv, Nat.reduceMod, Int.reduceAdd, Int.reduceSub, Int.reduceMul, Int.reducePow, Int.reduceNeg, Int.reduceToNat, Int.reduceLT, Int.reduceLE, Nat.reduceEqDiff, sidsB, Nat.reduceBEq, keyKD, isIntK]
  refine CallC.of (product_spec x.num y.num (by omega) (by omega)) (by simp [bigL, W]) ?_
  simp (config := { maxSteps := 1000000 }) (disch := ((try simp only [awL]); omega)) only [↓awU, awV, awF, ofVal, ofVal0, isShift, aggK, forall_const, ↓reduceIte, ↓reduceDIte, ↓purePost, combine, idsA, cellsA, numsOf, srcA, calleeA, refsA, isScalar, scalarD, scalar0, AV.one, putL, unfA, implies_true, IntKind.signed, Nat.reduceAdd, Nat.reduceSub, Nat.reduceMul, Nat.reducePow, Nat.reduceDiv, Nat.reduceMod, Int.reduceAdd, Int.reduceSub, Int.reduceMul, Int.reducePow, Int.reduceNeg, Int.reduceToNat, Int.reduceLT, Int.reduceLE, Nat.reduceEqDiff, sidsB, Nat.reduceBEq, keyKD, isIntK]
  refine CallC.of (product_spec x.den y.den (by omega) (by omega)) (by rw [Big, bigL_nat, Big, bigL_nat]) ?_
  simp (config := { maxSteps := 1000000 }) (disch := ((try simp only [awL]); omega)) only [↓awU, awV, awF, ofVal, ofVal0, isShift, aggK, forall_const, ↓reduceIte, ↓reduceDIte, ↓purePost, combine, idsA, cellsA, numsOf, srcA, calleeA, refsA, isScalar, scalarD, scalar0, AV.one, putL, unfA, implies_true, IntKind.signed, Nat.reduceAdd, Nat.reduceSub, Nat.reduceMul, Nat.reducePow, Nat.reduceDiv, Nat.reduceMod, Int.reduceAdd, Int.reduceSub, Int.reduceMul, Int.reducePow, Int.reduceNeg, Int.reduceToNat, Int.reduceLT, Int.reduceLE, Nat.reduceEqDiff, sidsB, Nat.reduceBEq, keyKD, isIntK]
  refine ⟨by rfl, ?_⟩
  rw [Big_nat]
theorem over'_spec (x y : Rat) (h1 : FV x) (h2 : FV y) : Ctr Tryz.prog G 65 [.d (Frac x), .d (Frac y)] [] (.d (.tup [Big (x.num * y.den), Big ((x.den : Int) * y.num)])) [] := by
  obtain ⟨a1, a2⟩ := h1
  obtain ⟨b1, b2⟩ := h2
  have c2 : sz (x.den : Int) ≤ 256 := by simpa [sz] using a2
  have d2 : sz (y.den : Int) ≤ 256 := by simpa [sz] using b2
  refine Ctr.pure (M := M0) hmix Tryz.func65 rfl go65 ?_
  simp (config := { maxSteps := 1000000 }) (disch := ((try simp only [awL]); omega)) only [Tryz.f65, ↓awU, awV, awF, ofVal, ofVal0, isShift, aggK, forall_const, ↓reduceIte, ↓reduceDIte, ↓purePost, combine, idsA, cellsA, numsOf, srcA, calleeA, refsA, isScalar, scalarD, scalar0, AV.one, putL, unfA, implies_true, IntKind.signed, Nat.reduceAdd, Nat.reduceSub, Nat.reduceMul, Nat.reducePow, Nat.reduceDiv, Nat.reduceMod, Int.reduceAdd, Int.reduceSub, Int.reduceMul, Int.reducePow, Int.reduceNeg, Int.reduceToNat, Int.reduceLT, Int.reduceLE, Nat.reduceEqDiff, sidsB, Nat.reduceBEq, keyKD, isIntK]
  refine CallC.of (product_spec x.num y.den (by omega) (by omega)) (by rw [Big_neg, Big, bigL_nat]) ?_
  simp (config := { maxSteps := 1000000 }) (disch := ((try simp only [awL]); omega)) only [↓awU, awV, awF, ofVal, ofVal0, isShift, aggK, forall_const, ↓reduceIte, ↓reduceDIte, ↓purePost, combine, idsA, cellsA, numsOf, srcA, calleeA, refsA, isScalar, scalarD, scalar0, AV.one, putL, unfA, implies_true, IntKind.signed, Nat.reduceAdd, Nat.reduceSub, Nat.reduceMul, Nat.reducePow, Nat.reduceDiv, Nat.reduceMod, Int.reduceAdd, Int.reduceSub, Int.reduceMul, Int.reducePow, Int.reduceNeg, Int.reduceToNat, Int.reduceLT, Int.reduceLE, Nat.reduceEqDiff, sidsB, Nat.reduceBEq, keyKD, isIntK]
  refine CallC.of (product_spec x.den y.num (by omega) (by omega)) (by rw [Big_nat]) ?_
  simp (config := { maxSteps := 1000000 }) (disch := ((try simp only [awL]); omega)) only [↓awU, awV, awF, ofVal, ofVal0, isShift, aggK, forall_const, ↓reduceIte, ↓reduceDIte, ↓purePost, combine, idsA, cellsA, numsOf, srcA, calleeA, refsA, isScalar, scalarD, scalar0, AV.one, putL, unfA, implies_true, IntKind.signed, Nat.reduceAdd, Nat.reduceSub, Nat.reduceMul, Nat.reducePow, Nat.reduceDiv, Nat.reduceMod, Int.reduceAdd, Int.reduceSub, Int.reduceMul, Int.reducePow, Int.reduceNeg, Int.reduceToNat, Int.reduceLT, Int.reduceLE, Nat.reduceEqDiff, sidsB, Nat.reduceBEq, keyKD, isIntK]
  rfl
theorem mul_eq (x y : Rat) : Rat.divInt (x.num * y.num) ((x.den : Int) * y.den) = x * y := by
  rw [← Rat.divInt_mul_divInt, Rat.num_divInt_den, Rat.num_divInt_den]
theorem div_eq (x y : Rat) : Rat.divInt (x.num * y.den) ((x.den : Int) * y.num) = x / y := by
  rw [← Rat.divInt_mul_divInt, Rat.num_divInt_den, Rat.div_def, Rat.inv_def]
theorem Fw_mul {a b : Nat} {x y : Rat} (hx : Fw a x) (hy : Fw b y) : Fw (a + b) (x * y) := by
  have s1 := @sz_mul x.num y.num
  have s2 := @sz_mul (x.den : Int) y.den
  obtain ⟨a1, a2⟩ := hx
  obtain ⟨b1, b2⟩ := hy
  have c2 : sz (x.den : Int) ≤ a := by simpa [sz] using a2
  have d2 : sz (y.den : Int) ≤ b := by simpa [sz] using b2
  have h1 := x.den_pos
  have h2 := y.den_pos
  rw [← mul_eq]
  exact Fw_divInt (Int.mul_ne_zero (by omega) (by omega)) (by omega) (by omega)
theorem Fw_neg {a : Nat} {y : Rat} (h : Fw a y) : Fw a (-y) := by
  unfold Fw at *
  simpa only [Rat.neg_num, Rat.neg_den, sz, Int.natAbs_neg] using h
theorem Fw_add {a b : Nat} {x y : Rat} (hx : Fw a x) (hy : Fw b y) : Fw (a + b + 2) (x + y) := by
  have := Fw_sub hx (Fw_neg hy)
  rwa [Rat.sub_eq_add_neg, Rat.neg_neg] at this
theorem Fw_div {a b : Nat} {x y : Rat} (hx : Fw a x) (hy : Fw b y) (h : y ≠ 0) : Fw (a + b) (x / y) := by
  have s1 := @sz_mul x.num y.den
  have s2 := @sz_mul (x.den : Int) y.num
  obtain ⟨a1, a2⟩ := hx
  obtain ⟨b1, b2⟩ := hy
  have c2 : sz (x.den : Int) ≤ a := by simpa [sz] using a2
  have d2 : sz (y.den : Int) ≤ b := by simpa [sz] using b2
  have h1 := x.den_pos
  have h2 : y.num ≠ 0 := fun e => h (Rat.num_eq_zero.1 e)
  rw [← div_eq]
  exact Fw_divInt (Int.mul_ne_zero (by omega) h2) (by omega) (by omega)
theorem fmul_spec (hG : HG G) (x y : Rat) (h1 : FV x) (h2 : FV y) (h3 : FV (x * y)) :
    Ctr Tryz.prog G 19 [.d (Frac x), .d (Frac y)] [] (.d (.tup [Frac (x * y), .int .i64 0])) [] := by
  have s1 := @sz_mul x.num y.num
  have s2 := @sz_mul (x.den : Int) y.den
  have c2 : sz (x.den : Int) ≤ 256 := by simpa [sz] using h1.2
  have d2 : sz (y.den : Int) ≤ 256 := by simpa [sz] using h2.2
  have b1 := h1.1
  have b2 := h2.1
  have p1 := x.den_pos
  have p2 := y.den_pos
  have e : resF (x.num * y.num) ((x.den : Int) * y.den) = .tup [Frac (x * y), .int .i64 0] := by
    rw [resF, if_neg (Int.mul_ne_zero (by omega) (by omega)), mul_eq, if_pos h3]
  refine Ctr.pure (M := M0) hmix Tryz.func19 rfl go19 ?_
  simp (config := { maxSteps := 1000000 }) (disch := ((try simp only [awL]); omega)) only [Tryz.f19, ↓awU, awV, awF, ofVal, ofVal0, isShift, aggK, forall_const, ↓reduceIte, ↓reduceDIte, ↓purePost, combine, idsA, cellsA, numsOf, srcA, calleeA, refsA, isScalar, scalarD, scalar0, AV.one, putL, unfA, implies_true, IntKind.signed, Nat.reduceAdd, Nat.reduceSub, Nat.reduceMul, Nat.reducePow, Nat.reduceDiv, Nat.reduceMod, Int.reduceAdd, Int.reduceSub, Int.reduceMul, Int.reducePow, Int.reduceNeg, Int.reduceToNat, Int.reduceLT, Int.reduceLE, Nat.reduceEqDiff, sidsB, Nat.reduceBEq, keyKD, isIntK]
  refine CallC.pure (result_gen hG _ x y h1 h2 _ _ (by omega) (by omega) (times'_spec x y h1 h2)) ?_
  rw [e]
  simp (config := { maxSteps := 1000000 }) (disch := ((try simp only [awL]); omega)) only [↓awU, awV, awF, ofVal, ofVal0, isShift, aggK, forall_const, ↓reduceIte, ↓reduceDIte, ↓purePost, combine, idsA, cellsA, numsOf, srcA, calleeA, refsA, isScalar, scalarD, scalar0, AV.one, putL, unfA, implies_true, IntKind.signed, Nat.reduceAdd, Nat.reduceSub, Nat.reduceMul, Nat.reducePow, Nat.reduceDiv, Nat.reduceMod, Int.reduceAdd, Int.reduceSub, Int.reduceMul, Int.reducePow, Int.reduceNeg, Int.reduceToNat, Int.reduceLT, Int.reduceLE, Nat.reduceEqDiff, sidsB, Nat.reduceBEq, keyKD, isIntK]
theorem fdiv_spec (hG : HG G) (x y : Rat) (h1 : FV x) (h2 : FV y) (h3 : FV (x / y)) :
    Ctr Tryz.prog G 21 [.d (Frac x), .d (Frac y)] [] (.d (.tup [if y = 0 then Zf else Frac (x / y), .int .i64 (if y = 0 then 8 else 0)])) [] := by
  have s1 := @sz_mul x.num y.den
  have s2 := @sz_mul (x.den : Int) y.num
  have c2 : sz (x.den : Int) ≤ 256 := by simpa [sz] using h1.2
  have d2 : sz (y.den : Int) ≤ 256 := by simpa [sz] using h2.2
  have b1 := h1.1
  have b2 := h2.1
  have p1 := x.den_pos
  have e : resF (x.num * y.den) ((x.den : Int) * y.num) = .tup [if y = 0 then Zf else Frac (x / y), .int .i64 (if y = 0 then 8 else 0)] := by
    by_cases h : y = 0
    · subst h
      rw [resF, if_pos (by simp)]; rfl
    · rw [resF, if_neg (Int.mul_ne_zero (by omega) (fun e => h (Rat.num_eq_zero.1 e))), div_eq, if_pos h3, if_neg h, if_neg h]
  refine Ctr.pure (M := M0) hmix Tryz.func21 rfl go21 ?_
  simp (config := { maxSteps := 1000000 }) (disch := ((try simp only [awL]); omega)) only [Tryz.f21, ↓awU, awV, awF, ofVal, ofVal0, isShift, aggK, forall_const, ↓reduceIte, ↓reduceDIte, ↓purePost, combine, idsA, cellsA, numsOf, srcA, calleeA, refsA, isScalar, scalarD, scalar0, AV.one, putL, unfA, implies_true, IntKind.signed, Nat.reduceAdd, Nat.reduceSub, Nat.reduceMul, Nat.reducePow, Nat.reduceDiv, Nat.reduceMod, Int.reduceAdd, Int.reduceSub, Int.reduceMul, Int.reducePow, Int.reduceNeg, Int.reduceToNat, Int.reduceLT, Int.reduceLE, Nat.reduceEqDiff, sidsB, Nat.reduceBEq, keyKD, isIntK]
  refine CallC.pure (result_gen hG _ x y h1 h2 _ _ (by omega) (by omega) (over'_spec x y h1 h2)) ?_
  rw [e]
  by_cases h : y = 0
  · rw [if_pos h, if_pos h]
    simp (config := { maxSteps := 1000000 }) (disch := ((try simp only [awL]); omega)) only [↓awU, awV, awF, ofVal, ofVal0, isShift, aggK, forall_const, ↓reduceIte, ↓reduceDIte, ↓purePost, combine, idsA, cellsA, numsOf, srcA, calleeA, refsA, isScalar, scalarD, scalar0, AV.one, putL, unfA, implies_true, IntKind.signed, Nat.reduceAdd, Nat.reduceSub, Nat.reduceMul, Nat.reducePow, Nat.reduceDiv, Nat.reduceMod, Int.reduceAdd, Int.reduceSub, Int.reduceMul, Int.reducePow, Int.reduceNeg, Int.reduceToNat, Int.reduceLT, Int.reduceLE, Nat.reduceEqDiff, sidsB, Nat.reduceBEq, keyKD, isIntK]
  · rw [if_neg h, if_neg h]
    simp (config := { maxSteps := 1000000 }) (disch := ((try simp only [awL]); omega)) only [↓awU, awV, awF, ofVal, ofVal0, isShift, aggK, forall_const, ↓reduceIte, ↓reduceDIte, ↓purePost, combine, idsA, cellsA, numsOf, srcA, calleeA, refsA, isScalar, scalarD, scalar0, AV.one, putL, unfA, implies_true, IntKind.signed, Nat.reduceAdd, Nat.reduceSub, Nat.reduceMul, Nat.reducePow, Nat.reduceDiv, Nat.reduceMod, Int.reduceAdd, Int.reduceSub, Int.reduceMul, Int.reducePow, Int.reduceNeg, Int.reduceToNat, Int.reduceLT, Int.reduceLE, Nat.reduceEqDiff, sidsB, Nat.reduceBEq, keyKD, isIntK]
end Go.Proofs.YtkppgdialedoeaaGreatDoor

namespace Go.Proofs.YtkppgdialedoeaaGreatDoor
open Go Go.Proofs Go.Abs
variable {G : Globals}
/-! Big integers that may be none: a sign and digits. -/
structure RB where
  neg : Bool
  l : List Nat
abbrev rbL (x : RB) : List D := [.bool x.neg, W x.l]
abbrev RBD (x : RB) : D := .agg (rbL x)
def RB.ok (x : RB) : Bool := decide (x.l.length ≤ 256 ∧ (x.l = [] ∧ x.neg = false ∨ x.l ≠ [] ∧ x.l.getD (x.l.length - 1) 0 ≠ 0))
def RB.int (x : RB) : Int := if x.neg then -(val x.l : Int) else val x.l
structure RB.Dg (x : RB) : Prop where
  dig : Dig x.l
  len : x.l.length ≤ 1000
theorem RB.big {x : RB} (hd : x.Dg) (h : x.ok = true) : rbL x = bigL x.int ∧ sz x.int ≤ 256 := by
  obtain ⟨h1, h2⟩ := of_decide_eq_true h
  rcases h2 with ⟨h2, h3⟩ | ⟨h2, h3⟩
  · have e : x.int = 0 := by rw [RB.int, h2, h3]; rfl
    have t0 : toW (0 : Int).natAbs = [] := toW_zero
    rw [e]
    refine ⟨?_, by simp only [sz, t0]; decide⟩
    rw [rbL, h2, h3]
    simp only [bigL, W, t0]; rfl
  · have e := toW_of hd.dig (.inr h3)
    have hp : val x.l ≠ 0 := fun e0 => by
      rw [e0, toW_zero] at e; exact h2 e.symm
    have ea : x.int.natAbs = val x.l := by unfold RB.int; split <;> omega
    refine ⟨?_, by simp only [sz, ea, e]; exact h1⟩
    have en : decide (x.int < 0) = x.neg := by
      unfold RB.int
      cases x.neg
      · exact decide_eq_false (by simp)
      · exact decide_eq_true (by simp; omega)
    simp only [rbL, bigL, ea, e, en]
theorem RB.of (n : Int) (h : sz n ≤ 1000) : RB.Dg ⟨decide (n < 0), toW n.natAbs⟩ := ⟨dig_toW _, h⟩
set_option maxHeartbeats 1000000 in
set_option maxRecDepth 100000 in
theorem validR_spec (x : RB) (hx : x.Dg) : Ctr Tryz.prog G 45 [.d (RBD x)] [] (.d (.bool x.ok)) [] := by
  obtain ⟨neg, l⟩ := x
  have hl : l.length ≤ 1000 := hx.len
  clear hx
  refine Ctr.pure (M := M0) hmix Tryz.func45 rfl go45 ?_
  rcases Nat.eq_zero_or_pos l.length with h0 | h0
  · obtain rfl : l = [] := List.eq_nil_of_length_eq_zero h0
    have hr2 : RB.ok ⟨neg, []⟩ = !neg := by cases neg <;> rfl
    rw [hr2]
    simp only [RBD, rbL] at *
    cases neg
    · simp (config := { maxSteps := 1000000 }) (disch := ((try simp only [awL]); omega)) only [Tryz.f45, ↓awU, awV, awF, ofVal, ofVal0, isShift, aggK, forall_const, ↓reduceIte, ↓reduceDIte, ↓purePost, combine, idsA, cellsA, numsOf, srcA, calleeA, refsA, isScalar, scalarD, scalar0, AV.one, putL, unfA, implies_true, IntKind.signed, Nat.reduceAdd, Nat.reduceSub, Nat.reduceMul, Nat.reducePow, Nat.reduceDiv, Nat.reduceMod, Int.reduceAdd, Int.reduceSub, Int.reduceMul, Int.reducePow, Int.reduceNeg, Int.reduceToNat, Int.reduceLT, Int.reduceLE, Nat.reduceEqDiff, sidsB, Nat.reduceBEq, keyKD, isIntK]
      try rfl
    · simp (config := { maxSteps := 1000000 }) (disch := ((try simp only [awL]); omega)) only [Tryz.f45, ↓awU, awV, awF, ofVal, ofVal0, isShift, aggK, forall_const, ↓reduceIte, ↓reduceDIte, ↓purePost, combine, idsA, cellsA, numsOf, srcA, calleeA, refsA, isScalar, scalarD, scalar0, AV.one, putL, unfA, implies_true, IntKind.signed, Nat.reduceAdd, Nat.reduceSub, Nat.reduceMul, Nat.reducePow, Nat.reduceDiv, Nat.reduceMod, Int.reduceAdd, Int.reduceSub, Int.reduceMul, Int.reducePow, Int.reduceNeg, Int.reduceToNat, Int.reduceLT, Int.reduceLE, Nat.reduceEqDiff, sidsB, Nat.reduceBEq, keyKD, isIntK]
      try rfl
  · obtain ⟨m, hm⟩ : ∃ m, l.length = m + 1 := ⟨l.length - 1, by omega⟩
    have hne : l ≠ [] := fun e => by rw [e] at h0; cases h0
    have hr2 : RB.ok ⟨neg, l⟩ = decide (m + 1 ≤ 256 ∧ l.getD m 0 ≠ 0) := by
      simp only [RB.ok]
      rw [hm, Nat.add_sub_cancel]
      refine decide_eq_decide.2 ⟨fun ⟨a, b⟩ => ⟨a, ?_⟩, fun ⟨a, b⟩ => ⟨a, .inr ⟨hne, b⟩⟩⟩
      rcases b with ⟨b, _⟩ | ⟨_, b⟩
      · exact absurd b hne
      · exact b
    rw [hr2]
    clear hr2
    simp only [RBD, rbL] at *
    by_cases h256 : m + 1 ≤ 256
    · by_cases hz : l.getD m 0 = 0
      · rw [decide_eq_false (fun h => h.2 hz)]
        have hz' : (((l.getD m 0 : Nat) : Int) != (0 : Int)) = false := by rw [hz]; rfl
        clear hz
        cases neg
        · simp (config := { maxSteps := 1000000 }) (disch := ((try simp only [awL]); omega)) only [Tryz.f45, hm, ↓ hz', ↓awU, awV, awF, ofVal, ofVal0, isShift, aggK, forall_const, ↓reduceIte, ↓reduceDIte, ↓purePost, combine, idsA, cellsA, numsOf, srcA, calleeA, refsA, isScalar, scalarD, scalar0, AV.one, putL, unfA, implies_true, IntKind.signed, Nat.reduceAdd, Nat.reduceSub, Nat.reduceMul, Nat.reducePow, Nat.reduceDiv, Nat.reduceMod, Int.reduceAdd, Int.reduceSub, Int.reduceMul, Int.reducePow, Int.reduceNeg, Int.reduceToNat, Int.reduceLT, Int.reduceLE, Nat.reduceEqDiff, sidsB, Nat.reduceBEq, keyKD, isIntK]
          try rfl
        · simp (config := { maxSteps := 1000000 }) (disch := ((try simp only [awL]); omega)) only [Tryz.f45, hm, ↓ hz', ↓awU, awV, awF, ofVal, ofVal0, isShift, aggK, forall_const, ↓reduceIte, ↓reduceDIte, ↓purePost, combine, idsA, cellsA, numsOf, srcA, calleeA, refsA, isScalar, scalarD, scalar0, AV.one, putL, unfA, implies_true, IntKind.signed, Nat.reduceAdd, Nat.reduceSub, Nat.reduceMul, Nat.reducePow, Nat.reduceDiv, Nat.reduceMod, Int.reduceAdd, Int.reduceSub, Int.reduceMul, Int.reducePow, Int.reduceNeg, Int.reduceToNat, Int.reduceLT, Int.reduceLE, Nat.reduceEqDiff, sidsB, Nat.reduceBEq, keyKD, isIntK]
          try rfl
      · have hz' : ¬ ((l.getD m 0 : Nat) : Int) = 0 := by omega
        rw [decide_eq_true ⟨h256, hz⟩]
        clear hz
        cases neg
        · simp (config := { maxSteps := 1000000 }) (disch := ((try simp only [awL]); omega)) only [Tryz.f45, hm, hz', ↓awU, awV, awF, ofVal, ofVal0, isShift, aggK, forall_const, ↓reduceIte, ↓reduceDIte, ↓purePost, combine, idsA, cellsA, numsOf, srcA, calleeA, refsA, isScalar, scalarD, scalar0, AV.one, putL, unfA, implies_true, IntKind.signed, Nat.reduceAdd, Nat.reduceSub, Nat.reduceMul, Nat.reducePow, Nat.reduceDiv, Nat.reduceMod, Int.reduceAdd, Int.reduceSub, Int.reduceMul, Int.reducePow, Int.reduceNeg, Int.reduceToNat, Int.reduceLT, Int.reduceLE, Nat.reduceEqDiff, sidsB, Nat.reduceBEq, keyKD, isIntK]
          try rfl
        · simp (config := { maxSteps := 1000000 }) (disch := ((try simp only [awL]); omega)) only [Tryz.f45, hm, hz', ↓awU, awV, awF, ofVal, ofVal0, isShift, aggK, forall_const, ↓reduceIte, ↓reduceDIte, ↓purePost, combine, idsA, cellsA, numsOf, srcA, calleeA, refsA, isScalar, scalarD, scalar0, AV.one, putL, unfA, implies_true, IntKind.signed, Nat.reduceAdd, Nat.reduceSub, Nat.reduceMul, Nat.reducePow, Nat.reduceDiv, Nat.reduceMod, Int.reduceAdd, Int.reduceSub, Int.reduceMul, Int.reducePow, Int.reduceNeg, Int.reduceToNat, Int.reduceLT, Int.reduceLE, Nat.reduceEqDiff, sidsB, Nat.reduceBEq, keyKD, isIntK]
          try rfl
    · rw [decide_eq_false fun h => h256 h.1]
      cases neg
      · simp (config := { maxSteps := 1000000 }) (disch := ((try simp only [awL]); omega)) only [Tryz.f45, hm, ↓awU, awV, awF, ofVal, ofVal0, isShift, aggK, forall_const, ↓reduceIte, ↓reduceDIte, ↓purePost, combine, idsA, cellsA, numsOf, srcA, calleeA, refsA, isScalar, scalarD, scalar0, AV.one, putL, unfA, implies_true, IntKind.signed, Nat.reduceAdd, Nat.reduceSub, Nat.reduceMul, Nat.reducePow, Nat.reduceDiv, Nat.reduceMod, Int.reduceAdd, Int.reduceSub, Int.reduceMul, Int.reducePow, Int.reduceNeg, Int.reduceToNat, Int.reduceLT, Int.reduceLE, Nat.reduceEqDiff, sidsB, Nat.reduceBEq, keyKD, isIntK]
        try rfl
      · simp (config := { maxSteps := 1000000 }) (disch := ((try simp only [awL]); omega)) only [Tryz.f45, hm, ↓awU, awV, awF, ofVal, ofVal0, isShift, aggK, forall_const, ↓reduceIte, ↓reduceDIte, ↓purePost, combine, idsA, cellsA, numsOf, srcA, calleeA, refsA, isScalar, scalarD, scalar0, AV.one, putL, unfA, implies_true, IntKind.signed, Nat.reduceAdd, Nat.reduceSub, Nat.reduceMul, Nat.reducePow, Nat.reduceDiv, Nat.reduceMod, Int.reduceAdd, Int.reduceSub, Int.reduceMul, Int.reducePow, Int.reduceNeg, Int.reduceToNat, Int.reduceLT, Int.reduceLE, Nat.reduceEqDiff, sidsB, Nat.reduceBEq, keyKD, isIntK]
        try rfl
set_option maxHeartbeats 1000000 in
set_option maxRecDepth 100000 in
theorem rvalidR_spec (x : RB) (hx : x.Dg) : Ctr Tryz.prog G 46 [.d (RBD x)] [] (.d (.bool x.ok)) [] := by
  obtain ⟨neg, l⟩ := x
  have hl : l.length ≤ 1000 := hx.len
  clear hx
  refine Ctr.pure (M := M0) hmix Tryz.func46 rfl go46 ?_
  rcases Nat.eq_zero_or_pos l.length with h0 | h0
  · obtain rfl : l = [] := List.eq_nil_of_length_eq_zero h0
    have hr2 : RB.ok ⟨neg, []⟩ = !neg := by cases neg <;> rfl
    rw [hr2]
    simp only [RBD, rbL] at *
    cases neg
    · simp (config := { maxSteps := 1000000 }) (disch := ((try simp only [awL]); omega)) only [Tryz.f46, ↓awU, awV, awF, ofVal, ofVal0, isShift, aggK, forall_const, ↓reduceIte, ↓reduceDIte, ↓purePost, combine, idsA, cellsA, numsOf, srcA, calleeA, refsA, isScalar, scalarD, scalar0, AV.one, putL, unfA, implies_true, IntKind.signed, Nat.reduceAdd, Nat.reduceSub, Nat.reduceMul, Nat.reducePow, Nat.reduceDiv, Nat.reduceMod, Int.reduceAdd, Int.reduceSub, Int.reduceMul, Int.reducePow, Int.reduceNeg, Int.reduceToNat, Int.reduceLT, Int.reduceLE, Nat.reduceEqDiff, sidsB, Nat.reduceBEq, keyKD, isIntK]
      try rfl
    · simp (config := { maxSteps := 1000000 }) (disch := ((try simp only [awL]); omega)) only [Tryz.f46, ↓awU, awV, awF, ofVal, ofVal0, isShift, aggK, forall_const, ↓reduceIte, ↓reduceDIte, ↓purePost, combine, idsA, cellsA, numsOf, srcA, calleeA, refsA, isScalar, scalarD, scalar0, AV.one, putL, unfA, implies_true, IntKind.signed, Nat.reduceAdd, Nat.reduceSub, Nat.reduceMul, Nat.reducePow, Nat.reduceDiv, Nat.reduceMod, Int.reduceAdd, Int.reduceSub, Int.reduceMul, Int.reducePow, Int.reduceNeg, Int.reduceToNat, Int.reduceLT, Int.reduceLE, Nat.reduceEqDiff, sidsB, Nat.reduceBEq, keyKD, isIntK]
      try rfl
  · obtain ⟨m, hm⟩ : ∃ m, l.length = m + 1 := ⟨l.length - 1, by omega⟩
    have hne : l ≠ [] := fun e => by rw [e] at h0; cases h0
    have hr2 : RB.ok ⟨neg, l⟩ = decide (m + 1 ≤ 256 ∧ l.getD m 0 ≠ 0) := by
      simp only [RB.ok]
      rw [hm, Nat.add_sub_cancel]
      refine decide_eq_decide.2 ⟨fun ⟨a, b⟩ => ⟨a, ?_⟩, fun ⟨a, b⟩ => ⟨a, .inr ⟨hne, b⟩⟩⟩
      rcases b with ⟨b, _⟩ | ⟨_, b⟩
      · exact absurd b hne
      · exact b
    rw [hr2]
    clear hr2
    simp only [RBD, rbL] at *
    by_cases h256 : m + 1 ≤ 256
    · by_cases hz : l.getD m 0 = 0
      · rw [decide_eq_false (fun h => h.2 hz)]
        have hz' : (((l.getD m 0 : Nat) : Int) != (0 : Int)) = false := by rw [hz]; rfl
        clear hz
        cases neg
        · simp (config := { maxSteps := 1000000 }) (disch := ((try simp only [awL]); omega)) only [Tryz.f46, hm, ↓ hz', ↓awU, awV, awF, ofVal, ofVal0, isShift, aggK, forall_const, ↓reduceIte, ↓reduceDIte, ↓purePost, combine, idsA, cellsA, numsOf, srcA, calleeA, refsA, isScalar, scalarD, scalar0, AV.one, putL, unfA, implies_true, IntKind.signed, Nat.reduceAdd, Nat.reduceSub, Nat.reduceMul, Nat.reducePow, Nat.reduceDiv, Nat.reduceMod, Int.reduceAdd, Int.reduceSub, Int.reduceMul, Int.reducePow, Int.reduceNeg, Int.reduceToNat, Int.reduceLT, Int.reduceLE, Nat.reduceEqDiff, sidsB, Nat.reduceBEq, keyKD, isIntK]
          try rfl
        · simp (config := { maxSteps := 1000000 }) (disch := ((try simp only [awL]); omega)) only [Tryz.f46, hm, ↓ hz', ↓awU, awV, awF, ofVal, ofVal0, isShift, aggK, forall_const, ↓reduceIte, ↓reduceDIte, ↓purePost, combine, idsA, cellsA, numsOf, srcA, calleeA, refsA, isScalar, scalarD, scalar0, AV.one, putL, unfA, implies_true, IntKind.signed, Nat.reduceAdd, Nat.reduceSub, Nat.reduceMul, Nat.reducePow, Nat.reduceDiv, Nat.reduceMod, Int.reduceAdd, Int.reduceSub, Int.reduceMul, Int.reducePow, Int.reduceNeg, Int.reduceToNat, Int.reduceLT, Int.reduceLE, Nat.reduceEqDiff, sidsB, Nat.reduceBEq, keyKD, isIntK]
          try rfl
      · have hz' : ¬ ((l.getD m 0 : Nat) : Int) = 0 := by omega
        rw [decide_eq_true ⟨h256, hz⟩]
        clear hz
        cases neg
        · simp (config := { maxSteps := 1000000 }) (disch := ((try simp only [awL]); omega)) only [Tryz.f46, hm, hz', ↓awU, awV, awF, ofVal, ofVal0, isShift, aggK, forall_const, ↓reduceIte, ↓reduceDIte, ↓purePost, combine, idsA, cellsA, numsOf, srcA, calleeA, refsA, isScalar, scalarD, scalar0, AV.one, putL, unfA, implies_true, IntKind.signed, Nat.reduceAdd, Nat.reduceSub, Nat.reduceMul, Nat.reducePow, Nat.reduceDiv, Nat.reduceMod, Int.reduceAdd, Int.reduceSub, Int.reduceMul, Int.reducePow, Int.reduceNeg, Int.reduceToNat, Int.reduceLT, Int.reduceLE, Nat.reduceEqDiff, sidsB, Nat.reduceBEq, keyKD, isIntK]
          try rfl
        · simp (config := { maxSteps := 1000000 }) (disch := ((try simp only [awL]); omega)) only [Tryz.f46, hm, hz', ↓awU, awV, awF, ofVal, ofVal0, isShift, aggK, forall_const, ↓reduceIte, ↓reduceDIte, ↓purePost, combine, idsA, cellsA, numsOf, srcA, calleeA, refsA, isScalar, scalarD, scalar0, AV.one, putL, unfA, implies_true, IntKind.signed, Nat.reduceAdd, Nat.reduceSub, Nat.reduceMul, Nat.reducePow, Nat.reduceDiv, Nat.reduceMod, Int.reduceAdd, Int.reduceSub, Int.reduceMul, Int.reducePow, Int.reduceNeg, Int.reduceToNat, Int.reduceLT, Int.reduceLE, Nat.reduceEqDiff, sidsB, Nat.reduceBEq, keyKD, isIntK]
          try rfl
    · rw [decide_eq_false fun h => h256 h.1]
      cases neg
      · simp (config := { maxSteps := 1000000 }) (disch := ((try simp only [awL]); omega)) only [Tryz.f46, hm, ↓awU, awV, awF, ofVal, ofVal0, isShift, aggK, forall_const, ↓reduceIte, ↓reduceDIte, ↓purePost, combine, idsA, cellsA, numsOf, srcA, calleeA, refsA, isScalar, scalarD, scalar0, AV.one, putL, unfA, implies_true, IntKind.signed, Nat.reduceAdd, Nat.reduceSub, Nat.reduceMul, Nat.reducePow, Nat.reduceDiv, Nat.reduceMod, Int.reduceAdd, Int.reduceSub, Int.reduceMul, Int.reducePow, Int.reduceNeg, Int.reduceToNat, Int.reduceLT, Int.reduceLE, Nat.reduceEqDiff, sidsB, Nat.reduceBEq, keyKD, isIntK]
        try rfl
      · simp (config := { maxSteps := 1000000 }) (disch := ((try simp only [awL]); omega)) only [Tryz.f46, hm, ↓awU, awV, awF, ofVal, ofVal0, isShift, aggK, forall_const, ↓reduceIte, ↓reduceDIte, ↓purePost, combine, idsA, cellsA, numsOf, srcA, calleeA, refsA, isScalar, scalarD, scalar0, AV.one, putL, unfA, implies_true, IntKind.signed, Nat.reduceAdd, Nat.reduceSub, Nat.reduceMul, Nat.reducePow, Nat.reduceDiv, Nat.reduceMod, Int.reduceAdd, Int.reduceSub, Int.reduceMul, Int.reducePow, Int.reduceNeg, Int.reduceToNat, Int.reduceLT, Int.reduceLE, Nat.reduceEqDiff, sidsB, Nat.reduceBEq, keyKD, isIntK]
        try rfl
set_option maxRecDepth 100000 in
theorem bigsR_spec (a b : RB) (ha : a.Dg) (hb : b.Dg) : Ctr Tryz.prog G 68 [.d (.sl 2 false (rbL a ++ rbL b))] [] (.d (.bool (a.ok && b.ok))) [] := by
  refine Ctr.pure (M := M0) hmix Tryz.func68 rfl go68 ?_
  simp (config := { maxSteps := 1000000 }) (disch := ((try simp only [awL]); omega)) only [Tryz.f68, ↓awU, awV, awF, ofVal, ofVal0, isShift, aggK, forall_const, ↓reduceIte, ↓reduceDIte, ↓purePost, combine, idsA, cellsA, numsOf, srcA, calleeA, refsA, isScalar, scalarD, scalar0, AV.one, putL, unfA, implies_true, IntKind.signed, Nat.reduceAdd, Nat.reduceSub, Nat.reduceMul, Nat.reducePow, Nat.reduceDiv, Nat.reduceMod, Int.reduceAdd, Int.reduceSub, Int.reduceMul, Int.reducePow, Int.reduceNeg, Int.reduceToNat, Int.reduceLT, Int.reduceLE, Nat.reduceEqDiff, sidsB, Nat.reduceBEq, keyKD, isIntK]
  refine LoopC.fr 96 (α := Nat) (fun k => 2 - k) (fun k => [(7, .d (.int .i64 k))]) (fun _ => []) (fun k => k ≤ 2 ∧ (0 < k → a.ok = true) ∧ (1 < k → b.ok = true)) 0 ⟨by omega, by omega, by omega⟩ ?_ ?_
  · exact ⟨[], rfl, by simp, by simp [setsA, keepA, SWeak, AWeak], by simp [HWeak, BWeak, SWeak, AWeak]⟩
  · rintro k ⟨hk, ka, kb⟩
    simp only [keepA_z8, keepA_z, keepA_cons, keepA_nil, setsA_nil, setsA_cons, List.set_cons_zero, List.set_cons_succ, set_8, Nat.reduceMod, Nat.reduceDiv, Nat.zero_mod, Nat.zero_ne_one, if_true, if_false, reduceIte]
    rcases k with _ | _ | _ | k
    · simp (config := { maxSteps := 1000000 }) (disch := ((try simp only [awL]); omega)) only [↓awU, awV, awF, ofVal, ofVal0, isShift, aggK, forall_const, ↓reduceIte, ↓reduceDIte, ↓purePost, combine, idsA, cellsA, numsOf, srcA, calleeA, refsA, isScalar, scalarD, scalar0, AV.one, putL, unfA, implies_true, IntKind.signed, Nat.reduceAdd, Nat.reduceSub, Nat.reduceMul, Nat.reducePow, Nat.reduceDiv, Nat.reduceMod, Int.reduceAdd, Int.reduceSub, Int.reduceMul, Int.reducePow, Int.reduceNeg, Int.reduceToNat, Int.reduceLT, Int.reduceLE, Nat.reduceEqDiff, sidsB, Nat.reduceBEq, keyKD, isIntK]
      refine CallC.pure (validR_spec a ha) ?_
      cases h : a.ok
      · simp (config := { maxSteps := 1000000 }) (disch := ((try simp only [awL]); omega)) only [↓awU, awV, awF, ofVal, ofVal0, isShift, aggK, forall_const, ↓reduceIte, ↓reduceDIte, ↓purePost, combine, idsA, cellsA, numsOf, srcA, calleeA, refsA, isScalar, scalarD, scalar0, AV.one, putL, unfA, implies_true, IntKind.signed, Nat.reduceAdd, Nat.reduceSub, Nat.reduceMul, Nat.reducePow, Nat.reduceDiv, Nat.reduceMod, Int.reduceAdd, Int.reduceSub, Int.reduceMul, Int.reducePow, Int.reduceNeg, Int.reduceToNat, Int.reduceLT, Int.reduceLE, Nat.reduceEqDiff, sidsB, Nat.reduceBEq, keyKD, isIntK]
        try rfl
      · simp (config := { maxSteps := 1000000 }) (disch := ((try simp only [awL]); omega)) only [↓awU, awV, awF, ofVal, ofVal0, isShift, aggK, forall_const, ↓reduceIte, ↓reduceDIte, ↓purePost, combine, idsA, cellsA, numsOf, srcA, calleeA, refsA, isScalar, scalarD, scalar0, AV.one, putL, unfA, implies_true, IntKind.signed, Nat.reduceAdd, Nat.reduceSub, Nat.reduceMul, Nat.reducePow, Nat.reduceDiv, Nat.reduceMod, Int.reduceAdd, Int.reduceSub, Int.reduceMul, Int.reducePow, Int.reduceNeg, Int.reduceToNat, Int.reduceLT, Int.reduceLE, Nat.reduceEqDiff, sidsB, Nat.reduceBEq, keyKD, isIntK]
        exact ⟨1, by simp [h], by simp only; omega, ⟨[], rfl, by simp, by simp [setsA, keepA, SWeak, AWeak], by simp [HWeak, BWeak, SWeak, AWeak]⟩⟩
    · have ka := ka (by omega)
      simp (config := { maxSteps := 1000000 }) (disch := ((try simp only [awL]); omega)) only [↓awU, awV, awF, ofVal, ofVal0, isShift, aggK, forall_const, ↓reduceIte, ↓reduceDIte, ↓purePost, combine, idsA, cellsA, numsOf, srcA, calleeA, refsA, isScalar, scalarD, scalar0, AV.one, putL, unfA, implies_true, IntKind.signed, Nat.reduceAdd, Nat.reduceSub, Nat.reduceMul, Nat.reducePow, Nat.reduceDiv, Nat.reduceMod, Int.reduceAdd, Int.reduceSub, Int.reduceMul, Int.reducePow, Int.reduceNeg, Int.reduceToNat, Int.reduceLT, Int.reduceLE, Nat.reduceEqDiff, sidsB, Nat.reduceBEq, keyKD, isIntK]
      refine CallC.pure (validR_spec b hb) ?_
      cases h : b.ok
      · simp (config := { maxSteps := 1000000 }) (disch := ((try simp only [awL]); omega)) only [↓awU, awV, awF, ofVal, ofVal0, isShift, aggK, forall_const, ↓reduceIte, ↓reduceDIte, ↓purePost, combine, idsA, cellsA, numsOf, srcA, calleeA, refsA, isScalar, scalarD, scalar0, AV.one, putL, unfA, implies_true, IntKind.signed, Nat.reduceAdd, Nat.reduceSub, Nat.reduceMul, Nat.reducePow, Nat.reduceDiv, Nat.reduceMod, Int.reduceAdd, Int.reduceSub, Int.reduceMul, Int.reducePow, Int.reduceNeg, Int.reduceToNat, Int.reduceLT, Int.reduceLE, Nat.reduceEqDiff, sidsB, Nat.reduceBEq, keyKD, isIntK]
        try simp [ka]
      · simp (config := { maxSteps := 1000000 }) (disch := ((try simp only [awL]); omega)) only [↓awU, awV, awF, ofVal, ofVal0, isShift, aggK, forall_const, ↓reduceIte, ↓reduceDIte, ↓purePost, combine, idsA, cellsA, numsOf, srcA, calleeA, refsA, isScalar, scalarD, scalar0, AV.one, putL, unfA, implies_true, IntKind.signed, Nat.reduceAdd, Nat.reduceSub, Nat.reduceMul, Nat.reducePow, Nat.reduceDiv, Nat.reduceMod, Int.reduceAdd, Int.reduceSub, Int.reduceMul, Int.reducePow, Int.reduceNeg, Int.reduceToNat, Int.reduceLT, Int.reduceLE, Nat.reduceEqDiff, sidsB, Nat.reduceBEq, keyKD, isIntK]
        exact ⟨2, by simp [ka, h], by simp only; omega, ⟨[], rfl, by simp, by simp [setsA, keepA, SWeak, AWeak], by simp [HWeak, BWeak, SWeak, AWeak]⟩⟩
    · have ka := ka (by omega)
      have kb := kb (by omega)
      simp (config := { maxSteps := 1000000 }) (disch := ((try simp only [awL]); omega)) only [↓awU, awV, awF, ofVal, ofVal0, isShift, aggK, forall_const, ↓reduceIte, ↓reduceDIte, ↓purePost, combine, idsA, cellsA, numsOf, srcA, calleeA, refsA, isScalar, scalarD, scalar0, AV.one, putL, unfA, implies_true, IntKind.signed, Nat.reduceAdd, Nat.reduceSub, Nat.reduceMul, Nat.reducePow, Nat.reduceDiv, Nat.reduceMod, Int.reduceAdd, Int.reduceSub, Int.reduceMul, Int.reducePow, Int.reduceNeg, Int.reduceToNat, Int.reduceLT, Int.reduceLE, Nat.reduceEqDiff, sidsB, Nat.reduceBEq, keyKD, isIntK]
      try simp [ka, kb]
    · exact absurd hk (by omega)
end Go.Proofs.YtkppgdialedoeaaGreatDoor

namespace Go.Proofs.YtkppgdialedoeaaGreatDoor
open Go Go.Proofs Go.Abs
variable {G : Globals}
/-! Operations on big integers, valid or not, of both packages. -/
end Go.Proofs.YtkppgdialedoeaaGreatDoor

namespace Go.Proofs.YtkppgdialedoeaaGreatDoor
open Go Go.Proofs Go.Abs
variable {G : Globals}
/-! The int of a big integer, valid or not. -/
end Go.Proofs.YtkppgdialedoeaaGreatDoor

namespace Go.Proofs.YtkppgdialedoeaaGreatDoor
open Go Go.Proofs Go.Abs
variable {G : Globals}
/-! The reference's text of a big integer. -/
set_option maxRecDepth 100000 in
theorem rtrim_ref (o : List Nat) (n : Nat) (hd : Dig o) (hn : n ≤ o.length) (hl : o.length < 2 ^ 60) :
    Ctr Tryz.prog G 81 [.lsl 0 1 0 n] [.row false (nats .u32 o)] (.lsl 0 1 0 (toW (val (o.take n))).length) [.row false (nats .u32 o)] := by
  refine Ctr.body (M := M0) hmix Tryz.func81 rfl go81 ?_
  simp (config := { maxSteps := 1000000 }) (disch := ((try simp only [awL]); omega)) only [Tryz.f81, ↓awU, awV, awF, ofVal, ofVal0, isShift, aggK, forall_const, ↓reduceIte, ↓reduceDIte, ↓purePost, combine, idsA, cellsA, numsOf, srcA, calleeA, refsA, isScalar, scalarD, scalar0, AV.one, putL, unfA, implies_true, IntKind.signed, Nat.reduceAdd, Nat.reduceSub, Nat.reduceMul, Nat.reducePow, Nat.reduceDiv, Nat.reduceMod, Int.reduceAdd, Int.reduceSub, Int.reduceMul, Int.reducePow, Int.reduceNeg, Int.reduceToNat, Int.reduceLT, Int.reduceLE, Nat.reduceEqDiff, sidsB, Nat.reduceBEq, keyKD, isIntK]
  refine LoopC.fr 0 (α := Nat) (fun k => k) (fun k => [(0, .lsl 0 1 0 k)]) (fun _ => [.row false (nats .u32 o)]) (fun k => k ≤ n ∧ val (o.take k) = val (o.take n)) n ⟨Nat.le_refl _, rfl⟩ ?_ ?_
  · exact ⟨[some 0], rfl, by simp, by simp [setsA, keepA, SWeak, AWeak], by simp [HWeak, BWeak, SWeak, AWeak]⟩
  · rintro k ⟨hk, hv⟩
    simp only [keepA_z8, keepA_z, keepA_cons, keepA_nil, setsA_nil, setsA_cons, List.set_cons_zero, List.set_cons_succ, set_8, Nat.reduceMod, Nat.reduceDiv, Nat.zero_mod, Nat.zero_ne_one, if_true, if_false, reduceIte]
    rcases k with _ | k
    · simp (config := { maxSteps := 1000000 }) (disch := ((try simp only [awL]); omega)) only [↓awU, awV, awF, ofVal, ofVal0, isShift, aggK, forall_const, ↓reduceIte, ↓reduceDIte, ↓purePost, combine, idsA, cellsA, numsOf, srcA, calleeA, refsA, isScalar, scalarD, scalar0, AV.one, putL, unfA, implies_true, IntKind.signed, Nat.reduceAdd, Nat.reduceSub, Nat.reduceMul, Nat.reducePow, Nat.reduceDiv, Nat.reduceMod, Int.reduceAdd, Int.reduceSub, Int.reduceMul, Int.reducePow, Int.reduceNeg, Int.reduceToNat, Int.reduceLT, Int.reduceLE, Nat.reduceEqDiff, sidsB, Nat.reduceBEq, keyKD, isIntK]
      have : toW (val (o.take n)) = [] := by rw [← hv]; exact toW_zero
      rw [this]
      exact ⟨[some 0], rfl, by simp, by simp [HWeak, BWeak, SWeak, AWeak], .inl (by simp [AWeak])⟩
    · simp (config := { maxSteps := 1000000 }) (disch := ((try simp only [awL]); omega)) only [↓awU, awV, awF, ofVal, ofVal0, isShift, aggK, forall_const, ↓reduceIte, ↓reduceDIte, ↓purePost, combine, idsA, cellsA, numsOf, srcA, calleeA, refsA, isScalar, scalarD, scalar0, AV.one, putL, unfA, implies_true, IntKind.signed, Nat.reduceAdd, Nat.reduceSub, Nat.reduceMul, Nat.reducePow, Nat.reduceDiv, Nat.reduceMod, Int.reduceAdd, Int.reduceSub, Int.reduceMul, Int.reducePow, Int.reduceNeg, Int.reduceToNat, Int.reduceLT, Int.reduceLE, Nat.reduceEqDiff, sidsB, Nat.reduceBEq, keyKD, isIntK]
      refine ⟨fun h => ⟨k, ⟨by omega, ?_⟩, Nat.lt_succ_self _, ⟨[some 0], rfl, by simp, by simp [setsA, keepA, SWeak, AWeak], by simp [HWeak, BWeak, SWeak, AWeak]⟩⟩, fun h => ?_⟩
      · rw [← hv, take_val o k, show o.getD k 0 = 0 by omega]; simp
      · have := toW_take hd (k := k + 1) (by omega) (.inr (by simpa using h))
        rw [hv] at this
        rw [this]
        have e : (o.take (k + 1)).length = k + 1 := by simp; omega
        rw [e]
        exact ⟨[some 0], rfl, by simp, by simp [HWeak, BWeak, SWeak, AWeak], .inl (by simp [AWeak])⟩
set_option maxRecDepth 100000 in
theorem trim_prefix : ∀ {q : List Nat}, Dig q → toW (val q) = q.take (toW (val q)).length
  | [], _ => by show toW 0 = _; rw [toW_zero]; simp
  | d :: l, h => by
    have hd : d < B := h d (List.mem_cons_self ..)
    have ih := trim_prefix (q := l) fun x hx => h x (List.mem_cons_of_mem _ hx)
    by_cases h0 : val (d :: l) = 0
    · rw [h0, toW_zero]; rfl
    · have e : toW (val (d :: l)) = d :: toW (val l) := by
        rw [toW_pos h0]
        simp only [val]
        rw [Nat.add_mul_mod_self_left, Nat.mod_eq_of_lt hd, Nat.add_mul_div_left _ _ (by decide : 0 < B), Nat.div_eq_of_lt hd, Nat.zero_add]
      rw [e, List.length_cons, List.take_succ_cons, ← ih]
/-- The digits of a number, none of 0. -/
def dtx (n : Nat) : List UInt8 := (dgs n).reverse.map fun z => UInt8.ofNat z.toNat
set_option maxRecDepth 100000 in
theorem dtx_zero : dtx 0 = [] := by rw [dtx, dgs_zero]; rfl
set_option maxRecDepth 100000 in
theorem dtx_pos {n : Nat} (h : n ≠ 0) : dtx n = dtx (n / 10) ++ [UInt8.ofNat (48 + n % 10)] := by
  rw [dtx, dgs_pos h, List.reverse_cons, List.map_append]; rfl
set_option maxRecDepth 100000 in
theorem dtx_len (n : Nat) : (dtx n).length ≤ 10 * (toW n).length := by
  have := dgs_bound n
  rw [dtx, List.length_map, List.length_reverse]; exact this
set_option maxRecDepth 100000 in
theorem decS_dtx (n : Nat) : decS n = if n = 0 then [48] else dtx n := rfl
abbrev MT : Muts := fun f => Nat.beq f 81
set_option maxRecDepth 100000 in
theorem set_mid {α : Type} {a q e : List α} {k : Nat} {x y : α} (h : a.length = k) : (a ++ x :: (q ++ e)).set k y = a ++ y :: (q ++ e) := by
  subst h; simp
set_option maxRecDepth 100000 in
theorem take_row {l : List Nat} {k : Nat} {q e : List Nat} (h : k < l.length) : l.take (k + 1) ++ (q ++ e) = l.take k ++ l.getD k 0 :: (q ++ e) := by
  rw [List.take_add_one, List.getElem?_eq_getElem h, List.getD_eq_getElem?_getD, List.getElem?_eq_getElem h, List.append_assoc]; rfl
set_option maxHeartbeats 4000000 in
set_option maxRecDepth 100000 in
theorem rtextBig_spec (n : Int) (hz : sz n ≤ 256) : Ctr Tryz.prog G 49 [.d (Big n)] [] (.d (S (textB n))) [] := by
  rw [textB, if_pos hz]
  refine Ctr.pure (M := MT) hmix Tryz.func49 rfl go49 ?_
  simp (config := { maxSteps := 1000000 }) (disch := ((try simp only [awL]); omega)) only [MT, Nat.beq_eq, nextC_more, nextC_over, bs_size, bs_extract, bs_toList, bs_append, byteAt_bs, bs_cells, nums_length, nums_getD, Tryz.f49, ↓awU, awV, awF, ofVal, ofVal0, isShift, aggK, forall_const, ↓reduceIte, ↓reduceDIte, ↓purePost, combine, idsA, cellsA, numsOf, srcA, calleeA, refsA, isScalar, scalarD, scalar0, AV.one, putL, unfA, implies_true, IntKind.signed, Nat.reduceAdd, Nat.reduceSub, Nat.reduceMul, Nat.reducePow, Nat.reduceDiv, Nat.reduceMod, Int.reduceAdd, Int.reduceSub, Int.reduceMul, Int.reducePow, Int.reduceNeg, Int.reduceToNat, Int.reduceLT, Int.reduceLE, Nat.reduceEqDiff, sidsB, Nat.reduceBEq, keyKD, isIntK]
  refine CallC.pure (rvalidBig_spec n) ?_
  rw [decide_eq_true hz]
  simp only [sz] at hz
  have dl := dtx_len n.natAbs
  simp (config := { maxSteps := 1000000 }) (disch := ((try simp only [awL]); omega)) only [MT, Nat.beq_eq, nextC_more, nextC_over, bs_size, bs_extract, bs_toList, bs_append, byteAt_bs, bs_cells, nums_length, nums_getD, ↓awU, awV, awF, ofVal, ofVal0, isShift, aggK, forall_const, ↓reduceIte, ↓reduceDIte, ↓purePost, combine, idsA, cellsA, numsOf, srcA, calleeA, refsA, isScalar, scalarD, scalar0, AV.one, putL, unfA, implies_true, IntKind.signed, Nat.reduceAdd, Nat.reduceSub, Nat.reduceMul, Nat.reducePow, Nat.reduceDiv, Nat.reduceMod, Int.reduceAdd, Int.reduceSub, Int.reduceMul, Int.reducePow, Int.reduceNeg, Int.reduceToNat, Int.reduceLT, Int.reduceLE, Nat.reduceEqDiff, sidsB, Nat.reduceBEq, keyKD, isIntK]
  refine LoopC.fr 2 (α := Nat × List Nat × List UInt8) (fun a => a.1) (fun a => [(3, .lsl 1 1 0 (toW a.1).length), (4, .d (S a.2.2))])
    (fun a => [.box [.d (.bool (decide (n < 0))), .d (W (toW n.natAbs))], .row false (nats .u32 (toW a.1 ++ a.2.1))])
    (fun a => dtx a.1 ++ a.2.2 = dtx n.natAbs ∧ Dig a.2.1 ∧ (toW a.1 ++ a.2.1).length ≤ 256) (n.natAbs, [], []) ⟨by simp, by simp [Dig], by simpa using hz⟩ ?_ ?_
  · exact ⟨[some 0, some 2], rfl, by simp, by simp [setsA, keepA, SWeak, AWeak], by simp [HWeak, BWeak, SWeak, AWeak]⟩
  · rintro ⟨m, ex, s⟩ ⟨hs, hd, hlen⟩
    simp only at hs hd hlen
    have hsl := congrArg List.length hs
    rw [List.length_append] at hsl
    rw [List.length_append] at hlen
    simp only [keepA_z8, keepA_z, keepA_cons, keepA_nil, setsA_nil, setsA_cons, List.set_cons_zero, List.set_cons_succ, set_8, Nat.reduceMod, Nat.reduceDiv, Nat.zero_mod, Nat.zero_ne_one, if_true, if_false, reduceIte]
    by_cases m0 : m = 0
    · subst m0
      rw [dtx_zero, List.nil_append] at hs
      rw [toW_zero]
      subst hs
      by_cases n0 : n = 0
      · have e1 : dtx n.natAbs = [] := by rw [n0]; exact dtx_zero
        have e2 : decS n.natAbs = [48] := by rw [n0]; rfl
        rw [e1, e2, if_neg (by omega)]
        simp (config := { maxSteps := 1000000 }) (disch := ((try simp only [awL]); omega)) only [MT, Nat.beq_eq, nextC_more, nextC_over, bs_size, bs_extract, bs_toList, bs_append, byteAt_bs, bs_cells, nums_length, nums_getD, ↓awU, awV, awF, ofVal, ofVal0, isShift, aggK, forall_const, ↓reduceIte, ↓reduceDIte, ↓purePost, combine, idsA, cellsA, numsOf, srcA, calleeA, refsA, isScalar, scalarD, scalar0, AV.one, putL, unfA, implies_true, IntKind.signed, Nat.reduceAdd, Nat.reduceSub, Nat.reduceMul, Nat.reducePow, Nat.reduceDiv, Nat.reduceMod, Int.reduceAdd, Int.reduceSub, Int.reduceMul, Int.reducePow, Int.reduceNeg, Int.reduceToNat, Int.reduceLT, Int.reduceLE, Nat.reduceEqDiff, sidsB, Nat.reduceBEq, keyKD, isIntK]
        try rfl
      · have e1 : ¬ dtx n.natAbs = [] := by rw [dtx_pos (by omega)]; simp
        have e2 : decS n.natAbs = dtx n.natAbs := by rw [decS_dtx, if_neg (by omega)]
        rw [e2]
        by_cases hn : n < 0
        · rw [if_pos hn]
          simp (config := { maxSteps := 1000000 }) (disch := ((try simp only [awL]); omega)) only [MT, Nat.beq_eq, nextC_more, nextC_over, bs_size, bs_extract, bs_toList, bs_append, byteAt_bs, bs_cells, nums_length, nums_getD, e1, ↓awU, awV, awF, ofVal, ofVal0, isShift, aggK, forall_const, ↓reduceIte, ↓reduceDIte, ↓purePost, combine, idsA, cellsA, numsOf, srcA, calleeA, refsA, isScalar, scalarD, scalar0, AV.one, putL, unfA, implies_true, IntKind.signed, Nat.reduceAdd, Nat.reduceSub, Nat.reduceMul, Nat.reducePow, Nat.reduceDiv, Nat.reduceMod, Int.reduceAdd, Int.reduceSub, Int.reduceMul, Int.reducePow, Int.reduceNeg, Int.reduceToNat, Int.reduceLT, Int.reduceLE, Nat.reduceEqDiff, sidsB, Nat.reduceBEq, keyKD, isIntK]
          try rfl
        · rw [if_neg hn]
          simp (config := { maxSteps := 1000000 }) (disch := ((try simp only [awL]); omega)) only [MT, Nat.beq_eq, nextC_more, nextC_over, bs_size, bs_extract, bs_toList, bs_append, byteAt_bs, bs_cells, nums_length, nums_getD, e1, ↓awU, awV, awF, ofVal, ofVal0, isShift, aggK, forall_const, ↓reduceIte, ↓reduceDIte, ↓purePost, combine, idsA, cellsA, numsOf, srcA, calleeA, refsA, isScalar, scalarD, scalar0, AV.one, putL, unfA, implies_true, IntKind.signed, Nat.reduceAdd, Nat.reduceSub, Nat.reduceMul, Nat.reducePow, Nat.reduceDiv, Nat.reduceMod, Int.reduceAdd, Int.reduceSub, Int.reduceMul, Int.reducePow, Int.reduceNeg, Int.reduceToNat, Int.reduceLT, Int.reduceLE, Nat.reduceEqDiff, sidsB, Nat.reduceBEq, keyKD, isIntK]
          try rfl
    · have hl : 0 < (toW m).length := by rw [Nat.pos_iff_ne_zero, ne_eq, List.length_eq_zero_iff, toW_nil]; exact m0
      have da := dig_toW m
      have va := val_toW m
      simp (config := { maxSteps := 1000000 }) (disch := ((try simp only [awL]); omega)) only [MT, Nat.beq_eq, nextC_more, nextC_over, bs_size, bs_extract, bs_toList, bs_append, byteAt_bs, bs_cells, nums_length, nums_getD, ↓awU, awV, awF, ofVal, ofVal0, isShift, aggK, forall_const, ↓reduceIte, ↓reduceDIte, ↓purePost, combine, idsA, cellsA, numsOf, srcA, calleeA, refsA, isScalar, scalarD, scalar0, AV.one, putL, unfA, implies_true, IntKind.signed, Nat.reduceAdd, Nat.reduceSub, Nat.reduceMul, Nat.reducePow, Nat.reduceDiv, Nat.reduceMod, Int.reduceAdd, Int.reduceSub, Int.reduceMul, Int.reducePow, Int.reduceNeg, Int.reduceToNat, Int.reduceLT, Int.reduceLE, Nat.reduceEqDiff, sidsB, Nat.reduceBEq, keyKD, isIntK]
      refine LoopC.fr 26 (α := Nat × List Nat × Nat) (fun x => x.1) (fun x => [(5, .d (.int .u64 x.2.2)), (6, .d (.int .i64 ((x.1 : Int) - 1)))])
        (fun x => [.box [.d (.bool (decide (n < 0))), .d (W (toW n.natAbs))], .row false (nats .u32 ((toW m).take x.1 ++ (x.2.1 ++ ex)))])
        (fun x => x.1 ≤ (toW m).length ∧ x.2.1.length + x.1 = (toW m).length ∧ Dig x.2.1 ∧ x.2.2 < 10 ∧ val ((toW m).drop x.1) = val x.2.1 * 10 + x.2.2) ((toW m).length, [], 0) ⟨by simp, by simp, by simp [Dig], Nat.zero_lt_succ _, by simp [val]⟩ ?_ ?_
      · refine ⟨[some 0, some 1], rfl, by simp, by simp [setsA, keepA, SWeak, AWeak], ?_⟩
        simp [HWeak, BWeak, SWeak, AWeak]
      · rintro ⟨k, q, c⟩ ⟨hk, hq, hdq, hc, hv⟩
        simp only at hk hq hdq hc hv
        rcases k with _ | k
        · rw [List.drop_zero, va] at hv
          simp only [Nat.add_zero] at hq
          have hq10 : val q = m / 10 := by omega
          have hc10 : c = m % 10 := by omega
          have tq : (q ++ ex).take (toW m).length = q := by rw [← hq, List.take_left']; rfl
          have tp := trim_prefix hdq
          have hdx : Dig (q ++ ex) := fun d hd' => (List.mem_append.1 hd').elim (hdq d) (hd d)
          have hrow2 : q ++ ex = toW (m / 10) ++ (q.drop (toW (val q)).length ++ ex) := by
            rw [← hq10, ← List.append_assoc, tp, List.length_take, Nat.min_eq_left (by rw [tp, List.length_take]; omega), List.take_append_drop]
          have hle : (toW (val q)).length ≤ q.length := by rw [tp, List.length_take]; omega
          simp only [keepA_z8, keepA_z, keepA_cons, keepA_nil, setsA_nil, setsA_cons, List.set_cons_zero, List.set_cons_succ, set_8, Nat.reduceMod, Nat.reduceDiv, Nat.zero_mod, Nat.zero_ne_one, if_true, if_false, reduceIte]
          simp (config := { maxSteps := 1000000 }) (disch := ((try simp only [awL]); omega)) only [MT, Nat.beq_eq, nextC_more, nextC_over, bs_size, bs_extract, bs_toList, bs_append, byteAt_bs, bs_cells, nums_length, nums_getD, ↓awU, awV, awF, ofVal, ofVal0, isShift, aggK, forall_const, ↓reduceIte, ↓reduceDIte, ↓purePost, combine, idsA, cellsA, numsOf, srcA, calleeA, refsA, isScalar, scalarD, scalar0, AV.one, putL, unfA, implies_true, IntKind.signed, Nat.reduceAdd, Nat.reduceSub, Nat.reduceMul, Nat.reducePow, Nat.reduceDiv, Nat.reduceMod, Int.reduceAdd, Int.reduceSub, Int.reduceMul, Int.reducePow, Int.reduceNeg, Int.reduceToNat, Int.reduceLT, Int.reduceLE, Nat.reduceEqDiff, sidsB, Nat.reduceBEq, keyKD, isIntK]
          refine CallC.by (rtrim_ref (q ++ ex) (toW m).length hdx (by rw [List.length_append]; omega) (by rw [List.length_append]; omega)) (by rfl) (by rfl) (Nat.le_refl _) ?_
          rw [tq]
          have st1 : strOfNums [48 + (c : Int)] = bs [UInt8.ofNat (48 + c)] := by
            rw [strOfNums_bs, List.map_cons, List.map_nil, show (48 + (c : Int)).toNat = 48 + c by omega]
          have hd1 : dtx (m / 10) ++ UInt8.ofNat (48 + c) :: s = dtx n.natAbs := by
            rw [← hs, dtx_pos m0, ← hc10, List.append_assoc]; rfl
          simp (config := { maxSteps := 1000000 }) (disch := ((try simp only [awL]); omega)) only [MT, Nat.beq_eq, nextC_more, nextC_over, bs_size, bs_extract, bs_toList, bs_append, byteAt_bs, bs_cells, nums_length, nums_getD, st1, List.cons_append, List.nil_append, ↓awU, awV, awF, ofVal, ofVal0, isShift, aggK, forall_const, ↓reduceIte, ↓reduceDIte, ↓purePost, combine, idsA, cellsA, numsOf, srcA, calleeA, refsA, isScalar, scalarD, scalar0, AV.one, putL, unfA, implies_true, IntKind.signed, Nat.reduceAdd, Nat.reduceSub, Nat.reduceMul, Nat.reducePow, Nat.reduceDiv, Nat.reduceMod, Int.reduceAdd, Int.reduceSub, Int.reduceMul, Int.reducePow, Int.reduceNeg, Int.reduceToNat, Int.reduceLT, Int.reduceLE, Nat.reduceEqDiff, sidsB, Nat.reduceBEq, keyKD, isIntK]
          have hl3 := congrArg List.length hrow2
          rw [List.length_append, List.length_append] at hl3
          refine ⟨by rfl, (m / 10, q.drop (toW (val q)).length ++ ex, UInt8.ofNat (48 + c) :: s), ⟨hd1, fun d hd' => ?_, by simp only; omega⟩, by simp only; omega, ?_⟩
          · rcases List.mem_append.1 hd' with h | h
            · exact hdq d (List.mem_of_mem_drop h)
            · exact hd d h
          · simp only
            rw [← hrow2, ← hq10]
            exact ⟨[some 0, some 1], rfl, by simp, by simp [setsA, keepA, SWeak, AWeak], by simp [HWeak, BWeak, SWeak, AWeak]⟩
        · have hst := short_step (d := 10) (by omega) hv
          have hx := da.getD k
          simp only [B] at hx
          have ho := or64 (h := c) (x := (toW m).getD k 0) (by omega) hx
          have tl : ((toW m).take k).length = k := by rw [List.length_take]; omega
          have hrow := @take_row (toW m) k q ex (by omega)
          have hdv := divmod_step (d := 10) hc (da.getD k)
          simp only [B] at hst hdv
          obtain ⟨x, hxe⟩ : ∃ x, (toW m).getD k 0 = x := ⟨_, rfl⟩
          rw [hxe] at ho hrow hst hdv hx
          obtain ⟨A, hA⟩ : ∃ A, (toW m).take k = A := ⟨_, rfl⟩
          have hg : (A ++ x :: (q ++ ex)).getD k 0 = x := by rw [← tl, hA]; simp [List.getD_eq_getElem?_getD]
          obtain ⟨v, hve⟩ : ∃ v, c * 4294967296 + x = v := ⟨_, rfl⟩
          rw [hve] at ho hst hdv
          have e1 : (v : Int).tmod 10 = ((v % 10 : Nat) : Int) := by rw [Int.tmod_eq_emod_of_nonneg (by omega)]; rfl
          have e2 : (v : Int).tdiv 10 = ((v / 10 : Nat) : Int) := by rw [Int.tdiv_eq_ediv_of_nonneg (by omega)]; rfl
          have hset : (A ++ x :: (q ++ ex)).set k (v / 10) = A ++ (v / 10) :: (q ++ ex) := set_mid (by rw [← hA]; exact tl)
          simp only [keepA_z8, keepA_z, keepA_cons, keepA_nil, setsA_nil, setsA_cons, List.set_cons_zero, List.set_cons_succ, set_8, Nat.reduceMod, Nat.reduceDiv, Nat.zero_mod, Nat.zero_ne_one, if_true, if_false, reduceIte]
          rw [hrow, hA]
          rw [hA] at tl
          simp (config := { maxSteps := 1000000 }) (disch := ((try simp only [awL]); omega)) only [MT, Nat.beq_eq, nextC_more, nextC_over, bs_size, bs_extract, bs_toList, bs_append, byteAt_bs, bs_cells, nums_length, nums_getD, hg, ho, e1, e2, hset, tl, ↓awU, awV, awF, ofVal, ofVal0, isShift, aggK, forall_const, ↓reduceIte, ↓reduceDIte, ↓purePost, combine, idsA, cellsA, numsOf, srcA, calleeA, refsA, isScalar, scalarD, scalar0, AV.one, putL, unfA, implies_true, IntKind.signed, Nat.reduceAdd, Nat.reduceSub, Nat.reduceMul, Nat.reducePow, Nat.reduceDiv, Nat.reduceMod, Int.reduceAdd, Int.reduceSub, Int.reduceMul, Int.reducePow, Int.reduceNeg, Int.reduceToNat, Int.reduceLT, Int.reduceLE, Nat.reduceEqDiff, sidsB, Nat.reduceBEq, keyKD, isIntK]
          have el : (v / 10 :: q).length + k = (toW m).length := by rw [List.length_cons]; omega
          refine ⟨(k, v / 10 :: q, v % 10), ⟨by simp only; omega, el, fun d hd' => ?_, Nat.mod_lt _ (by decide), hst⟩, by simp only; omega, ?_⟩
          · rcases List.mem_cons.1 hd' with rfl | h
            · simpa only [B] using hdv
            · exact hdq d h
          · simp only [List.cons_append]
            rw [hA]
            exact ⟨[some 0, some 1], rfl, by simp, by simp [setsA, keepA, SWeak, AWeak], by simp [HWeak, BWeak, SWeak, AWeak]⟩
end Go.Proofs.YtkppgdialedoeaaGreatDoor

namespace Go.Proofs.YtkppgdialedoeaaGreatDoor
open Go Go.Proofs Go.Abs
variable {G : Globals}
/-! Texts of big integers that may be none; which are the same; odd ones. -/
set_option maxRecDepth 100000 in
theorem rsame_spec (n : Int) (hn : sz n ≤ 1000) : Ctr Tryz.prog G 38 [.d (Big n), .d (Big n)] [] (.d (.bool true)) [] := by
  simp only [sz] at hn
  refine Ctr.pure (M := M0) hmix Tryz.func38 rfl go38 ?_
  simp (config := { maxSteps := 1000000 }) (disch := ((try simp only [awL]); omega)) only [Tryz.f38, ↓awU, awV, awF, ofVal, ofVal0, isShift, aggK, forall_const, ↓reduceIte, ↓reduceDIte, ↓purePost, combine, idsA, cellsA, numsOf, srcA, calleeA, refsA, isScalar, scalarD, scalar0, AV.one, putL, unfA, implies_true, IntKind.signed, Nat.reduceAdd, Nat.reduceSub, Nat.reduceMul, Nat.reducePow, Nat.reduceDiv, Nat.reduceMod, Int.reduceAdd, Int.reduceSub, Int.reduceMul, Int.reducePow, Int.reduceNeg, Int.reduceToNat, Int.reduceLT, Int.reduceLE, Nat.reduceEqDiff, sidsB, Nat.reduceBEq, keyKD, isIntK]
  refine CallC.pure (rcmp_spec n.natAbs n.natAbs (by omega) (by omega)) ?_
  rw [cmpI_self]
  simp (config := { maxSteps := 1000000 }) (disch := ((try simp only [awL]); omega)) only [↓awU, awV, awF, ofVal, ofVal0, isShift, aggK, forall_const, ↓reduceIte, ↓reduceDIte, ↓purePost, combine, idsA, cellsA, numsOf, srcA, calleeA, refsA, isScalar, scalarD, scalar0, AV.one, putL, unfA, implies_true, IntKind.signed, Nat.reduceAdd, Nat.reduceSub, Nat.reduceMul, Nat.reducePow, Nat.reduceDiv, Nat.reduceMod, Int.reduceAdd, Int.reduceSub, Int.reduceMul, Int.reducePow, Int.reduceNeg, Int.reduceToNat, Int.reduceLT, Int.reduceLE, Nat.reduceEqDiff, sidsB, Nat.reduceBEq, keyKD, isIntK]
  try rfl
theorem mmod_spec (n m : Int) (hn1 : -9223372036854775808 ≤ n) (hn2 : n ≤ 9223372036854775807) (h0 : 0 < m) (h1 : m < 4611686018427387904) :
    Ctr Tryz.prog G 11 [.d (.int .i64 n), .d (.int .i64 m)] [] (.d (.int .i64 (n % m))) [] := by
  have e := Int.tmod_eq_emod (a := n) (b := m)
  have p1 := Int.emod_nonneg n (show m ≠ 0 by omega)
  have p2 := Int.emod_lt_of_pos n h0
  have c0 : -m < n.tmod m ∧ n.tmod m < m := ⟨Int.lt_tmod_of_pos n h0, Int.tmod_lt_of_pos n h0⟩
  have hh : (n.tmod m < 0 → n.tmod m + m = n % m) ∧ (¬ n.tmod m < 0 → n.tmod m = n % m) := by
    rw [e]
    split
    · exact ⟨fun h => by omega, fun _ => by omega⟩
    · exact ⟨fun h => by omega, fun h => by omega⟩
  clear e
  refine Ctr.pure (M := M0) hmix Tryz.func11 rfl go11 ?_
  simp (config := { maxSteps := 1000000 }) (disch := ((try simp only [awL]); omega)) only [Tryz.f11, ↓awU, awV, awF, ofVal, ofVal0, isShift, aggK, forall_const, ↓reduceIte, ↓reduceDIte, ↓purePost, combine, idsA, cellsA, numsOf, srcA, calleeA, refsA, isScalar, scalarD, scalar0, AV.one, putL, unfA, implies_true, IntKind.signed, Nat.reduceAdd, Nat.reduceSub, Nat.reduceMul, Nat.reducePow, Nat.reduceDiv, Nat.reduceMod, Int.reduceAdd, Int.reduceSub, Int.reduceMul, Int.reducePow, Int.reduceNeg, Int.reduceToNat, Int.reduceLT, Int.reduceLE, Nat.reduceEqDiff, sidsB, Nat.reduceBEq, keyKD, isIntK]
def RB.ofI (n : Int) : RB := ⟨decide (n < 0), toW n.natAbs⟩
def RB.odd (x : RB) (w : Int) : RB :=
  if w % 4 = 0 then ⟨x.neg, x.l ++ [0]⟩ else if w % 4 = 1 then ⟨!x.neg, x.l⟩ else if w % 4 = 2 then ⟨x.neg, List.replicate (255 + (w.tdiv 4 % 2).toNat) 0 ++ [1]⟩ else x
theorem rep_set (n : Nat) : (List.replicate (n + 1) 0).set n 1 = List.replicate n 0 ++ [1] := by
  rw [List.replicate_succ']
  simp
set_option maxHeartbeats 1000000 in
set_option maxRecDepth 100000 in
theorem odd_spec (x : RB) (hx : x.Dg) (w : Int) (hw1 : -9223372036854775808 ≤ w) (hw2 : w ≤ 9223372036854775807) : Ctr Tryz.prog G 10 [.d (RBD x), .d (.int .i64 w)] [] (.d (RBD (x.odd w))) [] := by
  have h4 : 0 ≤ w % 4 ∧ w % 4 < 4 := ⟨Int.emod_nonneg _ (by decide), Int.emod_lt_of_pos _ (by decide)⟩
  have h2 : 0 ≤ w.tdiv 4 % 2 ∧ w.tdiv 4 % 2 < 2 := ⟨Int.emod_nonneg _ (by decide), Int.emod_lt_of_pos _ (by decide)⟩
  have hq : -9223372036854775808 ≤ w.tdiv 4 ∧ w.tdiv 4 ≤ 9223372036854775807 := by
    rw [Int.tdiv_eq_ediv]
    have e6 : Int.sign 4 = 1 := rfl
    split <;> omega
  have hl := hx.len
  refine Ctr.pure (M := M0) hmix Tryz.func10 rfl go10 ?_
  simp (config := { maxSteps := 1000000 }) (disch := ((try simp only [awL]); omega)) only [Tryz.f10, ↓awU, awV, awF, ofVal, ofVal0, isShift, aggK, forall_const, ↓reduceIte, ↓reduceDIte, ↓purePost, combine, idsA, cellsA, numsOf, srcA, calleeA, refsA, isScalar, scalarD, scalar0, AV.one, putL, unfA, implies_true, IntKind.signed, Nat.reduceAdd, Nat.reduceSub, Nat.reduceMul, Nat.reducePow, Nat.reduceDiv, Nat.reduceMod, Int.reduceAdd, Int.reduceSub, Int.reduceMul, Int.reducePow, Int.reduceNeg, Int.reduceToNat, Int.reduceLT, Int.reduceLE, Nat.reduceEqDiff, sidsB, Nat.reduceBEq, keyKD, isIntK]
  refine CallC.pure (mmod_spec w 4 hw1 hw2 (by decide) (by decide)) ?_
  rw [RB.odd]
  generalize w % 4 = z at *
  obtain rfl | rfl | rfl | rfl : z = 0 ∨ z = 1 ∨ z = 2 ∨ z = 3 := by omega
  · rw [if_pos rfl]
    simp (config := { maxSteps := 1000000 }) (disch := ((try simp only [awL]); omega)) only [↓awU, awV, awF, ofVal, ofVal0, isShift, aggK, forall_const, ↓reduceIte, ↓reduceDIte, ↓purePost, combine, idsA, cellsA, numsOf, srcA, calleeA, refsA, isScalar, scalarD, scalar0, AV.one, putL, unfA, implies_true, IntKind.signed, Nat.reduceAdd, Nat.reduceSub, Nat.reduceMul, Nat.reducePow, Nat.reduceDiv, Nat.reduceMod, Int.reduceAdd, Int.reduceSub, Int.reduceMul, Int.reducePow, Int.reduceNeg, Int.reduceToNat, Int.reduceLT, Int.reduceLE, Nat.reduceEqDiff, sidsB, Nat.reduceBEq, keyKD, isIntK]
    have ep : nats .u32 x.l ++ [.int .u32 0] = nats .u32 (x.l ++ [0]) := nats_push (v := 0)
    rw [ep, cut_all (by rw [nats_length, List.length_append]; rfl)]
    simp [RBD, rbL, W]
  · rw [if_neg (by decide), if_pos rfl]
    simp (config := { maxSteps := 1000000 }) (disch := ((try simp only [awL]); omega)) only [↓awU, awV, awF, ofVal, ofVal0, isShift, aggK, forall_const, ↓reduceIte, ↓reduceDIte, ↓purePost, combine, idsA, cellsA, numsOf, srcA, calleeA, refsA, isScalar, scalarD, scalar0, AV.one, putL, unfA, implies_true, IntKind.signed, Nat.reduceAdd, Nat.reduceSub, Nat.reduceMul, Nat.reducePow, Nat.reduceDiv, Nat.reduceMod, Int.reduceAdd, Int.reduceSub, Int.reduceMul, Int.reducePow, Int.reduceNeg, Int.reduceToNat, Int.reduceLT, Int.reduceLE, Nat.reduceEqDiff, sidsB, Nat.reduceBEq, keyKD, isIntK]
    try rfl
  · rw [if_neg (by decide), if_neg (by decide), if_pos rfl]
    simp (config := { maxSteps := 1000000 }) (disch := ((try simp only [awL]); omega)) only [↓awU, awV, awF, ofVal, ofVal0, isShift, aggK, forall_const, ↓reduceIte, ↓reduceDIte, ↓purePost, combine, idsA, cellsA, numsOf, srcA, calleeA, refsA, isScalar, scalarD, scalar0, AV.one, putL, unfA, implies_true, IntKind.signed, Nat.reduceAdd, Nat.reduceSub, Nat.reduceMul, Nat.reducePow, Nat.reduceDiv, Nat.reduceMod, Int.reduceAdd, Int.reduceSub, Int.reduceMul, Int.reducePow, Int.reduceNeg, Int.reduceToNat, Int.reduceLT, Int.reduceLE, Nat.reduceEqDiff, sidsB, Nat.reduceBEq, keyKD, isIntK]
    refine CallC.pure (mmod_spec (w.tdiv 4) 2 hq.1 hq.2 (by decide) (by decide)) ?_
    obtain ⟨r, hr⟩ : ∃ r : Nat, w.tdiv 4 % 2 = r := ⟨(w.tdiv 4 % 2).toNat, by omega⟩
    rw [hr] at h2 ⊢
    have es := rep_set (255 + r)
    have en : (256 + (r : Int)).toNat = 256 + r := by omega
    have em : (((256 + r : Nat) : Int) - 1).toNat = 255 + r := by omega
    have hset : (nats .u32 (List.replicate (256 + r) 0)).set (255 + r) (.int .u32 1) = nats .u32 (List.replicate (255 + r) 0 ++ [1]) := by
      rw [← es, show 255 + r + 1 = 256 + r by omega]
      exact nats_set (v := 1)
    simp (config := { maxSteps := 1000000 }) (disch := ((try simp only [awL]); omega)) only [↓awU, awV, awF, ofVal, ofVal0, isShift, aggK, forall_const, ↓reduceIte, ↓reduceDIte, ↓purePost, combine, idsA, cellsA, numsOf, srcA, calleeA, refsA, isScalar, scalarD, scalar0, AV.one, putL, unfA, implies_true, IntKind.signed, Nat.reduceAdd, Nat.reduceSub, Nat.reduceMul, Nat.reducePow, Nat.reduceDiv, Nat.reduceMod, Int.reduceAdd, Int.reduceSub, Int.reduceMul, Int.reducePow, Int.reduceNeg, Int.reduceToNat, Int.reduceLT, Int.reduceLE, Nat.reduceEqDiff, sidsB, Nat.reduceBEq, keyKD, isIntK]
    rw [en, em, hset, cut_all (by rw [nats_length, List.length_append, List.length_replicate]; simp; omega)]
    simp [RBD, rbL, W]
    try omega
  · rw [if_neg (by decide), if_neg (by decide), if_neg (by decide)]
    simp (config := { maxSteps := 1000000 }) (disch := ((try simp only [awL]); omega)) only [↓awU, awV, awF, ofVal, ofVal0, isShift, aggK, forall_const, ↓reduceIte, ↓reduceDIte, ↓purePost, combine, idsA, cellsA, numsOf, srcA, calleeA, refsA, isScalar, scalarD, scalar0, AV.one, putL, unfA, implies_true, IntKind.signed, Nat.reduceAdd, Nat.reduceSub, Nat.reduceMul, Nat.reducePow, Nat.reduceDiv, Nat.reduceMod, Int.reduceAdd, Int.reduceSub, Int.reduceMul, Int.reducePow, Int.reduceNeg, Int.reduceToNat, Int.reduceLT, Int.reduceLE, Nat.reduceEqDiff, sidsB, Nat.reduceBEq, keyKD, isIntK]
    try rfl
end Go.Proofs.YtkppgdialedoeaaGreatDoor

namespace Go.Proofs.YtkppgdialedoeaaGreatDoor
open Go Go.Proofs Go.Abs
variable {G : Globals}
/-! Fractions that may be none: which are valid. -/
structure RF where
  n : RB
  d : RB
abbrev RFD (x : RF) : D := .agg [.bool x.n.neg, W x.n.l, .bool x.d.neg, W x.d.l]
abbrev FrI (p q : Int) : D := .agg [.bool (decide (p < 0)), W (toW p.natAbs), .bool (decide (q < 0)), W (toW q.natAbs)]
def okI (p q : Int) : Bool := decide (0 < q ∧ Nat.gcd p.natAbs q.natAbs = 1)
theorem okI_frac {p q : Int} (h : okI p q = true) : FrI p q = Frac (Rat.divInt p q) ∧ (Rat.divInt p q).num = p ∧ ((Rat.divInt p q).den : Int) = q := by
  obtain ⟨h1, h2⟩ := of_decide_eq_true h
  have e1 : (Rat.divInt p q).num = p := by
    rw [Rat.num_divInt, Int.sign_eq_one_of_pos h1, Int.one_mul]
    have : Int.gcd p q = 1 := h2
    rw [Int.gcd_comm, this]; simp
  have e2 : (Rat.divInt p q).den = q.natAbs := by
    rw [Rat.den_divInt, if_neg (by omega)]
    have : Int.gcd q p = 1 := by rw [Int.gcd_comm]; exact h2
    rw [this]; simp
  refine ⟨?_, e1, by rw [e2]; omega⟩
  simp only [FrI, Frac, e1, e2]
  rw [decide_eq_false (show ¬ q < 0 by omega)]
set_option maxHeartbeats 2000000 in
set_option maxRecDepth 100000 in
theorem validI_spec (hG : HG G) (p q : Int) (hp : sz p ≤ 256) (hq : sz q ≤ 256) : Ctr Tryz.prog G 25 [.d (FrI p q)] [] (.d (.bool (okI p q))) [] := by
  simp only [sz] at hp hq
  unfold HG at hG
  refine Ctr.pure (M := M0) hmix Tryz.func25 rfl go25 ?_
  simp (config := { maxSteps := 1000000 }) (disch := ((try simp only [awL]); omega)) only [Tryz.f25, ↓awU, awV, awF, ofVal, ofVal0, isShift, aggK, forall_const, ↓reduceIte, ↓reduceDIte, ↓purePost, combine, idsA, cellsA, numsOf, srcA, calleeA, refsA, isScalar, scalarD, scalar0, AV.one, putL, unfA, implies_true, IntKind.signed, Nat.reduceAdd, Nat.reduceSub, Nat.reduceMul, Nat.reducePow, Nat.reduceDiv, Nat.reduceMod, Int.reduceAdd, Int.reduceSub, Int.reduceMul, Int.reducePow, Int.reduceNeg, Int.reduceToNat, Int.reduceLT, Int.reduceLE, Nat.reduceEqDiff, sidsB, Nat.reduceBEq, keyKD, isIntK]
  refine CallC.by (bigs_spec p q) (by simp [cut, bigL, W]) rfl (Nat.le_refl _) ?_
  rw [decide_eq_true (show sz p ≤ 256 ∧ sz q ≤ 256 from ⟨hp, hq⟩)]
  by_cases h0 : q = 0
  · have e : (toW q.natAbs).length = 0 := by rw [h0]; show (toW 0).length = 0; rw [toW_zero]; rfl
    have hr : okI p q = false := decide_eq_false (by omega)
    rw [hr]
    simp (config := { maxSteps := 1000000 }) (disch := ((try simp only [awL]); omega)) only [hG, e, ↓awU, awV, awF, ofVal, ofVal0, isShift, aggK, forall_const, ↓reduceIte, ↓reduceDIte, ↓purePost, combine, idsA, cellsA, numsOf, srcA, calleeA, refsA, isScalar, scalarD, scalar0, AV.one, putL, unfA, implies_true, IntKind.signed, Nat.reduceAdd, Nat.reduceSub, Nat.reduceMul, Nat.reducePow, Nat.reduceDiv, Nat.reduceMod, Int.reduceAdd, Int.reduceSub, Int.reduceMul, Int.reducePow, Int.reduceNeg, Int.reduceToNat, Int.reduceLT, Int.reduceLE, Nat.reduceEqDiff, sidsB, Nat.reduceBEq, keyKD, isIntK]
    try rfl
  · have hl := (@sz_pos q.natAbs).2 (by omega)
    by_cases h1 : q < 0
    · have hr : okI p q = false := decide_eq_false (by omega)
      rw [hr]
      simp (config := { maxSteps := 1000000 }) (disch := ((try simp only [awL]); omega)) only [hG, ↓awU, awV, awF, ofVal, ofVal0, isShift, aggK, forall_const, ↓reduceIte, ↓reduceDIte, ↓purePost, combine, idsA, cellsA, numsOf, srcA, calleeA, refsA, isScalar, scalarD, scalar0, AV.one, putL, unfA, implies_true, IntKind.signed, Nat.reduceAdd, Nat.reduceSub, Nat.reduceMul, Nat.reducePow, Nat.reduceDiv, Nat.reduceMod, Int.reduceAdd, Int.reduceSub, Int.reduceMul, Int.reducePow, Int.reduceNeg, Int.reduceToNat, Int.reduceLT, Int.reduceLE, Nat.reduceEqDiff, sidsB, Nat.reduceBEq, keyKD, isIntK]
      try rfl
    · have hr : okI p q = true ↔ Nat.gcd p.natAbs q.natAbs = 1 := by
        unfold okI
        rw [decide_eq_true_eq]
        exact ⟨fun h => h.2, fun h => ⟨by omega, h⟩⟩
      have hg0 : Nat.gcd p.natAbs q.natAbs ≠ 0 := fun h => by
        have := (Nat.gcd_eq_zero_iff.1 h).2; omega
      have hgl : (toW (Nat.gcd p.natAbs q.natAbs)).length ≤ (toW q.natAbs).length := toW_len_mono (Nat.gcd_le_right _ (by omega))
      have hcs := common_spec (G := G) p.natAbs q.natAbs (by omega) (by omega)
      generalize okI p q = v at *
      generalize Nat.gcd p.natAbs q.natAbs = g at *
      simp (config := { maxSteps := 1000000 }) (disch := ((try simp only [awL]); omega)) only [hG, ↓awU, awV, awF, ofVal, ofVal0, isShift, aggK, forall_const, ↓reduceIte, ↓reduceDIte, ↓purePost, combine, idsA, cellsA, numsOf, srcA, calleeA, refsA, isScalar, scalarD, scalar0, AV.one, putL, unfA, implies_true, IntKind.signed, Nat.reduceAdd, Nat.reduceSub, Nat.reduceMul, Nat.reducePow, Nat.reduceDiv, Nat.reduceMod, Int.reduceAdd, Int.reduceSub, Int.reduceMul, Int.reducePow, Int.reduceNeg, Int.reduceToNat, Int.reduceLT, Int.reduceLE, Nat.reduceEqDiff, sidsB, Nat.reduceBEq, keyKD, isIntK]
      refine CallC.pure hcs ?_
      simp (config := { maxSteps := 1000000 }) (disch := ((try simp only [awL]); omega)) only [hG, ↓awU, awV, awF, ofVal, ofVal0, isShift, aggK, forall_const, ↓reduceIte, ↓reduceDIte, ↓purePost, combine, idsA, cellsA, numsOf, srcA, calleeA, refsA, isScalar, scalarD, scalar0, AV.one, putL, unfA, implies_true, IntKind.signed, Nat.reduceAdd, Nat.reduceSub, Nat.reduceMul, Nat.reducePow, Nat.reduceDiv, Nat.reduceMod, Int.reduceAdd, Int.reduceSub, Int.reduceMul, Int.reducePow, Int.reduceNeg, Int.reduceToNat, Int.reduceLT, Int.reduceLE, Nat.reduceEqDiff, sidsB, Nat.reduceBEq, keyKD, isIntK]
      refine CallC.of (compare_spec g 1 (by omega) (by rw [toW_one]; decide)) (by rw [toW_one]; rfl) ?_
      by_cases hg : g = 1
      · have hc : cmpI (g : Int) ((1 : Nat) : Int) = 0 := cmpI_eq (by omega)
        have hv : v = true := hr.2 hg
        rw [hc, hv]
        simp (config := { maxSteps := 1000000 }) (disch := ((try simp only [awL]); omega)) only [hG, ↓awU, awV, awF, ofVal, ofVal0, isShift, aggK, forall_const, ↓reduceIte, ↓reduceDIte, ↓purePost, combine, idsA, cellsA, numsOf, srcA, calleeA, refsA, isScalar, scalarD, scalar0, AV.one, putL, unfA, implies_true, IntKind.signed, Nat.reduceAdd, Nat.reduceSub, Nat.reduceMul, Nat.reducePow, Nat.reduceDiv, Nat.reduceMod, Int.reduceAdd, Int.reduceSub, Int.reduceMul, Int.reducePow, Int.reduceNeg, Int.reduceToNat, Int.reduceLT, Int.reduceLE, Nat.reduceEqDiff, sidsB, Nat.reduceBEq, keyKD, isIntK]
        try rfl
      · have hc : cmpI (g : Int) ((1 : Nat) : Int) ≠ 0 := by rw [cmpI_gt (by omega)]; decide
        have hv : v = false := by
          cases v
          · rfl
          · exact absurd (hr.1 rfl) hg
        rw [hv]
        generalize cmpI (g : Int) ((1 : Nat) : Int) = z at *
        simp (config := { maxSteps := 1000000 }) (disch := ((try simp only [awL]); omega)) only [hG, ↓awU, awV, awF, ofVal, ofVal0, isShift, aggK, forall_const, ↓reduceIte, ↓reduceDIte, ↓purePost, combine, idsA, cellsA, numsOf, srcA, calleeA, refsA, isScalar, scalarD, scalar0, AV.one, putL, unfA, implies_true, IntKind.signed, Nat.reduceAdd, Nat.reduceSub, Nat.reduceMul, Nat.reducePow, Nat.reduceDiv, Nat.reduceMod, Int.reduceAdd, Int.reduceSub, Int.reduceMul, Int.reducePow, Int.reduceNeg, Int.reduceToNat, Int.reduceLT, Int.reduceLE, Nat.reduceEqDiff, sidsB, Nat.reduceBEq, keyKD, isIntK]
        try rfl
end Go.Proofs.YtkppgdialedoeaaGreatDoor

namespace Go.Proofs.YtkppgdialedoeaaGreatDoor
open Go Go.Proofs Go.Abs
variable {G : Globals}
/-! The reference: which fractions are valid. -/
set_option maxHeartbeats 2000000 in
set_option maxRecDepth 100000 in
theorem rvalidI_spec (p q : Int) (hp : sz p ≤ 256) (hq : sz q ≤ 256) : Ctr Tryz.prog G 26 [.d (FrI p q)] [] (.d (.bool (okI p q))) [] := by
  have w1 : W (toW 1) = W [1] := by rw [toW_one]
  have r1 : (toW 1).length < 2 ^ 40 := by rw [toW_one]; decide
  have hp' := hp
  have hq' := hq
  simp only [sz] at hp' hq'
  refine Ctr.pure (M := M0) hmix Tryz.func26 rfl go26 ?_
  simp (config := { maxSteps := 1000000 }) (disch := ((try simp only [awL]); omega)) only [Tryz.f26, ↓awU, awV, awF, ofVal, ofVal0, isShift, aggK, forall_const, ↓reduceIte, ↓reduceDIte, ↓purePost, combine, idsA, cellsA, numsOf, srcA, calleeA, refsA, isScalar, scalarD, scalar0, AV.one, putL, unfA, implies_true, IntKind.signed, Nat.reduceAdd, Nat.reduceSub, Nat.reduceMul, Nat.reducePow, Nat.reduceDiv, Nat.reduceMod, Int.reduceAdd, Int.reduceSub, Int.reduceMul, Int.reducePow, Int.reduceNeg, Int.reduceToNat, Int.reduceLT, Int.reduceLE, Nat.reduceEqDiff, sidsB, Nat.reduceBEq, keyKD, isIntK]
  refine CallC.of (rvalidBig_spec p) (by rfl) ?_
  rw [decide_eq_true hp]
  simp (config := { maxSteps := 1000000 }) (disch := ((try simp only [awL]); omega)) only [↓awU, awV, awF, ofVal, ofVal0, isShift, aggK, forall_const, ↓reduceIte, ↓reduceDIte, ↓purePost, combine, idsA, cellsA, numsOf, srcA, calleeA, refsA, isScalar, scalarD, scalar0, AV.one, putL, unfA, implies_true, IntKind.signed, Nat.reduceAdd, Nat.reduceSub, Nat.reduceMul, Nat.reducePow, Nat.reduceDiv, Nat.reduceMod, Int.reduceAdd, Int.reduceSub, Int.reduceMul, Int.reducePow, Int.reduceNeg, Int.reduceToNat, Int.reduceLT, Int.reduceLE, Nat.reduceEqDiff, sidsB, Nat.reduceBEq, keyKD, isIntK]
  refine CallC.of (rvalidBig_spec q) (by rfl) ?_
  rw [decide_eq_true hq]
  by_cases h0 : q = 0
  · have e : (toW q.natAbs).length = 0 := by rw [h0]; show (toW 0).length = 0; rw [toW_zero]; rfl
    have hr : okI p q = false := decide_eq_false (by omega)
    rw [hr]
    simp (config := { maxSteps := 1000000 }) (disch := ((try simp only [awL]); omega)) only [e, ↓awU, awV, awF, ofVal, ofVal0, isShift, aggK, forall_const, ↓reduceIte, ↓reduceDIte, ↓purePost, combine, idsA, cellsA, numsOf, srcA, calleeA, refsA, isScalar, scalarD, scalar0, AV.one, putL, unfA, implies_true, IntKind.signed, Nat.reduceAdd, Nat.reduceSub, Nat.reduceMul, Nat.reducePow, Nat.reduceDiv, Nat.reduceMod, Int.reduceAdd, Int.reduceSub, Int.reduceMul, Int.reducePow, Int.reduceNeg, Int.reduceToNat, Int.reduceLT, Int.reduceLE, Nat.reduceEqDiff, sidsB, Nat.reduceBEq, keyKD, isIntK]
    try rfl
  · have hl := (@sz_pos q.natAbs).2 (by omega)
    by_cases h1 : q < 0
    · have hr : okI p q = false := decide_eq_false (by omega)
      rw [hr]
      simp (config := { maxSteps := 1000000 }) (disch := ((try simp only [awL]); omega)) only [↓awU, awV, awF, ofVal, ofVal0, isShift, aggK, forall_const, ↓reduceIte, ↓reduceDIte, ↓purePost, combine, idsA, cellsA, numsOf, srcA, calleeA, refsA, isScalar, scalarD, scalar0, AV.one, putL, unfA, implies_true, IntKind.signed, Nat.reduceAdd, Nat.reduceSub, Nat.reduceMul, Nat.reducePow, Nat.reduceDiv, Nat.reduceMod, Int.reduceAdd, Int.reduceSub, Int.reduceMul, Int.reducePow, Int.reduceNeg, Int.reduceToNat, Int.reduceLT, Int.reduceLE, Nat.reduceEqDiff, sidsB, Nat.reduceBEq, keyKD, isIntK]
      try rfl
    · have hr : okI p q = true ↔ Nat.gcd p.natAbs q.natAbs = 1 := by
        unfold okI
        rw [decide_eq_true_eq]
        exact ⟨fun h => h.2, fun h => ⟨by omega, h⟩⟩
      have fin : ∀ g : Nat, (okI p q = true ↔ g = 1) → g ≠ 0 → (cmpI (g : Int) ((1 : Nat) : Int) = 0 ∧ okI p q = true) ∨ (cmpI (g : Int) ((1 : Nat) : Int) ≠ 0 ∧ okI p q = false) := fun g hg h0 => by
        by_cases e : g = 1
        · exact .inl ⟨cmpI_eq (by omega), hg.2 e⟩
        · refine .inr ⟨by rw [cmpI_gt (by omega)]; decide, ?_⟩
          cases hv : okI p q
          · rfl
          · exact absurd (hg.1 hv) e
      by_cases hp0 : p.natAbs = 0
      · have e0 : (toW p.natAbs).length = 0 := by rw [hp0, toW_zero]; rfl
        rw [hp0, Nat.gcd_zero_left] at hr
        have fq := fin q.natAbs hr (by omega)
        generalize okI p q = v at *
        simp (config := { maxSteps := 1000000 }) (disch := ((try simp only [awL]); omega)) only [e0, ↓awU, awV, awF, ofVal, ofVal0, isShift, aggK, forall_const, ↓reduceIte, ↓reduceDIte, ↓purePost, combine, idsA, cellsA, numsOf, srcA, calleeA, refsA, isScalar, scalarD, scalar0, AV.one, putL, unfA, implies_true, IntKind.signed, Nat.reduceAdd, Nat.reduceSub, Nat.reduceMul, Nat.reducePow, Nat.reduceDiv, Nat.reduceMod, Int.reduceAdd, Int.reduceSub, Int.reduceMul, Int.reducePow, Int.reduceNeg, Int.reduceToNat, Int.reduceLT, Int.reduceLE, Nat.reduceEqDiff, sidsB, Nat.reduceBEq, keyKD, isIntK]
        refine CallC.frozenE (rcmp_spec q.natAbs 1 (by omega) r1) (by rw [w1]; rfl) ?_
        rcases fq with ⟨f1, f2⟩ | ⟨f1, f2⟩
        · rw [f1, f2]
          simp (config := { maxSteps := 1000000 }) (disch := ((try simp only [awL]); omega)) only [↓awU, awV, awF, ofVal, ofVal0, isShift, aggK, forall_const, ↓reduceIte, ↓reduceDIte, ↓purePost, combine, idsA, cellsA, numsOf, srcA, calleeA, refsA, isScalar, scalarD, scalar0, AV.one, putL, unfA, implies_true, IntKind.signed, Nat.reduceAdd, Nat.reduceSub, Nat.reduceMul, Nat.reducePow, Nat.reduceDiv, Nat.reduceMod, Int.reduceAdd, Int.reduceSub, Int.reduceMul, Int.reducePow, Int.reduceNeg, Int.reduceToNat, Int.reduceLT, Int.reduceLE, Nat.reduceEqDiff, sidsB, Nat.reduceBEq, keyKD, isIntK]
          try rfl
        · rw [f2]
          generalize cmpI (q.natAbs : Int) ((1 : Nat) : Int) = z at *
          simp (config := { maxSteps := 1000000 }) (disch := ((try simp only [awL]); omega)) only [↓awU, awV, awF, ofVal, ofVal0, isShift, aggK, forall_const, ↓reduceIte, ↓reduceDIte, ↓purePost, combine, idsA, cellsA, numsOf, srcA, calleeA, refsA, isScalar, scalarD, scalar0, AV.one, putL, unfA, implies_true, IntKind.signed, Nat.reduceAdd, Nat.reduceSub, Nat.reduceMul, Nat.reducePow, Nat.reduceDiv, Nat.reduceMod, Int.reduceAdd, Int.reduceSub, Int.reduceMul, Int.reducePow, Int.reduceNeg, Int.reduceToNat, Int.reduceLT, Int.reduceLE, Nat.reduceEqDiff, sidsB, Nat.reduceBEq, keyKD, isIntK]
          try rfl
      · have e0 := sz_pos.2 hp0
        have hg0 : Nat.gcd p.natAbs q.natAbs ≠ 0 := fun h => by
          have := (Nat.gcd_eq_zero_iff.1 h).2; omega
        have hgl : (toW (Nat.gcd p.natAbs q.natAbs)).length ≤ (toW q.natAbs).length := toW_len_mono (Nat.gcd_le_right _ (by omega))
        have hcs := gcd_spec (G := G) p.natAbs q.natAbs hp0 (by omega) (by omega) (by omega)
        have fq := fin _ hr hg0
        generalize okI p q = v at *
        generalize Nat.gcd p.natAbs q.natAbs = g at *
        simp (config := { maxSteps := 1000000 }) (disch := ((try simp only [awL]); omega)) only [↓awU, awV, awF, ofVal, ofVal0, isShift, aggK, forall_const, ↓reduceIte, ↓reduceDIte, ↓purePost, combine, idsA, cellsA, numsOf, srcA, calleeA, refsA, isScalar, scalarD, scalar0, AV.one, putL, unfA, implies_true, IntKind.signed, Nat.reduceAdd, Nat.reduceSub, Nat.reduceMul, Nat.reducePow, Nat.reduceDiv, Nat.reduceMod, Int.reduceAdd, Int.reduceSub, Int.reduceMul, Int.reducePow, Int.reduceNeg, Int.reduceToNat, Int.reduceLT, Int.reduceLE, Nat.reduceEqDiff, sidsB, Nat.reduceBEq, keyKD, isIntK]
        refine CallC.pure hcs ?_
        simp (config := { maxSteps := 1000000 }) (disch := ((try simp only [awL]); omega)) only [↓awU, awV, awF, ofVal, ofVal0, isShift, aggK, forall_const, ↓reduceIte, ↓reduceDIte, ↓purePost, combine, idsA, cellsA, numsOf, srcA, calleeA, refsA, isScalar, scalarD, scalar0, AV.one, putL, unfA, implies_true, IntKind.signed, Nat.reduceAdd, Nat.reduceSub, Nat.reduceMul, Nat.reducePow, Nat.reduceDiv, Nat.reduceMod, Int.reduceAdd, Int.reduceSub, Int.reduceMul, Int.reducePow, Int.reduceNeg, Int.reduceToNat, Int.reduceLT, Int.reduceLE, Nat.reduceEqDiff, sidsB, Nat.reduceBEq, keyKD, isIntK]
        refine CallC.frozenE (rcmp_spec g 1 (by omega) r1) (by simp only [toW_one]; rfl) ?_
        rcases fq with ⟨f1, f2⟩ | ⟨f1, f2⟩
        · rw [f1, f2]
          simp (config := { maxSteps := 1000000 }) (disch := ((try simp only [awL]); omega)) only [↓awU, awV, awF, ofVal, ofVal0, isShift, aggK, forall_const, ↓reduceIte, ↓reduceDIte, ↓purePost, combine, idsA, cellsA, numsOf, srcA, calleeA, refsA, isScalar, scalarD, scalar0, AV.one, putL, unfA, implies_true, IntKind.signed, Nat.reduceAdd, Nat.reduceSub, Nat.reduceMul, Nat.reducePow, Nat.reduceDiv, Nat.reduceMod, Int.reduceAdd, Int.reduceSub, Int.reduceMul, Int.reducePow, Int.reduceNeg, Int.reduceToNat, Int.reduceLT, Int.reduceLE, Nat.reduceEqDiff, sidsB, Nat.reduceBEq, keyKD, isIntK]
          try rfl
        · rw [f2]
          generalize cmpI (g : Int) ((1 : Nat) : Int) = z at *
          simp (config := { maxSteps := 1000000 }) (disch := ((try simp only [awL]); omega)) only [↓awU, awV, awF, ofVal, ofVal0, isShift, aggK, forall_const, ↓reduceIte, ↓reduceDIte, ↓purePost, combine, idsA, cellsA, numsOf, srcA, calleeA, refsA, isScalar, scalarD, scalar0, AV.one, putL, unfA, implies_true, IntKind.signed, Nat.reduceAdd, Nat.reduceSub, Nat.reduceMul, Nat.reducePow, Nat.reduceDiv, Nat.reduceMod, Int.reduceAdd, Int.reduceSub, Int.reduceMul, Int.reducePow, Int.reduceNeg, Int.reduceToNat, Int.reduceLT, Int.reduceLE, Nat.reduceEqDiff, sidsB, Nat.reduceBEq, keyKD, isIntK]
          try rfl
end Go.Proofs.YtkppgdialedoeaaGreatDoor

namespace Go.Proofs.YtkppgdialedoeaaGreatDoor
open Go Go.Proofs Go.Abs
variable {G : Globals}
/-! Fractions that may be none: valid ones are fractions in lowest terms. -/
structure RF.Dg (x : RF) : Prop where
  n : x.n.Dg
  d : x.d.Dg
def RF.ok (x : RF) : Bool := (x.n.ok && x.d.ok) && okI x.n.int x.d.int
def RF.rat (x : RF) : Rat := Rat.divInt x.n.int x.d.int
theorem agg_app {a b c d : List D} (h : a = c) (h2 : b = d) : D.agg (a ++ b) = D.agg (c ++ d) := by rw [h, h2]
theorem RF.frac {x : RF} (hx : x.Dg) (h : x.ok = true) : RFD x = Frac x.rat ∧ FV x.rat := by
  unfold RF.ok at h
  rw [Bool.and_eq_true, Bool.and_eq_true] at h
  obtain ⟨⟨h1, h2⟩, h3⟩ := h
  obtain ⟨e1, e2⟩ := RB.big hx.n h1
  obtain ⟨f1, f2⟩ := RB.big hx.d h2
  obtain ⟨g1, g2, g3⟩ := okI_frac h3
  have ee : RFD x = FrI x.n.int x.d.int := by
    have := agg_app e1 f1
    simpa [rbL, bigL] using this
  refine ⟨ee.trans g1, ?_, ?_⟩
  · unfold RF.rat; rw [g2]; exact e2
  · unfold RF.rat
    have : ((Rat.divInt x.n.int x.d.int).den : Int).natAbs = x.d.int.natAbs := by rw [g3]
    rw [Int.natAbs_natCast] at this
    rw [this]; exact f2
set_option maxRecDepth 100000 in
theorem validRF_spec (hG : HG G) (x : RF) (hx : x.Dg) : Ctr Tryz.prog G 25 [.d (RFD x)] [] (.d (.bool x.ok)) [] := by
  cases ho : x.n.ok && x.d.ok
  · have hr : x.ok = false := by rw [RF.ok, ho, Bool.false_and]
    rw [hr]
    refine Ctr.pure (M := M0) hmix Tryz.func25 rfl go25 ?_
    simp (config := { maxSteps := 1000000 }) (disch := ((try simp only [awL]); omega)) only [Tryz.f25, ↓awU, awV, awF, ofVal, ofVal0, isShift, aggK, forall_const, ↓reduceIte, ↓reduceDIte, ↓purePost, combine, idsA, cellsA, numsOf, srcA, calleeA, refsA, isScalar, scalarD, scalar0, AV.one, putL, unfA, implies_true, IntKind.signed, Nat.reduceAdd, Nat.reduceSub, Nat.reduceMul, Nat.reducePow, Nat.reduceDiv, Nat.reduceMod, Int.reduceAdd, Int.reduceSub, Int.reduceMul, Int.reducePow, Int.reduceNeg, Int.reduceToNat, Int.reduceLT, Int.reduceLE, Nat.reduceEqDiff, sidsB, Nat.reduceBEq, keyKD, isIntK]
    refine CallC.by (bigsR_spec x.n x.d hx.n hx.d) (by simp [cut, W]) rfl (Nat.le_refl _) ?_
    rw [ho]
    simp (config := { maxSteps := 1000000 }) (disch := ((try simp only [awL]); omega)) only [↓awU, awV, awF, ofVal, ofVal0, isShift, aggK, forall_const, ↓reduceIte, ↓reduceDIte, ↓purePost, combine, idsA, cellsA, numsOf, srcA, calleeA, refsA, isScalar, scalarD, scalar0, AV.one, putL, unfA, implies_true, IntKind.signed, Nat.reduceAdd, Nat.reduceSub, Nat.reduceMul, Nat.reducePow, Nat.reduceDiv, Nat.reduceMod, Int.reduceAdd, Int.reduceSub, Int.reduceMul, Int.reducePow, Int.reduceNeg, Int.reduceToNat, Int.reduceLT, Int.reduceLE, Nat.reduceEqDiff, sidsB, Nat.reduceBEq, keyKD, isIntK]
    try rfl
  · have hr : x.ok = okI x.n.int x.d.int := by rw [RF.ok, ho, Bool.true_and]
    rw [hr]
    rw [Bool.and_eq_true] at ho
    obtain ⟨e1, e2⟩ := RB.big hx.n ho.1
    obtain ⟨f1, f2⟩ := RB.big hx.d ho.2
    have ee : RFD x = FrI x.n.int x.d.int := by
      have := agg_app e1 f1
      simpa [rbL, bigL] using this
    rw [ee]
    exact validI_spec hG _ _ e2 f2
set_option maxRecDepth 100000 in
theorem rvalidRF_spec (x : RF) (hx : x.Dg) : Ctr Tryz.prog G 26 [.d (RFD x)] [] (.d (.bool x.ok)) [] := by
  cases ho : x.n.ok && x.d.ok
  · have hr : x.ok = false := by rw [RF.ok, ho, Bool.false_and]
    rw [hr]
    refine Ctr.pure (M := M0) hmix Tryz.func26 rfl go26 ?_
    simp (config := { maxSteps := 1000000 }) (disch := ((try simp only [awL]); omega)) only [Tryz.f26, ↓awU, awV, awF, ofVal, ofVal0, isShift, aggK, forall_const, ↓reduceIte, ↓reduceDIte, ↓purePost, combine, idsA, cellsA, numsOf, srcA, calleeA, refsA, isScalar, scalarD, scalar0, AV.one, putL, unfA, implies_true, IntKind.signed, Nat.reduceAdd, Nat.reduceSub, Nat.reduceMul, Nat.reducePow, Nat.reduceDiv, Nat.reduceMod, Int.reduceAdd, Int.reduceSub, Int.reduceMul, Int.reducePow, Int.reduceNeg, Int.reduceToNat, Int.reduceLT, Int.reduceLE, Nat.reduceEqDiff, sidsB, Nat.reduceBEq, keyKD, isIntK]
    refine CallC.of (rvalidR_spec x.n hx.n) (by rfl) ?_
    cases h1 : x.n.ok
    · simp (config := { maxSteps := 1000000 }) (disch := ((try simp only [awL]); omega)) only [↓awU, awV, awF, ofVal, ofVal0, isShift, aggK, forall_const, ↓reduceIte, ↓reduceDIte, ↓purePost, combine, idsA, cellsA, numsOf, srcA, calleeA, refsA, isScalar, scalarD, scalar0, AV.one, putL, unfA, implies_true, IntKind.signed, Nat.reduceAdd, Nat.reduceSub, Nat.reduceMul, Nat.reducePow, Nat.reduceDiv, Nat.reduceMod, Int.reduceAdd, Int.reduceSub, Int.reduceMul, Int.reducePow, Int.reduceNeg, Int.reduceToNat, Int.reduceLT, Int.reduceLE, Nat.reduceEqDiff, sidsB, Nat.reduceBEq, keyKD, isIntK]
      try rfl
    · rw [h1, Bool.true_and] at ho
      simp (config := { maxSteps := 1000000 }) (disch := ((try simp only [awL]); omega)) only [↓awU, awV, awF, ofVal, ofVal0, isShift, aggK, forall_const, ↓reduceIte, ↓reduceDIte, ↓purePost, combine, idsA, cellsA, numsOf, srcA, calleeA, refsA, isScalar, scalarD, scalar0, AV.one, putL, unfA, implies_true, IntKind.signed, Nat.reduceAdd, Nat.reduceSub, Nat.reduceMul, Nat.reducePow, Nat.reduceDiv, Nat.reduceMod, Int.reduceAdd, Int.reduceSub, Int.reduceMul, Int.reducePow, Int.reduceNeg, Int.reduceToNat, Int.reduceLT, Int.reduceLE, Nat.reduceEqDiff, sidsB, Nat.reduceBEq, keyKD, isIntK]
      refine CallC.of (rvalidR_spec x.d hx.d) (by rfl) ?_
      rw [ho]
      simp (config := { maxSteps := 1000000 }) (disch := ((try simp only [awL]); omega)) only [↓awU, awV, awF, ofVal, ofVal0, isShift, aggK, forall_const, ↓reduceIte, ↓reduceDIte, ↓purePost, combine, idsA, cellsA, numsOf, srcA, calleeA, refsA, isScalar, scalarD, scalar0, AV.one, putL, unfA, implies_true, IntKind.signed, Nat.reduceAdd, Nat.reduceSub, Nat.reduceMul, Nat.reducePow, Nat.reduceDiv, Nat.reduceMod, Int.reduceAdd, Int.reduceSub, Int.reduceMul, Int.reducePow, Int.reduceNeg, Int.reduceToNat, Int.reduceLT, Int.reduceLE, Nat.reduceEqDiff, sidsB, Nat.reduceBEq, keyKD, isIntK]
      try rfl
  · have hr : x.ok = okI x.n.int x.d.int := by rw [RF.ok, ho, Bool.true_and]
    rw [hr]
    rw [Bool.and_eq_true] at ho
    obtain ⟨e1, e2⟩ := RB.big hx.n ho.1
    obtain ⟨f1, f2⟩ := RB.big hx.d ho.2
    have ee : RFD x = FrI x.n.int x.d.int := by
      have := agg_app e1 f1
      simpa [rbL, bigL] using this
    rw [ee]
    exact rvalidI_spec _ _ e2 f2
end Go.Proofs.YtkppgdialedoeaaGreatDoor
