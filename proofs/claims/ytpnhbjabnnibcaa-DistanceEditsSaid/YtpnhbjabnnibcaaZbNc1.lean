/-
  Contracts of the functions, one after another.
-/
import Derived.Test.YtpnhbjabnnibcaaMb2
set_option linter.all false
namespace Go.Proofs.Ytpnhbjabnnibcaa
open Go Go.Proofs Go.Abs
variable {G : Globals}
/-! DistanceEdits: the contract. -/
theorem lev_prepend (z x y : List Int) : lev (z ++ x) (z ++ y) ≤ lev x y := ((Ed.lev x y).prepend z).le
theorem lev_refl (x : List Int) : lev x x = 0 := lev_zero.2 rfl
theorem lev_ins (x z : List Int) (c : Int) : lev (x ++ z) (x ++ c :: z) ≤ 1 := by
  have h1 := lev_prepend x z (c :: z)
  have h2 := lev_le_right (x := z) (y := z) c
  have h3 := lev_refl z
  omega
theorem lev_del (x z : List Int) (c : Int) : lev (x ++ c :: z) (x ++ z) ≤ 1 := by rw [lev_symm]; exact lev_ins x z c
theorem lev_sub1 (x z : List Int) (c d : Int) : lev (x ++ c :: z) (x ++ d :: z) ≤ 1 := by
  have h1 := lev_prepend x (c :: z) (d :: z)
  have h2 := lev_le_sub (x := z) (y := z) c d
  have h3 := lev_refl z
  have h4 : c1 c d ≤ 1 := by unfold c1; split <;> omega
  omega
def asc7 (l : List UInt8) : Prop := ∀ c ∈ l, c.toNat < 128
theorem pts_asc {l : List UInt8} (h : asc7 l) : pts l = nums l := by
  rw [pts, pts_ascii l.length l 0 rfl h]; rfl
theorem asc7.ins {l : List UInt8} (h : asc7 l) (i : Nat) {c : UInt8} (hc : c.toNat < 128) : asc7 (l.take i ++ c :: l.drop i) := by
  intro d hd
  rcases List.mem_append.1 hd with hd | hd
  · exact h d (List.mem_of_mem_take hd)
  · rcases List.mem_cons.1 hd with rfl | hd
    · exact hc
    · exact h d (List.mem_of_mem_drop hd)
theorem asc7.sub {l : List UInt8} (h : asc7 l) (i : Nat) {c : UInt8} (hc : c.toNat < 128) : asc7 (l.take i ++ c :: l.drop (i + 1)) := by
  intro d hd
  rcases List.mem_append.1 hd with hd | hd
  · exact h d (List.mem_of_mem_take hd)
  · rcases List.mem_cons.1 hd with rfl | hd
    · exact hc
    · exact h d (List.mem_of_mem_drop hd)
theorem asc7.del {l : List UInt8} (h : asc7 l) (i : Nat) : asc7 (l.take i ++ l.drop (i + 1)) := by
  intro d hd
  rcases List.mem_append.1 hd with hd | hd
  · exact h d (List.mem_of_mem_take hd)
  · exact h d (List.mem_of_mem_drop hd)
theorem nums_app {x y : List UInt8} : nums (x ++ y) = nums x ++ nums y := by simp [nums]
theorem nums_cons {c : UInt8} {y : List UInt8} : nums (c :: y) = (c.toNat : Int) :: nums y := rfl
theorem step_ins {a b : List UInt8} {k : Nat} (ha : asc7 a) (hb : asc7 b) (h : lev (pts a) (pts b) ≤ k) (i : Nat) {c : UInt8} (hc : c.toNat < 128) : lev (pts a) (pts (b.take i ++ c :: b.drop i)) ≤ k + 1 := by
  have h1 := lev_tri (pts a) (pts b) (pts (b.take i ++ c :: b.drop i))
  have h2 : lev (pts b) (pts (b.take i ++ c :: b.drop i)) ≤ 1 := by
    rw [pts_asc (hb.ins i hc), pts_asc hb, nums_app, nums_cons]
    have := lev_ins (nums (b.take i)) (nums (b.drop i)) (c.toNat : Int)
    rwa [← nums_app, List.take_append_drop] at this
  omega
theorem step_sub {a b : List UInt8} {k : Nat} (ha : asc7 a) (hb : asc7 b) (h : lev (pts a) (pts b) ≤ k) {i : Nat} (hi : i < b.length) {c : UInt8} (hc : c.toNat < 128) : lev (pts a) (pts (b.take i ++ c :: b.drop (i + 1))) ≤ k + 1 := by
  have h1 := lev_tri (pts a) (pts b) (pts (b.take i ++ c :: b.drop (i + 1)))
  have h2 : lev (pts b) (pts (b.take i ++ c :: b.drop (i + 1))) ≤ 1 := by
    rw [pts_asc (hb.sub i hc), pts_asc hb, nums_app, nums_cons]
    have := lev_sub1 (nums (b.take i)) (nums (b.drop (i + 1))) (b[i].toNat : Int) (c.toNat : Int)
    rwa [← nums_cons, ← List.drop_eq_getElem_cons hi, ← nums_app, List.take_append_drop] at this
  omega
theorem step_del {a b : List UInt8} {k : Nat} (ha : asc7 a) (hb : asc7 b) (h : lev (pts a) (pts b) ≤ k) {i : Nat} (hi : i < b.length) : lev (pts a) (pts (b.take i ++ b.drop (i + 1))) ≤ k + 1 := by
  have h1 := lev_tri (pts a) (pts b) (pts (b.take i ++ b.drop (i + 1)))
  have h2 : lev (pts b) (pts (b.take i ++ b.drop (i + 1))) ≤ 1 := by
    rw [pts_asc (hb.del i), pts_asc hb, nums_app]
    have := lev_del (nums (b.take i)) (nums (b.drop (i + 1))) (b[i].toNat : Int)
    rwa [← nums_cons, ← List.drop_eq_getElem_cons hi, ← nums_app, List.take_append_drop] at this
  omega
set_option maxHeartbeats 4000000 in
set_option maxRecDepth 100000 in
theorem edits_law (t : List Int) (ht : OkS t) (hl : t.length ≤ 9223372036854775807) (c : UInt8) :
    Ctr Try.prog G 4 [.d (.sl t.length false (ints .u8 t)), .d (.int .u8 (c.toNat : Int))] [] (.d (.bool true)) [] := by
  refine Ctr.pure (M := M0) hmix Try.func4 rfl go4 ?_
  have hmm := ht.take
  simp (config := { maxSteps := 1000000 }) (disch := ((try simp only [awL]); omega)) only [nextC_more, nextC_over, bs_size, bs_extract, bs_toList, bs_append, byteAt_bs, bs_cells, nums_length, nums_getD, Try.f4, ↓awU, awV, awF, ofVal, ofVal0, isShift, aggK, forall_const, ↓reduceIte, ↓reduceDIte, ↓purePost, combine, idsA, cellsA, numsOf, srcA, calleeA, refsA, isScalar, scalarD, scalar0, AV.one, putL, unfA, implies_true, IntKind.signed, Nat.reduceAdd, Nat.reduceSub, Nat.reduceMul, Nat.reducePow, Nat.reduceDiv, Nat.reduceMod, Int.reduceAdd, Int.reduceSub, Int.reduceMul, Int.reducePow, Int.reduceNeg, Int.reduceToNat, Int.reduceLT, Int.reduceLE, Nat.reduceEqDiff, sidsB, Nat.reduceBEq, keyKD, isIntK, aggD, aggL, eqKs]
  refine CallC.pure sane_spec ?_
  simp (config := { maxSteps := 1000000 }) (disch := ((try simp only [awL]); omega)) only [nextC_more, nextC_over, bs_size, bs_extract, bs_toList, bs_append, byteAt_bs, bs_cells, nums_length, nums_getD, ↓awU, awV, awF, ofVal, ofVal0, isShift, aggK, forall_const, ↓reduceIte, ↓reduceDIte, ↓purePost, combine, idsA, cellsA, numsOf, srcA, calleeA, refsA, isScalar, scalarD, scalar0, AV.one, putL, unfA, implies_true, IntKind.signed, Nat.reduceAdd, Nat.reduceSub, Nat.reduceMul, Nat.reducePow, Nat.reduceDiv, Nat.reduceMod, Int.reduceAdd, Int.reduceSub, Int.reduceMul, Int.reducePow, Int.reduceNeg, Int.reduceToNat, Int.reduceLT, Int.reduceLE, Nat.reduceEqDiff, sidsB, Nat.reduceBEq, keyKD, isIntK, aggD, aggL, eqKs]
  refine CallC.by (new_spec t hl) (by rfl) (by rfl) (Nat.zero_le _) ?_
  generalize t.take 300 = s at *
  simp (config := { maxSteps := 1000000 }) (disch := ((try simp only [awL]); omega)) only [nextC_more, nextC_over, bs_size, bs_extract, bs_toList, bs_append, byteAt_bs, bs_cells, nums_length, nums_getD, ↓awU, awV, awF, ofVal, ofVal0, isShift, aggK, forall_const, ↓reduceIte, ↓reduceDIte, ↓purePost, combine, idsA, cellsA, numsOf, srcA, calleeA, refsA, isScalar, scalarD, scalar0, AV.one, putL, unfA, implies_true, IntKind.signed, Nat.reduceAdd, Nat.reduceSub, Nat.reduceMul, Nat.reducePow, Nat.reduceDiv, Nat.reduceMod, Int.reduceAdd, Int.reduceSub, Int.reduceMul, Int.reducePow, Int.reduceNeg, Int.reduceToNat, Int.reduceLT, Int.reduceLE, Nat.reduceEqDiff, sidsB, Nat.reduceBEq, keyKD, isIntK, aggD, aggL, eqKs]
  obtain ⟨j, hj, hj2⟩ := pk_nat s 0 9 (by decide)
  refine CallC.by (pick_spec s 0 9 hmm (by decide) (by decide)) (by rfl) (by rfl) (Nat.le_refl _) ?_
  rw [hj]
  have ea : (⟨#[97, 98, 99, 100, 101, 102, 103, 104]⟩ : ByteArray) = bs [97, 98, 99, 100, 101, 102, 103, 104] := rfl
  have haa : asc7 ([97, 98, 99, 100, 101, 102, 103, 104].take j) := fun c hc => by
    have := List.mem_of_mem_take hc
    have h : ∀ c ∈ ([97, 98, 99, 100, 101, 102, 103, 104] : List UInt8), c.toNat < 128 := by decide
    exact h c this
  have hla : ([97, 98, 99, 100, 101, 102, 103, 104].take j : List UInt8).length ≤ 8 := by rw [List.length_take]; simp; omega
  simp (config := { maxSteps := 1000000 }) (disch := ((try simp only [awL]); omega)) only [nextC_more, nextC_over, bs_size, bs_extract, bs_toList, bs_append, byteAt_bs, bs_cells, nums_length, nums_getD, ea, ↓awU, awV, awF, ofVal, ofVal0, isShift, aggK, forall_const, ↓reduceIte, ↓reduceDIte, ↓purePost, combine, idsA, cellsA, numsOf, srcA, calleeA, refsA, isScalar, scalarD, scalar0, AV.one, putL, unfA, implies_true, IntKind.signed, Nat.reduceAdd, Nat.reduceSub, Nat.reduceMul, Nat.reducePow, Nat.reduceDiv, Nat.reduceMod, Int.reduceAdd, Int.reduceSub, Int.reduceMul, Int.reducePow, Int.reduceNeg, Int.reduceToNat, Int.reduceLT, Int.reduceLE, Nat.reduceEqDiff, sidsB, Nat.reduceBEq, keyKD, isIntK, aggD, aggL, eqKs]
  generalize ([97, 98, 99, 100, 101, 102, 103, 104].take j : List UInt8) = a at *
  refine LoopC.fr 98 (α := Nat × List UInt8 × Nat) (fun x => 5 - x.1) (fun x => [(7, .d (S x.2.1)), (8, .d (.int .i64 x.1))]) (fun x => [DiceM s x.2.2]) (fun x => x.1 ≤ 4 ∧ asc7 x.2.1 ∧ x.2.1.length ≤ 8 + x.1 ∧ lev (pts a) (pts x.2.1) ≤ x.1)
    (0, a, 1) ⟨Nat.zero_le _, haa, by omega, by rw [lev_refl]; exact Nat.le_refl _⟩ ?_ ?_
  · exact ⟨[some 0], rfl, by simp, by simp [setsA, keepA, SWeak, AWeak], by simp [HWeak, BWeak, SWeak, AWeak]⟩
  · rintro ⟨k, b, q⟩ ⟨hk, hb, hlb, hlev⟩
    simp only at hk hb hlb hlev
    simp only [awK, Nat.reduceMod, Nat.reduceDiv, reduceIte]
    obtain ⟨u, hu, hu2⟩ := pk_nat s q 5 (by decide)
    simp (config := { maxSteps := 1000000 }) (disch := ((try simp only [awL]); omega)) only [nextC_more, nextC_over, bs_size, bs_extract, bs_toList, bs_append, byteAt_bs, bs_cells, nums_length, nums_getD, ↓awU, awV, awF, ofVal, ofVal0, isShift, aggK, forall_const, ↓reduceIte, ↓reduceDIte, ↓purePost, combine, idsA, cellsA, numsOf, srcA, calleeA, refsA, isScalar, scalarD, scalar0, AV.one, putL, unfA, implies_true, IntKind.signed, Nat.reduceAdd, Nat.reduceSub, Nat.reduceMul, Nat.reducePow, Nat.reduceDiv, Nat.reduceMod, Int.reduceAdd, Int.reduceSub, Int.reduceMul, Int.reducePow, Int.reduceNeg, Int.reduceToNat, Int.reduceLT, Int.reduceLE, Nat.reduceEqDiff, sidsB, Nat.reduceBEq, keyKD, isIntK, aggD, aggL, eqKs]
    refine CallC.by (pick_spec s q 5 hmm (by decide) (by decide)) (by rfl) (by rfl) (Nat.le_refl _) ?_
    rw [hu]
    rcases Nat.lt_or_ge k u with hku | hku
    · obtain ⟨i, hi, hi2⟩ := pk_nat s (q + 1) (b.length + 1) (by omega)
      have hbx : (⟨#[120]⟩ : ByteArray) = bs [120] := rfl
      have hby : (⟨#[121]⟩ : ByteArray) = bs [121] := rfl
      have l2 : i ≤ b.length := by omega
      simp (config := { maxSteps := 1000000 }) (disch := ((try simp only [awL]); omega)) only [nextC_more, nextC_over, bs_size, bs_extract, bs_toList, bs_append, byteAt_bs, bs_cells, nums_length, nums_getD, ↓awU, awV, awF, ofVal, ofVal0, isShift, aggK, forall_const, ↓reduceIte, ↓reduceDIte, ↓purePost, combine, idsA, cellsA, numsOf, srcA, calleeA, refsA, isScalar, scalarD, scalar0, AV.one, putL, unfA, implies_true, IntKind.signed, Nat.reduceAdd, Nat.reduceSub, Nat.reduceMul, Nat.reducePow, Nat.reduceDiv, Nat.reduceMod, Int.reduceAdd, Int.reduceSub, Int.reduceMul, Int.reducePow, Int.reduceNeg, Int.reduceToNat, Int.reduceLT, Int.reduceLE, Nat.reduceEqDiff, sidsB, Nat.reduceBEq, keyKD, isIntK, aggD, aggL, eqKs]
      refine CallC.by (pick_spec s (q + 1) (b.length + 1) hmm (by omega) (by omega)) (by rfl) (by rfl) (Nat.le_refl _) ?_
      rw [hi]
      simp (config := { maxSteps := 1000000 }) (disch := ((try simp only [awL]); omega)) only [nextC_more, nextC_over, bs_size, bs_extract, bs_toList, bs_append, byteAt_bs, bs_cells, nums_length, nums_getD, ↓awU, awV, awF, ofVal, ofVal0, isShift, aggK, forall_const, ↓reduceIte, ↓reduceDIte, ↓purePost, combine, idsA, cellsA, numsOf, srcA, calleeA, refsA, isScalar, scalarD, scalar0, AV.one, putL, unfA, implies_true, IntKind.signed, Nat.reduceAdd, Nat.reduceSub, Nat.reduceMul, Nat.reducePow, Nat.reduceDiv, Nat.reduceMod, Int.reduceAdd, Int.reduceSub, Int.reduceMul, Int.reducePow, Int.reduceNeg, Int.reduceToNat, Int.reduceLT, Int.reduceLE, Nat.reduceEqDiff, sidsB, Nat.reduceBEq, keyKD, isIntK, aggD, aggL, eqKs]
      obtain ⟨v, hv, hv2⟩ := pk_nat s (q + 1 + 1) 3 (by decide)
      refine CallC.by (pick_spec s (q + 1 + 1) 3 hmm (by decide) (by decide)) (by rfl) (by rfl) (Nat.le_refl _) ?_
      rw [hv]
      have c1 : asc7 (b.take i ++ 120 :: b.drop i) := hb.ins i (by decide)
      have c2 := step_ins haa hb hlev i (c := 120) (by decide)
      have c3 : b.take i ++ [120] ++ b.drop i = b.take i ++ 120 :: b.drop i := by simp
      have c4 : (b.take i ++ 120 :: b.drop i).length ≤ 8 + (k + 1) := by simp; omega
      rcases (by omega : (v = 0 ∨ b.length = 0 ∨ i = b.length) ∨ (0 < v ∧ 0 < b.length ∧ i < b.length)) with hc | ⟨h1, h2, h3⟩
      · have ht : b.take b.length = b := List.take_of_length_le (Nat.le_refl _)
        rcases (by omega : v = 0 ∨ (0 < v ∧ b.length = 0) ∨ (0 < v ∧ 0 < b.length ∧ i = b.length)) with rfl | ⟨h1, h2⟩ | ⟨h1, h2, h3⟩
        · simp (config := { maxSteps := 1000000 }) (disch := ((try simp only [awL]); omega)) only [nextC_more, nextC_over, bs_size, bs_extract, bs_toList, bs_append, byteAt_bs, bs_cells, nums_length, nums_getD, hbx, c3, ht, ↓awU, awV, awF, ofVal, ofVal0, isShift, aggK, forall_const, ↓reduceIte, ↓reduceDIte, ↓purePost, combine, idsA, cellsA, numsOf, srcA, calleeA, refsA, isScalar, scalarD, scalar0, AV.one, putL, unfA, implies_true, IntKind.signed, Nat.reduceAdd, Nat.reduceSub, Nat.reduceMul, Nat.reducePow, Nat.reduceDiv, Nat.reduceMod, Int.reduceAdd, Int.reduceSub, Int.reduceMul, Int.reducePow, Int.reduceNeg, Int.reduceToNat, Int.reduceLT, Int.reduceLE, Nat.reduceEqDiff, sidsB, Nat.reduceBEq, keyKD, isIntK, aggD, aggL, eqKs]
          exact ⟨by rfl, (k + 1, b.take i ++ 120 :: b.drop i, q + 1 + 1 + 1), ⟨by simp only; omega, c1, c4, c2⟩, by simp only; omega, ⟨[some 0], rfl, by simp, by simp [setsA, keepA, SWeak, AWeak], by simp [HWeak, BWeak, SWeak, AWeak]⟩⟩
        · obtain rfl : i = b.length := by omega
          simp (config := { maxSteps := 1000000 }) (disch := ((try simp only [awL]); omega)) only [nextC_more, nextC_over, bs_size, bs_extract, bs_toList, bs_append, byteAt_bs, bs_cells, nums_length, nums_getD, hbx, c3, ht, ↓awU, awV, awF, ofVal, ofVal0, isShift, aggK, forall_const, ↓reduceIte, ↓reduceDIte, ↓purePost, combine, idsA, cellsA, numsOf, srcA, calleeA, refsA, isScalar, scalarD, scalar0, AV.one, putL, unfA, implies_true, IntKind.signed, Nat.reduceAdd, Nat.reduceSub, Nat.reduceMul, Nat.reducePow, Nat.reduceDiv, Nat.reduceMod, Int.reduceAdd, Int.reduceSub, Int.reduceMul, Int.reducePow, Int.reduceNeg, Int.reduceToNat, Int.reduceLT, Int.reduceLE, Nat.reduceEqDiff, sidsB, Nat.reduceBEq, keyKD, isIntK, aggD, aggL, eqKs]
          exact ⟨by rfl, (k + 1, b.take b.length ++ 120 :: b.drop b.length, q + 1 + 1 + 1), ⟨by simp only; omega, c1, c4, c2⟩, by simp only; omega, ⟨[some 0], rfl, by simp, by simp [setsA, keepA, SWeak, AWeak], by simp [HWeak, BWeak, SWeak, AWeak]⟩⟩
        · obtain rfl : i = b.length := by omega
          simp (config := { maxSteps := 1000000 }) (disch := ((try simp only [awL]); omega)) only [nextC_more, nextC_over, bs_size, bs_extract, bs_toList, bs_append, byteAt_bs, bs_cells, nums_length, nums_getD, hbx, c3, ht, ↓awU, awV, awF, ofVal, ofVal0, isShift, aggK, forall_const, ↓reduceIte, ↓reduceDIte, ↓purePost, combine, idsA, cellsA, numsOf, srcA, calleeA, refsA, isScalar, scalarD, scalar0, AV.one, putL, unfA, implies_true, IntKind.signed, Nat.reduceAdd, Nat.reduceSub, Nat.reduceMul, Nat.reducePow, Nat.reduceDiv, Nat.reduceMod, Int.reduceAdd, Int.reduceSub, Int.reduceMul, Int.reducePow, Int.reduceNeg, Int.reduceToNat, Int.reduceLT, Int.reduceLE, Nat.reduceEqDiff, sidsB, Nat.reduceBEq, keyKD, isIntK, aggD, aggL, eqKs]
          exact ⟨by rfl, (k + 1, b.take b.length ++ 120 :: b.drop b.length, q + 1 + 1 + 1), ⟨by simp only; omega, c1, c4, c2⟩, by simp only; omega, ⟨[some 0], rfl, by simp, by simp [setsA, keepA, SWeak, AWeak], by simp [HWeak, BWeak, SWeak, AWeak]⟩⟩
      · have ht : b.take b.length = b := List.take_of_length_le (Nat.le_refl _)
        have d1 := hb.del i
        have d2 := step_del haa hb hlev h3
        have d4 : (b.take i ++ b.drop (i + 1)).length ≤ 8 + (k + 1) := by simp; omega
        have f1 := hb.sub i (c := 121) (by decide)
        have f2 := step_sub haa hb hlev h3 (c := 121) (by decide)
        have f3 : b.take i ++ [121] ++ b.drop (i + 1) = b.take i ++ 121 :: b.drop (i + 1) := by simp
        have f4 : (b.take i ++ 121 :: b.drop (i + 1)).length ≤ 8 + (k + 1) := by simp; omega
        obtain ⟨z, hz, hz2⟩ := pk_nat s (q + 1 + 1 + 1) 2 (by decide)
        simp (config := { maxSteps := 1000000 }) (disch := ((try simp only [awL]); omega)) only [nextC_more, nextC_over, bs_size, bs_extract, bs_toList, bs_append, byteAt_bs, bs_cells, nums_length, nums_getD, ht, ↓awU, awV, awF, ofVal, ofVal0, isShift, aggK, forall_const, ↓reduceIte, ↓reduceDIte, ↓purePost, combine, idsA, cellsA, numsOf, srcA, calleeA, refsA, isScalar, scalarD, scalar0, AV.one, putL, unfA, implies_true, IntKind.signed, Nat.reduceAdd, Nat.reduceSub, Nat.reduceMul, Nat.reducePow, Nat.reduceDiv, Nat.reduceMod, Int.reduceAdd, Int.reduceSub, Int.reduceMul, Int.reducePow, Int.reduceNeg, Int.reduceToNat, Int.reduceLT, Int.reduceLE, Nat.reduceEqDiff, sidsB, Nat.reduceBEq, keyKD, isIntK, aggD, aggL, eqKs]
        refine CallC.by (pick_spec s (q + 1 + 1 + 1) 2 hmm (by decide) (by decide)) (by rfl) (by rfl) (Nat.le_refl _) ?_
        rw [hz]
        rcases Nat.eq_zero_or_pos z with rfl | hz0
        · simp (config := { maxSteps := 1000000 }) (disch := ((try simp only [awL]); omega)) only [nextC_more, nextC_over, bs_size, bs_extract, bs_toList, bs_append, byteAt_bs, bs_cells, nums_length, nums_getD, ht, ↓awU, awV, awF, ofVal, ofVal0, isShift, aggK, forall_const, ↓reduceIte, ↓reduceDIte, ↓purePost, combine, idsA, cellsA, numsOf, srcA, calleeA, refsA, isScalar, scalarD, scalar0, AV.one, putL, unfA, implies_true, IntKind.signed, Nat.reduceAdd, Nat.reduceSub, Nat.reduceMul, Nat.reducePow, Nat.reduceDiv, Nat.reduceMod, Int.reduceAdd, Int.reduceSub, Int.reduceMul, Int.reducePow, Int.reduceNeg, Int.reduceToNat, Int.reduceLT, Int.reduceLE, Nat.reduceEqDiff, sidsB, Nat.reduceBEq, keyKD, isIntK, aggD, aggL, eqKs]
          exact ⟨by rfl, (k + 1, b.take i ++ b.drop (i + 1), q + 1 + 1 + 1 + 1), ⟨by simp only; omega, d1, d4, d2⟩, by simp only; omega, ⟨[some 0], rfl, by simp, by simp [setsA, keepA, SWeak, AWeak], by simp [HWeak, BWeak, SWeak, AWeak]⟩⟩
        · simp (config := { maxSteps := 1000000 }) (disch := ((try simp only [awL]); omega)) only [nextC_more, nextC_over, bs_size, bs_extract, bs_toList, bs_append, byteAt_bs, bs_cells, nums_length, nums_getD, hby, f3, ht, ↓awU, awV, awF, ofVal, ofVal0, isShift, aggK, forall_const, ↓reduceIte, ↓reduceDIte, ↓purePost, combine, idsA, cellsA, numsOf, srcA, calleeA, refsA, isScalar, scalarD, scalar0, AV.one, putL, unfA, implies_true, IntKind.signed, Nat.reduceAdd, Nat.reduceSub, Nat.reduceMul, Nat.reducePow, Nat.reduceDiv, Nat.reduceMod, Int.reduceAdd, Int.reduceSub, Int.reduceMul, Int.reducePow, Int.reduceNeg, Int.reduceToNat, Int.reduceLT, Int.reduceLE, Nat.reduceEqDiff, sidsB, Nat.reduceBEq, keyKD, isIntK, aggD, aggL, eqKs]
          exact ⟨by rfl, (k + 1, b.take i ++ 121 :: b.drop (i + 1), q + 1 + 1 + 1 + 1), ⟨by simp only; omega, f1, f4, f2⟩, by simp only; omega, ⟨[some 0], rfl, by simp, by simp [setsA, keepA, SWeak, AWeak], by simp [HWeak, BWeak, SWeak, AWeak]⟩⟩
    · have hc256 : c.toNat < 256 := c.toNat_lt
      have em : (c.toNat : Int).tmod 6 = ((c.toNat % 6 : Nat) : Int) := by rw [Int.tmod_eq_emod_of_nonneg (by omega)]; omega
      have e1 := edit_spec (G := G) a b (by omega) (by omega)
      have e2 := within_spec (G := G) a b ((c.toNat % 6 : Nat) : Int) (by omega) (by omega) (by omega) (by omega)
      unfold withD at e2
      generalize c.toNat % 6 = w at *
      generalize lev (pts a) (pts b) = L at *
      simp (config := { maxSteps := 1000000 }) (disch := ((try simp only [awL]); omega)) only [nextC_more, nextC_over, bs_size, bs_extract, bs_toList, bs_append, byteAt_bs, bs_cells, nums_length, nums_getD, ↓awU, awV, awF, ofVal, ofVal0, isShift, aggK, forall_const, ↓reduceIte, ↓reduceDIte, ↓purePost, combine, idsA, cellsA, numsOf, srcA, calleeA, refsA, isScalar, scalarD, scalar0, AV.one, putL, unfA, implies_true, IntKind.signed, Nat.reduceAdd, Nat.reduceSub, Nat.reduceMul, Nat.reducePow, Nat.reduceDiv, Nat.reduceMod, Int.reduceAdd, Int.reduceSub, Int.reduceMul, Int.reducePow, Int.reduceNeg, Int.reduceToNat, Int.reduceLT, Int.reduceLE, Nat.reduceEqDiff, sidsB, Nat.reduceBEq, keyKD, isIntK, aggD, aggL, eqKs]
      refine CallC.of e1 (by rfl) ?_
      simp (config := { maxSteps := 1000000 }) (disch := ((try simp only [awL]); omega)) only [nextC_more, nextC_over, bs_size, bs_extract, bs_toList, bs_append, byteAt_bs, bs_cells, nums_length, nums_getD, em, ↓awU, awV, awF, ofVal, ofVal0, isShift, aggK, forall_const, ↓reduceIte, ↓reduceDIte, ↓purePost, combine, idsA, cellsA, numsOf, srcA, calleeA, refsA, isScalar, scalarD, scalar0, AV.one, putL, unfA, implies_true, IntKind.signed, Nat.reduceAdd, Nat.reduceSub, Nat.reduceMul, Nat.reducePow, Nat.reduceDiv, Nat.reduceMod, Int.reduceAdd, Int.reduceSub, Int.reduceMul, Int.reducePow, Int.reduceNeg, Int.reduceToNat, Int.reduceLT, Int.reduceLE, Nat.reduceEqDiff, sidsB, Nat.reduceBEq, keyKD, isIntK, aggD, aggL, eqKs]
      refine CallC.of e2 (by rfl) ?_
      rcases (by omega : (L : Int) ≤ (w : Nat) ∨ (w : Int) < L) with h | h
      · rw [if_pos h, decide_eq_true h]
        simp (config := { maxSteps := 1000000 }) (disch := ((try simp only [awL]); omega)) only [nextC_more, nextC_over, bs_size, bs_extract, bs_toList, bs_append, byteAt_bs, bs_cells, nums_length, nums_getD, em, ↓awU, awV, awF, ofVal, ofVal0, isShift, aggK, forall_const, ↓reduceIte, ↓reduceDIte, ↓purePost, combine, idsA, cellsA, numsOf, srcA, calleeA, refsA, isScalar, scalarD, scalar0, AV.one, putL, unfA, implies_true, IntKind.signed, Nat.reduceAdd, Nat.reduceSub, Nat.reduceMul, Nat.reducePow, Nat.reduceDiv, Nat.reduceMod, Int.reduceAdd, Int.reduceSub, Int.reduceMul, Int.reducePow, Int.reduceNeg, Int.reduceToNat, Int.reduceLT, Int.reduceLE, Nat.reduceEqDiff, sidsB, Nat.reduceBEq, keyKD, isIntK, aggD, aggL, eqKs]
        try rfl
      · rw [if_neg (by omega), decide_eq_false (by omega)]
        simp (config := { maxSteps := 1000000 }) (disch := ((try simp only [awL]); omega)) only [nextC_more, nextC_over, bs_size, bs_extract, bs_toList, bs_append, byteAt_bs, bs_cells, nums_length, nums_getD, em, ↓awU, awV, awF, ofVal, ofVal0, isShift, aggK, forall_const, ↓reduceIte, ↓reduceDIte, ↓purePost, combine, idsA, cellsA, numsOf, srcA, calleeA, refsA, isScalar, scalarD, scalar0, AV.one, putL, unfA, implies_true, IntKind.signed, Nat.reduceAdd, Nat.reduceSub, Nat.reduceMul, Nat.reducePow, Nat.reduceDiv, Nat.reduceMod, Int.reduceAdd, Int.reduceSub, Int.reduceMul, Int.reducePow, Int.reduceNeg, Int.reduceToNat, Int.reduceLT, Int.reduceLE, Nat.reduceEqDiff, sidsB, Nat.reduceBEq, keyKD, isIntK, aggD, aggL, eqKs]
        try rfl
end Go.Proofs.Ytpnhbjabnnibcaa
