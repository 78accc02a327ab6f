/-
  What closings over texts and rules need besides.
-/
import Derived.Test.YtpnhbjabnnibcaaMb2
set_option linter.all false

namespace Go.Proofs.Ytpnhbjabnnibcaa
open Go Go.Proofs Go.Abs Go.RowKit Go.ChangeShapes Go.WideShapes Go.ChangeAt
theorem cStr : Try.prog.cellsOf 9 = 1 := by kernel_rfl
end Go.Proofs.Ytpnhbjabnnibcaa

namespace Go.Proofs.Ytpnhbjabnnibcaa
open Go Go.Proofs Go.Abs
variable {G : Globals}
/-! DistanceEdits: the contract. -/
theorem lev_prepend (z x y : List Int) : lev (z ++ x) (z ++ y) ≤ lev x y := ((Ed.lev x y).prepend z).le
theorem lev_refl (x : List Int) : lev x x = 0 := lev_zero.2 rfl
theorem lev_ins (x z : List Int) (c : Int) : lev (x ++ z) (x ++ c :: z) ≤ 1 := by
  have h1 := lev_prepend x z (c :: z)
  have h2 := lev_le_right (x := z) (y := z) c
  have h3 := lev_refl z
  omega
theorem lev_del (x z : List Int) (c : Int) : lev (x ++ c :: z) (x ++ z) ≤ 1 := by rw [lev_symm]; exact lev_ins x z c
theorem lev_sub1 (x z : List Int) (c d : Int) : lev (x ++ c :: z) (x ++ d :: z) ≤ 1 := by
  have h1 := lev_prepend x (c :: z) (d :: z)
  have h2 := lev_le_sub (x := z) (y := z) c d
  have h3 := lev_refl z
  have h4 : c1 c d ≤ 1 := by unfold c1; split <;> omega
  omega
def asc7 (l : List UInt8) : Prop := ∀ c ∈ l, c.toNat < 128
theorem pts_asc {l : List UInt8} (h : asc7 l) : pts l = nums l := by
  rw [pts, pts_ascii l.length l 0 rfl h]; rfl
theorem asc7.ins {l : List UInt8} (h : asc7 l) (i : Nat) {c : UInt8} (hc : c.toNat < 128) : asc7 (l.take i ++ c :: l.drop i) := by
  intro d hd
  rcases List.mem_append.1 hd with hd | hd
  · exact h d (List.mem_of_mem_take hd)
  · rcases List.mem_cons.1 hd with rfl | hd
    · exact hc
    · exact h d (List.mem_of_mem_drop hd)
theorem asc7.sub {l : List UInt8} (h : asc7 l) (i : Nat) {c : UInt8} (hc : c.toNat < 128) : asc7 (l.take i ++ c :: l.drop (i + 1)) := by
  intro d hd
  rcases List.mem_append.1 hd with hd | hd
  · exact h d (List.mem_of_mem_take hd)
  · rcases List.mem_cons.1 hd with rfl | hd
    · exact hc
    · exact h d (List.mem_of_mem_drop hd)
theorem asc7.del {l : List UInt8} (h : asc7 l) (i : Nat) : asc7 (l.take i ++ l.drop (i + 1)) := by
  intro d hd
  rcases List.mem_append.1 hd with hd | hd
  · exact h d (List.mem_of_mem_take hd)
  · exact h d (List.mem_of_mem_drop hd)
theorem nums_app {x y : List UInt8} : nums (x ++ y) = nums x ++ nums y := by simp [nums]
theorem nums_cons {c : UInt8} {y : List UInt8} : nums (c :: y) = (c.toNat : Int) :: nums y := rfl
theorem step_ins {a b : List UInt8} {k : Nat} (ha : asc7 a) (hb : asc7 b) (h : lev (pts a) (pts b) ≤ k) (i : Nat) {c : UInt8} (hc : c.toNat < 128) : lev (pts a) (pts (b.take i ++ c :: b.drop i)) ≤ k + 1 := by
  have h1 := lev_tri (pts a) (pts b) (pts (b.take i ++ c :: b.drop i))
  have h2 : lev (pts b) (pts (b.take i ++ c :: b.drop i)) ≤ 1 := by
    rw [pts_asc (hb.ins i hc), pts_asc hb, nums_app, nums_cons]
    have := lev_ins (nums (b.take i)) (nums (b.drop i)) (c.toNat : Int)
    rwa [← nums_app, List.take_append_drop] at this
  omega
theorem step_sub {a b : List UInt8} {k : Nat} (ha : asc7 a) (hb : asc7 b) (h : lev (pts a) (pts b) ≤ k) {i : Nat} (hi : i < b.length) {c : UInt8} (hc : c.toNat < 128) : lev (pts a) (pts (b.take i ++ c :: b.drop (i + 1))) ≤ k + 1 := by
  have h1 := lev_tri (pts a) (pts b) (pts (b.take i ++ c :: b.drop (i + 1)))
  have h2 : lev (pts b) (pts (b.take i ++ c :: b.drop (i + 1))) ≤ 1 := by
    rw [pts_asc (hb.sub i hc), pts_asc hb, nums_app, nums_cons]
    have := lev_sub1 (nums (b.take i)) (nums (b.drop (i + 1))) (b[i].toNat : Int) (c.toNat : Int)
    rwa [← nums_cons, ← List.drop_eq_getElem_cons hi, ← nums_app, List.take_append_drop] at this
  omega
theorem step_del {a b : List UInt8} {k : Nat} (ha : asc7 a) (hb : asc7 b) (h : lev (pts a) (pts b) ≤ k) {i : Nat} (hi : i < b.length) : lev (pts a) (pts (b.take i ++ b.drop (i + 1))) ≤ k + 1 := by
  have h1 := lev_tri (pts a) (pts b) (pts (b.take i ++ b.drop (i + 1)))
  have h2 : lev (pts b) (pts (b.take i ++ b.drop (i + 1))) ≤ 1 := by
    rw [pts_asc (hb.del i), pts_asc hb, nums_app]
    have := lev_del (nums (b.take i)) (nums (b.drop (i + 1))) (b[i].toNat : Int)
    rwa [← nums_cons, ← List.drop_eq_getElem_cons hi, ← nums_app, List.take_append_drop] at this
  omega
set_option maxHeartbeats 4000000 in
set_option maxRecDepth 100000 in
theorem edits_law (t : List Int) (ht : OkS t) (hl : t.length ≤ 9223372036854775807) (c : UInt8) :
    Ctr Try.prog G 4 [.d (.sl t.length false (ints .u8 t)), .d (.int .u8 (c.toNat : Int))] [] (.d (.bool true)) [] := by
  refine Ctr.pure (M := M0) hmix Try.func4 rfl go4 ?_
  have hmm := ht.take
  simp (config := { maxSteps := 1000000 }) (disch := ((try simp only [awL]); omega)) only [nextC_more, nextC_over, bs_size, bs_extract, bs_toList, bs_append, byteAt_bs, bs_cells, nums_length, nums_getD, Try.f4, ↓awU, awV, awF, ofVal, ofVal0, isShift, aggK, forall_const, ↓reduceIte, ↓reduceDIte, ↓purePost, combine, idsA, cellsA, numsOf, srcA, calleeA, refsA, isScalar, scalarD, scalar0, AV.one, putL, unfA, implies_true, IntKind.signed, Nat.reduceAdd, Nat.reduceSub, Nat.reduceMul, Nat.reducePow, Nat.reduceDiv, Nat.reduceMod, Int.reduceAdd, Int.reduceSub, Int.reduceMul, Int.reducePow, Int.reduceNeg, Int.reduceToNat, Int.reduceLT, Int.reduceLE, Nat.reduceEqDiff, sidsB, Nat.reduceBEq, keyKD, isIntK, aggD, aggL, eqKs]
  refine CallC.pure sane_spec ?_
  simp (config := { maxSteps := 1000000 }) (disch := ((try simp only [awL]); omega)) only [nextC_more, nextC_over, bs_size, bs_extract, bs_toList, bs_append, byteAt_bs, bs_cells, nums_length, nums_getD, ↓awU, awV, awF, ofVal, ofVal0, isShift, aggK, forall_const, ↓reduceIte, ↓reduceDIte, ↓purePost, combine, idsA, cellsA, numsOf, srcA, calleeA, refsA, isScalar, scalarD, scalar0, AV.one, putL, unfA, implies_true, IntKind.signed, Nat.reduceAdd, Nat.reduceSub, Nat.reduceMul, Nat.reducePow, Nat.reduceDiv, Nat.reduceMod, Int.reduceAdd, Int.reduceSub, Int.reduceMul, Int.reducePow, Int.reduceNeg, Int.reduceToNat, Int.reduceLT, Int.reduceLE, Nat.reduceEqDiff, sidsB, Nat.reduceBEq, keyKD, isIntK, aggD, aggL, eqKs]
  refine CallC.by (new_spec t hl) (by rfl) (by rfl) (Nat.zero_le _) ?_
  generalize t.take 300 = s at *
  simp (config := { maxSteps := 1000000 }) (disch := ((try simp only [awL]); omega)) only [nextC_more, nextC_over, bs_size, bs_extract, bs_toList, bs_append, byteAt_bs, bs_cells, nums_length, nums_getD, ↓awU, awV, awF, ofVal, ofVal0, isShift, aggK, forall_const, ↓reduceIte, ↓reduceDIte, ↓purePost, combine, idsA, cellsA, numsOf, srcA, calleeA, refsA, isScalar, scalarD, scalar0, AV.one, putL, unfA, implies_true, IntKind.signed, Nat.reduceAdd, Nat.reduceSub, Nat.reduceMul, Nat.reducePow, Nat.reduceDiv, Nat.reduceMod, Int.reduceAdd, Int.reduceSub, Int.reduceMul, Int.reducePow, Int.reduceNeg, Int.reduceToNat, Int.reduceLT, Int.reduceLE, Nat.reduceEqDiff, sidsB, Nat.reduceBEq, keyKD, isIntK, aggD, aggL, eqKs]
  obtain ⟨j, hj, hj2⟩ := pk_nat s 0 9 (by decide)
  refine CallC.by (pick_spec s 0 9 hmm (by decide) (by decide)) (by rfl) (by rfl) (Nat.le_refl _) ?_
  rw [hj]
  have ea : (⟨#[97, 98, 99, 100, 101, 102, 103, 104]⟩ : ByteArray) = bs [97, 98, 99, 100, 101, 102, 103, 104] := rfl
  have haa : asc7 ([97, 98, 99, 100, 101, 102, 103, 104].take j) := fun c hc => by
    have := List.mem_of_mem_take hc
    have h : ∀ c ∈ ([97, 98, 99, 100, 101, 102, 103, 104] : List UInt8), c.toNat < 128 := by decide
    exact h c this
  have hla : ([97, 98, 99, 100, 101, 102, 103, 104].take j : List UInt8).length ≤ 8 := by rw [List.length_take]; simp; omega
  simp (config := { maxSteps := 1000000 }) (disch := ((try simp only [awL]); omega)) only [nextC_more, nextC_over, bs_size, bs_extract, bs_toList, bs_append, byteAt_bs, bs_cells, nums_length, nums_getD, ea, ↓awU, awV, awF, ofVal, ofVal0, isShift, aggK, forall_const, ↓reduceIte, ↓reduceDIte, ↓purePost, combine, idsA, cellsA, numsOf, srcA, calleeA, refsA, isScalar, scalarD, scalar0, AV.one, putL, unfA, implies_true, IntKind.signed, Nat.reduceAdd, Nat.reduceSub, Nat.reduceMul, Nat.reducePow, Nat.reduceDiv, Nat.reduceMod, Int.reduceAdd, Int.reduceSub, Int.reduceMul, Int.reducePow, Int.reduceNeg, Int.reduceToNat, Int.reduceLT, Int.reduceLE, Nat.reduceEqDiff, sidsB, Nat.reduceBEq, keyKD, isIntK, aggD, aggL, eqKs]
  generalize ([97, 98, 99, 100, 101, 102, 103, 104].take j : List UInt8) = a at *
  refine LoopC.fr 98 (α := Nat × List UInt8 × Nat) (fun x => 5 - x.1) (fun x => [(7, .d (S x.2.1)), (8, .d (.int .i64 x.1))]) (fun x => [DiceM s x.2.2]) (fun x => x.1 ≤ 4 ∧ asc7 x.2.1 ∧ x.2.1.length ≤ 8 + x.1 ∧ lev (pts a) (pts x.2.1) ≤ x.1)
    (0, a, 1) ⟨Nat.zero_le _, haa, by omega, by rw [lev_refl]; exact Nat.le_refl _⟩ ?_ ?_
  · exact ⟨[some 0], rfl, by simp, by simp [setsA, keepA, SWeak, AWeak], by simp [HWeak, BWeak, SWeak, AWeak]⟩
  · rintro ⟨k, b, q⟩ ⟨hk, hb, hlb, hlev⟩
    simp only at hk hb hlb hlev
    simp only [awK, Nat.reduceMod, Nat.reduceDiv, reduceIte]
    obtain ⟨u, hu, hu2⟩ := pk_nat s q 5 (by decide)
    simp (config := { maxSteps := 1000000 }) (disch := ((try simp only [awL]); omega)) only [nextC_more, nextC_over, bs_size, bs_extract, bs_toList, bs_append, byteAt_bs, bs_cells, nums_length, nums_getD, ↓awU, awV, awF, ofVal, ofVal0, isShift, aggK, forall_const, ↓reduceIte, ↓reduceDIte, ↓purePost, combine, idsA, cellsA, numsOf, srcA, calleeA, refsA, isScalar, scalarD, scalar0, AV.one, putL, unfA, implies_true, IntKind.signed, Nat.reduceAdd, Nat.reduceSub, Nat.reduceMul, Nat.reducePow, Nat.reduceDiv, Nat.reduceMod, Int.reduceAdd, Int.reduceSub, Int.reduceMul, Int.reducePow, Int.reduceNeg, Int.reduceToNat, Int.reduceLT, Int.reduceLE, Nat.reduceEqDiff, sidsB, Nat.reduceBEq, keyKD, isIntK, aggD, aggL, eqKs]
    refine CallC.by (pick_spec s q 5 hmm (by decide) (by decide)) (by rfl) (by rfl) (Nat.le_refl _) ?_
    rw [hu]
    rcases Nat.lt_or_ge k u with hku | hku
    · obtain ⟨i, hi, hi2⟩ := pk_nat s (q + 1) (b.length + 1) (by omega)
      have hbx : (⟨#[120]⟩ : ByteArray) = bs [120] := rfl
      have hby : (⟨#[121]⟩ : ByteArray) = bs [121] := rfl
      have l2 : i ≤ b.length := by omega
      simp (config := { maxSteps := 1000000 }) (disch := ((try simp only [awL]); omega)) only [nextC_more, nextC_over, bs_size, bs_extract, bs_toList, bs_append, byteAt_bs, bs_cells, nums_length, nums_getD, ↓awU, awV, awF, ofVal, ofVal0, isShift, aggK, forall_const, ↓reduceIte, ↓reduceDIte, ↓purePost, combine, idsA, cellsA, numsOf, srcA, calleeA, refsA, isScalar, scalarD, scalar0, AV.one, putL, unfA, implies_true, IntKind.signed, Nat.reduceAdd, Nat.reduceSub, Nat.reduceMul, Nat.reducePow, Nat.reduceDiv, Nat.reduceMod, Int.reduceAdd, Int.reduceSub, Int.reduceMul, Int.reducePow, Int.reduceNeg, Int.reduceToNat, Int.reduceLT, Int.reduceLE, Nat.reduceEqDiff, sidsB, Nat.reduceBEq, keyKD, isIntK, aggD, aggL, eqKs]
      refine CallC.by (pick_spec s (q + 1) (b.length + 1) hmm (by omega) (by omega)) (by rfl) (by rfl) (Nat.le_refl _) ?_
      rw [hi]
      simp (config := { maxSteps := 1000000 }) (disch := ((try simp only [awL]); omega)) only [nextC_more, nextC_over, bs_size, bs_extract, bs_toList, bs_append, byteAt_bs, bs_cells, nums_length, nums_getD, ↓awU, awV, awF, ofVal, ofVal0, isShift, aggK, forall_const, ↓reduceIte, ↓reduceDIte, ↓purePost, combine, idsA, cellsA, numsOf, srcA, calleeA, refsA, isScalar, scalarD, scalar0, AV.one, putL, unfA, implies_true, IntKind.signed, Nat.reduceAdd, Nat.reduceSub, Nat.reduceMul, Nat.reducePow, Nat.reduceDiv, Nat.reduceMod, Int.reduceAdd, Int.reduceSub, Int.reduceMul, Int.reducePow, Int.reduceNeg, Int.reduceToNat, Int.reduceLT, Int.reduceLE, Nat.reduceEqDiff, sidsB, Nat.reduceBEq, keyKD, isIntK, aggD, aggL, eqKs]
      obtain ⟨v, hv, hv2⟩ := pk_nat s (q + 1 + 1) 3 (by decide)
      refine CallC.by (pick_spec s (q + 1 + 1) 3 hmm (by decide) (by decide)) (by rfl) (by rfl) (Nat.le_refl _) ?_
      rw [hv]
      have c1 : asc7 (b.take i ++ 120 :: b.drop i) := hb.ins i (by decide)
      have c2 := step_ins haa hb hlev i (c := 120) (by decide)
      have c3 : b.take i ++ [120] ++ b.drop i = b.take i ++ 120 :: b.drop i := by simp
      have c4 : (b.take i ++ 120 :: b.drop i).length ≤ 8 + (k + 1) := by simp; omega
      rcases (by omega : (v = 0 ∨ b.length = 0 ∨ i = b.length) ∨ (0 < v ∧ 0 < b.length ∧ i < b.length)) with hc | ⟨h1, h2, h3⟩
      · have ht : b.take b.length = b := List.take_of_length_le (Nat.le_refl _)
        rcases (by omega : v = 0 ∨ (0 < v ∧ b.length = 0) ∨ (0 < v ∧ 0 < b.length ∧ i = b.length)) with rfl | ⟨h1, h2⟩ | ⟨h1, h2, h3⟩
        · simp (config := { maxSteps := 1000000 }) (disch := ((try simp only [awL]); omega)) only [nextC_more, nextC_over, bs_size, bs_extract, bs_toList, bs_append, byteAt_bs, bs_cells, nums_length, nums_getD, hbx, c3, ht, ↓awU, awV, awF, ofVal, ofVal0, isShift, aggK, forall_const, ↓reduceIte, ↓reduceDIte, ↓purePost, combine, idsA, cellsA, numsOf, srcA, calleeA, refsA, isScalar, scalarD, scalar0, AV.one, putL, unfA, implies_true, IntKind.signed, Nat.reduceAdd, Nat.reduceSub, Nat.reduceMul, Nat.reducePow, Nat.reduceDiv, Nat.reduceMod, Int.reduceAdd, Int.reduceSub, Int.reduceMul, Int.reducePow, Int.reduceNeg, Int.reduceToNat, Int.reduceLT, Int.reduceLE, Nat.reduceEqDiff, sidsB, Nat.reduceBEq, keyKD, isIntK, aggD, aggL, eqKs]
          exact ⟨by rfl, (k + 1, b.take i ++ 120 :: b.drop i, q + 1 + 1 + 1), ⟨by simp only; omega, c1, c4, c2⟩, by simp only; omega, ⟨[some 0], rfl, by simp, by simp [setsA, keepA, SWeak, AWeak], by simp [HWeak, BWeak, SWeak, AWeak]⟩⟩
        · obtain rfl : i = b.length := by omega
          simp (config := { maxSteps := 1000000 }) (disch := ((try simp only [awL]); omega)) only [nextC_more, nextC_over, bs_size, bs_extract, bs_toList, bs_append, byteAt_bs, bs_cells, nums_length, nums_getD, hbx, c3, ht, ↓awU, awV, awF, ofVal, ofVal0, isShift, aggK, forall_const, ↓reduceIte, ↓reduceDIte, ↓purePost, combine, idsA, cellsA, numsOf, srcA, calleeA, refsA, isScalar, scalarD, scalar0, AV.one, putL, unfA, implies_true, IntKind.signed, Nat.reduceAdd, Nat.reduceSub, Nat.reduceMul, Nat.reducePow, Nat.reduceDiv, Nat.reduceMod, Int.reduceAdd, Int.reduceSub, Int.reduceMul, Int.reducePow, Int.reduceNeg, Int.reduceToNat, Int.reduceLT, Int.reduceLE, Nat.reduceEqDiff, sidsB, Nat.reduceBEq, keyKD, isIntK, aggD, aggL, eqKs]
          exact ⟨by rfl, (k + 1, b.take b.length ++ 120 :: b.drop b.length, q + 1 + 1 + 1), ⟨by simp only; omega, c1, c4, c2⟩, by simp only; omega, ⟨[some 0], rfl, by simp, by simp [setsA, keepA, SWeak, AWeak], by simp [HWeak, BWeak, SWeak, AWeak]⟩⟩
        · obtain rfl : i = b.length := by omega
          simp (config := { maxSteps := 1000000 }) (disch := ((try simp only [awL]); omega)) only [nextC_more, nextC_over, bs_size, bs_extract, bs_toList, bs_append, byteAt_bs, bs_cells, nums_length, nums_getD, hbx, c3, ht, ↓awU, awV, awF, ofVal, ofVal0, isShift, aggK, forall_const, ↓reduceIte, ↓reduceDIte, ↓purePost, combine, idsA, cellsA, numsOf, srcA, calleeA, refsA, isScalar, scalarD, scalar0, AV.one, putL, unfA, implies_true, IntKind.signed, Nat.reduceAdd, Nat.reduceSub, Nat.reduceMul, Nat.reducePow, Nat.reduceDiv, Nat.reduceMod, Int.reduceAdd, Int.reduceSub, Int.reduceMul, Int.reducePow, Int.reduceNeg, Int.reduceToNat, Int.reduceLT, Int.reduceLE, Nat.reduceEqDiff, sidsB, Nat.reduceBEq, keyKD, isIntK, aggD, aggL, eqKs]
          exact ⟨by rfl, (k + 1, b.take b.length ++ 120 :: b.drop b.length, q + 1 + 1 + 1), ⟨by simp only; omega, c1, c4, c2⟩, by simp only; omega, ⟨[some 0], rfl, by simp, by simp [setsA, keepA, SWeak, AWeak], by simp [HWeak, BWeak, SWeak, AWeak]⟩⟩
      · have ht : b.take b.length = b := List.take_of_length_le (Nat.le_refl _)
        have d1 := hb.del i
        have d2 := step_del haa hb hlev h3
        have d4 : (b.take i ++ b.drop (i + 1)).length ≤ 8 + (k + 1) := by simp; omega
        have f1 := hb.sub i (c := 121) (by decide)
        have f2 := step_sub haa hb hlev h3 (c := 121) (by decide)
        have f3 : b.take i ++ [121] ++ b.drop (i + 1) = b.take i ++ 121 :: b.drop (i + 1) := by simp
        have f4 : (b.take i ++ 121 :: b.drop (i + 1)).length ≤ 8 + (k + 1) := by simp; omega
        obtain ⟨z, hz, hz2⟩ := pk_nat s (q + 1 + 1 + 1) 2 (by decide)
        simp (config := { maxSteps := 1000000 }) (disch := ((try simp only [awL]); omega)) only [nextC_more, nextC_over, bs_size, bs_extract, bs_toList, bs_append, byteAt_bs, bs_cells, nums_length, nums_getD, ht, ↓awU, awV, awF, ofVal, ofVal0, isShift, aggK, forall_const, ↓reduceIte, ↓reduceDIte, ↓purePost, combine, idsA, cellsA, numsOf, srcA, calleeA, refsA, isScalar, scalarD, scalar0, AV.one, putL, unfA, implies_true, IntKind.signed, Nat.reduceAdd, Nat.reduceSub, Nat.reduceMul, Nat.reducePow, Nat.reduceDiv, Nat.reduceMod, Int.reduceAdd, Int.reduceSub, Int.reduceMul, Int.reducePow, Int.reduceNeg, Int.reduceToNat, Int.reduceLT, Int.reduceLE, Nat.reduceEqDiff, sidsB, Nat.reduceBEq, keyKD, isIntK, aggD, aggL, eqKs]
        refine CallC.by (pick_spec s (q + 1 + 1 + 1) 2 hmm (by decide) (by decide)) (by rfl) (by rfl) (Nat.le_refl _) ?_
        rw [hz]
        rcases Nat.eq_zero_or_pos z with rfl | hz0
        · simp (config := { maxSteps := 1000000 }) (disch := ((try simp only [awL]); omega)) only [nextC_more, nextC_over, bs_size, bs_extract, bs_toList, bs_append, byteAt_bs, bs_cells, nums_length, nums_getD, ht, ↓awU, awV, awF, ofVal, ofVal0, isShift, aggK, forall_const, ↓reduceIte, ↓reduceDIte, ↓purePost, combine, idsA, cellsA, numsOf, srcA, calleeA, refsA, isScalar, scalarD, scalar0, AV.one, putL, unfA, implies_true, IntKind.signed, Nat.reduceAdd, Nat.reduceSub, Nat.reduceMul, Nat.reducePow, Nat.reduceDiv, Nat.reduceMod, Int.reduceAdd, Int.reduceSub, Int.reduceMul, Int.reducePow, Int.reduceNeg, Int.reduceToNat, Int.reduceLT, Int.reduceLE, Nat.reduceEqDiff, sidsB, Nat.reduceBEq, keyKD, isIntK, aggD, aggL, eqKs]
          exact ⟨by rfl, (k + 1, b.take i ++ b.drop (i + 1), q + 1 + 1 + 1 + 1), ⟨by simp only; omega, d1, d4, d2⟩, by simp only; omega, ⟨[some 0], rfl, by simp, by simp [setsA, keepA, SWeak, AWeak], by simp [HWeak, BWeak, SWeak, AWeak]⟩⟩
        · simp (config := { maxSteps := 1000000 }) (disch := ((try simp only [awL]); omega)) only [nextC_more, nextC_over, bs_size, bs_extract, bs_toList, bs_append, byteAt_bs, bs_cells, nums_length, nums_getD, hby, f3, ht, ↓awU, awV, awF, ofVal, ofVal0, isShift, aggK, forall_const, ↓reduceIte, ↓reduceDIte, ↓purePost, combine, idsA, cellsA, numsOf, srcA, calleeA, refsA, isScalar, scalarD, scalar0, AV.one, putL, unfA, implies_true, IntKind.signed, Nat.reduceAdd, Nat.reduceSub, Nat.reduceMul, Nat.reducePow, Nat.reduceDiv, Nat.reduceMod, Int.reduceAdd, Int.reduceSub, Int.reduceMul, Int.reducePow, Int.reduceNeg, Int.reduceToNat, Int.reduceLT, Int.reduceLE, Nat.reduceEqDiff, sidsB, Nat.reduceBEq, keyKD, isIntK, aggD, aggL, eqKs]
          exact ⟨by rfl, (k + 1, b.take i ++ 121 :: b.drop (i + 1), q + 1 + 1 + 1 + 1), ⟨by simp only; omega, f1, f4, f2⟩, by simp only; omega, ⟨[some 0], rfl, by simp, by simp [setsA, keepA, SWeak, AWeak], by simp [HWeak, BWeak, SWeak, AWeak]⟩⟩
    · have hc256 : c.toNat < 256 := c.toNat_lt
      have em : (c.toNat : Int).tmod 6 = ((c.toNat % 6 : Nat) : Int) := by rw [Int.tmod_eq_emod_of_nonneg (by omega)]; omega
      have e1 := edit_spec (G := G) a b (by omega) (by omega)
      have e2 := within_spec (G := G) a b ((c.toNat % 6 : Nat) : Int) (by omega) (by omega) (by omega) (by omega)
      unfold withD at e2
      generalize c.toNat % 6 = w at *
      generalize lev (pts a) (pts b) = L at *
      simp (config := { maxSteps := 1000000 }) (disch := ((try simp only [awL]); omega)) only [nextC_more, nextC_over, bs_size, bs_extract, bs_toList, bs_append, byteAt_bs, bs_cells, nums_length, nums_getD, ↓awU, awV, awF, ofVal, ofVal0, isShift, aggK, forall_const, ↓reduceIte, ↓reduceDIte, ↓purePost, combine, idsA, cellsA, numsOf, srcA, calleeA, refsA, isScalar, scalarD, scalar0, AV.one, putL, unfA, implies_true, IntKind.signed, Nat.reduceAdd, Nat.reduceSub, Nat.reduceMul, Nat.reducePow, Nat.reduceDiv, Nat.reduceMod, Int.reduceAdd, Int.reduceSub, Int.reduceMul, Int.reducePow, Int.reduceNeg, Int.reduceToNat, Int.reduceLT, Int.reduceLE, Nat.reduceEqDiff, sidsB, Nat.reduceBEq, keyKD, isIntK, aggD, aggL, eqKs]
      refine CallC.of e1 (by rfl) ?_
      simp (config := { maxSteps := 1000000 }) (disch := ((try simp only [awL]); omega)) only [nextC_more, nextC_over, bs_size, bs_extract, bs_toList, bs_append, byteAt_bs, bs_cells, nums_length, nums_getD, em, ↓awU, awV, awF, ofVal, ofVal0, isShift, aggK, forall_const, ↓reduceIte, ↓reduceDIte, ↓purePost, combine, idsA, cellsA, numsOf, srcA, calleeA, refsA, isScalar, scalarD, scalar0, AV.one, putL, unfA, implies_true, IntKind.signed, Nat.reduceAdd, Nat.reduceSub, Nat.reduceMul, Nat.reducePow, Nat.reduceDiv, Nat.reduceMod, Int.reduceAdd, Int.reduceSub, Int.reduceMul, Int.reducePow, Int.reduceNeg, Int.reduceToNat, Int.reduceLT, Int.reduceLE, Nat.reduceEqDiff, sidsB, Nat.reduceBEq, keyKD, isIntK, aggD, aggL, eqKs]
      refine CallC.of e2 (by rfl) ?_
      rcases (by omega : (L : Int) ≤ (w : Nat) ∨ (w : Int) < L) with h | h
      · rw [if_pos h, decide_eq_true h]
        simp (config := { maxSteps := 1000000 }) (disch := ((try simp only [awL]); omega)) only [nextC_more, nextC_over, bs_size, bs_extract, bs_toList, bs_append, byteAt_bs, bs_cells, nums_length, nums_getD, em, ↓awU, awV, awF, ofVal, ofVal0, isShift, aggK, forall_const, ↓reduceIte, ↓reduceDIte, ↓purePost, combine, idsA, cellsA, numsOf, srcA, calleeA, refsA, isScalar, scalarD, scalar0, AV.one, putL, unfA, implies_true, IntKind.signed, Nat.reduceAdd, Nat.reduceSub, Nat.reduceMul, Nat.reducePow, Nat.reduceDiv, Nat.reduceMod, Int.reduceAdd, Int.reduceSub, Int.reduceMul, Int.reducePow, Int.reduceNeg, Int.reduceToNat, Int.reduceLT, Int.reduceLE, Nat.reduceEqDiff, sidsB, Nat.reduceBEq, keyKD, isIntK, aggD, aggL, eqKs]
        try rfl
      · rw [if_neg (by omega), decide_eq_false (by omega)]
        simp (config := { maxSteps := 1000000 }) (disch := ((try simp only [awL]); omega)) only [nextC_more, nextC_over, bs_size, bs_extract, bs_toList, bs_append, byteAt_bs, bs_cells, nums_length, nums_getD, em, ↓awU, awV, awF, ofVal, ofVal0, isShift, aggK, forall_const, ↓reduceIte, ↓reduceDIte, ↓purePost, combine, idsA, cellsA, numsOf, srcA, calleeA, refsA, isScalar, scalarD, scalar0, AV.one, putL, unfA, implies_true, IntKind.signed, Nat.reduceAdd, Nat.reduceSub, Nat.reduceMul, Nat.reducePow, Nat.reduceDiv, Nat.reduceMod, Int.reduceAdd, Int.reduceSub, Int.reduceMul, Int.reducePow, Int.reduceNeg, Int.reduceToNat, Int.reduceLT, Int.reduceLE, Nat.reduceEqDiff, sidsB, Nat.reduceBEq, keyKD, isIntK, aggD, aggL, eqKs]
        try rfl
end Go.Proofs.Ytpnhbjabnnibcaa

namespace Go.Proofs.Ytpnhbjabnnibcaa
open Go Go.Proofs Go.Abs
variable {G : Globals}
/-! DistanceRules: the contract. -/
theorem comB_symm (a b : List UInt8) : comB (tokS a) (tokS b) = comB (tokS b) (tokS a) := by
  unfold comB
  rw [asc_tokS, asc_tokS, comL_symm (asc_setL _) (asc_setL _)]
theorem uniB_symm (a b : List UInt8) : uniB (tokS a) (tokS b) = uniB (tokS b) (tokS a) := by
  unfold uniB
  have h := comL_symm (asc_setL (tokL a)) (asc_setL (tokL b))
  rw [asc_tokS, asc_tokS]
  simp only [Bool.and_self, if_true]
  change comL (tokS a) (tokS b) = comL (tokS b) (tokS a) at h
  rw [h]
  omega
theorem simR_symm (kind lim num den : Int) (a b : List UInt8) : simR kind lim num den a b = simR kind lim num den b a := by
  unfold simR
  rw [lev_symm (pts a) (pts b), comB_symm a b, uniB_symm a b]
  have : decide (a = b) = decide (b = a) := by
    by_cases h : a = b
    · subst h; rfl
    · rw [decide_eq_false h, decide_eq_false (fun e => h e.symm)]
  rw [this]
theorem uniB_self (a : List UInt8) : uniB (tokS a) (tokS a) = (tokS a).length ∧ comB (tokS a) (tokS a) = (tokS a).length := by
  unfold uniB comB
  rw [asc_tokS, comL_self]
  simp only [Bool.and_self, if_true]
  exact ⟨by omega, trivial⟩
theorem simR_self {kind lim num den : Int} (h : okR kind lim num den = true) (a : List UInt8) : simR kind lim num den a a = true := by
  unfold simR
  rw [h, Bool.true_and, lev_refl, (uniB_self a).1, (uniB_self a).2]
  rcases okR_cases h with ⟨rfl, h1, _⟩ | ⟨rfl, h1, _⟩ | ⟨rfl, h1, h2, h3, _⟩
  · rw [if_neg (by decide), if_neg (by rintro ⟨h, _⟩; cases h)]; simp
  · rw [if_pos rfl]; exact decide_eq_true (by omega)
  · rw [if_neg (by decide)]
    split
    · exact decide_eq_true (Int.mul_le_mul_of_nonneg_right h3 (by omega))
    · simp
theorem sim_weak1 {a b : List UInt8} (h : simR 1 0 0 0 a b = true) : simR 2 1 0 0 a b = true := by
  unfold simR at h ⊢
  have h1 : okR 1 0 0 0 = true := by decide
  have h2 : okR 2 1 0 0 = true := by decide
  rw [h1, if_neg (by decide), if_neg (by rintro ⟨h, _⟩; cases h), Bool.true_and, decide_eq_true_eq] at h
  subst h
  rw [h2, if_pos rfl, lev_refl]
  decide
theorem sim_weak2 {z : Int} (h0 : 0 ≤ z) (h1 : z ≤ 3) {a b : List UInt8} (h : simR 2 z 0 0 a b = true) : simR 2 (z + 1) 0 0 a b = true := by
  unfold simR at h ⊢
  have k1 : okR 2 z 0 0 = true := decide_eq_true (by omega)
  have k2 : okR 2 (z + 1) 0 0 = true := decide_eq_true (by omega)
  rw [k1, if_pos rfl, Bool.true_and, decide_eq_true_eq] at h
  rw [k2, if_pos rfl, Bool.true_and]
  exact decide_eq_true (by omega)
theorem sim_weak3 {y d : Int} (h0 : 1 ≤ y) (h1 : y ≤ d) (h2 : d ≤ 4) {a b : List UInt8} (ha : a.length ≤ 10000) (hb : b.length ≤ 10000) (h : simR 3 0 y d a b = true) : simR 3 0 (max 1 (y - 1)) d a b = true := by
  unfold simR at h ⊢
  have k1 : okR 3 0 y d = true := decide_eq_true (by omega)
  have k2 : okR 3 0 (max 1 (y - 1)) d = true := decide_eq_true (by omega)
  have hu := uni_bounds a b ha hb
  rw [k1, if_neg (by decide), Bool.true_and] at h
  rw [k2, if_neg (by decide), Bool.true_and]
  split
  · rename_i hc
    rw [if_pos hc, decide_eq_true_eq] at h
    refine decide_eq_true (Int.le_trans (Int.mul_le_mul_of_nonneg_right (by omega) hu.1) h)
  · rename_i hc
    rwa [if_neg hc] at h
theorem sim_len {kind lim num den : Int} (h : okR kind lim num den = true) (h3 : kind ≠ 3) {a b : List UInt8} (hs : simR kind lim num den a b = true) : ((pts a).length : Int) ≤ (pts b).length + lim ∧ ((pts b).length : Int) ≤ (pts a).length + lim := by
  unfold simR at hs
  rw [h, Bool.true_and] at hs
  rcases okR_cases h with ⟨rfl, h1, _⟩ | ⟨rfl, h1, _⟩ | ⟨rfl, _⟩
  · rw [if_neg (by decide), if_neg (by rintro ⟨h, _⟩; cases h), decide_eq_true_eq] at hs
    subst hs
    omega
  · rw [if_pos rfl, decide_eq_true_eq] at hs
    obtain ⟨b1, b2⟩ := (Ed.lev (pts a) (pts b)).bound
    omega
  · exact absurd rfl h3
theorem ruleM_cases (t : List Int) (k : Nat) : ruleM t k = ⟨1, 0, 0, 0⟩ ∨ (∃ z, ruleM t k = ⟨2, z, 0, 0⟩ ∧ 0 ≤ z ∧ z ≤ 3) ∨ ∃ y d, ruleM t k = ⟨3, 0, y, d⟩ ∧ 1 ≤ y ∧ y ≤ d ∧ d ≤ 4 := by
  have h1 := @pk_range t (k + 1) 4 (by decide)
  have h2 := @pk_range t (k + 2) (1 + pk t (k + 1) 4) (by omega)
  unfold ruleM
  split
  · exact .inl rfl
  · split
    · exact .inr (.inl ⟨_, rfl, by omega, by omega⟩)
    · exact .inr (.inr ⟨_, _, rfl, by omega, by omega, by omega⟩)
set_option maxHeartbeats 4000000 in
set_option maxRecDepth 100000 in
theorem rules_law (t : List Int) (ht : OkS t) (hl : t.length ≤ 9223372036854775807) :
    Ctr Try.prog G 7 [.d (.sl t.length false (ints .u8 t))] [] (.d (.bool true)) [] := by
  refine Ctr.pure (M := M0) hmix Try.func7 rfl go7 ?_
  have hmm := ht.take
  simp (config := { maxSteps := 1000000 }) (disch := ((try simp only [awL]); omega)) only [nextC_more, nextC_over, bs_size, bs_extract, bs_toList, bs_append, byteAt_bs, bs_cells, nums_length, nums_getD, Try.f7, ↓awU, awV, awF, ofVal, ofVal0, isShift, aggK, forall_const, ↓reduceIte, ↓reduceDIte, ↓purePost, combine, idsA, cellsA, numsOf, srcA, calleeA, refsA, isScalar, scalarD, scalar0, AV.one, putL, unfA, implies_true, IntKind.signed, Nat.reduceAdd, Nat.reduceSub, Nat.reduceMul, Nat.reducePow, Nat.reduceDiv, Nat.reduceMod, Int.reduceAdd, Int.reduceSub, Int.reduceMul, Int.reducePow, Int.reduceNeg, Int.reduceToNat, Int.reduceLT, Int.reduceLE, Nat.reduceEqDiff, sidsB, Nat.reduceBEq, keyKD, isIntK, aggD, aggL, eqKs]
  refine CallC.pure sane_spec ?_
  simp (config := { maxSteps := 1000000 }) (disch := ((try simp only [awL]); omega)) only [nextC_more, nextC_over, bs_size, bs_extract, bs_toList, bs_append, byteAt_bs, bs_cells, nums_length, nums_getD, ↓awU, awV, awF, ofVal, ofVal0, isShift, aggK, forall_const, ↓reduceIte, ↓reduceDIte, ↓purePost, combine, idsA, cellsA, numsOf, srcA, calleeA, refsA, isScalar, scalarD, scalar0, AV.one, putL, unfA, implies_true, IntKind.signed, Nat.reduceAdd, Nat.reduceSub, Nat.reduceMul, Nat.reducePow, Nat.reduceDiv, Nat.reduceMod, Int.reduceAdd, Int.reduceSub, Int.reduceMul, Int.reducePow, Int.reduceNeg, Int.reduceToNat, Int.reduceLT, Int.reduceLE, Nat.reduceEqDiff, sidsB, Nat.reduceBEq, keyKD, isIntK, aggD, aggL, eqKs]
  refine CallC.by (new_spec t hl) (by rfl) (by rfl) (Nat.zero_le _) ?_
  generalize t.take 300 = s at *
  simp (config := { maxSteps := 1000000 }) (disch := ((try simp only [awL]); omega)) only [nextC_more, nextC_over, bs_size, bs_extract, bs_toList, bs_append, byteAt_bs, bs_cells, nums_length, nums_getD, ↓awU, awV, awF, ofVal, ofVal0, isShift, aggK, forall_const, ↓reduceIte, ↓reduceDIte, ↓purePost, combine, idsA, cellsA, numsOf, srcA, calleeA, refsA, isScalar, scalarD, scalar0, AV.one, putL, unfA, implies_true, IntKind.signed, Nat.reduceAdd, Nat.reduceSub, Nat.reduceMul, Nat.reducePow, Nat.reduceDiv, Nat.reduceMod, Int.reduceAdd, Int.reduceSub, Int.reduceMul, Int.reducePow, Int.reduceNeg, Int.reduceToNat, Int.reduceLT, Int.reduceLE, Nat.reduceEqDiff, sidsB, Nat.reduceBEq, keyKD, isIntK, aggD, aggL, eqKs]
  have hr := rule_spec (G := G) s 0 hmm
  have hok := ruleM_ok s 0
  have hcs := ruleM_cases s 0
  generalize ruleM s 0 = r at *
  generalize ruleK s 0 = k at *
  rcases hcs with rfl | ⟨z, rfl, z0, z1⟩ | ⟨y, d, rfl, y0, y1, y2⟩
  · simp only [RuV.D] at hr hok
    refine CallC.by hr (by rfl) (by rfl) (Nat.le_refl _) ?_
    simp (config := { maxSteps := 1000000 }) (disch := ((try simp only [awL]); omega)) only [nextC_more, nextC_over, bs_size, bs_extract, bs_toList, bs_append, byteAt_bs, bs_cells, nums_length, nums_getD, ↓awU, awV, awF, ofVal, ofVal0, isShift, aggK, forall_const, ↓reduceIte, ↓reduceDIte, ↓purePost, combine, idsA, cellsA, numsOf, srcA, calleeA, refsA, isScalar, scalarD, scalar0, AV.one, putL, unfA, implies_true, IntKind.signed, Nat.reduceAdd, Nat.reduceSub, Nat.reduceMul, Nat.reducePow, Nat.reduceDiv, Nat.reduceMod, Int.reduceAdd, Int.reduceSub, Int.reduceMul, Int.reducePow, Int.reduceNeg, Int.reduceToNat, Int.reduceLT, Int.reduceLE, Nat.reduceEqDiff, sidsB, Nat.reduceBEq, keyKD, isIntK, aggD, aggL, eqKs]
    refine CallC.by (word_spec s k hmm) (by rfl) (by rfl) (Nat.le_refl _) ?_
    obtain ⟨ga, la⟩ := wordR_ok s k
    generalize wordR s k = a at *
    generalize wordK s k = k at *
    simp (config := { maxSteps := 1000000 }) (disch := ((try simp only [awL]); omega)) only [nextC_more, nextC_over, bs_size, bs_extract, bs_toList, bs_append, byteAt_bs, bs_cells, nums_length, nums_getD, ↓awU, awV, awF, ofVal, ofVal0, isShift, aggK, forall_const, ↓reduceIte, ↓reduceDIte, ↓purePost, combine, idsA, cellsA, numsOf, srcA, calleeA, refsA, isScalar, scalarD, scalar0, AV.one, putL, unfA, implies_true, IntKind.signed, Nat.reduceAdd, Nat.reduceSub, Nat.reduceMul, Nat.reducePow, Nat.reduceDiv, Nat.reduceMod, Int.reduceAdd, Int.reduceSub, Int.reduceMul, Int.reducePow, Int.reduceNeg, Int.reduceToNat, Int.reduceLT, Int.reduceLE, Nat.reduceEqDiff, sidsB, Nat.reduceBEq, keyKD, isIntK, aggD, aggL, eqKs]
    refine CallC.by (word_spec s k hmm) (by rfl) (by rfl) (Nat.le_refl _) ?_
    obtain ⟨gb, lb⟩ := wordR_ok s k
    generalize wordR s k = b at *
    generalize wordK s k = k at *
    have pa := pts_len a
    have pb := pts_len b
    have s1 := similar_spec (G := G) 1 0 0 0 a b (by omega) (by omega)
    have s2 := similar_spec (G := G) 1 0 0 0 b a (by omega) (by omega)
    have s3 := similar_spec (G := G) 1 0 0 0 a a (by omega) (by omega)
    have s4 := similar_spec (G := G) 2 1 0 0 a b (by omega) (by omega)
    have hln := lengths_spec (G := G) 1 0 0 0 (pts a).length (by omega) (by omega)
    rw [← simR_symm] at s2
    rw [simR_self hok] at s3
    have hw : simR 1 0 0 0 a b = true → simR 2 1 0 0 a b = true := sim_weak1
    have hsl := fun h => sim_len (a := a) (b := b) hok (by decide) h
    unfold lenR at hln
    rw [if_pos ⟨hok, by decide, by omega⟩] at hln
    have q1 := rpoints_spec (G := G) a (by omega)
    have q2 := rpoints_spec (G := G) b (by omega)
    have il : ∀ l : List Int, (ints .i32 l).length = l.length := fun l => by simp [ints]
    generalize simR 1 0 0 0 a b = u at *
    generalize simR 2 1 0 0 a b = v at *
    cases u
    · clear hw s4 hsl
      simp (config := { maxSteps := 1000000 }) (disch := ((try simp only [awL]); omega)) only [nextC_more, nextC_over, bs_size, bs_extract, bs_toList, bs_append, byteAt_bs, bs_cells, nums_length, nums_getD, ↓awU, awV, awF, ofVal, ofVal0, isShift, aggK, forall_const, ↓reduceIte, ↓reduceDIte, ↓purePost, combine, idsA, cellsA, numsOf, srcA, calleeA, refsA, isScalar, scalarD, scalar0, AV.one, putL, unfA, implies_true, IntKind.signed, Nat.reduceAdd, Nat.reduceSub, Nat.reduceMul, Nat.reducePow, Nat.reduceDiv, Nat.reduceMod, Int.reduceAdd, Int.reduceSub, Int.reduceMul, Int.reducePow, Int.reduceNeg, Int.reduceToNat, Int.reduceLT, Int.reduceLE, Nat.reduceEqDiff, sidsB, Nat.reduceBEq, keyKD, isIntK, aggD, aggL, eqKs]
      refine CallC.of s1 (by rfl) ?_
      simp (config := { maxSteps := 1000000 }) (disch := ((try simp only [awL]); omega)) only [nextC_more, nextC_over, bs_size, bs_extract, bs_toList, bs_append, byteAt_bs, bs_cells, nums_length, nums_getD, ↓awU, awV, awF, ofVal, ofVal0, isShift, aggK, forall_const, ↓reduceIte, ↓reduceDIte, ↓purePost, combine, idsA, cellsA, numsOf, srcA, calleeA, refsA, isScalar, scalarD, scalar0, AV.one, putL, unfA, implies_true, IntKind.signed, Nat.reduceAdd, Nat.reduceSub, Nat.reduceMul, Nat.reducePow, Nat.reduceDiv, Nat.reduceMod, Int.reduceAdd, Int.reduceSub, Int.reduceMul, Int.reducePow, Int.reduceNeg, Int.reduceToNat, Int.reduceLT, Int.reduceLE, Nat.reduceEqDiff, sidsB, Nat.reduceBEq, keyKD, isIntK, aggD, aggL, eqKs]
      refine CallC.of s2 (by rfl) ?_
      simp (config := { maxSteps := 1000000 }) (disch := ((try simp only [awL]); omega)) only [nextC_more, nextC_over, bs_size, bs_extract, bs_toList, bs_append, byteAt_bs, bs_cells, nums_length, nums_getD, ↓awU, awV, awF, ofVal, ofVal0, isShift, aggK, forall_const, ↓reduceIte, ↓reduceDIte, ↓purePost, combine, idsA, cellsA, numsOf, srcA, calleeA, refsA, isScalar, scalarD, scalar0, AV.one, putL, unfA, implies_true, IntKind.signed, Nat.reduceAdd, Nat.reduceSub, Nat.reduceMul, Nat.reducePow, Nat.reduceDiv, Nat.reduceMod, Int.reduceAdd, Int.reduceSub, Int.reduceMul, Int.reducePow, Int.reduceNeg, Int.reduceToNat, Int.reduceLT, Int.reduceLE, Nat.reduceEqDiff, sidsB, Nat.reduceBEq, keyKD, isIntK, aggD, aggL, eqKs]
      refine CallC.of s3 (by rfl) ?_
      simp (config := { maxSteps := 1000000 }) (disch := ((try simp only [awL]); omega)) only [nextC_more, nextC_over, bs_size, bs_extract, bs_toList, bs_append, byteAt_bs, bs_cells, nums_length, nums_getD, mm_max, ↓awU, awV, awF, ofVal, ofVal0, isShift, aggK, forall_const, ↓reduceIte, ↓reduceDIte, ↓purePost, combine, idsA, cellsA, numsOf, srcA, calleeA, refsA, isScalar, scalarD, scalar0, AV.one, putL, unfA, implies_true, IntKind.signed, Nat.reduceAdd, Nat.reduceSub, Nat.reduceMul, Nat.reducePow, Nat.reduceDiv, Nat.reduceMod, Int.reduceAdd, Int.reduceSub, Int.reduceMul, Int.reducePow, Int.reduceNeg, Int.reduceToNat, Int.reduceLT, Int.reduceLE, Nat.reduceEqDiff, sidsB, Nat.reduceBEq, keyKD, isIntK, aggD, aggL, eqKs]
      refine ⟨by rfl, ?_⟩
      refine CallC.of s1 (by rfl) ?_
      simp (config := { maxSteps := 1000000 }) (disch := ((try simp only [awL]); omega)) only [nextC_more, nextC_over, bs_size, bs_extract, bs_toList, bs_append, byteAt_bs, bs_cells, nums_length, nums_getD, ↓awU, awV, awF, ofVal, ofVal0, isShift, aggK, forall_const, ↓reduceIte, ↓reduceDIte, ↓purePost, combine, idsA, cellsA, numsOf, srcA, calleeA, refsA, isScalar, scalarD, scalar0, AV.one, putL, unfA, implies_true, IntKind.signed, Nat.reduceAdd, Nat.reduceSub, Nat.reduceMul, Nat.reducePow, Nat.reduceDiv, Nat.reduceMod, Int.reduceAdd, Int.reduceSub, Int.reduceMul, Int.reducePow, Int.reduceNeg, Int.reduceToNat, Int.reduceLT, Int.reduceLE, Nat.reduceEqDiff, sidsB, Nat.reduceBEq, keyKD, isIntK, aggD, aggL, eqKs]
      refine CallC.of q1 (by rfl) ?_
      simp (config := { maxSteps := 1000000 }) (disch := ((try simp only [awL]); omega)) only [nextC_more, nextC_over, bs_size, bs_extract, bs_toList, bs_append, byteAt_bs, bs_cells, nums_length, nums_getD, il, ↓awU, awV, awF, ofVal, ofVal0, isShift, aggK, forall_const, ↓reduceIte, ↓reduceDIte, ↓purePost, combine, idsA, cellsA, numsOf, srcA, calleeA, refsA, isScalar, scalarD, scalar0, AV.one, putL, unfA, implies_true, IntKind.signed, Nat.reduceAdd, Nat.reduceSub, Nat.reduceMul, Nat.reducePow, Nat.reduceDiv, Nat.reduceMod, Int.reduceAdd, Int.reduceSub, Int.reduceMul, Int.reducePow, Int.reduceNeg, Int.reduceToNat, Int.reduceLT, Int.reduceLE, Nat.reduceEqDiff, sidsB, Nat.reduceBEq, keyKD, isIntK, aggD, aggL, eqKs]
      refine CallC.of hln (by rfl) ?_
      simp (config := { maxSteps := 1000000 }) (disch := ((try simp only [awL]); omega)) only [nextC_more, nextC_over, bs_size, bs_extract, bs_toList, bs_append, byteAt_bs, bs_cells, nums_length, nums_getD, il, ↓awU, awV, awF, ofVal, ofVal0, isShift, aggK, forall_const, ↓reduceIte, ↓reduceDIte, ↓purePost, combine, idsA, cellsA, numsOf, srcA, calleeA, refsA, isScalar, scalarD, scalar0, AV.one, putL, unfA, implies_true, IntKind.signed, Nat.reduceAdd, Nat.reduceSub, Nat.reduceMul, Nat.reducePow, Nat.reduceDiv, Nat.reduceMod, Int.reduceAdd, Int.reduceSub, Int.reduceMul, Int.reducePow, Int.reduceNeg, Int.reduceToNat, Int.reduceLT, Int.reduceLE, Nat.reduceEqDiff, sidsB, Nat.reduceBEq, keyKD, isIntK, aggD, aggL, eqKs]
      refine ⟨by rfl, ?_⟩
      refine CallC.of q2 (by rfl) ?_
      simp (config := { maxSteps := 1000000 }) (disch := ((try simp only [awL]); omega)) only [nextC_more, nextC_over, bs_size, bs_extract, bs_toList, bs_append, byteAt_bs, bs_cells, nums_length, nums_getD, il, ↓awU, awV, awF, ofVal, ofVal0, isShift, aggK, forall_const, ↓reduceIte, ↓reduceDIte, ↓purePost, combine, idsA, cellsA, numsOf, srcA, calleeA, refsA, isScalar, scalarD, scalar0, AV.one, putL, unfA, implies_true, IntKind.signed, Nat.reduceAdd, Nat.reduceSub, Nat.reduceMul, Nat.reducePow, Nat.reduceDiv, Nat.reduceMod, Int.reduceAdd, Int.reduceSub, Int.reduceMul, Int.reducePow, Int.reduceNeg, Int.reduceToNat, Int.reduceLT, Int.reduceLE, Nat.reduceEqDiff, sidsB, Nat.reduceBEq, keyKD, isIntK, aggD, aggL, eqKs]
      refine CallC.of s1 (by rfl) ?_
      simp (config := { maxSteps := 1000000 }) (disch := ((try simp only [awL]); omega)) only [nextC_more, nextC_over, bs_size, bs_extract, bs_toList, bs_append, byteAt_bs, bs_cells, nums_length, nums_getD, il, ↓awU, awV, awF, ofVal, ofVal0, isShift, aggK, forall_const, ↓reduceIte, ↓reduceDIte, ↓purePost, combine, idsA, cellsA, numsOf, srcA, calleeA, refsA, isScalar, scalarD, scalar0, AV.one, putL, unfA, implies_true, IntKind.signed, Nat.reduceAdd, Nat.reduceSub, Nat.reduceMul, Nat.reducePow, Nat.reduceDiv, Nat.reduceMod, Int.reduceAdd, Int.reduceSub, Int.reduceMul, Int.reducePow, Int.reduceNeg, Int.reduceToNat, Int.reduceLT, Int.reduceLE, Nat.reduceEqDiff, sidsB, Nat.reduceBEq, keyKD, isIntK, aggD, aggL, eqKs]
    · obtain rfl : v = true := hw rfl
      obtain ⟨m1, m2⟩ := hsl rfl
      clear hw
      simp (config := { maxSteps := 1000000 }) (disch := ((try simp only [awL]); omega)) only [nextC_more, nextC_over, bs_size, bs_extract, bs_toList, bs_append, byteAt_bs, bs_cells, nums_length, nums_getD, ↓awU, awV, awF, ofVal, ofVal0, isShift, aggK, forall_const, ↓reduceIte, ↓reduceDIte, ↓purePost, combine, idsA, cellsA, numsOf, srcA, calleeA, refsA, isScalar, scalarD, scalar0, AV.one, putL, unfA, implies_true, IntKind.signed, Nat.reduceAdd, Nat.reduceSub, Nat.reduceMul, Nat.reducePow, Nat.reduceDiv, Nat.reduceMod, Int.reduceAdd, Int.reduceSub, Int.reduceMul, Int.reducePow, Int.reduceNeg, Int.reduceToNat, Int.reduceLT, Int.reduceLE, Nat.reduceEqDiff, sidsB, Nat.reduceBEq, keyKD, isIntK, aggD, aggL, eqKs]
      refine CallC.of s1 (by rfl) ?_
      simp (config := { maxSteps := 1000000 }) (disch := ((try simp only [awL]); omega)) only [nextC_more, nextC_over, bs_size, bs_extract, bs_toList, bs_append, byteAt_bs, bs_cells, nums_length, nums_getD, ↓awU, awV, awF, ofVal, ofVal0, isShift, aggK, forall_const, ↓reduceIte, ↓reduceDIte, ↓purePost, combine, idsA, cellsA, numsOf, srcA, calleeA, refsA, isScalar, scalarD, scalar0, AV.one, putL, unfA, implies_true, IntKind.signed, Nat.reduceAdd, Nat.reduceSub, Nat.reduceMul, Nat.reducePow, Nat.reduceDiv, Nat.reduceMod, Int.reduceAdd, Int.reduceSub, Int.reduceMul, Int.reducePow, Int.reduceNeg, Int.reduceToNat, Int.reduceLT, Int.reduceLE, Nat.reduceEqDiff, sidsB, Nat.reduceBEq, keyKD, isIntK, aggD, aggL, eqKs]
      refine CallC.of s2 (by rfl) ?_
      simp (config := { maxSteps := 1000000 }) (disch := ((try simp only [awL]); omega)) only [nextC_more, nextC_over, bs_size, bs_extract, bs_toList, bs_append, byteAt_bs, bs_cells, nums_length, nums_getD, ↓awU, awV, awF, ofVal, ofVal0, isShift, aggK, forall_const, ↓reduceIte, ↓reduceDIte, ↓purePost, combine, idsA, cellsA, numsOf, srcA, calleeA, refsA, isScalar, scalarD, scalar0, AV.one, putL, unfA, implies_true, IntKind.signed, Nat.reduceAdd, Nat.reduceSub, Nat.reduceMul, Nat.reducePow, Nat.reduceDiv, Nat.reduceMod, Int.reduceAdd, Int.reduceSub, Int.reduceMul, Int.reducePow, Int.reduceNeg, Int.reduceToNat, Int.reduceLT, Int.reduceLE, Nat.reduceEqDiff, sidsB, Nat.reduceBEq, keyKD, isIntK, aggD, aggL, eqKs]
      refine CallC.of s3 (by rfl) ?_
      simp (config := { maxSteps := 1000000 }) (disch := ((try simp only [awL]); omega)) only [nextC_more, nextC_over, bs_size, bs_extract, bs_toList, bs_append, byteAt_bs, bs_cells, nums_length, nums_getD, mm_max, ↓awU, awV, awF, ofVal, ofVal0, isShift, aggK, forall_const, ↓reduceIte, ↓reduceDIte, ↓purePost, combine, idsA, cellsA, numsOf, srcA, calleeA, refsA, isScalar, scalarD, scalar0, AV.one, putL, unfA, implies_true, IntKind.signed, Nat.reduceAdd, Nat.reduceSub, Nat.reduceMul, Nat.reducePow, Nat.reduceDiv, Nat.reduceMod, Int.reduceAdd, Int.reduceSub, Int.reduceMul, Int.reducePow, Int.reduceNeg, Int.reduceToNat, Int.reduceLT, Int.reduceLE, Nat.reduceEqDiff, sidsB, Nat.reduceBEq, keyKD, isIntK, aggD, aggL, eqKs]
      refine ⟨by rfl, ?_⟩
      refine CallC.of s1 (by rfl) ?_
      simp (config := { maxSteps := 1000000 }) (disch := ((try simp only [awL]); omega)) only [nextC_more, nextC_over, bs_size, bs_extract, bs_toList, bs_append, byteAt_bs, bs_cells, nums_length, nums_getD, ↓awU, awV, awF, ofVal, ofVal0, isShift, aggK, forall_const, ↓reduceIte, ↓reduceDIte, ↓purePost, combine, idsA, cellsA, numsOf, srcA, calleeA, refsA, isScalar, scalarD, scalar0, AV.one, putL, unfA, implies_true, IntKind.signed, Nat.reduceAdd, Nat.reduceSub, Nat.reduceMul, Nat.reducePow, Nat.reduceDiv, Nat.reduceMod, Int.reduceAdd, Int.reduceSub, Int.reduceMul, Int.reducePow, Int.reduceNeg, Int.reduceToNat, Int.reduceLT, Int.reduceLE, Nat.reduceEqDiff, sidsB, Nat.reduceBEq, keyKD, isIntK, aggD, aggL, eqKs]
      refine CallC.of s4 (by rfl) ?_
      simp (config := { maxSteps := 1000000 }) (disch := ((try simp only [awL]); omega)) only [nextC_more, nextC_over, bs_size, bs_extract, bs_toList, bs_append, byteAt_bs, bs_cells, nums_length, nums_getD, ↓awU, awV, awF, ofVal, ofVal0, isShift, aggK, forall_const, ↓reduceIte, ↓reduceDIte, ↓purePost, combine, idsA, cellsA, numsOf, srcA, calleeA, refsA, isScalar, scalarD, scalar0, AV.one, putL, unfA, implies_true, IntKind.signed, Nat.reduceAdd, Nat.reduceSub, Nat.reduceMul, Nat.reducePow, Nat.reduceDiv, Nat.reduceMod, Int.reduceAdd, Int.reduceSub, Int.reduceMul, Int.reducePow, Int.reduceNeg, Int.reduceToNat, Int.reduceLT, Int.reduceLE, Nat.reduceEqDiff, sidsB, Nat.reduceBEq, keyKD, isIntK, aggD, aggL, eqKs]
      refine CallC.of q1 (by rfl) ?_
      simp (config := { maxSteps := 1000000 }) (disch := ((try simp only [awL]); omega)) only [nextC_more, nextC_over, bs_size, bs_extract, bs_toList, bs_append, byteAt_bs, bs_cells, nums_length, nums_getD, il, ↓awU, awV, awF, ofVal, ofVal0, isShift, aggK, forall_const, ↓reduceIte, ↓reduceDIte, ↓purePost, combine, idsA, cellsA, numsOf, srcA, calleeA, refsA, isScalar, scalarD, scalar0, AV.one, putL, unfA, implies_true, IntKind.signed, Nat.reduceAdd, Nat.reduceSub, Nat.reduceMul, Nat.reducePow, Nat.reduceDiv, Nat.reduceMod, Int.reduceAdd, Int.reduceSub, Int.reduceMul, Int.reducePow, Int.reduceNeg, Int.reduceToNat, Int.reduceLT, Int.reduceLE, Nat.reduceEqDiff, sidsB, Nat.reduceBEq, keyKD, isIntK, aggD, aggL, eqKs]
      refine CallC.of hln (by rfl) ?_
      simp (config := { maxSteps := 1000000 }) (disch := ((try simp only [awL]); omega)) only [nextC_more, nextC_over, bs_size, bs_extract, bs_toList, bs_append, byteAt_bs, bs_cells, nums_length, nums_getD, il, ↓awU, awV, awF, ofVal, ofVal0, isShift, aggK, forall_const, ↓reduceIte, ↓reduceDIte, ↓purePost, combine, idsA, cellsA, numsOf, srcA, calleeA, refsA, isScalar, scalarD, scalar0, AV.one, putL, unfA, implies_true, IntKind.signed, Nat.reduceAdd, Nat.reduceSub, Nat.reduceMul, Nat.reducePow, Nat.reduceDiv, Nat.reduceMod, Int.reduceAdd, Int.reduceSub, Int.reduceMul, Int.reducePow, Int.reduceNeg, Int.reduceToNat, Int.reduceLT, Int.reduceLE, Nat.reduceEqDiff, sidsB, Nat.reduceBEq, keyKD, isIntK, aggD, aggL, eqKs]
      refine ⟨by rfl, ?_⟩
      refine CallC.of q2 (by rfl) ?_
      simp (config := { maxSteps := 1000000 }) (disch := ((try simp only [awL]); omega)) only [nextC_more, nextC_over, bs_size, bs_extract, bs_toList, bs_append, byteAt_bs, bs_cells, nums_length, nums_getD, il, ↓awU, awV, awF, ofVal, ofVal0, isShift, aggK, forall_const, ↓reduceIte, ↓reduceDIte, ↓purePost, combine, idsA, cellsA, numsOf, srcA, calleeA, refsA, isScalar, scalarD, scalar0, AV.one, putL, unfA, implies_true, IntKind.signed, Nat.reduceAdd, Nat.reduceSub, Nat.reduceMul, Nat.reducePow, Nat.reduceDiv, Nat.reduceMod, Int.reduceAdd, Int.reduceSub, Int.reduceMul, Int.reducePow, Int.reduceNeg, Int.reduceToNat, Int.reduceLT, Int.reduceLE, Nat.reduceEqDiff, sidsB, Nat.reduceBEq, keyKD, isIntK, aggD, aggL, eqKs]
      refine CallC.of s1 (by rfl) ?_
      simp (config := { maxSteps := 1000000 }) (disch := ((try simp only [awL]); omega)) only [nextC_more, nextC_over, bs_size, bs_extract, bs_toList, bs_append, byteAt_bs, bs_cells, nums_length, nums_getD, il, ↓awU, awV, awF, ofVal, ofVal0, isShift, aggK, forall_const, ↓reduceIte, ↓reduceDIte, ↓purePost, combine, idsA, cellsA, numsOf, srcA, calleeA, refsA, isScalar, scalarD, scalar0, AV.one, putL, unfA, implies_true, IntKind.signed, Nat.reduceAdd, Nat.reduceSub, Nat.reduceMul, Nat.reducePow, Nat.reduceDiv, Nat.reduceMod, Int.reduceAdd, Int.reduceSub, Int.reduceMul, Int.reducePow, Int.reduceNeg, Int.reduceToNat, Int.reduceLT, Int.reduceLE, Nat.reduceEqDiff, sidsB, Nat.reduceBEq, keyKD, isIntK, aggD, aggL, eqKs]
  · simp only [RuV.D] at hr hok
    refine CallC.by hr (by rfl) (by rfl) (Nat.le_refl _) ?_
    simp (config := { maxSteps := 1000000 }) (disch := ((try simp only [awL]); omega)) only [nextC_more, nextC_over, bs_size, bs_extract, bs_toList, bs_append, byteAt_bs, bs_cells, nums_length, nums_getD, ↓awU, awV, awF, ofVal, ofVal0, isShift, aggK, forall_const, ↓reduceIte, ↓reduceDIte, ↓purePost, combine, idsA, cellsA, numsOf, srcA, calleeA, refsA, isScalar, scalarD, scalar0, AV.one, putL, unfA, implies_true, IntKind.signed, Nat.reduceAdd, Nat.reduceSub, Nat.reduceMul, Nat.reducePow, Nat.reduceDiv, Nat.reduceMod, Int.reduceAdd, Int.reduceSub, Int.reduceMul, Int.reducePow, Int.reduceNeg, Int.reduceToNat, Int.reduceLT, Int.reduceLE, Nat.reduceEqDiff, sidsB, Nat.reduceBEq, keyKD, isIntK, aggD, aggL, eqKs]
    refine CallC.by (word_spec s k hmm) (by rfl) (by rfl) (Nat.le_refl _) ?_
    obtain ⟨ga, la⟩ := wordR_ok s k
    generalize wordR s k = a at *
    generalize wordK s k = k at *
    simp (config := { maxSteps := 1000000 }) (disch := ((try simp only [awL]); omega)) only [nextC_more, nextC_over, bs_size, bs_extract, bs_toList, bs_append, byteAt_bs, bs_cells, nums_length, nums_getD, ↓awU, awV, awF, ofVal, ofVal0, isShift, aggK, forall_const, ↓reduceIte, ↓reduceDIte, ↓purePost, combine, idsA, cellsA, numsOf, srcA, calleeA, refsA, isScalar, scalarD, scalar0, AV.one, putL, unfA, implies_true, IntKind.signed, Nat.reduceAdd, Nat.reduceSub, Nat.reduceMul, Nat.reducePow, Nat.reduceDiv, Nat.reduceMod, Int.reduceAdd, Int.reduceSub, Int.reduceMul, Int.reducePow, Int.reduceNeg, Int.reduceToNat, Int.reduceLT, Int.reduceLE, Nat.reduceEqDiff, sidsB, Nat.reduceBEq, keyKD, isIntK, aggD, aggL, eqKs]
    refine CallC.by (word_spec s k hmm) (by rfl) (by rfl) (Nat.le_refl _) ?_
    obtain ⟨gb, lb⟩ := wordR_ok s k
    generalize wordR s k = b at *
    generalize wordK s k = k at *
    have pa := pts_len a
    have pb := pts_len b
    have s1 := similar_spec (G := G) 2 z 0 0 a b (by omega) (by omega)
    have s2 := similar_spec (G := G) 2 z 0 0 b a (by omega) (by omega)
    have s3 := similar_spec (G := G) 2 z 0 0 a a (by omega) (by omega)
    have s4 := similar_spec (G := G) 2 (z + 1) 0 0 a b (by omega) (by omega)
    have hln := lengths_spec (G := G) 2 z 0 0 (pts a).length (by omega) (by omega)
    rw [← simR_symm] at s2
    rw [simR_self hok] at s3
    have hw : simR 2 z 0 0 a b = true → simR 2 (z + 1) 0 0 a b = true := sim_weak2 z0 z1
    have hsl := fun h => sim_len (a := a) (b := b) hok (by decide) h
    unfold lenR at hln
    rw [if_pos ⟨hok, by decide, by omega⟩] at hln
    have q1 := rpoints_spec (G := G) a (by omega)
    have q2 := rpoints_spec (G := G) b (by omega)
    have il : ∀ l : List Int, (ints .i32 l).length = l.length := fun l => by simp [ints]
    generalize simR 2 z 0 0 a b = u at *
    generalize simR 2 (z + 1) 0 0 a b = v at *
    cases u
    · clear hw s4 hsl
      simp (config := { maxSteps := 1000000 }) (disch := ((try simp only [awL]); omega)) only [nextC_more, nextC_over, bs_size, bs_extract, bs_toList, bs_append, byteAt_bs, bs_cells, nums_length, nums_getD, ↓awU, awV, awF, ofVal, ofVal0, isShift, aggK, forall_const, ↓reduceIte, ↓reduceDIte, ↓purePost, combine, idsA, cellsA, numsOf, srcA, calleeA, refsA, isScalar, scalarD, scalar0, AV.one, putL, unfA, implies_true, IntKind.signed, Nat.reduceAdd, Nat.reduceSub, Nat.reduceMul, Nat.reducePow, Nat.reduceDiv, Nat.reduceMod, Int.reduceAdd, Int.reduceSub, Int.reduceMul, Int.reducePow, Int.reduceNeg, Int.reduceToNat, Int.reduceLT, Int.reduceLE, Nat.reduceEqDiff, sidsB, Nat.reduceBEq, keyKD, isIntK, aggD, aggL, eqKs]
      refine CallC.of s1 (by rfl) ?_
      simp (config := { maxSteps := 1000000 }) (disch := ((try simp only [awL]); omega)) only [nextC_more, nextC_over, bs_size, bs_extract, bs_toList, bs_append, byteAt_bs, bs_cells, nums_length, nums_getD, ↓awU, awV, awF, ofVal, ofVal0, isShift, aggK, forall_const, ↓reduceIte, ↓reduceDIte, ↓purePost, combine, idsA, cellsA, numsOf, srcA, calleeA, refsA, isScalar, scalarD, scalar0, AV.one, putL, unfA, implies_true, IntKind.signed, Nat.reduceAdd, Nat.reduceSub, Nat.reduceMul, Nat.reducePow, Nat.reduceDiv, Nat.reduceMod, Int.reduceAdd, Int.reduceSub, Int.reduceMul, Int.reducePow, Int.reduceNeg, Int.reduceToNat, Int.reduceLT, Int.reduceLE, Nat.reduceEqDiff, sidsB, Nat.reduceBEq, keyKD, isIntK, aggD, aggL, eqKs]
      refine CallC.of s2 (by rfl) ?_
      simp (config := { maxSteps := 1000000 }) (disch := ((try simp only [awL]); omega)) only [nextC_more, nextC_over, bs_size, bs_extract, bs_toList, bs_append, byteAt_bs, bs_cells, nums_length, nums_getD, ↓awU, awV, awF, ofVal, ofVal0, isShift, aggK, forall_const, ↓reduceIte, ↓reduceDIte, ↓purePost, combine, idsA, cellsA, numsOf, srcA, calleeA, refsA, isScalar, scalarD, scalar0, AV.one, putL, unfA, implies_true, IntKind.signed, Nat.reduceAdd, Nat.reduceSub, Nat.reduceMul, Nat.reducePow, Nat.reduceDiv, Nat.reduceMod, Int.reduceAdd, Int.reduceSub, Int.reduceMul, Int.reducePow, Int.reduceNeg, Int.reduceToNat, Int.reduceLT, Int.reduceLE, Nat.reduceEqDiff, sidsB, Nat.reduceBEq, keyKD, isIntK, aggD, aggL, eqKs]
      refine CallC.of s3 (by rfl) ?_
      simp (config := { maxSteps := 1000000 }) (disch := ((try simp only [awL]); omega)) only [nextC_more, nextC_over, bs_size, bs_extract, bs_toList, bs_append, byteAt_bs, bs_cells, nums_length, nums_getD, mm_max, ↓awU, awV, awF, ofVal, ofVal0, isShift, aggK, forall_const, ↓reduceIte, ↓reduceDIte, ↓purePost, combine, idsA, cellsA, numsOf, srcA, calleeA, refsA, isScalar, scalarD, scalar0, AV.one, putL, unfA, implies_true, IntKind.signed, Nat.reduceAdd, Nat.reduceSub, Nat.reduceMul, Nat.reducePow, Nat.reduceDiv, Nat.reduceMod, Int.reduceAdd, Int.reduceSub, Int.reduceMul, Int.reducePow, Int.reduceNeg, Int.reduceToNat, Int.reduceLT, Int.reduceLE, Nat.reduceEqDiff, sidsB, Nat.reduceBEq, keyKD, isIntK, aggD, aggL, eqKs]
      refine ⟨by rfl, ?_⟩
      refine CallC.of s1 (by rfl) ?_
      simp (config := { maxSteps := 1000000 }) (disch := ((try simp only [awL]); omega)) only [nextC_more, nextC_over, bs_size, bs_extract, bs_toList, bs_append, byteAt_bs, bs_cells, nums_length, nums_getD, ↓awU, awV, awF, ofVal, ofVal0, isShift, aggK, forall_const, ↓reduceIte, ↓reduceDIte, ↓purePost, combine, idsA, cellsA, numsOf, srcA, calleeA, refsA, isScalar, scalarD, scalar0, AV.one, putL, unfA, implies_true, IntKind.signed, Nat.reduceAdd, Nat.reduceSub, Nat.reduceMul, Nat.reducePow, Nat.reduceDiv, Nat.reduceMod, Int.reduceAdd, Int.reduceSub, Int.reduceMul, Int.reducePow, Int.reduceNeg, Int.reduceToNat, Int.reduceLT, Int.reduceLE, Nat.reduceEqDiff, sidsB, Nat.reduceBEq, keyKD, isIntK, aggD, aggL, eqKs]
      refine CallC.of q1 (by rfl) ?_
      simp (config := { maxSteps := 1000000 }) (disch := ((try simp only [awL]); omega)) only [nextC_more, nextC_over, bs_size, bs_extract, bs_toList, bs_append, byteAt_bs, bs_cells, nums_length, nums_getD, il, ↓awU, awV, awF, ofVal, ofVal0, isShift, aggK, forall_const, ↓reduceIte, ↓reduceDIte, ↓purePost, combine, idsA, cellsA, numsOf, srcA, calleeA, refsA, isScalar, scalarD, scalar0, AV.one, putL, unfA, implies_true, IntKind.signed, Nat.reduceAdd, Nat.reduceSub, Nat.reduceMul, Nat.reducePow, Nat.reduceDiv, Nat.reduceMod, Int.reduceAdd, Int.reduceSub, Int.reduceMul, Int.reducePow, Int.reduceNeg, Int.reduceToNat, Int.reduceLT, Int.reduceLE, Nat.reduceEqDiff, sidsB, Nat.reduceBEq, keyKD, isIntK, aggD, aggL, eqKs]
      refine CallC.of hln (by rfl) ?_
      simp (config := { maxSteps := 1000000 }) (disch := ((try simp only [awL]); omega)) only [nextC_more, nextC_over, bs_size, bs_extract, bs_toList, bs_append, byteAt_bs, bs_cells, nums_length, nums_getD, il, ↓awU, awV, awF, ofVal, ofVal0, isShift, aggK, forall_const, ↓reduceIte, ↓reduceDIte, ↓purePost, combine, idsA, cellsA, numsOf, srcA, calleeA, refsA, isScalar, scalarD, scalar0, AV.one, putL, unfA, implies_true, IntKind.signed, Nat.reduceAdd, Nat.reduceSub, Nat.reduceMul, Nat.reducePow, Nat.reduceDiv, Nat.reduceMod, Int.reduceAdd, Int.reduceSub, Int.reduceMul, Int.reducePow, Int.reduceNeg, Int.reduceToNat, Int.reduceLT, Int.reduceLE, Nat.reduceEqDiff, sidsB, Nat.reduceBEq, keyKD, isIntK, aggD, aggL, eqKs]
      refine ⟨by rfl, ?_⟩
      refine CallC.of q2 (by rfl) ?_
      simp (config := { maxSteps := 1000000 }) (disch := ((try simp only [awL]); omega)) only [nextC_more, nextC_over, bs_size, bs_extract, bs_toList, bs_append, byteAt_bs, bs_cells, nums_length, nums_getD, il, ↓awU, awV, awF, ofVal, ofVal0, isShift, aggK, forall_const, ↓reduceIte, ↓reduceDIte, ↓purePost, combine, idsA, cellsA, numsOf, srcA, calleeA, refsA, isScalar, scalarD, scalar0, AV.one, putL, unfA, implies_true, IntKind.signed, Nat.reduceAdd, Nat.reduceSub, Nat.reduceMul, Nat.reducePow, Nat.reduceDiv, Nat.reduceMod, Int.reduceAdd, Int.reduceSub, Int.reduceMul, Int.reducePow, Int.reduceNeg, Int.reduceToNat, Int.reduceLT, Int.reduceLE, Nat.reduceEqDiff, sidsB, Nat.reduceBEq, keyKD, isIntK, aggD, aggL, eqKs]
      refine CallC.of s1 (by rfl) ?_
      simp (config := { maxSteps := 1000000 }) (disch := ((try simp only [awL]); omega)) only [nextC_more, nextC_over, bs_size, bs_extract, bs_toList, bs_append, byteAt_bs, bs_cells, nums_length, nums_getD, il, ↓awU, awV, awF, ofVal, ofVal0, isShift, aggK, forall_const, ↓reduceIte, ↓reduceDIte, ↓purePost, combine, idsA, cellsA, numsOf, srcA, calleeA, refsA, isScalar, scalarD, scalar0, AV.one, putL, unfA, implies_true, IntKind.signed, Nat.reduceAdd, Nat.reduceSub, Nat.reduceMul, Nat.reducePow, Nat.reduceDiv, Nat.reduceMod, Int.reduceAdd, Int.reduceSub, Int.reduceMul, Int.reducePow, Int.reduceNeg, Int.reduceToNat, Int.reduceLT, Int.reduceLE, Nat.reduceEqDiff, sidsB, Nat.reduceBEq, keyKD, isIntK, aggD, aggL, eqKs]
    · obtain rfl : v = true := hw rfl
      obtain ⟨m1, m2⟩ := hsl rfl
      clear hw
      simp (config := { maxSteps := 1000000 }) (disch := ((try simp only [awL]); omega)) only [nextC_more, nextC_over, bs_size, bs_extract, bs_toList, bs_append, byteAt_bs, bs_cells, nums_length, nums_getD, ↓awU, awV, awF, ofVal, ofVal0, isShift, aggK, forall_const, ↓reduceIte, ↓reduceDIte, ↓purePost, combine, idsA, cellsA, numsOf, srcA, calleeA, refsA, isScalar, scalarD, scalar0, AV.one, putL, unfA, implies_true, IntKind.signed, Nat.reduceAdd, Nat.reduceSub, Nat.reduceMul, Nat.reducePow, Nat.reduceDiv, Nat.reduceMod, Int.reduceAdd, Int.reduceSub, Int.reduceMul, Int.reducePow, Int.reduceNeg, Int.reduceToNat, Int.reduceLT, Int.reduceLE, Nat.reduceEqDiff, sidsB, Nat.reduceBEq, keyKD, isIntK, aggD, aggL, eqKs]
      refine CallC.of s1 (by rfl) ?_
      simp (config := { maxSteps := 1000000 }) (disch := ((try simp only [awL]); omega)) only [nextC_more, nextC_over, bs_size, bs_extract, bs_toList, bs_append, byteAt_bs, bs_cells, nums_length, nums_getD, ↓awU, awV, awF, ofVal, ofVal0, isShift, aggK, forall_const, ↓reduceIte, ↓reduceDIte, ↓purePost, combine, idsA, cellsA, numsOf, srcA, calleeA, refsA, isScalar, scalarD, scalar0, AV.one, putL, unfA, implies_true, IntKind.signed, Nat.reduceAdd, Nat.reduceSub, Nat.reduceMul, Nat.reducePow, Nat.reduceDiv, Nat.reduceMod, Int.reduceAdd, Int.reduceSub, Int.reduceMul, Int.reducePow, Int.reduceNeg, Int.reduceToNat, Int.reduceLT, Int.reduceLE, Nat.reduceEqDiff, sidsB, Nat.reduceBEq, keyKD, isIntK, aggD, aggL, eqKs]
      refine CallC.of s2 (by rfl) ?_
      simp (config := { maxSteps := 1000000 }) (disch := ((try simp only [awL]); omega)) only [nextC_more, nextC_over, bs_size, bs_extract, bs_toList, bs_append, byteAt_bs, bs_cells, nums_length, nums_getD, ↓awU, awV, awF, ofVal, ofVal0, isShift, aggK, forall_const, ↓reduceIte, ↓reduceDIte, ↓purePost, combine, idsA, cellsA, numsOf, srcA, calleeA, refsA, isScalar, scalarD, scalar0, AV.one, putL, unfA, implies_true, IntKind.signed, Nat.reduceAdd, Nat.reduceSub, Nat.reduceMul, Nat.reducePow, Nat.reduceDiv, Nat.reduceMod, Int.reduceAdd, Int.reduceSub, Int.reduceMul, Int.reducePow, Int.reduceNeg, Int.reduceToNat, Int.reduceLT, Int.reduceLE, Nat.reduceEqDiff, sidsB, Nat.reduceBEq, keyKD, isIntK, aggD, aggL, eqKs]
      refine CallC.of s3 (by rfl) ?_
      simp (config := { maxSteps := 1000000 }) (disch := ((try simp only [awL]); omega)) only [nextC_more, nextC_over, bs_size, bs_extract, bs_toList, bs_append, byteAt_bs, bs_cells, nums_length, nums_getD, mm_max, ↓awU, awV, awF, ofVal, ofVal0, isShift, aggK, forall_const, ↓reduceIte, ↓reduceDIte, ↓purePost, combine, idsA, cellsA, numsOf, srcA, calleeA, refsA, isScalar, scalarD, scalar0, AV.one, putL, unfA, implies_true, IntKind.signed, Nat.reduceAdd, Nat.reduceSub, Nat.reduceMul, Nat.reducePow, Nat.reduceDiv, Nat.reduceMod, Int.reduceAdd, Int.reduceSub, Int.reduceMul, Int.reducePow, Int.reduceNeg, Int.reduceToNat, Int.reduceLT, Int.reduceLE, Nat.reduceEqDiff, sidsB, Nat.reduceBEq, keyKD, isIntK, aggD, aggL, eqKs]
      refine ⟨by rfl, ?_⟩
      refine CallC.of s1 (by rfl) ?_
      simp (config := { maxSteps := 1000000 }) (disch := ((try simp only [awL]); omega)) only [nextC_more, nextC_over, bs_size, bs_extract, bs_toList, bs_append, byteAt_bs, bs_cells, nums_length, nums_getD, ↓awU, awV, awF, ofVal, ofVal0, isShift, aggK, forall_const, ↓reduceIte, ↓reduceDIte, ↓purePost, combine, idsA, cellsA, numsOf, srcA, calleeA, refsA, isScalar, scalarD, scalar0, AV.one, putL, unfA, implies_true, IntKind.signed, Nat.reduceAdd, Nat.reduceSub, Nat.reduceMul, Nat.reducePow, Nat.reduceDiv, Nat.reduceMod, Int.reduceAdd, Int.reduceSub, Int.reduceMul, Int.reducePow, Int.reduceNeg, Int.reduceToNat, Int.reduceLT, Int.reduceLE, Nat.reduceEqDiff, sidsB, Nat.reduceBEq, keyKD, isIntK, aggD, aggL, eqKs]
      refine CallC.of s4 (by rfl) ?_
      simp (config := { maxSteps := 1000000 }) (disch := ((try simp only [awL]); omega)) only [nextC_more, nextC_over, bs_size, bs_extract, bs_toList, bs_append, byteAt_bs, bs_cells, nums_length, nums_getD, ↓awU, awV, awF, ofVal, ofVal0, isShift, aggK, forall_const, ↓reduceIte, ↓reduceDIte, ↓purePost, combine, idsA, cellsA, numsOf, srcA, calleeA, refsA, isScalar, scalarD, scalar0, AV.one, putL, unfA, implies_true, IntKind.signed, Nat.reduceAdd, Nat.reduceSub, Nat.reduceMul, Nat.reducePow, Nat.reduceDiv, Nat.reduceMod, Int.reduceAdd, Int.reduceSub, Int.reduceMul, Int.reducePow, Int.reduceNeg, Int.reduceToNat, Int.reduceLT, Int.reduceLE, Nat.reduceEqDiff, sidsB, Nat.reduceBEq, keyKD, isIntK, aggD, aggL, eqKs]
      refine CallC.of q1 (by rfl) ?_
      simp (config := { maxSteps := 1000000 }) (disch := ((try simp only [awL]); omega)) only [nextC_more, nextC_over, bs_size, bs_extract, bs_toList, bs_append, byteAt_bs, bs_cells, nums_length, nums_getD, il, ↓awU, awV, awF, ofVal, ofVal0, isShift, aggK, forall_const, ↓reduceIte, ↓reduceDIte, ↓purePost, combine, idsA, cellsA, numsOf, srcA, calleeA, refsA, isScalar, scalarD, scalar0, AV.one, putL, unfA, implies_true, IntKind.signed, Nat.reduceAdd, Nat.reduceSub, Nat.reduceMul, Nat.reducePow, Nat.reduceDiv, Nat.reduceMod, Int.reduceAdd, Int.reduceSub, Int.reduceMul, Int.reducePow, Int.reduceNeg, Int.reduceToNat, Int.reduceLT, Int.reduceLE, Nat.reduceEqDiff, sidsB, Nat.reduceBEq, keyKD, isIntK, aggD, aggL, eqKs]
      refine CallC.of hln (by rfl) ?_
      simp (config := { maxSteps := 1000000 }) (disch := ((try simp only [awL]); omega)) only [nextC_more, nextC_over, bs_size, bs_extract, bs_toList, bs_append, byteAt_bs, bs_cells, nums_length, nums_getD, il, ↓awU, awV, awF, ofVal, ofVal0, isShift, aggK, forall_const, ↓reduceIte, ↓reduceDIte, ↓purePost, combine, idsA, cellsA, numsOf, srcA, calleeA, refsA, isScalar, scalarD, scalar0, AV.one, putL, unfA, implies_true, IntKind.signed, Nat.reduceAdd, Nat.reduceSub, Nat.reduceMul, Nat.reducePow, Nat.reduceDiv, Nat.reduceMod, Int.reduceAdd, Int.reduceSub, Int.reduceMul, Int.reducePow, Int.reduceNeg, Int.reduceToNat, Int.reduceLT, Int.reduceLE, Nat.reduceEqDiff, sidsB, Nat.reduceBEq, keyKD, isIntK, aggD, aggL, eqKs]
      refine ⟨by rfl, ?_⟩
      refine CallC.of q2 (by rfl) ?_
      simp (config := { maxSteps := 1000000 }) (disch := ((try simp only [awL]); omega)) only [nextC_more, nextC_over, bs_size, bs_extract, bs_toList, bs_append, byteAt_bs, bs_cells, nums_length, nums_getD, il, ↓awU, awV, awF, ofVal, ofVal0, isShift, aggK, forall_const, ↓reduceIte, ↓reduceDIte, ↓purePost, combine, idsA, cellsA, numsOf, srcA, calleeA, refsA, isScalar, scalarD, scalar0, AV.one, putL, unfA, implies_true, IntKind.signed, Nat.reduceAdd, Nat.reduceSub, Nat.reduceMul, Nat.reducePow, Nat.reduceDiv, Nat.reduceMod, Int.reduceAdd, Int.reduceSub, Int.reduceMul, Int.reducePow, Int.reduceNeg, Int.reduceToNat, Int.reduceLT, Int.reduceLE, Nat.reduceEqDiff, sidsB, Nat.reduceBEq, keyKD, isIntK, aggD, aggL, eqKs]
      refine CallC.of s1 (by rfl) ?_
      simp (config := { maxSteps := 1000000 }) (disch := ((try simp only [awL]); omega)) only [nextC_more, nextC_over, bs_size, bs_extract, bs_toList, bs_append, byteAt_bs, bs_cells, nums_length, nums_getD, il, ↓awU, awV, awF, ofVal, ofVal0, isShift, aggK, forall_const, ↓reduceIte, ↓reduceDIte, ↓purePost, combine, idsA, cellsA, numsOf, srcA, calleeA, refsA, isScalar, scalarD, scalar0, AV.one, putL, unfA, implies_true, IntKind.signed, Nat.reduceAdd, Nat.reduceSub, Nat.reduceMul, Nat.reducePow, Nat.reduceDiv, Nat.reduceMod, Int.reduceAdd, Int.reduceSub, Int.reduceMul, Int.reducePow, Int.reduceNeg, Int.reduceToNat, Int.reduceLT, Int.reduceLE, Nat.reduceEqDiff, sidsB, Nat.reduceBEq, keyKD, isIntK, aggD, aggL, eqKs]
  · simp only [RuV.D] at hr hok
    refine CallC.by hr (by rfl) (by rfl) (Nat.le_refl _) ?_
    simp (config := { maxSteps := 1000000 }) (disch := ((try simp only [awL]); omega)) only [nextC_more, nextC_over, bs_size, bs_extract, bs_toList, bs_append, byteAt_bs, bs_cells, nums_length, nums_getD, ↓awU, awV, awF, ofVal, ofVal0, isShift, aggK, forall_const, ↓reduceIte, ↓reduceDIte, ↓purePost, combine, idsA, cellsA, numsOf, srcA, calleeA, refsA, isScalar, scalarD, scalar0, AV.one, putL, unfA, implies_true, IntKind.signed, Nat.reduceAdd, Nat.reduceSub, Nat.reduceMul, Nat.reducePow, Nat.reduceDiv, Nat.reduceMod, Int.reduceAdd, Int.reduceSub, Int.reduceMul, Int.reducePow, Int.reduceNeg, Int.reduceToNat, Int.reduceLT, Int.reduceLE, Nat.reduceEqDiff, sidsB, Nat.reduceBEq, keyKD, isIntK, aggD, aggL, eqKs]
    refine CallC.by (word_spec s k hmm) (by rfl) (by rfl) (Nat.le_refl _) ?_
    obtain ⟨ga, la⟩ := wordR_ok s k
    generalize wordR s k = a at *
    generalize wordK s k = k at *
    simp (config := { maxSteps := 1000000 }) (disch := ((try simp only [awL]); omega)) only [nextC_more, nextC_over, bs_size, bs_extract, bs_toList, bs_append, byteAt_bs, bs_cells, nums_length, nums_getD, ↓awU, awV, awF, ofVal, ofVal0, isShift, aggK, forall_const, ↓reduceIte, ↓reduceDIte, ↓purePost, combine, idsA, cellsA, numsOf, srcA, calleeA, refsA, isScalar, scalarD, scalar0, AV.one, putL, unfA, implies_true, IntKind.signed, Nat.reduceAdd, Nat.reduceSub, Nat.reduceMul, Nat.reducePow, Nat.reduceDiv, Nat.reduceMod, Int.reduceAdd, Int.reduceSub, Int.reduceMul, Int.reducePow, Int.reduceNeg, Int.reduceToNat, Int.reduceLT, Int.reduceLE, Nat.reduceEqDiff, sidsB, Nat.reduceBEq, keyKD, isIntK, aggD, aggL, eqKs]
    refine CallC.by (word_spec s k hmm) (by rfl) (by rfl) (Nat.le_refl _) ?_
    obtain ⟨gb, lb⟩ := wordR_ok s k
    generalize wordR s k = b at *
    generalize wordK s k = k at *
    have pa := pts_len a
    have pb := pts_len b
    have s1 := similar_spec (G := G) 3 0 y d a b (by omega) (by omega)
    have s2 := similar_spec (G := G) 3 0 y d b a (by omega) (by omega)
    have s3 := similar_spec (G := G) 3 0 y d a a (by omega) (by omega)
    have s4 := similar_spec (G := G) 3 0 (max 1 (y - 1)) d a b (by omega) (by omega)
    have hln := lengths_spec (G := G) 3 0 y d (pts a).length (by omega) (by omega)
    rw [← simR_symm] at s2
    rw [simR_self hok] at s3
    have hw : simR 3 0 y d a b = true → simR 3 0 (max 1 (y - 1)) d a b = true := sim_weak3 y0 y1 y2 (by omega) (by omega)
    unfold lenR at hln
    rw [if_neg (by rintro ⟨_, h, _⟩; exact h rfl)] at hln
    have q1 := rpoints_spec (G := G) a (by omega)
    have q2 := rpoints_spec (G := G) b (by omega)
    have il : ∀ l : List Int, (ints .i32 l).length = l.length := fun l => by simp [ints]
    generalize simR 3 0 y d a b = u at *
    generalize simR 3 0 (max 1 (y - 1)) d a b = v at *
    cases u
    · clear hw s4
      simp (config := { maxSteps := 1000000 }) (disch := ((try simp only [awL]); omega)) only [nextC_more, nextC_over, bs_size, bs_extract, bs_toList, bs_append, byteAt_bs, bs_cells, nums_length, nums_getD, ↓awU, awV, awF, ofVal, ofVal0, isShift, aggK, forall_const, ↓reduceIte, ↓reduceDIte, ↓purePost, combine, idsA, cellsA, numsOf, srcA, calleeA, refsA, isScalar, scalarD, scalar0, AV.one, putL, unfA, implies_true, IntKind.signed, Nat.reduceAdd, Nat.reduceSub, Nat.reduceMul, Nat.reducePow, Nat.reduceDiv, Nat.reduceMod, Int.reduceAdd, Int.reduceSub, Int.reduceMul, Int.reducePow, Int.reduceNeg, Int.reduceToNat, Int.reduceLT, Int.reduceLE, Nat.reduceEqDiff, sidsB, Nat.reduceBEq, keyKD, isIntK, aggD, aggL, eqKs]
      refine CallC.of s1 (by rfl) ?_
      simp (config := { maxSteps := 1000000 }) (disch := ((try simp only [awL]); omega)) only [nextC_more, nextC_over, bs_size, bs_extract, bs_toList, bs_append, byteAt_bs, bs_cells, nums_length, nums_getD, ↓awU, awV, awF, ofVal, ofVal0, isShift, aggK, forall_const, ↓reduceIte, ↓reduceDIte, ↓purePost, combine, idsA, cellsA, numsOf, srcA, calleeA, refsA, isScalar, scalarD, scalar0, AV.one, putL, unfA, implies_true, IntKind.signed, Nat.reduceAdd, Nat.reduceSub, Nat.reduceMul, Nat.reducePow, Nat.reduceDiv, Nat.reduceMod, Int.reduceAdd, Int.reduceSub, Int.reduceMul, Int.reducePow, Int.reduceNeg, Int.reduceToNat, Int.reduceLT, Int.reduceLE, Nat.reduceEqDiff, sidsB, Nat.reduceBEq, keyKD, isIntK, aggD, aggL, eqKs]
      refine CallC.of s2 (by rfl) ?_
      simp (config := { maxSteps := 1000000 }) (disch := ((try simp only [awL]); omega)) only [nextC_more, nextC_over, bs_size, bs_extract, bs_toList, bs_append, byteAt_bs, bs_cells, nums_length, nums_getD, ↓awU, awV, awF, ofVal, ofVal0, isShift, aggK, forall_const, ↓reduceIte, ↓reduceDIte, ↓purePost, combine, idsA, cellsA, numsOf, srcA, calleeA, refsA, isScalar, scalarD, scalar0, AV.one, putL, unfA, implies_true, IntKind.signed, Nat.reduceAdd, Nat.reduceSub, Nat.reduceMul, Nat.reducePow, Nat.reduceDiv, Nat.reduceMod, Int.reduceAdd, Int.reduceSub, Int.reduceMul, Int.reducePow, Int.reduceNeg, Int.reduceToNat, Int.reduceLT, Int.reduceLE, Nat.reduceEqDiff, sidsB, Nat.reduceBEq, keyKD, isIntK, aggD, aggL, eqKs]
      refine CallC.of s3 (by rfl) ?_
      simp (config := { maxSteps := 1000000 }) (disch := ((try simp only [awL]); omega)) only [nextC_more, nextC_over, bs_size, bs_extract, bs_toList, bs_append, byteAt_bs, bs_cells, nums_length, nums_getD, mm_max, ↓awU, awV, awF, ofVal, ofVal0, isShift, aggK, forall_const, ↓reduceIte, ↓reduceDIte, ↓purePost, combine, idsA, cellsA, numsOf, srcA, calleeA, refsA, isScalar, scalarD, scalar0, AV.one, putL, unfA, implies_true, IntKind.signed, Nat.reduceAdd, Nat.reduceSub, Nat.reduceMul, Nat.reducePow, Nat.reduceDiv, Nat.reduceMod, Int.reduceAdd, Int.reduceSub, Int.reduceMul, Int.reducePow, Int.reduceNeg, Int.reduceToNat, Int.reduceLT, Int.reduceLE, Nat.reduceEqDiff, sidsB, Nat.reduceBEq, keyKD, isIntK, aggD, aggL, eqKs]
      refine ⟨by rfl, ?_⟩
      refine CallC.of s1 (by rfl) ?_
      simp (config := { maxSteps := 1000000 }) (disch := ((try simp only [awL]); omega)) only [nextC_more, nextC_over, bs_size, bs_extract, bs_toList, bs_append, byteAt_bs, bs_cells, nums_length, nums_getD, ↓awU, awV, awF, ofVal, ofVal0, isShift, aggK, forall_const, ↓reduceIte, ↓reduceDIte, ↓purePost, combine, idsA, cellsA, numsOf, srcA, calleeA, refsA, isScalar, scalarD, scalar0, AV.one, putL, unfA, implies_true, IntKind.signed, Nat.reduceAdd, Nat.reduceSub, Nat.reduceMul, Nat.reducePow, Nat.reduceDiv, Nat.reduceMod, Int.reduceAdd, Int.reduceSub, Int.reduceMul, Int.reducePow, Int.reduceNeg, Int.reduceToNat, Int.reduceLT, Int.reduceLE, Nat.reduceEqDiff, sidsB, Nat.reduceBEq, keyKD, isIntK, aggD, aggL, eqKs]
      refine CallC.of q1 (by rfl) ?_
      simp (config := { maxSteps := 1000000 }) (disch := ((try simp only [awL]); omega)) only [nextC_more, nextC_over, bs_size, bs_extract, bs_toList, bs_append, byteAt_bs, bs_cells, nums_length, nums_getD, il, ↓awU, awV, awF, ofVal, ofVal0, isShift, aggK, forall_const, ↓reduceIte, ↓reduceDIte, ↓purePost, combine, idsA, cellsA, numsOf, srcA, calleeA, refsA, isScalar, scalarD, scalar0, AV.one, putL, unfA, implies_true, IntKind.signed, Nat.reduceAdd, Nat.reduceSub, Nat.reduceMul, Nat.reducePow, Nat.reduceDiv, Nat.reduceMod, Int.reduceAdd, Int.reduceSub, Int.reduceMul, Int.reducePow, Int.reduceNeg, Int.reduceToNat, Int.reduceLT, Int.reduceLE, Nat.reduceEqDiff, sidsB, Nat.reduceBEq, keyKD, isIntK, aggD, aggL, eqKs]
      refine CallC.of hln (by rfl) ?_
      simp (config := { maxSteps := 1000000 }) (disch := ((try simp only [awL]); omega)) only [nextC_more, nextC_over, bs_size, bs_extract, bs_toList, bs_append, byteAt_bs, bs_cells, nums_length, nums_getD, il, ↓awU, awV, awF, ofVal, ofVal0, isShift, aggK, forall_const, ↓reduceIte, ↓reduceDIte, ↓purePost, combine, idsA, cellsA, numsOf, srcA, calleeA, refsA, isScalar, scalarD, scalar0, AV.one, putL, unfA, implies_true, IntKind.signed, Nat.reduceAdd, Nat.reduceSub, Nat.reduceMul, Nat.reducePow, Nat.reduceDiv, Nat.reduceMod, Int.reduceAdd, Int.reduceSub, Int.reduceMul, Int.reducePow, Int.reduceNeg, Int.reduceToNat, Int.reduceLT, Int.reduceLE, Nat.reduceEqDiff, sidsB, Nat.reduceBEq, keyKD, isIntK, aggD, aggL, eqKs]
      refine ⟨by rfl, ?_⟩
      refine CallC.of q2 (by rfl) ?_
      simp (config := { maxSteps := 1000000 }) (disch := ((try simp only [awL]); omega)) only [nextC_more, nextC_over, bs_size, bs_extract, bs_toList, bs_append, byteAt_bs, bs_cells, nums_length, nums_getD, il, ↓awU, awV, awF, ofVal, ofVal0, isShift, aggK, forall_const, ↓reduceIte, ↓reduceDIte, ↓purePost, combine, idsA, cellsA, numsOf, srcA, calleeA, refsA, isScalar, scalarD, scalar0, AV.one, putL, unfA, implies_true, IntKind.signed, Nat.reduceAdd, Nat.reduceSub, Nat.reduceMul, Nat.reducePow, Nat.reduceDiv, Nat.reduceMod, Int.reduceAdd, Int.reduceSub, Int.reduceMul, Int.reducePow, Int.reduceNeg, Int.reduceToNat, Int.reduceLT, Int.reduceLE, Nat.reduceEqDiff, sidsB, Nat.reduceBEq, keyKD, isIntK, aggD, aggL, eqKs]
    · obtain rfl : v = true := hw rfl
      clear hw
      simp (config := { maxSteps := 1000000 }) (disch := ((try simp only [awL]); omega)) only [nextC_more, nextC_over, bs_size, bs_extract, bs_toList, bs_append, byteAt_bs, bs_cells, nums_length, nums_getD, ↓awU, awV, awF, ofVal, ofVal0, isShift, aggK, forall_const, ↓reduceIte, ↓reduceDIte, ↓purePost, combine, idsA, cellsA, numsOf, srcA, calleeA, refsA, isScalar, scalarD, scalar0, AV.one, putL, unfA, implies_true, IntKind.signed, Nat.reduceAdd, Nat.reduceSub, Nat.reduceMul, Nat.reducePow, Nat.reduceDiv, Nat.reduceMod, Int.reduceAdd, Int.reduceSub, Int.reduceMul, Int.reducePow, Int.reduceNeg, Int.reduceToNat, Int.reduceLT, Int.reduceLE, Nat.reduceEqDiff, sidsB, Nat.reduceBEq, keyKD, isIntK, aggD, aggL, eqKs]
      refine CallC.of s1 (by rfl) ?_
      simp (config := { maxSteps := 1000000 }) (disch := ((try simp only [awL]); omega)) only [nextC_more, nextC_over, bs_size, bs_extract, bs_toList, bs_append, byteAt_bs, bs_cells, nums_length, nums_getD, ↓awU, awV, awF, ofVal, ofVal0, isShift, aggK, forall_const, ↓reduceIte, ↓reduceDIte, ↓purePost, combine, idsA, cellsA, numsOf, srcA, calleeA, refsA, isScalar, scalarD, scalar0, AV.one, putL, unfA, implies_true, IntKind.signed, Nat.reduceAdd, Nat.reduceSub, Nat.reduceMul, Nat.reducePow, Nat.reduceDiv, Nat.reduceMod, Int.reduceAdd, Int.reduceSub, Int.reduceMul, Int.reducePow, Int.reduceNeg, Int.reduceToNat, Int.reduceLT, Int.reduceLE, Nat.reduceEqDiff, sidsB, Nat.reduceBEq, keyKD, isIntK, aggD, aggL, eqKs]
      refine CallC.of s2 (by rfl) ?_
      simp (config := { maxSteps := 1000000 }) (disch := ((try simp only [awL]); omega)) only [nextC_more, nextC_over, bs_size, bs_extract, bs_toList, bs_append, byteAt_bs, bs_cells, nums_length, nums_getD, ↓awU, awV, awF, ofVal, ofVal0, isShift, aggK, forall_const, ↓reduceIte, ↓reduceDIte, ↓purePost, combine, idsA, cellsA, numsOf, srcA, calleeA, refsA, isScalar, scalarD, scalar0, AV.one, putL, unfA, implies_true, IntKind.signed, Nat.reduceAdd, Nat.reduceSub, Nat.reduceMul, Nat.reducePow, Nat.reduceDiv, Nat.reduceMod, Int.reduceAdd, Int.reduceSub, Int.reduceMul, Int.reducePow, Int.reduceNeg, Int.reduceToNat, Int.reduceLT, Int.reduceLE, Nat.reduceEqDiff, sidsB, Nat.reduceBEq, keyKD, isIntK, aggD, aggL, eqKs]
      refine CallC.of s3 (by rfl) ?_
      simp (config := { maxSteps := 1000000 }) (disch := ((try simp only [awL]); omega)) only [nextC_more, nextC_over, bs_size, bs_extract, bs_toList, bs_append, byteAt_bs, bs_cells, nums_length, nums_getD, mm_max, ↓awU, awV, awF, ofVal, ofVal0, isShift, aggK, forall_const, ↓reduceIte, ↓reduceDIte, ↓purePost, combine, idsA, cellsA, numsOf, srcA, calleeA, refsA, isScalar, scalarD, scalar0, AV.one, putL, unfA, implies_true, IntKind.signed, Nat.reduceAdd, Nat.reduceSub, Nat.reduceMul, Nat.reducePow, Nat.reduceDiv, Nat.reduceMod, Int.reduceAdd, Int.reduceSub, Int.reduceMul, Int.reducePow, Int.reduceNeg, Int.reduceToNat, Int.reduceLT, Int.reduceLE, Nat.reduceEqDiff, sidsB, Nat.reduceBEq, keyKD, isIntK, aggD, aggL, eqKs]
      refine ⟨by rfl, ?_⟩
      refine CallC.of s1 (by rfl) ?_
      simp (config := { maxSteps := 1000000 }) (disch := ((try simp only [awL]); omega)) only [nextC_more, nextC_over, bs_size, bs_extract, bs_toList, bs_append, byteAt_bs, bs_cells, nums_length, nums_getD, ↓awU, awV, awF, ofVal, ofVal0, isShift, aggK, forall_const, ↓reduceIte, ↓reduceDIte, ↓purePost, combine, idsA, cellsA, numsOf, srcA, calleeA, refsA, isScalar, scalarD, scalar0, AV.one, putL, unfA, implies_true, IntKind.signed, Nat.reduceAdd, Nat.reduceSub, Nat.reduceMul, Nat.reducePow, Nat.reduceDiv, Nat.reduceMod, Int.reduceAdd, Int.reduceSub, Int.reduceMul, Int.reducePow, Int.reduceNeg, Int.reduceToNat, Int.reduceLT, Int.reduceLE, Nat.reduceEqDiff, sidsB, Nat.reduceBEq, keyKD, isIntK, aggD, aggL, eqKs]
      refine CallC.of s4 (by rfl) ?_
      simp (config := { maxSteps := 1000000 }) (disch := ((try simp only [awL]); omega)) only [nextC_more, nextC_over, bs_size, bs_extract, bs_toList, bs_append, byteAt_bs, bs_cells, nums_length, nums_getD, ↓awU, awV, awF, ofVal, ofVal0, isShift, aggK, forall_const, ↓reduceIte, ↓reduceDIte, ↓purePost, combine, idsA, cellsA, numsOf, srcA, calleeA, refsA, isScalar, scalarD, scalar0, AV.one, putL, unfA, implies_true, IntKind.signed, Nat.reduceAdd, Nat.reduceSub, Nat.reduceMul, Nat.reducePow, Nat.reduceDiv, Nat.reduceMod, Int.reduceAdd, Int.reduceSub, Int.reduceMul, Int.reducePow, Int.reduceNeg, Int.reduceToNat, Int.reduceLT, Int.reduceLE, Nat.reduceEqDiff, sidsB, Nat.reduceBEq, keyKD, isIntK, aggD, aggL, eqKs]
      refine CallC.of q1 (by rfl) ?_
      simp (config := { maxSteps := 1000000 }) (disch := ((try simp only [awL]); omega)) only [nextC_more, nextC_over, bs_size, bs_extract, bs_toList, bs_append, byteAt_bs, bs_cells, nums_length, nums_getD, il, ↓awU, awV, awF, ofVal, ofVal0, isShift, aggK, forall_const, ↓reduceIte, ↓reduceDIte, ↓purePost, combine, idsA, cellsA, numsOf, srcA, calleeA, refsA, isScalar, scalarD, scalar0, AV.one, putL, unfA, implies_true, IntKind.signed, Nat.reduceAdd, Nat.reduceSub, Nat.reduceMul, Nat.reducePow, Nat.reduceDiv, Nat.reduceMod, Int.reduceAdd, Int.reduceSub, Int.reduceMul, Int.reducePow, Int.reduceNeg, Int.reduceToNat, Int.reduceLT, Int.reduceLE, Nat.reduceEqDiff, sidsB, Nat.reduceBEq, keyKD, isIntK, aggD, aggL, eqKs]
      refine CallC.of hln (by rfl) ?_
      simp (config := { maxSteps := 1000000 }) (disch := ((try simp only [awL]); omega)) only [nextC_more, nextC_over, bs_size, bs_extract, bs_toList, bs_append, byteAt_bs, bs_cells, nums_length, nums_getD, il, ↓awU, awV, awF, ofVal, ofVal0, isShift, aggK, forall_const, ↓reduceIte, ↓reduceDIte, ↓purePost, combine, idsA, cellsA, numsOf, srcA, calleeA, refsA, isScalar, scalarD, scalar0, AV.one, putL, unfA, implies_true, IntKind.signed, Nat.reduceAdd, Nat.reduceSub, Nat.reduceMul, Nat.reducePow, Nat.reduceDiv, Nat.reduceMod, Int.reduceAdd, Int.reduceSub, Int.reduceMul, Int.reducePow, Int.reduceNeg, Int.reduceToNat, Int.reduceLT, Int.reduceLE, Nat.reduceEqDiff, sidsB, Nat.reduceBEq, keyKD, isIntK, aggD, aggL, eqKs]
      refine ⟨by rfl, ?_⟩
      refine CallC.of q2 (by rfl) ?_
      simp (config := { maxSteps := 1000000 }) (disch := ((try simp only [awL]); omega)) only [nextC_more, nextC_over, bs_size, bs_extract, bs_toList, bs_append, byteAt_bs, bs_cells, nums_length, nums_getD, il, ↓awU, awV, awF, ofVal, ofVal0, isShift, aggK, forall_const, ↓reduceIte, ↓reduceDIte, ↓purePost, combine, idsA, cellsA, numsOf, srcA, calleeA, refsA, isScalar, scalarD, scalar0, AV.one, putL, unfA, implies_true, IntKind.signed, Nat.reduceAdd, Nat.reduceSub, Nat.reduceMul, Nat.reducePow, Nat.reduceDiv, Nat.reduceMod, Int.reduceAdd, Int.reduceSub, Int.reduceMul, Int.reducePow, Int.reduceNeg, Int.reduceToNat, Int.reduceLT, Int.reduceLE, Nat.reduceEqDiff, sidsB, Nat.reduceBEq, keyKD, isIntK, aggD, aggL, eqKs]
end Go.Proofs.Ytpnhbjabnnibcaa

namespace Go.Proofs.Ytpnhbjabnnibcaa
open Go Go.Proofs Go.Abs
variable {G : Globals}
/-! DistanceWords: the contract. -/
theorem tokL_sep {c : UInt8} (h : sepB c = true) (h2 : foldB c = c) (x y : List UInt8) : tokL (x ++ c :: y) = tokL x ++ tokL y := by
  unfold tokL
  rw [List.map_append, List.map_cons, h2, tokG_sep h]
theorem tokL_nil : tokL [] = [] := rfl
def aL (l : List (List UInt8)) : List UInt8 := l.flatMap fun s => s ++ [32]
def bL (l : List (List UInt8)) : List UInt8 := l.flatMap fun s => 45 :: (s ++ [59, 32])
theorem aL_push (l : List (List UInt8)) (s : List UInt8) : aL (l ++ [s]) = aL l ++ (s ++ [32]) := by simp [aL]
theorem bL_push (l : List (List UInt8)) (s : List UInt8) : bL (l ++ [s]) = bL l ++ (45 :: (s ++ [59, 32])) := by simp [bL]
theorem tokL_aL : ∀ l : List (List UInt8), tokL (aL l) = l.flatMap tokL
  | [] => rfl
  | s :: l => by
    have e : aL (s :: l) = s ++ 32 :: aL l := by simp [aL]
    rw [e, tokL_sep rfl rfl, tokL_aL l]; rfl
theorem tokL_bL : ∀ (l : List (List UInt8)) (x : List UInt8), tokL (bL l ++ x) = l.flatMap tokL ++ tokL x
  | [], x => rfl
  | s :: l, x => by
    have e : bL (s :: l) ++ x = [] ++ 45 :: (s ++ 59 :: ([] ++ 32 :: (bL l ++ x))) := by simp [bL]
    rw [e, tokL_sep rfl rfl, tokL_sep rfl rfl, tokL_sep rfl rfl, tokL_nil, tokL_bL l x]
    simp
def upB (c : UInt8) : UInt8 := if 97 ≤ c.toNat ∧ c.toNat ≤ 122 then c - 32 else c
theorem upB_nat (c : UInt8) : (upB c).toNat = if 97 ≤ c.toNat ∧ c.toNat ≤ 122 then c.toNat - 32 else c.toNat := by
  unfold upB
  split
  · rw [UInt8.toNat_sub_of_le]
    · rfl
    · rw [UInt8.le_iff_toNat_le]; show 32 ≤ c.toNat; omega
  · rfl
theorem fold_up (c : UInt8) : foldB (upB c) = foldB c := by
  apply UInt8.toNat_inj.1
  rw [foldB_nat, foldB_nat, upB_nat]
  split <;> split <;> first | omega | (split <;> omega)
theorem tokL_up (x : List UInt8) : tokL (x.map upB) = tokL x := by
  unfold tokL
  rw [List.map_map]
  congr 1
  exact List.map_congr_left fun c _ => fold_up c
theorem words_tok : ∀ w ∈ wordsL, tokL w ≠ [] := by decide
/-- The two texts have the same tokens. -/
theorem ab_tok (l : List (List UInt8)) (x : List UInt8) (hx : ∀ t ∈ tokL x, t ∈ l.flatMap tokL) : tokS (aL l) = tokS (bL l.reverse ++ x) := by
  refine setL_ext fun t => ?_
  rw [tokL_aL, tokL_bL, List.mem_append]
  have hr : t ∈ l.reverse.flatMap tokL ↔ t ∈ l.flatMap tokL := by simp
  rw [hr]
  exact ⟨.inl, fun h => h.elim id (hx t)⟩
theorem tok_pos {l : List (List UInt8)} (h : ∀ s ∈ l, s ∈ wordsL) (h0 : l ≠ []) : 0 < (tokS (aL l)).length := by
  match l, h0 with
  | s :: l, _ =>
    have hs := words_tok s (h s (by simp))
    obtain ⟨t, ht⟩ := List.exists_mem_of_ne_nil _ hs
    have : t ∈ tokS (aL (s :: l)) := by
      rw [mem_setL, tokL_aL]
      simp [ht]
    exact List.length_pos_of_mem this
theorem words_sim {a b : List UInt8} (he : tokS a = tokS b) (h0 : 0 < (tokS a).length) : simR 3 0 1 1 a b = true := by
  unfold simR
  rw [← he, (uniB_self a).1, (uniB_self a).2, show okR 3 0 1 1 = true by decide, Bool.true_and, if_neg (by decide), if_pos ⟨rfl, by omega⟩]
  exact decide_eq_true (Int.le_refl _)
def upMid (l : List UInt8) (i : Nat) : List UInt8 := (l.take i).map upB ++ l.drop i
theorem upMid_length {l : List UInt8} {i : Nat} (h : i ≤ l.length) : (upMid l i).length = l.length := by simp [upMid]; omega
theorem upMid_get {l : List UInt8} {i : Nat} (h : i < l.length) : (upMid l i).getD i 0 = l.getD i 0 := by
  have hl : ((l.take i).map upB).length = i := by rw [List.length_map, List.length_take]; omega
  rw [upMid, List.getD_eq_getElem?_getD, List.getElem?_append_right (by omega), hl, Nat.sub_self, List.getElem?_drop, Nat.add_zero, ← List.getD_eq_getElem?_getD]
theorem upMid_set {l : List UInt8} {i : Nat} (h : i < l.length) : (upMid l i).set i (upB (l.getD i 0)) = upMid l (i + 1) := by
  have hl : ((l.take i).map upB).length = i := by rw [List.length_map, List.length_take]; omega
  rw [upMid, upMid, List.set_append, if_neg (by omega), hl, Nat.sub_self, List.drop_eq_getElem_cons h, List.set_cons_zero, List.take_add_one, List.getElem?_eq_getElem h, List.getD_eq_getElem?_getD, List.getElem?_eq_getElem h]
  simp only [Option.toList_some, Option.getD_some, List.map_append, List.map_cons, List.map_nil, List.append_assoc, List.cons_append, List.nil_append]
theorem upMid_same {l : List UInt8} {i : Nat} (h : i < l.length) (hc : upB (l.getD i 0) = l.getD i 0) : upMid l (i + 1) = upMid l i := by
  rw [← upMid_set h, hc]
  have hg := upMid_get h
  have hl := upMid_length (l := l) (i := i) (by omega)
  rw [List.getD_eq_getElem?_getD, List.getElem?_eq_getElem (by omega)] at hg
  simp only [Option.getD_some] at hg
  rw [← hg, List.set_getElem_self]
theorem aL_length {l : List (List UInt8)} (h : ∀ s ∈ l, s ∈ wordsL) : (aL l).length ≤ 9 * l.length ∧ (bL l).length ≤ 11 * l.length := by
  induction l with
  | nil => simp [aL, bL]
  | cons s l ih =>
    have h1 := (words_gd s (h s (by simp))).2
    have h2 := ih (fun t ht => h t (by simp [ht]))
    have e1 : aL (s :: l) = s ++ 32 :: aL l := by simp [aL]
    have e2 : bL (s :: l) = 45 :: (s ++ 59 :: 32 :: bL l) := by simp [bL]
    rw [e1, e2]
    simp only [List.length_append, List.length_cons]
    omega
theorem take_rev {l : List (List UInt8)} {i : Nat} (h : i < l.length) : l.reverse.take (i + 1) = l.reverse.take i ++ [l.getD (l.length - 1 - i) []] := by
  rw [List.take_add_one, List.getElem?_eq_getElem (by simpa using h), List.getElem_reverse, List.getD_eq_getElem?_getD, List.getElem?_eq_getElem (by omega)]
  rfl
theorem take_one {l : List (List UInt8)} {i : Nat} (h : i < l.length) : l.take (i + 1) = l.take i ++ [l.getD i []] := by
  rw [List.take_add_one, List.getElem?_eq_getElem h, List.getD_eq_getElem?_getD, List.getElem?_eq_getElem h]; rfl
set_option maxHeartbeats 4000000 in
set_option maxRecDepth 100000 in
theorem words_law (t : List Int) (ht : OkS t) (hl : t.length ≤ 9223372036854775807) :
    Ctr Try.prog G 5 [.d (.sl t.length false (ints .u8 t))] [] (.d (.bool true)) [] := by
  refine Ctr.pure (M := M0) hmix Try.func5 rfl go5 ?_
  have hmm := ht.take
  simp (config := { maxSteps := 1000000 }) (disch := ((try simp only [awL]); omega)) only [nextC_more, nextC_over, bs_size, bs_extract, bs_toList, bs_append, byteAt_bs, bs_cells, nums_length, nums_getD, Try.f5, ↓awU, awV, awF, ofVal, ofVal0, isShift, aggK, forall_const, ↓reduceIte, ↓reduceDIte, ↓purePost, combine, idsA, cellsA, numsOf, srcA, calleeA, refsA, isScalar, scalarD, scalar0, AV.one, putL, unfA, implies_true, IntKind.signed, Nat.reduceAdd, Nat.reduceSub, Nat.reduceMul, Nat.reducePow, Nat.reduceDiv, Nat.reduceMod, Int.reduceAdd, Int.reduceSub, Int.reduceMul, Int.reducePow, Int.reduceNeg, Int.reduceToNat, Int.reduceLT, Int.reduceLE, Nat.reduceEqDiff, sidsB, Nat.reduceBEq, keyKD, isIntK, aggD, aggL, eqKs]
  refine CallC.pure sane_spec ?_
  simp (config := { maxSteps := 1000000 }) (disch := ((try simp only [awL]); omega)) only [nextC_more, nextC_over, bs_size, bs_extract, bs_toList, bs_append, byteAt_bs, bs_cells, nums_length, nums_getD, ↓awU, awV, awF, ofVal, ofVal0, isShift, aggK, forall_const, ↓reduceIte, ↓reduceDIte, ↓purePost, combine, idsA, cellsA, numsOf, srcA, calleeA, refsA, isScalar, scalarD, scalar0, AV.one, putL, unfA, implies_true, IntKind.signed, Nat.reduceAdd, Nat.reduceSub, Nat.reduceMul, Nat.reducePow, Nat.reduceDiv, Nat.reduceMod, Int.reduceAdd, Int.reduceSub, Int.reduceMul, Int.reducePow, Int.reduceNeg, Int.reduceToNat, Int.reduceLT, Int.reduceLE, Nat.reduceEqDiff, sidsB, Nat.reduceBEq, keyKD, isIntK, aggD, aggL, eqKs]
  refine CallC.by (new_spec t hl) (by rfl) (by rfl) (Nat.zero_le _) ?_
  generalize t.take 300 = s at *
  simp (config := { maxSteps := 1000000 }) (disch := ((try simp only [awL]); omega)) only [nextC_more, nextC_over, bs_size, bs_extract, bs_toList, bs_append, byteAt_bs, bs_cells, nums_length, nums_getD, ↓awU, awV, awF, ofVal, ofVal0, isShift, aggK, forall_const, ↓reduceIte, ↓reduceDIte, ↓purePost, combine, idsA, cellsA, numsOf, srcA, calleeA, refsA, isScalar, scalarD, scalar0, AV.one, putL, unfA, implies_true, IntKind.signed, Nat.reduceAdd, Nat.reduceSub, Nat.reduceMul, Nat.reducePow, Nat.reduceDiv, Nat.reduceMod, Int.reduceAdd, Int.reduceSub, Int.reduceMul, Int.reducePow, Int.reduceNeg, Int.reduceToNat, Int.reduceLT, Int.reduceLE, Nat.reduceEqDiff, sidsB, Nat.reduceBEq, keyKD, isIntK, aggD, aggL, eqKs]
  refine CallC.by (texts_spec s 0 4 hmm (by decide) (by decide)) (by rfl) (by rfl) (Nat.le_refl _) ?_
  have hw : ∀ x ∈ textsM s (0 + 1) (pk s 0 (4 + 1)).toNat, x ∈ wordsL := by
    intro x hx
    simp only [textsM, List.mem_map] at hx
    obtain ⟨i, _, rfl⟩ := hx
    exact wordM_mem s _
  have hn := @pk_range s 0 (4 + 1) (by decide)
  have hlen : (textsM s (0 + 1) (pk s 0 (4 + 1)).toNat).length ≤ 4 := by rw [textsM_length]; omega
  generalize textsM s (0 + 1) (pk s 0 (4 + 1)).toNat = l at *
  generalize 0 + 1 + (pk s 0 (4 + 1)).toNat = k at *
  clear hn
  have sl := @strs_length l
  simp (config := { maxSteps := 1000000 }) (disch := ((try simp only [awL]); omega)) only [nextC_more, nextC_over, bs_size, bs_extract, bs_toList, bs_append, byteAt_bs, bs_cells, nums_length, nums_getD, sl, ↓awU, awV, awF, ofVal, ofVal0, isShift, aggK, forall_const, ↓reduceIte, ↓reduceDIte, ↓purePost, combine, idsA, cellsA, numsOf, srcA, calleeA, refsA, isScalar, scalarD, scalar0, AV.one, putL, unfA, implies_true, IntKind.signed, Nat.reduceAdd, Nat.reduceSub, Nat.reduceMul, Nat.reducePow, Nat.reduceDiv, Nat.reduceMod, Int.reduceAdd, Int.reduceSub, Int.reduceMul, Int.reducePow, Int.reduceNeg, Int.reduceToNat, Int.reduceLT, Int.reduceLE, Nat.reduceEqDiff, sidsB, Nat.reduceBEq, keyKD, isIntK, aggD, aggL, eqKs]
  refine LoopC.fr 4194328 (α := Nat) (fun i => l.length - i) (fun i => [(5, .d (S (aL (l.take i)))), (6, .d (S (bL (l.reverse.take i)))), (23, .d (.int .i64 i))]) (fun _ => [DiceM s k]) (fun i => i ≤ l.length) 0 (Nat.zero_le _) ?_ ?_
  · exact ⟨[some 0], rfl, by simp, by simp [setsA, keepA, SWeak, AWeak, aL, bL], by simp [HWeak, BWeak, SWeak, AWeak]⟩
  · intro i hi
    have ha9 := (aL_length (l := l.take i) (fun x hx => hw x (List.mem_of_mem_take hx))).1
    have hb9 := (aL_length (l := l.reverse.take i) (fun x hx => hw x (by have := List.mem_of_mem_take hx; simpa using this))).2
    rw [List.length_take] at ha9 hb9
    simp only [awK, Nat.reduceMod, Nat.reduceDiv, reduceIte]
    rcases Nat.lt_or_ge i l.length with h | h
    · have g1 := strs_getD h
      have g2 := strs_getD (l := l) (i := l.length - 1 - i) (by omega)
      have e1 : ((l.length : Int) - 1 - i) = ((l.length - 1 - i : Nat) : Int) := by omega
      have w1 : (l.getD i []).length ≤ 8 := (words_gd _ (hw _ (by rw [List.getD_eq_getElem?_getD, List.getElem?_eq_getElem h]; exact List.getElem_mem _))).2
      have w2 : (l.getD (l.length - 1 - i) []).length ≤ 8 := (words_gd _ (hw _ (by rw [List.getD_eq_getElem?_getD, List.getElem?_eq_getElem (show l.length - 1 - i < l.length by omega)]; exact List.getElem_mem _))).2
      have c1 : aL (l.take i) ++ (l.getD i [] ++ [32]) = aL (l.take (i + 1)) := by rw [take_one h, aL_push]
      have c2 : bL (l.reverse.take i) ++ (45 :: (l.getD (l.length - 1 - i) [] ++ [59, 32])) = bL (l.reverse.take (i + 1)) := by rw [take_rev h, bL_push]
      have b1 : (⟨#[32]⟩ : ByteArray) = bs [32] := rfl
      have b2 : (⟨#[45]⟩ : ByteArray) = bs [45] := rfl
      have b3 : (⟨#[59, 32]⟩ : ByteArray) = bs [59, 32] := rfl
      simp (config := { maxSteps := 1000000 }) (disch := ((try simp only [awL]); omega)) only [nextC_more, nextC_over, bs_size, bs_extract, bs_toList, bs_append, byteAt_bs, bs_cells, nums_length, nums_getD, sl, g1, g2, e1, b1, b2, b3, c1, c2, ↓awU, awV, awF, ofVal, ofVal0, isShift, aggK, forall_const, ↓reduceIte, ↓reduceDIte, ↓purePost, combine, idsA, cellsA, numsOf, srcA, calleeA, refsA, isScalar, scalarD, scalar0, AV.one, putL, unfA, implies_true, IntKind.signed, Nat.reduceAdd, Nat.reduceSub, Nat.reduceMul, Nat.reducePow, Nat.reduceDiv, Nat.reduceMod, Int.reduceAdd, Int.reduceSub, Int.reduceMul, Int.reducePow, Int.reduceNeg, Int.reduceToNat, Int.reduceLT, Int.reduceLE, Nat.reduceEqDiff, sidsB, Nat.reduceBEq, keyKD, isIntK, aggD, aggL, eqKs]
      first
      | exact ⟨i + 1, h, by simp only; omega, ⟨[some 0], rfl, by simp, by simp [setsA, keepA, SWeak, AWeak], by simp [HWeak, BWeak, SWeak, AWeak]⟩⟩
      | trace_state
    · obtain rfl : i = l.length := by omega
      have t1 : l.take l.length = l := List.take_of_length_le (Nat.le_refl _)
      have t2 : l.reverse.take l.length = l.reverse := List.take_of_length_le (by simp)
      rw [t1] at ha9
      rw [t2] at hb9
      simp only [t1, t2]
      obtain ⟨u, hu, hu2⟩ := pk_nat s k 2 (by decide)
      simp (config := { maxSteps := 1000000 }) (disch := ((try simp only [awL]); omega)) only [nextC_more, nextC_over, bs_size, bs_extract, bs_toList, bs_append, byteAt_bs, bs_cells, nums_length, nums_getD, ↓awU, awV, awF, ofVal, ofVal0, isShift, aggK, forall_const, ↓reduceIte, ↓reduceDIte, ↓purePost, combine, idsA, cellsA, numsOf, srcA, calleeA, refsA, isScalar, scalarD, scalar0, AV.one, putL, unfA, implies_true, IntKind.signed, Nat.reduceAdd, Nat.reduceSub, Nat.reduceMul, Nat.reducePow, Nat.reduceDiv, Nat.reduceMod, Int.reduceAdd, Int.reduceSub, Int.reduceMul, Int.reducePow, Int.reduceNeg, Int.reduceToNat, Int.reduceLT, Int.reduceLE, Nat.reduceEqDiff, sidsB, Nat.reduceBEq, keyKD, isIntK, aggD, aggL, eqKs]
      refine CallC.by (pick_spec s k 2 hmm (by decide) (by decide)) (by rfl) (by rfl) (Nat.le_refl _) ?_
      rw [hu]
      have fin : ∀ (b x : List UInt8), b = bL l.reverse ++ x → (x = [] ∨ ∃ y ∈ l, x = y) → tokS (aL l) = tokS b ∧ b.length ≤ 60 := by
        rintro b x rfl hx
        refine ⟨ab_tok l x fun t htx => ?_, ?_⟩
        · rcases hx with rfl | ⟨y, hy, rfl⟩
          · simp [tokL_nil] at htx
          · exact List.mem_flatMap.2 ⟨_, hy, htx⟩
        · have : x.length ≤ 8 := by
            rcases hx with rfl | ⟨y, hy, rfl⟩
            · simp
            · exact (words_gd _ (hw _ hy)).2
          simp only [List.length_append]
          simp at hb9
          omega
      have hpos : l ≠ [] → 0 < (tokS (aL l)).length := fun h0 => tok_pos hw h0
      simp at ha9
      have ha60 : (aL l).length ≤ 60 := by omega
      clear ha9 hb9
      by_cases h0 : l = []
      · obtain ⟨ht, hbl⟩ := fin (bL l.reverse) [] (by simp) (.inl rfl)
        have hz : l.length = 0 := by rw [h0]; rfl
        clear fin hpos hi h t1 t2
        rcases Nat.eq_zero_or_pos u with rfl | hu0
        · simp (config := { maxSteps := 1000000 }) (disch := ((try simp only [awL]); omega)) only [nextC_more, nextC_over, bs_size, bs_extract, bs_toList, bs_append, byteAt_bs, bs_cells, nums_length, nums_getD, sl, ↓awU, awV, awF, ofVal, ofVal0, isShift, aggK, forall_const, ↓reduceIte, ↓reduceDIte, ↓purePost, combine, idsA, cellsA, numsOf, srcA, calleeA, refsA, isScalar, scalarD, scalar0, AV.one, putL, unfA, implies_true, IntKind.signed, Nat.reduceAdd, Nat.reduceSub, Nat.reduceMul, Nat.reducePow, Nat.reduceDiv, Nat.reduceMod, Int.reduceAdd, Int.reduceSub, Int.reduceMul, Int.reducePow, Int.reduceNeg, Int.reduceToNat, Int.reduceLT, Int.reduceLE, Nat.reduceEqDiff, sidsB, Nat.reduceBEq, keyKD, isIntK, aggD, aggL, eqKs]
          generalize bL l.reverse = b at *
          generalize aL l = a at *
          have tu : tokS (a.map upB) = tokS a := by rw [tokS, tokL_up]
          have lu : (a.map upB).length ≤ 60 := by simpa using ha60
          have k1 := toks_spec (G := G) a b (by omega) (by omega)
          have k2 := toks_spec (G := G) (a.map upB) b (by omega) (by omega)
          rw [tu] at k2
          rw [← ht, (uniB_self a).1, (uniB_self a).2] at k1 k2
          generalize (tokS a).length = N at *
          simp only [cells_nums]
          refine LoopC.fr 4611686018427388272 (α := Nat) (fun i => a.length - i) (fun i => [(63, .d (.int .i64 i))]) (fun i => [DiceM s (k + 1), .row false (ints .u8 (nums (upMid a i)))]) (fun i => i ≤ a.length) 0 (Nat.zero_le _) ?_ ?_
          · exact ⟨[some 0, some 1], rfl, by simp, by simp [setsA, keepA, SWeak, AWeak], by simp [HWeak, BWeak, SWeak, AWeak, upMid]⟩
          · intro i hi
            have ml := upMid_length hi
            have nl := @nums_length (upMid a i)
            simp only [awK, Nat.reduceMod, Nat.reduceDiv, reduceIte]
            rcases Nat.lt_or_ge i a.length with h | h
            · have mg := upMid_get h
              have fs := upMid_set h
              have fb := upB_nat (a.getD i 0)
              have fe := upMid_same h
              have hb : (a.getD i 0).toNat < 256 := (a.getD i 0).toNat_lt
              by_cases h1 : 97 ≤ (a.getD i 0).toNat ∧ (a.getD i 0).toNat ≤ 122
              · rw [if_pos h1] at fb
                obtain ⟨h1, h2⟩ := h1
                have hs1 : (nums (upMid a i)).set i (((a.getD i 0).toNat : Int) - 32) = nums (upMid a (i + 1)) := by
                  rw [← fs, ← nums_set, fb]; congr 1; omega
                simp (config := { maxSteps := 1000000 }) (disch := ((try simp only [awL]); omega)) only [nextC_more, nextC_over, bs_size, bs_extract, bs_toList, bs_append, byteAt_bs, bs_cells, nums_length, nums_getD, nl, ml, mg, hs1, ↓awU, awV, awF, ofVal, ofVal0, isShift, aggK, forall_const, ↓reduceIte, ↓reduceDIte, ↓purePost, combine, idsA, cellsA, numsOf, srcA, calleeA, refsA, isScalar, scalarD, scalar0, AV.one, putL, unfA, implies_true, IntKind.signed, Nat.reduceAdd, Nat.reduceSub, Nat.reduceMul, Nat.reducePow, Nat.reduceDiv, Nat.reduceMod, Int.reduceAdd, Int.reduceSub, Int.reduceMul, Int.reducePow, Int.reduceNeg, Int.reduceToNat, Int.reduceLT, Int.reduceLE, Nat.reduceEqDiff, sidsB, Nat.reduceBEq, keyKD, isIntK, aggD, aggL, eqKs]
                first
                | exact ⟨i + 1, h, by simp only; omega, ⟨[some 0, some 1], rfl, by simp, by simp [setsA, keepA, SWeak, AWeak], by simp [HWeak, BWeak, SWeak, AWeak]⟩⟩
                | exact ⟨by rfl, i + 1, h, by simp only; omega, ⟨[some 0, some 1], rfl, by simp, by simp [setsA, keepA, SWeak, AWeak], by simp [HWeak, BWeak, SWeak, AWeak]⟩⟩
                | trace_state
              · rw [if_neg h1] at fb
                have e := fe (UInt8.toNat_inj.1 fb)
                rcases (by omega : (a.getD i 0).toNat < 97 ∨ 122 < (a.getD i 0).toNat) with h2 | h2
                · simp (config := { maxSteps := 1000000 }) (disch := ((try simp only [awL]); omega)) only [nextC_more, nextC_over, bs_size, bs_extract, bs_toList, bs_append, byteAt_bs, bs_cells, nums_length, nums_getD, nl, ml, mg, ↓awU, awV, awF, ofVal, ofVal0, isShift, aggK, forall_const, ↓reduceIte, ↓reduceDIte, ↓purePost, combine, idsA, cellsA, numsOf, srcA, calleeA, refsA, isScalar, scalarD, scalar0, AV.one, putL, unfA, implies_true, IntKind.signed, Nat.reduceAdd, Nat.reduceSub, Nat.reduceMul, Nat.reducePow, Nat.reduceDiv, Nat.reduceMod, Int.reduceAdd, Int.reduceSub, Int.reduceMul, Int.reducePow, Int.reduceNeg, Int.reduceToNat, Int.reduceLT, Int.reduceLE, Nat.reduceEqDiff, sidsB, Nat.reduceBEq, keyKD, isIntK, aggD, aggL, eqKs]
                  first
                  | exact ⟨i + 1, h, by simp only; omega, ⟨[some 0, some 1], rfl, by simp, by simp [setsA, keepA, SWeak, AWeak], by simp [HWeak, BWeak, SWeak, AWeak, e]⟩⟩
                  | exact ⟨by rfl, i + 1, h, by simp only; omega, ⟨[some 0, some 1], rfl, by simp, by simp [setsA, keepA, SWeak, AWeak], by simp [HWeak, BWeak, SWeak, AWeak, e]⟩⟩
                  | trace_state
                · simp (config := { maxSteps := 1000000 }) (disch := ((try simp only [awL]); omega)) only [nextC_more, nextC_over, bs_size, bs_extract, bs_toList, bs_append, byteAt_bs, bs_cells, nums_length, nums_getD, nl, ml, mg, ↓awU, awV, awF, ofVal, ofVal0, isShift, aggK, forall_const, ↓reduceIte, ↓reduceDIte, ↓purePost, combine, idsA, cellsA, numsOf, srcA, calleeA, refsA, isScalar, scalarD, scalar0, AV.one, putL, unfA, implies_true, IntKind.signed, Nat.reduceAdd, Nat.reduceSub, Nat.reduceMul, Nat.reducePow, Nat.reduceDiv, Nat.reduceMod, Int.reduceAdd, Int.reduceSub, Int.reduceMul, Int.reducePow, Int.reduceNeg, Int.reduceToNat, Int.reduceLT, Int.reduceLE, Nat.reduceEqDiff, sidsB, Nat.reduceBEq, keyKD, isIntK, aggD, aggL, eqKs]
                  first
                  | exact ⟨i + 1, h, by simp only; omega, ⟨[some 0, some 1], rfl, by simp, by simp [setsA, keepA, SWeak, AWeak], by simp [HWeak, BWeak, SWeak, AWeak, e]⟩⟩
                  | exact ⟨by rfl, i + 1, h, by simp only; omega, ⟨[some 0, some 1], rfl, by simp, by simp [setsA, keepA, SWeak, AWeak], by simp [HWeak, BWeak, SWeak, AWeak, e]⟩⟩
                  | trace_state
            · obtain rfl : i = a.length := by omega
              have em : upMid a a.length = a.map upB := by simp [upMid]
              have eml : (a.map upB).length = a.length := by simp
              rw [em] at nl ⊢
              have htk : (nums (a.map upB)).take a.length = nums (a.map upB) := List.take_of_length_le (by omega)
              simp (config := { maxSteps := 1000000 }) (disch := ((try simp only [awL]); omega)) only [nextC_more, nextC_over, bs_size, bs_extract, bs_toList, bs_append, byteAt_bs, bs_cells, nums_length, nums_getD, ↓awU, awV, awF, ofVal, ofVal0, isShift, aggK, forall_const, ↓reduceIte, ↓reduceDIte, ↓purePost, combine, idsA, cellsA, numsOf, srcA, calleeA, refsA, isScalar, scalarD, scalar0, AV.one, putL, unfA, implies_true, IntKind.signed, Nat.reduceAdd, Nat.reduceSub, Nat.reduceMul, Nat.reducePow, Nat.reduceDiv, Nat.reduceMod, Int.reduceAdd, Int.reduceSub, Int.reduceMul, Int.reducePow, Int.reduceNeg, Int.reduceToNat, Int.reduceLT, Int.reduceLE, Nat.reduceEqDiff, sidsB, Nat.reduceBEq, keyKD, isIntK, aggD, aggL, eqKs]
              refine CallC.of k1 (by rfl) ?_
              simp (config := { maxSteps := 1000000 }) (disch := ((try simp only [awL]); omega)) only [nextC_more, nextC_over, bs_size, bs_extract, bs_toList, bs_append, byteAt_bs, bs_cells, nums_length, nums_getD, nl, eml, numsOf_ints, htk, strOfNums_nums, ↓awU, awV, awF, ofVal, ofVal0, isShift, aggK, forall_const, ↓reduceIte, ↓reduceDIte, ↓purePost, combine, idsA, cellsA, numsOf, srcA, calleeA, refsA, isScalar, scalarD, scalar0, AV.one, putL, unfA, implies_true, IntKind.signed, Nat.reduceAdd, Nat.reduceSub, Nat.reduceMul, Nat.reducePow, Nat.reduceDiv, Nat.reduceMod, Int.reduceAdd, Int.reduceSub, Int.reduceMul, Int.reducePow, Int.reduceNeg, Int.reduceToNat, Int.reduceLT, Int.reduceLE, Nat.reduceEqDiff, sidsB, Nat.reduceBEq, keyKD, isIntK, aggD, aggL, eqKs]
              refine CallC.of k2 (by rfl) ?_
              simp (config := { maxSteps := 1000000 }) (disch := ((try simp only [awL]); omega)) only [nextC_more, nextC_over, bs_size, bs_extract, bs_toList, bs_append, byteAt_bs, bs_cells, nums_length, nums_getD, nl, eml, numsOf_ints, htk, strOfNums_nums, ↓awU, awV, awF, ofVal, ofVal0, isShift, aggK, forall_const, ↓reduceIte, ↓reduceDIte, ↓purePost, combine, idsA, cellsA, numsOf, srcA, calleeA, refsA, isScalar, scalarD, scalar0, AV.one, putL, unfA, implies_true, IntKind.signed, Nat.reduceAdd, Nat.reduceSub, Nat.reduceMul, Nat.reducePow, Nat.reduceDiv, Nat.reduceMod, Int.reduceAdd, Int.reduceSub, Int.reduceMul, Int.reducePow, Int.reduceNeg, Int.reduceToNat, Int.reduceLT, Int.reduceLE, Nat.reduceEqDiff, sidsB, Nat.reduceBEq, keyKD, isIntK, aggD, aggL, eqKs]
        · simp (config := { maxSteps := 1000000 }) (disch := ((try simp only [awL]); omega)) only [nextC_more, nextC_over, bs_size, bs_extract, bs_toList, bs_append, byteAt_bs, bs_cells, nums_length, nums_getD, sl, ↓awU, awV, awF, ofVal, ofVal0, isShift, aggK, forall_const, ↓reduceIte, ↓reduceDIte, ↓purePost, combine, idsA, cellsA, numsOf, srcA, calleeA, refsA, isScalar, scalarD, scalar0, AV.one, putL, unfA, implies_true, IntKind.signed, Nat.reduceAdd, Nat.reduceSub, Nat.reduceMul, Nat.reducePow, Nat.reduceDiv, Nat.reduceMod, Int.reduceAdd, Int.reduceSub, Int.reduceMul, Int.reducePow, Int.reduceNeg, Int.reduceToNat, Int.reduceLT, Int.reduceLE, Nat.reduceEqDiff, sidsB, Nat.reduceBEq, keyKD, isIntK, aggD, aggL, eqKs]
          generalize bL l.reverse = b at *
          generalize aL l = a at *
          have tu : tokS (a.map upB) = tokS a := by rw [tokS, tokL_up]
          have lu : (a.map upB).length ≤ 60 := by simpa using ha60
          have k1 := toks_spec (G := G) a b (by omega) (by omega)
          have k2 := toks_spec (G := G) (a.map upB) b (by omega) (by omega)
          rw [tu] at k2
          rw [← ht, (uniB_self a).1, (uniB_self a).2] at k1 k2
          generalize (tokS a).length = N at *
          simp only [cells_nums]
          refine LoopC.fr 4611686018427388272 (α := Nat) (fun i => a.length - i) (fun i => [(63, .d (.int .i64 i))]) (fun i => [DiceM s (k + 1), .row false (ints .u8 (nums (upMid a i)))]) (fun i => i ≤ a.length) 0 (Nat.zero_le _) ?_ ?_
          · exact ⟨[some 0, some 1], rfl, by simp, by simp [setsA, keepA, SWeak, AWeak], by simp [HWeak, BWeak, SWeak, AWeak, upMid]⟩
          · intro i hi
            have ml := upMid_length hi
            have nl := @nums_length (upMid a i)
            simp only [awK, Nat.reduceMod, Nat.reduceDiv, reduceIte]
            rcases Nat.lt_or_ge i a.length with h | h
            · have mg := upMid_get h
              have fs := upMid_set h
              have fb := upB_nat (a.getD i 0)
              have fe := upMid_same h
              have hb : (a.getD i 0).toNat < 256 := (a.getD i 0).toNat_lt
              by_cases h1 : 97 ≤ (a.getD i 0).toNat ∧ (a.getD i 0).toNat ≤ 122
              · rw [if_pos h1] at fb
                obtain ⟨h1, h2⟩ := h1
                have hs1 : (nums (upMid a i)).set i (((a.getD i 0).toNat : Int) - 32) = nums (upMid a (i + 1)) := by
                  rw [← fs, ← nums_set, fb]; congr 1; omega
                simp (config := { maxSteps := 1000000 }) (disch := ((try simp only [awL]); omega)) only [nextC_more, nextC_over, bs_size, bs_extract, bs_toList, bs_append, byteAt_bs, bs_cells, nums_length, nums_getD, nl, ml, mg, hs1, ↓awU, awV, awF, ofVal, ofVal0, isShift, aggK, forall_const, ↓reduceIte, ↓reduceDIte, ↓purePost, combine, idsA, cellsA, numsOf, srcA, calleeA, refsA, isScalar, scalarD, scalar0, AV.one, putL, unfA, implies_true, IntKind.signed, Nat.reduceAdd, Nat.reduceSub, Nat.reduceMul, Nat.reducePow, Nat.reduceDiv, Nat.reduceMod, Int.reduceAdd, Int.reduceSub, Int.reduceMul, Int.reducePow, Int.reduceNeg, Int.reduceToNat, Int.reduceLT, Int.reduceLE, Nat.reduceEqDiff, sidsB, Nat.reduceBEq, keyKD, isIntK, aggD, aggL, eqKs]
                first
                | exact ⟨i + 1, h, by simp only; omega, ⟨[some 0, some 1], rfl, by simp, by simp [setsA, keepA, SWeak, AWeak], by simp [HWeak, BWeak, SWeak, AWeak]⟩⟩
                | exact ⟨by rfl, i + 1, h, by simp only; omega, ⟨[some 0, some 1], rfl, by simp, by simp [setsA, keepA, SWeak, AWeak], by simp [HWeak, BWeak, SWeak, AWeak]⟩⟩
                | trace_state
              · rw [if_neg h1] at fb
                have e := fe (UInt8.toNat_inj.1 fb)
                rcases (by omega : (a.getD i 0).toNat < 97 ∨ 122 < (a.getD i 0).toNat) with h2 | h2
                · simp (config := { maxSteps := 1000000 }) (disch := ((try simp only [awL]); omega)) only [nextC_more, nextC_over, bs_size, bs_extract, bs_toList, bs_append, byteAt_bs, bs_cells, nums_length, nums_getD, nl, ml, mg, ↓awU, awV, awF, ofVal, ofVal0, isShift, aggK, forall_const, ↓reduceIte, ↓reduceDIte, ↓purePost, combine, idsA, cellsA, numsOf, srcA, calleeA, refsA, isScalar, scalarD, scalar0, AV.one, putL, unfA, implies_true, IntKind.signed, Nat.reduceAdd, Nat.reduceSub, Nat.reduceMul, Nat.reducePow, Nat.reduceDiv, Nat.reduceMod, Int.reduceAdd, Int.reduceSub, Int.reduceMul, Int.reducePow, Int.reduceNeg, Int.reduceToNat, Int.reduceLT, Int.reduceLE, Nat.reduceEqDiff, sidsB, Nat.reduceBEq, keyKD, isIntK, aggD, aggL, eqKs]
                  first
                  | exact ⟨i + 1, h, by simp only; omega, ⟨[some 0, some 1], rfl, by simp, by simp [setsA, keepA, SWeak, AWeak], by simp [HWeak, BWeak, SWeak, AWeak, e]⟩⟩
                  | exact ⟨by rfl, i + 1, h, by simp only; omega, ⟨[some 0, some 1], rfl, by simp, by simp [setsA, keepA, SWeak, AWeak], by simp [HWeak, BWeak, SWeak, AWeak, e]⟩⟩
                  | trace_state
                · simp (config := { maxSteps := 1000000 }) (disch := ((try simp only [awL]); omega)) only [nextC_more, nextC_over, bs_size, bs_extract, bs_toList, bs_append, byteAt_bs, bs_cells, nums_length, nums_getD, nl, ml, mg, ↓awU, awV, awF, ofVal, ofVal0, isShift, aggK, forall_const, ↓reduceIte, ↓reduceDIte, ↓purePost, combine, idsA, cellsA, numsOf, srcA, calleeA, refsA, isScalar, scalarD, scalar0, AV.one, putL, unfA, implies_true, IntKind.signed, Nat.reduceAdd, Nat.reduceSub, Nat.reduceMul, Nat.reducePow, Nat.reduceDiv, Nat.reduceMod, Int.reduceAdd, Int.reduceSub, Int.reduceMul, Int.reducePow, Int.reduceNeg, Int.reduceToNat, Int.reduceLT, Int.reduceLE, Nat.reduceEqDiff, sidsB, Nat.reduceBEq, keyKD, isIntK, aggD, aggL, eqKs]
                  first
                  | exact ⟨i + 1, h, by simp only; omega, ⟨[some 0, some 1], rfl, by simp, by simp [setsA, keepA, SWeak, AWeak], by simp [HWeak, BWeak, SWeak, AWeak, e]⟩⟩
                  | exact ⟨by rfl, i + 1, h, by simp only; omega, ⟨[some 0, some 1], rfl, by simp, by simp [setsA, keepA, SWeak, AWeak], by simp [HWeak, BWeak, SWeak, AWeak, e]⟩⟩
                  | trace_state
            · obtain rfl : i = a.length := by omega
              have em : upMid a a.length = a.map upB := by simp [upMid]
              have eml : (a.map upB).length = a.length := by simp
              rw [em] at nl ⊢
              have htk : (nums (a.map upB)).take a.length = nums (a.map upB) := List.take_of_length_le (by omega)
              simp (config := { maxSteps := 1000000 }) (disch := ((try simp only [awL]); omega)) only [nextC_more, nextC_over, bs_size, bs_extract, bs_toList, bs_append, byteAt_bs, bs_cells, nums_length, nums_getD, ↓awU, awV, awF, ofVal, ofVal0, isShift, aggK, forall_const, ↓reduceIte, ↓reduceDIte, ↓purePost, combine, idsA, cellsA, numsOf, srcA, calleeA, refsA, isScalar, scalarD, scalar0, AV.one, putL, unfA, implies_true, IntKind.signed, Nat.reduceAdd, Nat.reduceSub, Nat.reduceMul, Nat.reducePow, Nat.reduceDiv, Nat.reduceMod, Int.reduceAdd, Int.reduceSub, Int.reduceMul, Int.reducePow, Int.reduceNeg, Int.reduceToNat, Int.reduceLT, Int.reduceLE, Nat.reduceEqDiff, sidsB, Nat.reduceBEq, keyKD, isIntK, aggD, aggL, eqKs]
              refine CallC.of k1 (by rfl) ?_
              simp (config := { maxSteps := 1000000 }) (disch := ((try simp only [awL]); omega)) only [nextC_more, nextC_over, bs_size, bs_extract, bs_toList, bs_append, byteAt_bs, bs_cells, nums_length, nums_getD, nl, eml, numsOf_ints, htk, strOfNums_nums, ↓awU, awV, awF, ofVal, ofVal0, isShift, aggK, forall_const, ↓reduceIte, ↓reduceDIte, ↓purePost, combine, idsA, cellsA, numsOf, srcA, calleeA, refsA, isScalar, scalarD, scalar0, AV.one, putL, unfA, implies_true, IntKind.signed, Nat.reduceAdd, Nat.reduceSub, Nat.reduceMul, Nat.reducePow, Nat.reduceDiv, Nat.reduceMod, Int.reduceAdd, Int.reduceSub, Int.reduceMul, Int.reducePow, Int.reduceNeg, Int.reduceToNat, Int.reduceLT, Int.reduceLE, Nat.reduceEqDiff, sidsB, Nat.reduceBEq, keyKD, isIntK, aggD, aggL, eqKs]
              refine CallC.of k2 (by rfl) ?_
              simp (config := { maxSteps := 1000000 }) (disch := ((try simp only [awL]); omega)) only [nextC_more, nextC_over, bs_size, bs_extract, bs_toList, bs_append, byteAt_bs, bs_cells, nums_length, nums_getD, nl, eml, numsOf_ints, htk, strOfNums_nums, ↓awU, awV, awF, ofVal, ofVal0, isShift, aggK, forall_const, ↓reduceIte, ↓reduceDIte, ↓purePost, combine, idsA, cellsA, numsOf, srcA, calleeA, refsA, isScalar, scalarD, scalar0, AV.one, putL, unfA, implies_true, IntKind.signed, Nat.reduceAdd, Nat.reduceSub, Nat.reduceMul, Nat.reducePow, Nat.reduceDiv, Nat.reduceMod, Int.reduceAdd, Int.reduceSub, Int.reduceMul, Int.reducePow, Int.reduceNeg, Int.reduceToNat, Int.reduceLT, Int.reduceLE, Nat.reduceEqDiff, sidsB, Nat.reduceBEq, keyKD, isIntK, aggD, aggL, eqKs]
      have hp := hpos h0
      have hl0 : 0 < l.length := List.length_pos_iff.2 h0
      have hz : ¬ l.length = 0 := by omega
      rcases Nat.eq_zero_or_pos u with rfl | hu0
      · have g0 := strs_getD hl0
        obtain ⟨ht, hbl⟩ := fin (bL l.reverse ++ l.getD 0 []) (l.getD 0 []) rfl (.inr ⟨_, by rw [List.getD_eq_getElem?_getD, List.getElem?_eq_getElem hl0]; exact List.getElem_mem _, rfl⟩)
        have hsum := hbl
        rw [List.length_append] at hsum
        clear fin hpos hi h t1 t2
        simp (config := { maxSteps := 1000000 }) (disch := ((try simp only [awL]); omega)) only [nextC_more, nextC_over, bs_size, bs_extract, bs_toList, bs_append, byteAt_bs, bs_cells, nums_length, nums_getD, sl, g0, ↓awU, awV, awF, ofVal, ofVal0, isShift, aggK, forall_const, ↓reduceIte, ↓reduceDIte, ↓purePost, combine, idsA, cellsA, numsOf, srcA, calleeA, refsA, isScalar, scalarD, scalar0, AV.one, putL, unfA, implies_true, IntKind.signed, Nat.reduceAdd, Nat.reduceSub, Nat.reduceMul, Nat.reducePow, Nat.reduceDiv, Nat.reduceMod, Int.reduceAdd, Int.reduceSub, Int.reduceMul, Int.reducePow, Int.reduceNeg, Int.reduceToNat, Int.reduceLT, Int.reduceLE, Nat.reduceEqDiff, sidsB, Nat.reduceBEq, keyKD, isIntK, aggD, aggL, eqKs]
        generalize bL l.reverse ++ l.getD 0 [] = b at *
        generalize aL l = a at *
        have tu : tokS (a.map upB) = tokS a := by rw [tokS, tokL_up]
        have lu : (a.map upB).length ≤ 60 := by simpa using ha60
        have k1 := toks_spec (G := G) a b (by omega) (by omega)
        have k2 := toks_spec (G := G) (a.map upB) b (by omega) (by omega)
        rw [tu] at k2
        rw [← ht, (uniB_self a).1, (uniB_self a).2] at k1 k2
        have k3 := similar_spec (G := G) 3 0 1 1 a b (by omega) (by omega)
        rw [words_sim ht hp] at k3
        have k4 := similar_spec (G := G) 3 0 1 1 (a.map upB) b (by omega) (by omega)
        rw [words_sim (by rw [tu]; exact ht) (by rw [tu]; exact hp)] at k4
        generalize (tokS a).length = N at *
        simp only [cells_nums]
        refine LoopC.fr 4611686018427388272 (α := Nat) (fun i => a.length - i) (fun i => [(63, .d (.int .i64 i))]) (fun i => [DiceM s (k + 1), .row false (ints .u8 (nums (upMid a i)))]) (fun i => i ≤ a.length) 0 (Nat.zero_le _) ?_ ?_
        · exact ⟨[some 0, some 1], rfl, by simp, by simp [setsA, keepA, SWeak, AWeak], by simp [HWeak, BWeak, SWeak, AWeak, upMid]⟩
        · intro i hi
          have ml := upMid_length hi
          have nl := @nums_length (upMid a i)
          simp only [awK, Nat.reduceMod, Nat.reduceDiv, reduceIte]
          rcases Nat.lt_or_ge i a.length with h | h
          · have mg := upMid_get h
            have fs := upMid_set h
            have fb := upB_nat (a.getD i 0)
            have fe := upMid_same h
            have hb : (a.getD i 0).toNat < 256 := (a.getD i 0).toNat_lt
            by_cases h1 : 97 ≤ (a.getD i 0).toNat ∧ (a.getD i 0).toNat ≤ 122
            · rw [if_pos h1] at fb
              obtain ⟨h1, h2⟩ := h1
              have hs1 : (nums (upMid a i)).set i (((a.getD i 0).toNat : Int) - 32) = nums (upMid a (i + 1)) := by
                rw [← fs, ← nums_set, fb]; congr 1; omega
              simp (config := { maxSteps := 1000000 }) (disch := ((try simp only [awL]); omega)) only [nextC_more, nextC_over, bs_size, bs_extract, bs_toList, bs_append, byteAt_bs, bs_cells, nums_length, nums_getD, nl, ml, mg, hs1, ↓awU, awV, awF, ofVal, ofVal0, isShift, aggK, forall_const, ↓reduceIte, ↓reduceDIte, ↓purePost, combine, idsA, cellsA, numsOf, srcA, calleeA, refsA, isScalar, scalarD, scalar0, AV.one, putL, unfA, implies_true, IntKind.signed, Nat.reduceAdd, Nat.reduceSub, Nat.reduceMul, Nat.reducePow, Nat.reduceDiv, Nat.reduceMod, Int.reduceAdd, Int.reduceSub, Int.reduceMul, Int.reducePow, Int.reduceNeg, Int.reduceToNat, Int.reduceLT, Int.reduceLE, Nat.reduceEqDiff, sidsB, Nat.reduceBEq, keyKD, isIntK, aggD, aggL, eqKs]
              first
              | exact ⟨i + 1, h, by simp only; omega, ⟨[some 0, some 1], rfl, by simp, by simp [setsA, keepA, SWeak, AWeak], by simp [HWeak, BWeak, SWeak, AWeak]⟩⟩
              | exact ⟨by rfl, i + 1, h, by simp only; omega, ⟨[some 0, some 1], rfl, by simp, by simp [setsA, keepA, SWeak, AWeak], by simp [HWeak, BWeak, SWeak, AWeak]⟩⟩
              | trace_state
            · rw [if_neg h1] at fb
              have e := fe (UInt8.toNat_inj.1 fb)
              rcases (by omega : (a.getD i 0).toNat < 97 ∨ 122 < (a.getD i 0).toNat) with h2 | h2
              · simp (config := { maxSteps := 1000000 }) (disch := ((try simp only [awL]); omega)) only [nextC_more, nextC_over, bs_size, bs_extract, bs_toList, bs_append, byteAt_bs, bs_cells, nums_length, nums_getD, nl, ml, mg, ↓awU, awV, awF, ofVal, ofVal0, isShift, aggK, forall_const, ↓reduceIte, ↓reduceDIte, ↓purePost, combine, idsA, cellsA, numsOf, srcA, calleeA, refsA, isScalar, scalarD, scalar0, AV.one, putL, unfA, implies_true, IntKind.signed, Nat.reduceAdd, Nat.reduceSub, Nat.reduceMul, Nat.reducePow, Nat.reduceDiv, Nat.reduceMod, Int.reduceAdd, Int.reduceSub, Int.reduceMul, Int.reducePow, Int.reduceNeg, Int.reduceToNat, Int.reduceLT, Int.reduceLE, Nat.reduceEqDiff, sidsB, Nat.reduceBEq, keyKD, isIntK, aggD, aggL, eqKs]
                first
                | exact ⟨i + 1, h, by simp only; omega, ⟨[some 0, some 1], rfl, by simp, by simp [setsA, keepA, SWeak, AWeak], by simp [HWeak, BWeak, SWeak, AWeak, e]⟩⟩
                | exact ⟨by rfl, i + 1, h, by simp only; omega, ⟨[some 0, some 1], rfl, by simp, by simp [setsA, keepA, SWeak, AWeak], by simp [HWeak, BWeak, SWeak, AWeak, e]⟩⟩
                | trace_state
              · simp (config := { maxSteps := 1000000 }) (disch := ((try simp only [awL]); omega)) only [nextC_more, nextC_over, bs_size, bs_extract, bs_toList, bs_append, byteAt_bs, bs_cells, nums_length, nums_getD, nl, ml, mg, ↓awU, awV, awF, ofVal, ofVal0, isShift, aggK, forall_const, ↓reduceIte, ↓reduceDIte, ↓purePost, combine, idsA, cellsA, numsOf, srcA, calleeA, refsA, isScalar, scalarD, scalar0, AV.one, putL, unfA, implies_true, IntKind.signed, Nat.reduceAdd, Nat.reduceSub, Nat.reduceMul, Nat.reducePow, Nat.reduceDiv, Nat.reduceMod, Int.reduceAdd, Int.reduceSub, Int.reduceMul, Int.reducePow, Int.reduceNeg, Int.reduceToNat, Int.reduceLT, Int.reduceLE, Nat.reduceEqDiff, sidsB, Nat.reduceBEq, keyKD, isIntK, aggD, aggL, eqKs]
                first
                | exact ⟨i + 1, h, by simp only; omega, ⟨[some 0, some 1], rfl, by simp, by simp [setsA, keepA, SWeak, AWeak], by simp [HWeak, BWeak, SWeak, AWeak, e]⟩⟩
                | exact ⟨by rfl, i + 1, h, by simp only; omega, ⟨[some 0, some 1], rfl, by simp, by simp [setsA, keepA, SWeak, AWeak], by simp [HWeak, BWeak, SWeak, AWeak, e]⟩⟩
                | trace_state
          · obtain rfl : i = a.length := by omega
            have em : upMid a a.length = a.map upB := by simp [upMid]
            have eml : (a.map upB).length = a.length := by simp
            rw [em] at nl ⊢
            have htk : (nums (a.map upB)).take a.length = nums (a.map upB) := List.take_of_length_le (by omega)
            simp (config := { maxSteps := 1000000 }) (disch := ((try simp only [awL]); omega)) only [nextC_more, nextC_over, bs_size, bs_extract, bs_toList, bs_append, byteAt_bs, bs_cells, nums_length, nums_getD, ↓awU, awV, awF, ofVal, ofVal0, isShift, aggK, forall_const, ↓reduceIte, ↓reduceDIte, ↓purePost, combine, idsA, cellsA, numsOf, srcA, calleeA, refsA, isScalar, scalarD, scalar0, AV.one, putL, unfA, implies_true, IntKind.signed, Nat.reduceAdd, Nat.reduceSub, Nat.reduceMul, Nat.reducePow, Nat.reduceDiv, Nat.reduceMod, Int.reduceAdd, Int.reduceSub, Int.reduceMul, Int.reducePow, Int.reduceNeg, Int.reduceToNat, Int.reduceLT, Int.reduceLE, Nat.reduceEqDiff, sidsB, Nat.reduceBEq, keyKD, isIntK, aggD, aggL, eqKs]
            refine CallC.of k1 (by rfl) ?_
            simp (config := { maxSteps := 1000000 }) (disch := ((try simp only [awL]); omega)) only [nextC_more, nextC_over, bs_size, bs_extract, bs_toList, bs_append, byteAt_bs, bs_cells, nums_length, nums_getD, nl, eml, numsOf_ints, htk, strOfNums_nums, ↓awU, awV, awF, ofVal, ofVal0, isShift, aggK, forall_const, ↓reduceIte, ↓reduceDIte, ↓purePost, combine, idsA, cellsA, numsOf, srcA, calleeA, refsA, isScalar, scalarD, scalar0, AV.one, putL, unfA, implies_true, IntKind.signed, Nat.reduceAdd, Nat.reduceSub, Nat.reduceMul, Nat.reducePow, Nat.reduceDiv, Nat.reduceMod, Int.reduceAdd, Int.reduceSub, Int.reduceMul, Int.reducePow, Int.reduceNeg, Int.reduceToNat, Int.reduceLT, Int.reduceLE, Nat.reduceEqDiff, sidsB, Nat.reduceBEq, keyKD, isIntK, aggD, aggL, eqKs]
            refine CallC.of k2 (by rfl) ?_
            simp (config := { maxSteps := 1000000 }) (disch := ((try simp only [awL]); omega)) only [nextC_more, nextC_over, bs_size, bs_extract, bs_toList, bs_append, byteAt_bs, bs_cells, nums_length, nums_getD, nl, eml, numsOf_ints, htk, strOfNums_nums, ↓awU, awV, awF, ofVal, ofVal0, isShift, aggK, forall_const, ↓reduceIte, ↓reduceDIte, ↓purePost, combine, idsA, cellsA, numsOf, srcA, calleeA, refsA, isScalar, scalarD, scalar0, AV.one, putL, unfA, implies_true, IntKind.signed, Nat.reduceAdd, Nat.reduceSub, Nat.reduceMul, Nat.reducePow, Nat.reduceDiv, Nat.reduceMod, Int.reduceAdd, Int.reduceSub, Int.reduceMul, Int.reducePow, Int.reduceNeg, Int.reduceToNat, Int.reduceLT, Int.reduceLE, Nat.reduceEqDiff, sidsB, Nat.reduceBEq, keyKD, isIntK, aggD, aggL, eqKs]
            refine CallC.of k3 (by rfl) ?_
            simp (config := { maxSteps := 1000000 }) (disch := ((try simp only [awL]); omega)) only [nextC_more, nextC_over, bs_size, bs_extract, bs_toList, bs_append, byteAt_bs, bs_cells, nums_length, nums_getD, nl, eml, numsOf_ints, htk, strOfNums_nums, ↓awU, awV, awF, ofVal, ofVal0, isShift, aggK, forall_const, ↓reduceIte, ↓reduceDIte, ↓purePost, combine, idsA, cellsA, numsOf, srcA, calleeA, refsA, isScalar, scalarD, scalar0, AV.one, putL, unfA, implies_true, IntKind.signed, Nat.reduceAdd, Nat.reduceSub, Nat.reduceMul, Nat.reducePow, Nat.reduceDiv, Nat.reduceMod, Int.reduceAdd, Int.reduceSub, Int.reduceMul, Int.reducePow, Int.reduceNeg, Int.reduceToNat, Int.reduceLT, Int.reduceLE, Nat.reduceEqDiff, sidsB, Nat.reduceBEq, keyKD, isIntK, aggD, aggL, eqKs]
            refine CallC.of k4 (by rfl) ?_
            simp (config := { maxSteps := 1000000 }) (disch := ((try simp only [awL]); omega)) only [nextC_more, nextC_over, bs_size, bs_extract, bs_toList, bs_append, byteAt_bs, bs_cells, nums_length, nums_getD, nl, eml, numsOf_ints, htk, strOfNums_nums, ↓awU, awV, awF, ofVal, ofVal0, isShift, aggK, forall_const, ↓reduceIte, ↓reduceDIte, ↓purePost, combine, idsA, cellsA, numsOf, srcA, calleeA, refsA, isScalar, scalarD, scalar0, AV.one, putL, unfA, implies_true, IntKind.signed, Nat.reduceAdd, Nat.reduceSub, Nat.reduceMul, Nat.reducePow, Nat.reduceDiv, Nat.reduceMod, Int.reduceAdd, Int.reduceSub, Int.reduceMul, Int.reducePow, Int.reduceNeg, Int.reduceToNat, Int.reduceLT, Int.reduceLE, Nat.reduceEqDiff, sidsB, Nat.reduceBEq, keyKD, isIntK, aggD, aggL, eqKs]
      · obtain ⟨ht, hbl⟩ := fin (bL l.reverse) [] (by simp) (.inl rfl)
        clear fin hpos hi h t1 t2
        simp (config := { maxSteps := 1000000 }) (disch := ((try simp only [awL]); omega)) only [nextC_more, nextC_over, bs_size, bs_extract, bs_toList, bs_append, byteAt_bs, bs_cells, nums_length, nums_getD, sl, ↓awU, awV, awF, ofVal, ofVal0, isShift, aggK, forall_const, ↓reduceIte, ↓reduceDIte, ↓purePost, combine, idsA, cellsA, numsOf, srcA, calleeA, refsA, isScalar, scalarD, scalar0, AV.one, putL, unfA, implies_true, IntKind.signed, Nat.reduceAdd, Nat.reduceSub, Nat.reduceMul, Nat.reducePow, Nat.reduceDiv, Nat.reduceMod, Int.reduceAdd, Int.reduceSub, Int.reduceMul, Int.reducePow, Int.reduceNeg, Int.reduceToNat, Int.reduceLT, Int.reduceLE, Nat.reduceEqDiff, sidsB, Nat.reduceBEq, keyKD, isIntK, aggD, aggL, eqKs]
        generalize bL l.reverse = b at *
        generalize aL l = a at *
        have tu : tokS (a.map upB) = tokS a := by rw [tokS, tokL_up]
        have lu : (a.map upB).length ≤ 60 := by simpa using ha60
        have k1 := toks_spec (G := G) a b (by omega) (by omega)
        have k2 := toks_spec (G := G) (a.map upB) b (by omega) (by omega)
        rw [tu] at k2
        rw [← ht, (uniB_self a).1, (uniB_self a).2] at k1 k2
        have k3 := similar_spec (G := G) 3 0 1 1 a b (by omega) (by omega)
        rw [words_sim ht hp] at k3
        have k4 := similar_spec (G := G) 3 0 1 1 (a.map upB) b (by omega) (by omega)
        rw [words_sim (by rw [tu]; exact ht) (by rw [tu]; exact hp)] at k4
        generalize (tokS a).length = N at *
        simp only [cells_nums]
        refine LoopC.fr 4611686018427388272 (α := Nat) (fun i => a.length - i) (fun i => [(63, .d (.int .i64 i))]) (fun i => [DiceM s (k + 1), .row false (ints .u8 (nums (upMid a i)))]) (fun i => i ≤ a.length) 0 (Nat.zero_le _) ?_ ?_
        · exact ⟨[some 0, some 1], rfl, by simp, by simp [setsA, keepA, SWeak, AWeak], by simp [HWeak, BWeak, SWeak, AWeak, upMid]⟩
        · intro i hi
          have ml := upMid_length hi
          have nl := @nums_length (upMid a i)
          simp only [awK, Nat.reduceMod, Nat.reduceDiv, reduceIte]
          rcases Nat.lt_or_ge i a.length with h | h
          · have mg := upMid_get h
            have fs := upMid_set h
            have fb := upB_nat (a.getD i 0)
            have fe := upMid_same h
            have hb : (a.getD i 0).toNat < 256 := (a.getD i 0).toNat_lt
            by_cases h1 : 97 ≤ (a.getD i 0).toNat ∧ (a.getD i 0).toNat ≤ 122
            · rw [if_pos h1] at fb
              obtain ⟨h1, h2⟩ := h1
              have hs1 : (nums (upMid a i)).set i (((a.getD i 0).toNat : Int) - 32) = nums (upMid a (i + 1)) := by
                rw [← fs, ← nums_set, fb]; congr 1; omega
              simp (config := { maxSteps := 1000000 }) (disch := ((try simp only [awL]); omega)) only [nextC_more, nextC_over, bs_size, bs_extract, bs_toList, bs_append, byteAt_bs, bs_cells, nums_length, nums_getD, nl, ml, mg, hs1, ↓awU, awV, awF, ofVal, ofVal0, isShift, aggK, forall_const, ↓reduceIte, ↓reduceDIte, ↓purePost, combine, idsA, cellsA, numsOf, srcA, calleeA, refsA, isScalar, scalarD, scalar0, AV.one, putL, unfA, implies_true, IntKind.signed, Nat.reduceAdd, Nat.reduceSub, Nat.reduceMul, Nat.reducePow, Nat.reduceDiv, Nat.reduceMod, Int.reduceAdd, Int.reduceSub, Int.reduceMul, Int.reducePow, Int.reduceNeg, Int.reduceToNat, Int.reduceLT, Int.reduceLE, Nat.reduceEqDiff, sidsB, Nat.reduceBEq, keyKD, isIntK, aggD, aggL, eqKs]
              first
              | exact ⟨i + 1, h, by simp only; omega, ⟨[some 0, some 1], rfl, by simp, by simp [setsA, keepA, SWeak, AWeak], by simp [HWeak, BWeak, SWeak, AWeak]⟩⟩
              | exact ⟨by rfl, i + 1, h, by simp only; omega, ⟨[some 0, some 1], rfl, by simp, by simp [setsA, keepA, SWeak, AWeak], by simp [HWeak, BWeak, SWeak, AWeak]⟩⟩
              | trace_state
            · rw [if_neg h1] at fb
              have e := fe (UInt8.toNat_inj.1 fb)
              rcases (by omega : (a.getD i 0).toNat < 97 ∨ 122 < (a.getD i 0).toNat) with h2 | h2
              · simp (config := { maxSteps := 1000000 }) (disch := ((try simp only [awL]); omega)) only [nextC_more, nextC_over, bs_size, bs_extract, bs_toList, bs_append, byteAt_bs, bs_cells, nums_length, nums_getD, nl, ml, mg, ↓awU, awV, awF, ofVal, ofVal0, isShift, aggK, forall_const, ↓reduceIte, ↓reduceDIte, ↓purePost, combine, idsA, cellsA, numsOf, srcA, calleeA, refsA, isScalar, scalarD, scalar0, AV.one, putL, unfA, implies_true, IntKind.signed, Nat.reduceAdd, Nat.reduceSub, Nat.reduceMul, Nat.reducePow, Nat.reduceDiv, Nat.reduceMod, Int.reduceAdd, Int.reduceSub, Int.reduceMul, Int.reducePow, Int.reduceNeg, Int.reduceToNat, Int.reduceLT, Int.reduceLE, Nat.reduceEqDiff, sidsB, Nat.reduceBEq, keyKD, isIntK, aggD, aggL, eqKs]
                first
                | exact ⟨i + 1, h, by simp only; omega, ⟨[some 0, some 1], rfl, by simp, by simp [setsA, keepA, SWeak, AWeak], by simp [HWeak, BWeak, SWeak, AWeak, e]⟩⟩
                | exact ⟨by rfl, i + 1, h, by simp only; omega, ⟨[some 0, some 1], rfl, by simp, by simp [setsA, keepA, SWeak, AWeak], by simp [HWeak, BWeak, SWeak, AWeak, e]⟩⟩
                | trace_state
              · simp (config := { maxSteps := 1000000 }) (disch := ((try simp only [awL]); omega)) only [nextC_more, nextC_over, bs_size, bs_extract, bs_toList, bs_append, byteAt_bs, bs_cells, nums_length, nums_getD, nl, ml, mg, ↓awU, awV, awF, ofVal, ofVal0, isShift, aggK, forall_const, ↓reduceIte, ↓reduceDIte, ↓purePost, combine, idsA, cellsA, numsOf, srcA, calleeA, refsA, isScalar, scalarD, scalar0, AV.one, putL, unfA, implies_true, IntKind.signed, Nat.reduceAdd, Nat.reduceSub, Nat.reduceMul, Nat.reducePow, Nat.reduceDiv, Nat.reduceMod, Int.reduceAdd, Int.reduceSub, Int.reduceMul, Int.reducePow, Int.reduceNeg, Int.reduceToNat, Int.reduceLT, Int.reduceLE, Nat.reduceEqDiff, sidsB, Nat.reduceBEq, keyKD, isIntK, aggD, aggL, eqKs]
                first
                | exact ⟨i + 1, h, by simp only; omega, ⟨[some 0, some 1], rfl, by simp, by simp [setsA, keepA, SWeak, AWeak], by simp [HWeak, BWeak, SWeak, AWeak, e]⟩⟩
                | exact ⟨by rfl, i + 1, h, by simp only; omega, ⟨[some 0, some 1], rfl, by simp, by simp [setsA, keepA, SWeak, AWeak], by simp [HWeak, BWeak, SWeak, AWeak, e]⟩⟩
                | trace_state
          · obtain rfl : i = a.length := by omega
            have em : upMid a a.length = a.map upB := by simp [upMid]
            have eml : (a.map upB).length = a.length := by simp
            rw [em] at nl ⊢
            have htk : (nums (a.map upB)).take a.length = nums (a.map upB) := List.take_of_length_le (by omega)
            simp (config := { maxSteps := 1000000 }) (disch := ((try simp only [awL]); omega)) only [nextC_more, nextC_over, bs_size, bs_extract, bs_toList, bs_append, byteAt_bs, bs_cells, nums_length, nums_getD, ↓awU, awV, awF, ofVal, ofVal0, isShift, aggK, forall_const, ↓reduceIte, ↓reduceDIte, ↓purePost, combine, idsA, cellsA, numsOf, srcA, calleeA, refsA, isScalar, scalarD, scalar0, AV.one, putL, unfA, implies_true, IntKind.signed, Nat.reduceAdd, Nat.reduceSub, Nat.reduceMul, Nat.reducePow, Nat.reduceDiv, Nat.reduceMod, Int.reduceAdd, Int.reduceSub, Int.reduceMul, Int.reducePow, Int.reduceNeg, Int.reduceToNat, Int.reduceLT, Int.reduceLE, Nat.reduceEqDiff, sidsB, Nat.reduceBEq, keyKD, isIntK, aggD, aggL, eqKs]
            refine CallC.of k1 (by rfl) ?_
            simp (config := { maxSteps := 1000000 }) (disch := ((try simp only [awL]); omega)) only [nextC_more, nextC_over, bs_size, bs_extract, bs_toList, bs_append, byteAt_bs, bs_cells, nums_length, nums_getD, nl, eml, numsOf_ints, htk, strOfNums_nums, ↓awU, awV, awF, ofVal, ofVal0, isShift, aggK, forall_const, ↓reduceIte, ↓reduceDIte, ↓purePost, combine, idsA, cellsA, numsOf, srcA, calleeA, refsA, isScalar, scalarD, scalar0, AV.one, putL, unfA, implies_true, IntKind.signed, Nat.reduceAdd, Nat.reduceSub, Nat.reduceMul, Nat.reducePow, Nat.reduceDiv, Nat.reduceMod, Int.reduceAdd, Int.reduceSub, Int.reduceMul, Int.reducePow, Int.reduceNeg, Int.reduceToNat, Int.reduceLT, Int.reduceLE, Nat.reduceEqDiff, sidsB, Nat.reduceBEq, keyKD, isIntK, aggD, aggL, eqKs]
            refine CallC.of k2 (by rfl) ?_
            simp (config := { maxSteps := 1000000 }) (disch := ((try simp only [awL]); omega)) only [nextC_more, nextC_over, bs_size, bs_extract, bs_toList, bs_append, byteAt_bs, bs_cells, nums_length, nums_getD, nl, eml, numsOf_ints, htk, strOfNums_nums, ↓awU, awV, awF, ofVal, ofVal0, isShift, aggK, forall_const, ↓reduceIte, ↓reduceDIte, ↓purePost, combine, idsA, cellsA, numsOf, srcA, calleeA, refsA, isScalar, scalarD, scalar0, AV.one, putL, unfA, implies_true, IntKind.signed, Nat.reduceAdd, Nat.reduceSub, Nat.reduceMul, Nat.reducePow, Nat.reduceDiv, Nat.reduceMod, Int.reduceAdd, Int.reduceSub, Int.reduceMul, Int.reducePow, Int.reduceNeg, Int.reduceToNat, Int.reduceLT, Int.reduceLE, Nat.reduceEqDiff, sidsB, Nat.reduceBEq, keyKD, isIntK, aggD, aggL, eqKs]
            refine CallC.of k3 (by rfl) ?_
            simp (config := { maxSteps := 1000000 }) (disch := ((try simp only [awL]); omega)) only [nextC_more, nextC_over, bs_size, bs_extract, bs_toList, bs_append, byteAt_bs, bs_cells, nums_length, nums_getD, nl, eml, numsOf_ints, htk, strOfNums_nums, ↓awU, awV, awF, ofVal, ofVal0, isShift, aggK, forall_const, ↓reduceIte, ↓reduceDIte, ↓purePost, combine, idsA, cellsA, numsOf, srcA, calleeA, refsA, isScalar, scalarD, scalar0, AV.one, putL, unfA, implies_true, IntKind.signed, Nat.reduceAdd, Nat.reduceSub, Nat.reduceMul, Nat.reducePow, Nat.reduceDiv, Nat.reduceMod, Int.reduceAdd, Int.reduceSub, Int.reduceMul, Int.reducePow, Int.reduceNeg, Int.reduceToNat, Int.reduceLT, Int.reduceLE, Nat.reduceEqDiff, sidsB, Nat.reduceBEq, keyKD, isIntK, aggD, aggL, eqKs]
            refine CallC.of k4 (by rfl) ?_
            simp (config := { maxSteps := 1000000 }) (disch := ((try simp only [awL]); omega)) only [nextC_more, nextC_over, bs_size, bs_extract, bs_toList, bs_append, byteAt_bs, bs_cells, nums_length, nums_getD, nl, eml, numsOf_ints, htk, strOfNums_nums, ↓awU, awV, awF, ofVal, ofVal0, isShift, aggK, forall_const, ↓reduceIte, ↓reduceDIte, ↓purePost, combine, idsA, cellsA, numsOf, srcA, calleeA, refsA, isScalar, scalarD, scalar0, AV.one, putL, unfA, implies_true, IntKind.signed, Nat.reduceAdd, Nat.reduceSub, Nat.reduceMul, Nat.reducePow, Nat.reduceDiv, Nat.reduceMod, Int.reduceAdd, Int.reduceSub, Int.reduceMul, Int.reducePow, Int.reduceNeg, Int.reduceToNat, Int.reduceLT, Int.reduceLE, Nat.reduceEqDiff, sidsB, Nat.reduceBEq, keyKD, isIntK, aggD, aggL, eqKs]
end Go.Proofs.Ytpnhbjabnnibcaa

namespace Go.Proofs.Ytpnhbjabnnibcaa
open Go Go.Proofs Go.Abs
variable {G : Globals}
/-! DistanceSteps: the contract. -/
def prs : List (List UInt8 × List UInt8) → List D
  | [] => []
  | p :: r => S p.1 :: S p.2 :: prs r
theorem prs_length : ∀ l : List (List UInt8 × List UInt8), (prs l).length = 2 * l.length
  | [] => rfl
  | p :: r => by simp only [prs, List.length_cons, prs_length r]; omega
theorem prs_get {l : List (List UInt8 × List UInt8)} {k : Nat} (h : k < l.length) : ((prs l).drop (k * 2)).take 2 = [S (l.getD k ([], [])).1, S (l.getD k ([], [])).2] := by
  induction l generalizing k with
  | nil => cases h
  | cons p r ih =>
    cases k with
    | zero => rfl
    | succ k =>
      have := ih (k := k) (by simpa using h)
      rw [show (k + 1) * 2 = k * 2 + 1 + 1 by omega]
      simpa [prs] using this
def rus : List RuV → List D
  | [] => []
  | r :: l => .int .i64 r.kind :: .int .i64 r.lim :: .int .i64 r.num :: .int .i64 r.den :: rus l
theorem rus_length : ∀ l : List RuV, (rus l).length = 4 * l.length
  | [] => rfl
  | p :: r => by simp only [rus, List.length_cons, rus_length r]; omega
theorem rus_get {l : List RuV} {k : Nat} {d : RuV} (h : k < l.length) : ((rus l).drop (k * 4)).take 4 = [.int .i64 (l.getD k d).kind, .int .i64 (l.getD k d).lim, .int .i64 (l.getD k d).num, .int .i64 (l.getD k d).den] := by
  induction l generalizing k with
  | nil => cases h
  | cons p r ih =>
    cases k with
    | zero => rfl
    | succ k =>
      have := ih (k := k) (by simpa using h)
      rw [show (k + 1) * 4 = k * 4 + 1 + 1 + 1 + 1 by omega]
      simpa [rus] using this
def sls : List (List (List UInt8) × List (List UInt8)) → List D
  | [] => []
  | p :: r => Ss p.1 false :: Ss p.2 false :: sls r
theorem sls_length : ∀ l : List (List (List UInt8) × List (List UInt8)), (sls l).length = 2 * l.length
  | [] => rfl
  | p :: r => by simp only [sls, List.length_cons, sls_length r]; omega
theorem sls_get {l : List (List (List UInt8) × List (List UInt8))} {k : Nat} (h : k < l.length) : ((sls l).drop (k * 2)).take 2 = [Ss (l.getD k ([], [])).1 false, Ss (l.getD k ([], [])).2 false] := by
  induction l generalizing k with
  | nil => cases h
  | cons p r ih =>
    cases k with
    | zero => rfl
    | succ k =>
      have := ih (k := k) (by simpa using h)
      rw [show (k + 1) * 2 = k * 2 + 1 + 1 by omega]
      simpa [sls] using this
theorem getD_mem {α : Type} {l : List α} {k : Nat} {d : α} (h : k < l.length) : l.getD k d ∈ l := by
  rw [List.getD_eq_getElem?_getD, List.getElem?_eq_getElem h]; exact List.getElem_mem h
theorem textsM_short {t : List Int} {k n : Nat} : ∀ x ∈ textsM t k n, x.length ≤ 8 := by
  intro x hx
  simp only [textsM, List.mem_map] at hx
  obtain ⟨i, _, rfl⟩ := hx
  exact (words_gd _ (wordM_mem t _)).2
set_option maxHeartbeats 32000000 in
set_option maxRecDepth 100000 in
theorem steps_law (t : List Int) (ht : OkS t) (hl : t.length ≤ 9223372036854775807) (a : List UInt8) (ha : a.length ≤ 9223372036854775807) (b : List UInt8) (hb : b.length ≤ 9223372036854775807) (kind lim num den : Int)
    (hk1 : -9223372036854775808 ≤ kind) (hk2 : kind ≤ 9223372036854775807) (hl1 : -9223372036854775808 ≤ lim) (hl2 : lim ≤ 9223372036854775807) (hm1 : -9223372036854775808 ≤ num) (hm2 : num ≤ 9223372036854775807) (hd1 : -9223372036854775808 ≤ den) (hd2 : den ≤ 9223372036854775807)
    (u : Int) (hu1 : -9223372036854775808 ≤ u) (hu2 : u ≤ 9223372036854775807) (x : List (List UInt8)) (hx : x.length ≤ 9223372036854775807) (y : List (List UInt8)) (hy : y.length ≤ 9223372036854775807) :
    Ctr Try.prog G 6 [.d (.sl t.length false (ints .u8 t)), .d (S a), .d (S b), .d (Ru kind lim num den), .d (.int .i64 u), .d (Ss x false), .d (Ss y false)] [] (.d (.bool true)) [] := by
  refine Ctr.pure (M := M0) hmix Try.func6 rfl go6 ?_
  have hmm := ht.take
  simp (config := { maxSteps := 1000000 }) (disch := ((try simp only [awL]); omega)) only [nextC_more, nextC_over, bs_size, bs_extract, bs_toList, bs_append, byteAt_bs, bs_cells, nums_length, nums_getD, Try.f6, ↓awU, awV, awF, ofVal, ofVal0, isShift, aggK, forall_const, ↓reduceIte, ↓reduceDIte, ↓purePost, combine, idsA, cellsA, numsOf, srcA, calleeA, refsA, isScalar, scalarD, scalar0, AV.one, putL, unfA, implies_true, IntKind.signed, Nat.reduceAdd, Nat.reduceSub, Nat.reduceMul, Nat.reducePow, Nat.reduceDiv, Nat.reduceMod, Int.reduceAdd, Int.reduceSub, Int.reduceMul, Int.reducePow, Int.reduceNeg, Int.reduceToNat, Int.reduceLT, Int.reduceLE, Nat.reduceEqDiff, sidsB, Nat.reduceBEq, keyKD, isIntK, aggD, aggL, eqKs]
  refine CallC.pure sane_spec ?_
  rcases Nat.lt_or_ge 40 a.length with h1 | h1
  · simp (config := { maxSteps := 1000000 }) (disch := ((try simp only [awL]); omega)) only [nextC_more, nextC_over, bs_size, bs_extract, bs_toList, bs_append, byteAt_bs, bs_cells, nums_length, nums_getD, ↓awU, awV, awF, ofVal, ofVal0, isShift, aggK, forall_const, ↓reduceIte, ↓reduceDIte, ↓purePost, combine, idsA, cellsA, numsOf, srcA, calleeA, refsA, isScalar, scalarD, scalar0, AV.one, putL, unfA, implies_true, IntKind.signed, Nat.reduceAdd, Nat.reduceSub, Nat.reduceMul, Nat.reducePow, Nat.reduceDiv, Nat.reduceMod, Int.reduceAdd, Int.reduceSub, Int.reduceMul, Int.reducePow, Int.reduceNeg, Int.reduceToNat, Int.reduceLT, Int.reduceLE, Nat.reduceEqDiff, sidsB, Nat.reduceBEq, keyKD, isIntK, aggD, aggL, eqKs]
    first | done | rfl
  rcases Nat.lt_or_ge 40 b.length with h2 | h2
  · simp (config := { maxSteps := 1000000 }) (disch := ((try simp only [awL]); omega)) only [nextC_more, nextC_over, bs_size, bs_extract, bs_toList, bs_append, byteAt_bs, bs_cells, nums_length, nums_getD, ↓awU, awV, awF, ofVal, ofVal0, isShift, aggK, forall_const, ↓reduceIte, ↓reduceDIte, ↓purePost, combine, idsA, cellsA, numsOf, srcA, calleeA, refsA, isScalar, scalarD, scalar0, AV.one, putL, unfA, implies_true, IntKind.signed, Nat.reduceAdd, Nat.reduceSub, Nat.reduceMul, Nat.reducePow, Nat.reduceDiv, Nat.reduceMod, Int.reduceAdd, Int.reduceSub, Int.reduceMul, Int.reducePow, Int.reduceNeg, Int.reduceToNat, Int.reduceLT, Int.reduceLE, Nat.reduceEqDiff, sidsB, Nat.reduceBEq, keyKD, isIntK, aggD, aggL, eqKs]
    first | done | rfl
  rcases Nat.lt_or_ge 12 x.length with h3 | h3
  · simp (config := { maxSteps := 1000000 }) (disch := ((try simp only [awL]); omega)) only [nextC_more, nextC_over, bs_size, bs_extract, bs_toList, bs_append, byteAt_bs, bs_cells, nums_length, nums_getD, ↓awU, awV, awF, ofVal, ofVal0, isShift, aggK, forall_const, ↓reduceIte, ↓reduceDIte, ↓purePost, combine, idsA, cellsA, numsOf, srcA, calleeA, refsA, isScalar, scalarD, scalar0, AV.one, putL, unfA, implies_true, IntKind.signed, Nat.reduceAdd, Nat.reduceSub, Nat.reduceMul, Nat.reducePow, Nat.reduceDiv, Nat.reduceMod, Int.reduceAdd, Int.reduceSub, Int.reduceMul, Int.reducePow, Int.reduceNeg, Int.reduceToNat, Int.reduceLT, Int.reduceLE, Nat.reduceEqDiff, sidsB, Nat.reduceBEq, keyKD, isIntK, aggD, aggL, eqKs]
    first | done | rfl
  rcases Nat.lt_or_ge 12 y.length with h4 | h4
  · simp (config := { maxSteps := 1000000 }) (disch := ((try simp only [awL]); omega)) only [nextC_more, nextC_over, bs_size, bs_extract, bs_toList, bs_append, byteAt_bs, bs_cells, nums_length, nums_getD, ↓awU, awV, awF, ofVal, ofVal0, isShift, aggK, forall_const, ↓reduceIte, ↓reduceDIte, ↓purePost, combine, idsA, cellsA, numsOf, srcA, calleeA, refsA, isScalar, scalarD, scalar0, AV.one, putL, unfA, implies_true, IntKind.signed, Nat.reduceAdd, Nat.reduceSub, Nat.reduceMul, Nat.reducePow, Nat.reduceDiv, Nat.reduceMod, Int.reduceAdd, Int.reduceSub, Int.reduceMul, Int.reducePow, Int.reduceNeg, Int.reduceToNat, Int.reduceLT, Int.reduceLE, Nat.reduceEqDiff, sidsB, Nat.reduceBEq, keyKD, isIntK, aggD, aggL, eqKs]
    first | done | rfl
  simp (config := { maxSteps := 1000000 }) (disch := ((try simp only [awL]); omega)) only [nextC_more, nextC_over, bs_size, bs_extract, bs_toList, bs_append, byteAt_bs, bs_cells, nums_length, nums_getD, ↓awU, awV, awF, ofVal, ofVal0, isShift, aggK, forall_const, ↓reduceIte, ↓reduceDIte, ↓purePost, combine, idsA, cellsA, numsOf, srcA, calleeA, refsA, isScalar, scalarD, scalar0, AV.one, putL, unfA, implies_true, IntKind.signed, Nat.reduceAdd, Nat.reduceSub, Nat.reduceMul, Nat.reducePow, Nat.reduceDiv, Nat.reduceMod, Int.reduceAdd, Int.reduceSub, Int.reduceMul, Int.reducePow, Int.reduceNeg, Int.reduceToNat, Int.reduceLT, Int.reduceLE, Nat.reduceEqDiff, sidsB, Nat.reduceBEq, keyKD, isIntK, aggD, aggL, eqKs]
  refine CallC.by (new_spec t hl) (by rfl) (by rfl) (Nat.zero_le _) ?_
  generalize t.take 300 = s at *
  simp (config := { maxSteps := 1000000 }) (disch := ((try simp only [awL]); omega)) only [nextC_more, nextC_over, bs_size, bs_extract, bs_toList, bs_append, byteAt_bs, bs_cells, nums_length, nums_getD, ↓awU, awV, awF, ofVal, ofVal0, isShift, aggK, forall_const, ↓reduceIte, ↓reduceDIte, ↓purePost, combine, idsA, cellsA, numsOf, srcA, calleeA, refsA, isScalar, scalarD, scalar0, AV.one, putL, unfA, implies_true, IntKind.signed, Nat.reduceAdd, Nat.reduceSub, Nat.reduceMul, Nat.reducePow, Nat.reduceDiv, Nat.reduceMod, Int.reduceAdd, Int.reduceSub, Int.reduceMul, Int.reducePow, Int.reduceNeg, Int.reduceToNat, Int.reduceLT, Int.reduceLE, Nat.reduceEqDiff, sidsB, Nat.reduceBEq, keyKD, isIntK, aggD, aggL, eqKs]
  refine CallC.by (word_spec s 0 hmm) (by rfl) (by rfl) (Nat.le_refl _) ?_
  obtain ⟨g_w1, l_w1⟩ := wordR_ok s 0
  generalize wordR s 0 = w1 at *
  generalize wordK s 0 = q at *
  simp (config := { maxSteps := 1000000 }) (disch := ((try simp only [awL]); omega)) only [nextC_more, nextC_over, bs_size, bs_extract, bs_toList, bs_append, byteAt_bs, bs_cells, nums_length, nums_getD, ↓awU, awV, awF, ofVal, ofVal0, isShift, aggK, forall_const, ↓reduceIte, ↓reduceDIte, ↓purePost, combine, idsA, cellsA, numsOf, srcA, calleeA, refsA, isScalar, scalarD, scalar0, AV.one, putL, unfA, implies_true, IntKind.signed, Nat.reduceAdd, Nat.reduceSub, Nat.reduceMul, Nat.reducePow, Nat.reduceDiv, Nat.reduceMod, Int.reduceAdd, Int.reduceSub, Int.reduceMul, Int.reducePow, Int.reduceNeg, Int.reduceToNat, Int.reduceLT, Int.reduceLE, Nat.reduceEqDiff, sidsB, Nat.reduceBEq, keyKD, isIntK, aggD, aggL, eqKs]
  refine CallC.by (word_spec s q hmm) (by rfl) (by rfl) (Nat.le_refl _) ?_
  obtain ⟨g_w2, l_w2⟩ := wordR_ok s q
  generalize wordR s q = w2 at *
  generalize wordK s q = q at *
  simp (config := { maxSteps := 1000000 }) (disch := ((try simp only [awL]); omega)) only [nextC_more, nextC_over, bs_size, bs_extract, bs_toList, bs_append, byteAt_bs, bs_cells, nums_length, nums_getD, ↓awU, awV, awF, ofVal, ofVal0, isShift, aggK, forall_const, ↓reduceIte, ↓reduceDIte, ↓purePost, combine, idsA, cellsA, numsOf, srcA, calleeA, refsA, isScalar, scalarD, scalar0, AV.one, putL, unfA, implies_true, IntKind.signed, Nat.reduceAdd, Nat.reduceSub, Nat.reduceMul, Nat.reducePow, Nat.reduceDiv, Nat.reduceMod, Int.reduceAdd, Int.reduceSub, Int.reduceMul, Int.reducePow, Int.reduceNeg, Int.reduceToNat, Int.reduceLT, Int.reduceLE, Nat.reduceEqDiff, sidsB, Nat.reduceBEq, keyKD, isIntK, aggD, aggL, eqKs]
  refine CallC.by (word_spec s q hmm) (by rfl) (by rfl) (Nat.le_refl _) ?_
  obtain ⟨g_w3, l_w3⟩ := wordR_ok s q
  generalize wordR s q = w3 at *
  generalize wordK s q = q at *
  simp (config := { maxSteps := 1000000 }) (disch := ((try simp only [awL]); omega)) only [nextC_more, nextC_over, bs_size, bs_extract, bs_toList, bs_append, byteAt_bs, bs_cells, nums_length, nums_getD, ↓awU, awV, awF, ofVal, ofVal0, isShift, aggK, forall_const, ↓reduceIte, ↓reduceDIte, ↓purePost, combine, idsA, cellsA, numsOf, srcA, calleeA, refsA, isScalar, scalarD, scalar0, AV.one, putL, unfA, implies_true, IntKind.signed, Nat.reduceAdd, Nat.reduceSub, Nat.reduceMul, Nat.reducePow, Nat.reduceDiv, Nat.reduceMod, Int.reduceAdd, Int.reduceSub, Int.reduceMul, Int.reducePow, Int.reduceNeg, Int.reduceToNat, Int.reduceLT, Int.reduceLE, Nat.reduceEqDiff, sidsB, Nat.reduceBEq, keyKD, isIntK, aggD, aggL, eqKs]
  obtain ⟨ps, hps⟩ : ∃ ps : List (List UInt8 × List UInt8), ps = [(a, b), (w1, w2), (a, w3), (a, a ++ [120]), ([], a)] := ⟨_, rfl⟩
  have hpl : ps.length = 5 := by rw [hps]; rfl
  have hpd : ∀ p ∈ ps, p.1.length ≤ 41 ∧ p.2.length ≤ 41 := by
    intro p hp
    rw [hps] at hp
    simp only [List.mem_cons, List.not_mem_nil, or_false] at hp
    rcases hp with rfl | rfl | rfl | rfl | rfl
    · exact ⟨by simp only; omega, by simp only; omega⟩
    · exact ⟨by simp only; omega, by simp only; omega⟩
    · exact ⟨by simp only; omega, by simp only; omega⟩
    · exact ⟨by simp only; omega, by simp only [List.length_append, List.length_cons, List.length_nil]; omega⟩
    · exact ⟨by simp, by simp only; omega⟩
  have hpr : prs ps = [S a, S b, S w1, S w2, S a, S w3, S a, S (a ++ [120]), S [], S a] := by rw [hps]; rfl
  obtain ⟨ls, hls⟩ : ∃ ls : List Int, ls = [u, 0, 1, 2, 3] := ⟨_, rfl⟩
  have hll : ls.length = 5 := by rw [hls]; rfl
  have hlI : ints .i64 ls = [.int .i64 u, .int .i64 0, .int .i64 1, .int .i64 2, .int .i64 3] := by rw [hls]; rfl
  have hlr : ∀ v ∈ ls, -9223372036854775808 ≤ v ∧ v ≤ 9223372036854775807 := by
    intro v hv
    rw [hls] at hv
    simp only [List.mem_cons, List.not_mem_nil, or_false] at hv
    rcases hv with rfl | rfl | rfl | rfl | rfl <;> omega
  have pl := prs_length ps
  have nl := @ints_length .i64 ls
  refine LoopC.fr 3626777458843887524152432 (α := Nat × Nat) (fun x => 5 - x.1) (fun x => [(82, .d (.int .i64 x.1))]) (fun x => [.box [.d (.int .i64 kind), .d (.int .i64 lim), .d (.int .i64 num), .d (.int .i64 den)], DiceM s x.2, .row false (prs ps)]) (fun x => x.1 ≤ 5) (0, q) (by simp only; omega) ?_ ?_
  · exact ⟨[some 0, some 1, some 2], rfl, by simp, by simp [setsA, keepA, SWeak, AWeak], by simp [HWeak, BWeak, SWeak, AWeak, hpr, S]⟩
  · rintro ⟨k, q⟩ hk
    simp only at hk
    simp only [awK, Nat.reduceMod, Nat.reduceDiv, reduceIte]
    rcases Nat.lt_or_ge k 5 with h | h
    · have pg := prs_get (l := ps) (k := k) (by omega)
      have pd := hpd _ (getD_mem (l := ps) (k := k) (d := ([], [])) (by omega))
      generalize ps.getD k ([], []) = p at *
      obtain ⟨c, d⟩ := p
      simp only at pd pg
      obtain ⟨pd1, pd2⟩ := pd
      simp (config := { maxSteps := 1000000 }) (disch := ((try simp only [awL]); omega)) only [nextC_more, nextC_over, bs_size, bs_extract, bs_toList, bs_append, byteAt_bs, bs_cells, nums_length, nums_getD, pl, hpl, pg, ↓awU, awV, awF, ofVal, ofVal0, isShift, aggK, forall_const, ↓reduceIte, ↓reduceDIte, ↓purePost, combine, idsA, cellsA, numsOf, srcA, calleeA, refsA, isScalar, scalarD, scalar0, AV.one, putL, unfA, implies_true, IntKind.signed, Nat.reduceAdd, Nat.reduceSub, Nat.reduceMul, Nat.reducePow, Nat.reduceDiv, Nat.reduceMod, Int.reduceAdd, Int.reduceSub, Int.reduceMul, Int.reducePow, Int.reduceNeg, Int.reduceToNat, Int.reduceLT, Int.reduceLE, Nat.reduceEqDiff, sidsB, Nat.reduceBEq, keyKD, isIntK, aggD, aggL, eqKs]
      refine CallC.pure (edit_spec c d (by omega) (by omega)) ?_
      simp (config := { maxSteps := 1000000 }) (disch := ((try simp only [awL]); omega)) only [nextC_more, nextC_over, bs_size, bs_extract, bs_toList, bs_append, byteAt_bs, bs_cells, nums_length, nums_getD, ↓awU, awV, awF, ofVal, ofVal0, isShift, aggK, forall_const, ↓reduceIte, ↓reduceDIte, ↓purePost, combine, idsA, cellsA, numsOf, srcA, calleeA, refsA, isScalar, scalarD, scalar0, AV.one, putL, unfA, implies_true, IntKind.signed, Nat.reduceAdd, Nat.reduceSub, Nat.reduceMul, Nat.reducePow, Nat.reduceDiv, Nat.reduceMod, Int.reduceAdd, Int.reduceSub, Int.reduceMul, Int.reducePow, Int.reduceNeg, Int.reduceToNat, Int.reduceLT, Int.reduceLE, Nat.reduceEqDiff, sidsB, Nat.reduceBEq, keyKD, isIntK, aggD, aggL, eqKs]
      refine CallC.pure (redit_spec c d (by omega) (by omega)) ?_
      simp (config := { maxSteps := 1000000 }) (disch := ((try simp only [awL]); omega)) only [nextC_more, nextC_over, bs_size, bs_extract, bs_toList, bs_append, byteAt_bs, bs_cells, nums_length, nums_getD, ↓awU, awV, awF, ofVal, ofVal0, isShift, aggK, forall_const, ↓reduceIte, ↓reduceDIte, ↓purePost, combine, idsA, cellsA, numsOf, srcA, calleeA, refsA, isScalar, scalarD, scalar0, AV.one, putL, unfA, implies_true, IntKind.signed, Nat.reduceAdd, Nat.reduceSub, Nat.reduceMul, Nat.reducePow, Nat.reduceDiv, Nat.reduceMod, Int.reduceAdd, Int.reduceSub, Int.reduceMul, Int.reducePow, Int.reduceNeg, Int.reduceToNat, Int.reduceLT, Int.reduceLE, Nat.reduceEqDiff, sidsB, Nat.reduceBEq, keyKD, isIntK, aggD, aggL, eqKs]
      refine ⟨by rfl, ?_⟩
      refine LoopC.fr 950746412651909353526750512240 (α := Nat) (fun i => 5 - i) (fun i => [(100, .d (.int .i64 i))]) (fun _ => [.box [.d (.int .i64 kind), .d (.int .i64 lim), .d (.int .i64 num), .d (.int .i64 den)], DiceM s q, .row false (prs ps), .box [.d (S c), .d (S d)], .row false (ints .i64 ls)]) (fun i => i ≤ 5) 0 (Nat.zero_le _) ?_ ?_
      · exact ⟨[some 0, some 1, some 2, some 3, some 4], rfl, by simp, by simp [setsA, keepA, SWeak, AWeak], by simp [HWeak, BWeak, SWeak, AWeak, hlI]⟩
      · intro i hi
        simp only [awK, Nat.reduceMod, Nat.reduceDiv, reduceIte]
        rcases Nat.lt_or_ge i 5 with h2 | h2
        · have vr := hlr _ (getD_mem (l := ls) (k := i) (d := 0) (by omega))
          generalize hv : ls.getD i 0 = v at *
          obtain ⟨vr1, vr2⟩ := vr
          have k1 := within_spec (G := G) c d v (by omega) (by omega) vr1 vr2
          have k2 := rwithin_spec (G := G) c d v (by omega) (by omega) vr1 vr2
          obtain ⟨wn, wo, hw⟩ : ∃ wn wo, withD c d v = .tup [.int .i64 wn, .bool wo] := ⟨_, _, rfl⟩
          rw [hw] at k1 k2
          simp (config := { maxSteps := 1000000 }) (disch := ((try simp only [awL]); omega)) only [nextC_more, nextC_over, bs_size, bs_extract, bs_toList, bs_append, byteAt_bs, bs_cells, nums_length, nums_getD, nl, hll, hv, ↓awU, awV, awF, ofVal, ofVal0, isShift, aggK, forall_const, ↓reduceIte, ↓reduceDIte, ↓purePost, combine, idsA, cellsA, numsOf, srcA, calleeA, refsA, isScalar, scalarD, scalar0, AV.one, putL, unfA, implies_true, IntKind.signed, Nat.reduceAdd, Nat.reduceSub, Nat.reduceMul, Nat.reducePow, Nat.reduceDiv, Nat.reduceMod, Int.reduceAdd, Int.reduceSub, Int.reduceMul, Int.reducePow, Int.reduceNeg, Int.reduceToNat, Int.reduceLT, Int.reduceLE, Nat.reduceEqDiff, sidsB, Nat.reduceBEq, keyKD, isIntK, aggD, aggL, eqKs]
          refine CallC.pure k1 ?_
          simp (config := { maxSteps := 1000000 }) (disch := ((try simp only [awL]); omega)) only [nextC_more, nextC_over, bs_size, bs_extract, bs_toList, bs_append, byteAt_bs, bs_cells, nums_length, nums_getD, ↓awU, awV, awF, ofVal, ofVal0, isShift, aggK, forall_const, ↓reduceIte, ↓reduceDIte, ↓purePost, combine, idsA, cellsA, numsOf, srcA, calleeA, refsA, isScalar, scalarD, scalar0, AV.one, putL, unfA, implies_true, IntKind.signed, Nat.reduceAdd, Nat.reduceSub, Nat.reduceMul, Nat.reducePow, Nat.reduceDiv, Nat.reduceMod, Int.reduceAdd, Int.reduceSub, Int.reduceMul, Int.reducePow, Int.reduceNeg, Int.reduceToNat, Int.reduceLT, Int.reduceLE, Nat.reduceEqDiff, sidsB, Nat.reduceBEq, keyKD, isIntK, aggD, aggL, eqKs]
          refine CallC.pure k2 ?_
          simp (config := { maxSteps := 1000000 }) (disch := ((try simp only [awL]); omega)) only [nextC_more, nextC_over, bs_size, bs_extract, bs_toList, bs_append, byteAt_bs, bs_cells, nums_length, nums_getD, ↓awU, awV, awF, ofVal, ofVal0, isShift, aggK, forall_const, ↓reduceIte, ↓reduceDIte, ↓purePost, combine, idsA, cellsA, numsOf, srcA, calleeA, refsA, isScalar, scalarD, scalar0, AV.one, putL, unfA, implies_true, IntKind.signed, Nat.reduceAdd, Nat.reduceSub, Nat.reduceMul, Nat.reducePow, Nat.reduceDiv, Nat.reduceMod, Int.reduceAdd, Int.reduceSub, Int.reduceMul, Int.reducePow, Int.reduceNeg, Int.reduceToNat, Int.reduceLT, Int.reduceLE, Nat.reduceEqDiff, sidsB, Nat.reduceBEq, keyKD, isIntK, aggD, aggL, eqKs]
          exact ⟨i + 1, h2, by simp only; omega, ⟨[some 0, some 1, some 2, some 3, some 4], rfl, by simp, by simp [setsA, keepA, SWeak, AWeak], by simp [HWeak, BWeak, SWeak, AWeak]⟩⟩
        · obtain rfl : i = 5 := by omega
          simp (config := { maxSteps := 1000000 }) (disch := ((try simp only [awL]); omega)) only [nextC_more, nextC_over, bs_size, bs_extract, bs_toList, bs_append, byteAt_bs, bs_cells, nums_length, nums_getD, nl, hll, ↓awU, awV, awF, ofVal, ofVal0, isShift, aggK, forall_const, ↓reduceIte, ↓reduceDIte, ↓purePost, combine, idsA, cellsA, numsOf, srcA, calleeA, refsA, isScalar, scalarD, scalar0, AV.one, putL, unfA, implies_true, IntKind.signed, Nat.reduceAdd, Nat.reduceSub, Nat.reduceMul, Nat.reducePow, Nat.reduceDiv, Nat.reduceMod, Int.reduceAdd, Int.reduceSub, Int.reduceMul, Int.reducePow, Int.reduceNeg, Int.reduceToNat, Int.reduceLT, Int.reduceLE, Nat.reduceEqDiff, sidsB, Nat.reduceBEq, keyKD, isIntK, aggD, aggL, eqKs]
          refine CallC.pure (toks_spec c d (by omega) (by omega)) ?_
          simp (config := { maxSteps := 1000000 }) (disch := ((try simp only [awL]); omega)) only [nextC_more, nextC_over, bs_size, bs_extract, bs_toList, bs_append, byteAt_bs, bs_cells, nums_length, nums_getD, ↓awU, awV, awF, ofVal, ofVal0, isShift, aggK, forall_const, ↓reduceIte, ↓reduceDIte, ↓purePost, combine, idsA, cellsA, numsOf, srcA, calleeA, refsA, isScalar, scalarD, scalar0, AV.one, putL, unfA, implies_true, IntKind.signed, Nat.reduceAdd, Nat.reduceSub, Nat.reduceMul, Nat.reducePow, Nat.reduceDiv, Nat.reduceMod, Int.reduceAdd, Int.reduceSub, Int.reduceMul, Int.reducePow, Int.reduceNeg, Int.reduceToNat, Int.reduceLT, Int.reduceLE, Nat.reduceEqDiff, sidsB, Nat.reduceBEq, keyKD, isIntK, aggD, aggL, eqKs]
          refine CallC.pure (rtoks_spec c d (by omega) (by omega)) ?_
          simp (config := { maxSteps := 1000000 }) (disch := ((try simp only [awL]); omega)) only [nextC_more, nextC_over, bs_size, bs_extract, bs_toList, bs_append, byteAt_bs, bs_cells, nums_length, nums_getD, ↓awU, awV, awF, ofVal, ofVal0, isShift, aggK, forall_const, ↓reduceIte, ↓reduceDIte, ↓purePost, combine, idsA, cellsA, numsOf, srcA, calleeA, refsA, isScalar, scalarD, scalar0, AV.one, putL, unfA, implies_true, IntKind.signed, Nat.reduceAdd, Nat.reduceSub, Nat.reduceMul, Nat.reducePow, Nat.reduceDiv, Nat.reduceMod, Int.reduceAdd, Int.reduceSub, Int.reduceMul, Int.reducePow, Int.reduceNeg, Int.reduceToNat, Int.reduceLT, Int.reduceLE, Nat.reduceEqDiff, sidsB, Nat.reduceBEq, keyKD, isIntK, aggD, aggL, eqKs]
          refine CallC.by (rule_spec s q hmm) (by rfl) (by rfl) (Nat.le_refl _) ?_
          generalize ruleM s q = r1 at *
          generalize ruleK s q = q2 at *
          simp (config := { maxSteps := 1000000 }) (disch := ((try simp only [awL]); omega)) only [nextC_more, nextC_over, bs_size, bs_extract, bs_toList, bs_append, byteAt_bs, bs_cells, nums_length, nums_getD, ↓awU, awV, awF, ofVal, ofVal0, isShift, aggK, forall_const, ↓reduceIte, ↓reduceDIte, ↓purePost, combine, idsA, cellsA, numsOf, srcA, calleeA, refsA, isScalar, scalarD, scalar0, AV.one, putL, unfA, implies_true, IntKind.signed, Nat.reduceAdd, Nat.reduceSub, Nat.reduceMul, Nat.reducePow, Nat.reduceDiv, Nat.reduceMod, Int.reduceAdd, Int.reduceSub, Int.reduceMul, Int.reducePow, Int.reduceNeg, Int.reduceToNat, Int.reduceLT, Int.reduceLE, Nat.reduceEqDiff, sidsB, Nat.reduceBEq, keyKD, isIntK, aggD, aggL, eqKs]
          refine CallC.by (rule_spec s q2 hmm) (by rfl) (by rfl) (Nat.le_refl _) ?_
          generalize ruleM s q2 = r2 at *
          generalize ruleK s q2 = q3 at *
          simp (config := { maxSteps := 1000000 }) (disch := ((try simp only [awL]); omega)) only [nextC_more, nextC_over, bs_size, bs_extract, bs_toList, bs_append, byteAt_bs, bs_cells, nums_length, nums_getD, ↓awU, awV, awF, ofVal, ofVal0, isShift, aggK, forall_const, ↓reduceIte, ↓reduceDIte, ↓purePost, combine, idsA, cellsA, numsOf, srcA, calleeA, refsA, isScalar, scalarD, scalar0, AV.one, putL, unfA, implies_true, IntKind.signed, Nat.reduceAdd, Nat.reduceSub, Nat.reduceMul, Nat.reducePow, Nat.reduceDiv, Nat.reduceMod, Int.reduceAdd, Int.reduceSub, Int.reduceMul, Int.reducePow, Int.reduceNeg, Int.reduceToNat, Int.reduceLT, Int.reduceLE, Nat.reduceEqDiff, sidsB, Nat.reduceBEq, keyKD, isIntK, aggD, aggL, eqKs]
          refine CallC.pure (mmod_spec kind 5 hk1 hk2 (by decide) (by decide)) ?_
          simp (config := { maxSteps := 1000000 }) (disch := ((try simp only [awL]); omega)) only [nextC_more, nextC_over, bs_size, bs_extract, bs_toList, bs_append, byteAt_bs, bs_cells, nums_length, nums_getD, ↓awU, awV, awF, ofVal, ofVal0, isShift, aggK, forall_const, ↓reduceIte, ↓reduceDIte, ↓purePost, combine, idsA, cellsA, numsOf, srcA, calleeA, refsA, isScalar, scalarD, scalar0, AV.one, putL, unfA, implies_true, IntKind.signed, Nat.reduceAdd, Nat.reduceSub, Nat.reduceMul, Nat.reducePow, Nat.reduceDiv, Nat.reduceMod, Int.reduceAdd, Int.reduceSub, Int.reduceMul, Int.reducePow, Int.reduceNeg, Int.reduceToNat, Int.reduceLT, Int.reduceLE, Nat.reduceEqDiff, sidsB, Nat.reduceBEq, keyKD, isIntK, aggD, aggL, eqKs]
          refine CallC.pure (mmod_spec lim 11 hl1 hl2 (by decide) (by decide)) ?_
          have f11 := Int.emod_lt_of_pos lim (show (0 : Int) < 11 by decide)
          have e11 := Int.emod_nonneg lim (show (11 : Int) ≠ 0 by decide)
          simp (config := { maxSteps := 1000000 }) (disch := ((try simp only [awL]); omega)) only [nextC_more, nextC_over, bs_size, bs_extract, bs_toList, bs_append, byteAt_bs, bs_cells, nums_length, nums_getD, ↓awU, awV, awF, ofVal, ofVal0, isShift, aggK, forall_const, ↓reduceIte, ↓reduceDIte, ↓purePost, combine, idsA, cellsA, numsOf, srcA, calleeA, refsA, isScalar, scalarD, scalar0, AV.one, putL, unfA, implies_true, IntKind.signed, Nat.reduceAdd, Nat.reduceSub, Nat.reduceMul, Nat.reducePow, Nat.reduceDiv, Nat.reduceMod, Int.reduceAdd, Int.reduceSub, Int.reduceMul, Int.reducePow, Int.reduceNeg, Int.reduceToNat, Int.reduceLT, Int.reduceLE, Nat.reduceEqDiff, sidsB, Nat.reduceBEq, keyKD, isIntK, aggD, aggL, eqKs]
          refine CallC.pure (mmod_spec num 4 hm1 hm2 (by decide) (by decide)) ?_
          simp (config := { maxSteps := 1000000 }) (disch := ((try simp only [awL]); omega)) only [nextC_more, nextC_over, bs_size, bs_extract, bs_toList, bs_append, byteAt_bs, bs_cells, nums_length, nums_getD, ↓awU, awV, awF, ofVal, ofVal0, isShift, aggK, forall_const, ↓reduceIte, ↓reduceDIte, ↓purePost, combine, idsA, cellsA, numsOf, srcA, calleeA, refsA, isScalar, scalarD, scalar0, AV.one, putL, unfA, implies_true, IntKind.signed, Nat.reduceAdd, Nat.reduceSub, Nat.reduceMul, Nat.reducePow, Nat.reduceDiv, Nat.reduceMod, Int.reduceAdd, Int.reduceSub, Int.reduceMul, Int.reducePow, Int.reduceNeg, Int.reduceToNat, Int.reduceLT, Int.reduceLE, Nat.reduceEqDiff, sidsB, Nat.reduceBEq, keyKD, isIntK, aggD, aggL, eqKs]
          refine CallC.pure (mmod_spec den 4 hd1 hd2 (by decide) (by decide)) ?_
          simp (config := { maxSteps := 1000000 }) (disch := ((try simp only [awL]); omega)) only [nextC_more, nextC_over, bs_size, bs_extract, bs_toList, bs_append, byteAt_bs, bs_cells, nums_length, nums_getD, ↓awU, awV, awF, ofVal, ofVal0, isShift, aggK, forall_const, ↓reduceIte, ↓reduceDIte, ↓purePost, combine, idsA, cellsA, numsOf, srcA, calleeA, refsA, isScalar, scalarD, scalar0, AV.one, putL, unfA, implies_true, IntKind.signed, Nat.reduceAdd, Nat.reduceSub, Nat.reduceMul, Nat.reducePow, Nat.reduceDiv, Nat.reduceMod, Int.reduceAdd, Int.reduceSub, Int.reduceMul, Int.reducePow, Int.reduceNeg, Int.reduceToNat, Int.reduceLT, Int.reduceLE, Nat.reduceEqDiff, sidsB, Nat.reduceBEq, keyKD, isIntK, aggD, aggL, eqKs]
          refine ⟨by rfl, ?_⟩
          obtain ⟨rs, hrs⟩ : ∃ rs : List RuV, rs = [⟨kind, lim, num, den⟩, r1, r2, ⟨kind % 5, lim % 11 - 1, num % 4, den % 4⟩] := ⟨_, rfl⟩
          have hrl : rs.length = 4 := by rw [hrs]; rfl
          have rl' := rus_length rs
          have hrI := congrArg rus hrs
          simp only [rus] at hrI
          refine LoopC.fr 47890485652059026823698344606909642725388001791345776 (α := Nat) (fun i => 4 - i) (fun i => [(174, .lsl 4 4 0 4), (176, .d (.int .i64 i))]) (fun _ => [.box [.d (.int .i64 kind), .d (.int .i64 lim), .d (.int .i64 num), .d (.int .i64 den)], DiceM s q3, .row false (prs ps), .box [.d (S c), .d (S d)], .row false (rus rs)]) (fun i => i ≤ 4) 0 (Nat.zero_le _) ?_ ?_
          · exact ⟨[some 0, some 1, some 2, some 3, some 5], rfl, by simp, by simp [setsA, keepA, SWeak, AWeak], by simp [HWeak, BWeak, SWeak, AWeak, hrI]⟩
          · intro j hj
            simp only [awK, Nat.reduceMod, Nat.reduceDiv, reduceIte]
            rcases Nat.lt_or_ge j 4 with h1 | h1
            · have vg := rus_get (l := rs) (k := j) (d := ⟨0, 0, 0, 0⟩) (by omega)
              generalize rs.getD j ⟨0, 0, 0, 0⟩ = v at *
              obtain ⟨rk, rl, rn, rd⟩ := v
              simp only at vg
              have k1 := similar_spec (G := G) rk rl rn rd c d (by omega) (by omega)
              have k2 := rsimilar_spec (G := G) rk rl rn rd c d (by omega) (by omega)
              have k3 := valid_spec (G := G) rk rl rn rd
              have k4 := rvalid_spec (G := G) rk rl rn rd
              generalize simR rk rl rn rd c d = b1 at *
              generalize okR rk rl rn rd = b2 at *
              have e30 := Int.emod_nonneg u (show (30 : Int) ≠ 0 by decide)
              have f30 := Int.emod_lt_of_pos u (show (0 : Int) < 30 by decide)
              obtain ⟨js, hjs⟩ : ∃ js : List Int, js = [(c.length : Int), u % 30 - 2] := ⟨_, rfl⟩
              have hjl : js.length = 2 := by rw [hjs]; rfl
              have hjI : ints .i64 js = [.int .i64 (c.length : Int), .int .i64 (u % 30 - 2)] := by rw [hjs]; rfl
              have hjr : ∀ v ∈ js, -100 ≤ v ∧ v ≤ 1000000 := by
                intro v hv
                rw [hjs] at hv
                simp only [List.mem_cons, List.not_mem_nil, or_false] at hv
                rcases hv with rfl | rfl <;> omega
              have jl := @ints_length .i64 js
              simp (config := { maxSteps := 1000000 }) (disch := ((try simp only [awL]); omega)) only [nextC_more, nextC_over, bs_size, bs_extract, bs_toList, bs_append, byteAt_bs, bs_cells, nums_length, nums_getD, rl', hrl, vg, ↓awU, awV, awF, ofVal, ofVal0, isShift, aggK, forall_const, ↓reduceIte, ↓reduceDIte, ↓purePost, combine, idsA, cellsA, numsOf, srcA, calleeA, refsA, isScalar, scalarD, scalar0, AV.one, putL, unfA, implies_true, IntKind.signed, Nat.reduceAdd, Nat.reduceSub, Nat.reduceMul, Nat.reducePow, Nat.reduceDiv, Nat.reduceMod, Int.reduceAdd, Int.reduceSub, Int.reduceMul, Int.reducePow, Int.reduceNeg, Int.reduceToNat, Int.reduceLT, Int.reduceLE, Nat.reduceEqDiff, sidsB, Nat.reduceBEq, keyKD, isIntK, aggD, aggL, eqKs]
              refine CallC.pure k3 ?_
              simp (config := { maxSteps := 1000000 }) (disch := ((try simp only [awL]); omega)) only [nextC_more, nextC_over, bs_size, bs_extract, bs_toList, bs_append, byteAt_bs, bs_cells, nums_length, nums_getD, ↓awU, awV, awF, ofVal, ofVal0, isShift, aggK, forall_const, ↓reduceIte, ↓reduceDIte, ↓purePost, combine, idsA, cellsA, numsOf, srcA, calleeA, refsA, isScalar, scalarD, scalar0, AV.one, putL, unfA, implies_true, IntKind.signed, Nat.reduceAdd, Nat.reduceSub, Nat.reduceMul, Nat.reducePow, Nat.reduceDiv, Nat.reduceMod, Int.reduceAdd, Int.reduceSub, Int.reduceMul, Int.reducePow, Int.reduceNeg, Int.reduceToNat, Int.reduceLT, Int.reduceLE, Nat.reduceEqDiff, sidsB, Nat.reduceBEq, keyKD, isIntK, aggD, aggL, eqKs]
              refine CallC.pure k4 ?_
              simp (config := { maxSteps := 1000000 }) (disch := ((try simp only [awL]); omega)) only [nextC_more, nextC_over, bs_size, bs_extract, bs_toList, bs_append, byteAt_bs, bs_cells, nums_length, nums_getD, ↓awU, awV, awF, ofVal, ofVal0, isShift, aggK, forall_const, ↓reduceIte, ↓reduceDIte, ↓purePost, combine, idsA, cellsA, numsOf, srcA, calleeA, refsA, isScalar, scalarD, scalar0, AV.one, putL, unfA, implies_true, IntKind.signed, Nat.reduceAdd, Nat.reduceSub, Nat.reduceMul, Nat.reducePow, Nat.reduceDiv, Nat.reduceMod, Int.reduceAdd, Int.reduceSub, Int.reduceMul, Int.reducePow, Int.reduceNeg, Int.reduceToNat, Int.reduceLT, Int.reduceLE, Nat.reduceEqDiff, sidsB, Nat.reduceBEq, keyKD, isIntK, aggD, aggL, eqKs]
              refine CallC.pure k1 ?_
              simp (config := { maxSteps := 1000000 }) (disch := ((try simp only [awL]); omega)) only [nextC_more, nextC_over, bs_size, bs_extract, bs_toList, bs_append, byteAt_bs, bs_cells, nums_length, nums_getD, ↓awU, awV, awF, ofVal, ofVal0, isShift, aggK, forall_const, ↓reduceIte, ↓reduceDIte, ↓purePost, combine, idsA, cellsA, numsOf, srcA, calleeA, refsA, isScalar, scalarD, scalar0, AV.one, putL, unfA, implies_true, IntKind.signed, Nat.reduceAdd, Nat.reduceSub, Nat.reduceMul, Nat.reducePow, Nat.reduceDiv, Nat.reduceMod, Int.reduceAdd, Int.reduceSub, Int.reduceMul, Int.reducePow, Int.reduceNeg, Int.reduceToNat, Int.reduceLT, Int.reduceLE, Nat.reduceEqDiff, sidsB, Nat.reduceBEq, keyKD, isIntK, aggD, aggL, eqKs]
              refine CallC.pure k2 ?_
              simp (config := { maxSteps := 1000000 }) (disch := ((try simp only [awL]); omega)) only [nextC_more, nextC_over, bs_size, bs_extract, bs_toList, bs_append, byteAt_bs, bs_cells, nums_length, nums_getD, ↓awU, awV, awF, ofVal, ofVal0, isShift, aggK, forall_const, ↓reduceIte, ↓reduceDIte, ↓purePost, combine, idsA, cellsA, numsOf, srcA, calleeA, refsA, isScalar, scalarD, scalar0, AV.one, putL, unfA, implies_true, IntKind.signed, Nat.reduceAdd, Nat.reduceSub, Nat.reduceMul, Nat.reducePow, Nat.reduceDiv, Nat.reduceMod, Int.reduceAdd, Int.reduceSub, Int.reduceMul, Int.reducePow, Int.reduceNeg, Int.reduceToNat, Int.reduceLT, Int.reduceLE, Nat.reduceEqDiff, sidsB, Nat.reduceBEq, keyKD, isIntK, aggD, aggL, eqKs]
              refine ⟨by rfl, ?_⟩
              refine CallC.pure (mmod_spec u 30 hu1 hu2 (by decide) (by decide)) ?_
              simp (config := { maxSteps := 1000000 }) (disch := ((try simp only [awL]); omega)) only [nextC_more, nextC_over, bs_size, bs_extract, bs_toList, bs_append, byteAt_bs, bs_cells, nums_length, nums_getD, ↓awU, awV, awF, ofVal, ofVal0, isShift, aggK, forall_const, ↓reduceIte, ↓reduceDIte, ↓purePost, combine, idsA, cellsA, numsOf, srcA, calleeA, refsA, isScalar, scalarD, scalar0, AV.one, putL, unfA, implies_true, IntKind.signed, Nat.reduceAdd, Nat.reduceSub, Nat.reduceMul, Nat.reducePow, Nat.reduceDiv, Nat.reduceMod, Int.reduceAdd, Int.reduceSub, Int.reduceMul, Int.reducePow, Int.reduceNeg, Int.reduceToNat, Int.reduceLT, Int.reduceLE, Nat.reduceEqDiff, sidsB, Nat.reduceBEq, keyKD, isIntK, aggD, aggL, eqKs]
              refine ⟨by rfl, ?_⟩
              refine LoopC.fr 308532104665342832686263315612447425787290522501898220626674800 (α := Nat) (fun i => 2 - i) (fun i => [(208, .d (.int .i64 i))]) (fun _ => [.box [.d (.int .i64 kind), .d (.int .i64 lim), .d (.int .i64 num), .d (.int .i64 den)], DiceM s q3, .row false (prs ps), .box [.d (S c), .d (S d)], .row false (rus rs), .box [.d (.int .i64 rk), .d (.int .i64 rl), .d (.int .i64 rn), .d (.int .i64 rd)], .row false (ints .i64 js)]) (fun i => i ≤ 2) 0 (Nat.zero_le _) ?_ ?_
              · exact ⟨[some 0, some 1, some 2, some 3, some 4, some 5, some 6], rfl, by simp, by simp [setsA, keepA, SWeak, AWeak], by simp [HWeak, BWeak, SWeak, AWeak, hjI]⟩
              · intro i hi
                simp only [awK, Nat.reduceMod, Nat.reduceDiv, reduceIte]
                rcases Nat.lt_or_ge i 2 with h2 | h2
                · have vr := hjr _ (getD_mem (l := js) (k := i) (d := 0) (by omega))
                  generalize hv : js.getD i 0 = v at *
                  obtain ⟨vr1, vr2⟩ := vr
                  have k1 := lengths_spec (G := G) rk rl rn rd v vr1 vr2
                  have k2 := rlengths_spec (G := G) rk rl rn rd v vr1 vr2
                  obtain ⟨wn, wo, wb, hw⟩ : ∃ wn wo wb, lenR rk rl rn rd v = .tup [.int .i64 wn, .int .i64 wo, .bool wb] := by
                    unfold lenR
                    split <;> exact ⟨_, _, _, rfl⟩
                  rw [hw] at k1 k2
                  simp (config := { maxSteps := 1000000 }) (disch := ((try simp only [awL]); omega)) only [nextC_more, nextC_over, bs_size, bs_extract, bs_toList, bs_append, byteAt_bs, bs_cells, nums_length, nums_getD, jl, hjl, hv, ↓awU, awV, awF, ofVal, ofVal0, isShift, aggK, forall_const, ↓reduceIte, ↓reduceDIte, ↓purePost, combine, idsA, cellsA, numsOf, srcA, calleeA, refsA, isScalar, scalarD, scalar0, AV.one, putL, unfA, implies_true, IntKind.signed, Nat.reduceAdd, Nat.reduceSub, Nat.reduceMul, Nat.reducePow, Nat.reduceDiv, Nat.reduceMod, Int.reduceAdd, Int.reduceSub, Int.reduceMul, Int.reducePow, Int.reduceNeg, Int.reduceToNat, Int.reduceLT, Int.reduceLE, Nat.reduceEqDiff, sidsB, Nat.reduceBEq, keyKD, isIntK, aggD, aggL, eqKs]
                  refine CallC.pure k1 ?_
                  simp (config := { maxSteps := 1000000 }) (disch := ((try simp only [awL]); omega)) only [nextC_more, nextC_over, bs_size, bs_extract, bs_toList, bs_append, byteAt_bs, bs_cells, nums_length, nums_getD, ↓awU, awV, awF, ofVal, ofVal0, isShift, aggK, forall_const, ↓reduceIte, ↓reduceDIte, ↓purePost, combine, idsA, cellsA, numsOf, srcA, calleeA, refsA, isScalar, scalarD, scalar0, AV.one, putL, unfA, implies_true, IntKind.signed, Nat.reduceAdd, Nat.reduceSub, Nat.reduceMul, Nat.reducePow, Nat.reduceDiv, Nat.reduceMod, Int.reduceAdd, Int.reduceSub, Int.reduceMul, Int.reducePow, Int.reduceNeg, Int.reduceToNat, Int.reduceLT, Int.reduceLE, Nat.reduceEqDiff, sidsB, Nat.reduceBEq, keyKD, isIntK, aggD, aggL, eqKs]
                  refine CallC.pure k2 ?_
                  simp (config := { maxSteps := 1000000 }) (disch := ((try simp only [awL]); omega)) only [nextC_more, nextC_over, bs_size, bs_extract, bs_toList, bs_append, byteAt_bs, bs_cells, nums_length, nums_getD, ↓awU, awV, awF, ofVal, ofVal0, isShift, aggK, forall_const, ↓reduceIte, ↓reduceDIte, ↓purePost, combine, idsA, cellsA, numsOf, srcA, calleeA, refsA, isScalar, scalarD, scalar0, AV.one, putL, unfA, implies_true, IntKind.signed, Nat.reduceAdd, Nat.reduceSub, Nat.reduceMul, Nat.reducePow, Nat.reduceDiv, Nat.reduceMod, Int.reduceAdd, Int.reduceSub, Int.reduceMul, Int.reducePow, Int.reduceNeg, Int.reduceToNat, Int.reduceLT, Int.reduceLE, Nat.reduceEqDiff, sidsB, Nat.reduceBEq, keyKD, isIntK, aggD, aggL, eqKs]
                  exact ⟨i + 1, h2, by simp only; omega, ⟨[some 0, some 1, some 2, some 3, some 4, some 5, some 6], rfl, by simp, by simp [setsA, keepA, SWeak, AWeak], by simp [HWeak, BWeak, SWeak, AWeak]⟩⟩
                · obtain rfl : i = 2 := by omega
                  simp (config := { maxSteps := 1000000 }) (disch := ((try simp only [awL]); omega)) only [nextC_more, nextC_over, bs_size, bs_extract, bs_toList, bs_append, byteAt_bs, bs_cells, nums_length, nums_getD, jl, hjl, ↓awU, awV, awF, ofVal, ofVal0, isShift, aggK, forall_const, ↓reduceIte, ↓reduceDIte, ↓purePost, combine, idsA, cellsA, numsOf, srcA, calleeA, refsA, isScalar, scalarD, scalar0, AV.one, putL, unfA, implies_true, IntKind.signed, Nat.reduceAdd, Nat.reduceSub, Nat.reduceMul, Nat.reducePow, Nat.reduceDiv, Nat.reduceMod, Int.reduceAdd, Int.reduceSub, Int.reduceMul, Int.reducePow, Int.reduceNeg, Int.reduceToNat, Int.reduceLT, Int.reduceLE, Nat.reduceEqDiff, sidsB, Nat.reduceBEq, keyKD, isIntK, aggD, aggL, eqKs]
                  exact ⟨j + 1, h1, by simp only; omega, ⟨[some 0, some 1, some 2, some 3, some 4], rfl, by simp, by simp [setsA, keepA, SWeak, AWeak], by simp [HWeak, BWeak, SWeak, AWeak]⟩⟩
            · obtain rfl : j = 4 := by omega
              simp (config := { maxSteps := 1000000 }) (disch := ((try simp only [awL]); omega)) only [nextC_more, nextC_over, bs_size, bs_extract, bs_toList, bs_append, byteAt_bs, bs_cells, nums_length, nums_getD, rl', hrl, ↓awU, awV, awF, ofVal, ofVal0, isShift, aggK, forall_const, ↓reduceIte, ↓reduceDIte, ↓purePost, combine, idsA, cellsA, numsOf, srcA, calleeA, refsA, isScalar, scalarD, scalar0, AV.one, putL, unfA, implies_true, IntKind.signed, Nat.reduceAdd, Nat.reduceSub, Nat.reduceMul, Nat.reducePow, Nat.reduceDiv, Nat.reduceMod, Int.reduceAdd, Int.reduceSub, Int.reduceMul, Int.reducePow, Int.reduceNeg, Int.reduceToNat, Int.reduceLT, Int.reduceLE, Nat.reduceEqDiff, sidsB, Nat.reduceBEq, keyKD, isIntK, aggD, aggL, eqKs]
              exact ⟨(k + 1, q3), h, by simp only; omega, ⟨[some 0, some 1, some 2], rfl, by simp, by simp [setsA, keepA, SWeak, AWeak], by simp [HWeak, BWeak, SWeak, AWeak]⟩⟩
    · obtain rfl : k = 5 := by omega
      simp (config := { maxSteps := 1000000 }) (disch := ((try simp only [awL]); omega)) only [nextC_more, nextC_over, bs_size, bs_extract, bs_toList, bs_append, byteAt_bs, bs_cells, nums_length, nums_getD, pl, hpl, ↓awU, awV, awF, ofVal, ofVal0, isShift, aggK, forall_const, ↓reduceIte, ↓reduceDIte, ↓purePost, combine, idsA, cellsA, numsOf, srcA, calleeA, refsA, isScalar, scalarD, scalar0, AV.one, putL, unfA, implies_true, IntKind.signed, Nat.reduceAdd, Nat.reduceSub, Nat.reduceMul, Nat.reducePow, Nat.reduceDiv, Nat.reduceMod, Int.reduceAdd, Int.reduceSub, Int.reduceMul, Int.reducePow, Int.reduceNeg, Int.reduceToNat, Int.reduceLT, Int.reduceLE, Nat.reduceEqDiff, sidsB, Nat.reduceBEq, keyKD, isIntK, aggD, aggL, eqKs]
      refine CallC.by (query_spec s q 6 hmm (by decide) (by decide)) (by rfl) (by rfl) (Nat.le_refl _) ?_
      have t1 := setL_length _ _ (@textsM_length s (q + 1) (pk s q (6 + 1)).toNat)
      have p1 := @pk_range s q (6 + 1) (by decide)
      generalize setL (textsM s (q + 1) (pk s q (6 + 1)).toNat) = x1 at *
      generalize q + 1 + (pk s q (6 + 1)).toNat = q1 at *
      simp (config := { maxSteps := 1000000 }) (disch := ((try simp only [awL]); omega)) only [nextC_more, nextC_over, bs_size, bs_extract, bs_toList, bs_append, byteAt_bs, bs_cells, nums_length, nums_getD, ↓awU, awV, awF, ofVal, ofVal0, isShift, aggK, forall_const, ↓reduceIte, ↓reduceDIte, ↓purePost, combine, idsA, cellsA, numsOf, srcA, calleeA, refsA, isScalar, scalarD, scalar0, AV.one, putL, unfA, implies_true, IntKind.signed, Nat.reduceAdd, Nat.reduceSub, Nat.reduceMul, Nat.reducePow, Nat.reduceDiv, Nat.reduceMod, Int.reduceAdd, Int.reduceSub, Int.reduceMul, Int.reducePow, Int.reduceNeg, Int.reduceToNat, Int.reduceLT, Int.reduceLE, Nat.reduceEqDiff, sidsB, Nat.reduceBEq, keyKD, isIntK, aggD, aggL, eqKs]
      refine CallC.by (query_spec s q1 6 hmm (by decide) (by decide)) (by rfl) (by rfl) (Nat.le_refl _) ?_
      have t2 := setL_length _ _ (@textsM_length s (q1 + 1) (pk s q1 (6 + 1)).toNat)
      have p2 := @pk_range s q1 (6 + 1) (by decide)
      generalize setL (textsM s (q1 + 1) (pk s q1 (6 + 1)).toNat) = x2 at *
      generalize q1 + 1 + (pk s q1 (6 + 1)).toNat = q2 at *
      simp (config := { maxSteps := 1000000 }) (disch := ((try simp only [awL]); omega)) only [nextC_more, nextC_over, bs_size, bs_extract, bs_toList, bs_append, byteAt_bs, bs_cells, nums_length, nums_getD, ↓awU, awV, awF, ofVal, ofVal0, isShift, aggK, forall_const, ↓reduceIte, ↓reduceDIte, ↓purePost, combine, idsA, cellsA, numsOf, srcA, calleeA, refsA, isScalar, scalarD, scalar0, AV.one, putL, unfA, implies_true, IntKind.signed, Nat.reduceAdd, Nat.reduceSub, Nat.reduceMul, Nat.reducePow, Nat.reduceDiv, Nat.reduceMod, Int.reduceAdd, Int.reduceSub, Int.reduceMul, Int.reducePow, Int.reduceNeg, Int.reduceToNat, Int.reduceLT, Int.reduceLE, Nat.reduceEqDiff, sidsB, Nat.reduceBEq, keyKD, isIntK, aggD, aggL, eqKs]
      refine CallC.by (query_spec s q2 4 hmm (by decide) (by decide)) (by rfl) (by rfl) (Nat.le_refl _) ?_
      have t3 := setL_length _ _ (@textsM_length s (q2 + 1) (pk s q2 (4 + 1)).toNat)
      have p3 := @pk_range s q2 (4 + 1) (by decide)
      generalize setL (textsM s (q2 + 1) (pk s q2 (4 + 1)).toNat) = x3 at *
      generalize q2 + 1 + (pk s q2 (4 + 1)).toNat = q3 at *
      simp (config := { maxSteps := 1000000 }) (disch := ((try simp only [awL]); omega)) only [nextC_more, nextC_over, bs_size, bs_extract, bs_toList, bs_append, byteAt_bs, bs_cells, nums_length, nums_getD, ↓awU, awV, awF, ofVal, ofVal0, isShift, aggK, forall_const, ↓reduceIte, ↓reduceDIte, ↓purePost, combine, idsA, cellsA, numsOf, srcA, calleeA, refsA, isScalar, scalarD, scalar0, AV.one, putL, unfA, implies_true, IntKind.signed, Nat.reduceAdd, Nat.reduceSub, Nat.reduceMul, Nat.reducePow, Nat.reduceDiv, Nat.reduceMod, Int.reduceAdd, Int.reduceSub, Int.reduceMul, Int.reducePow, Int.reduceNeg, Int.reduceToNat, Int.reduceLT, Int.reduceLE, Nat.reduceEqDiff, sidsB, Nat.reduceBEq, keyKD, isIntK, aggD, aggL, eqKs]
      obtain ⟨ys, hys⟩ : ∃ ys : List (List (List UInt8) × List (List UInt8)), ys = [(x, y), (x1, x2), (x, x3)] := ⟨_, rfl⟩
      have hyl : ys.length = 3 := by rw [hys]; rfl
      have yl := sls_length ys
      have hyd : ∀ p ∈ ys, p.1.length ≤ 12 ∧ p.2.length ≤ 12 := by
        intro p hp
        rw [hys] at hp
        simp only [List.mem_cons, List.not_mem_nil, or_false] at hp
        rcases hp with rfl | rfl | rfl <;> exact ⟨by simp only; omega, by simp only; omega⟩
      have hyI := congrArg sls hys
      simp only [sls] at hyI
      refine LoopC.fr 57896044618658097711785492504343953926634992332820282019728792003956564819968 (α := Nat) (fun i => 3 - i) (fun i => [(254, .lsl 0 2 0 3), (256, .d (.int .i64 i))]) (fun _ => [.row false (sls ys)]) (fun i => i ≤ 3) 0 (Nat.zero_le _) ?_ ?_
      · exact ⟨[some 3], rfl, by simp, by simp [setsA, keepA, SWeak, AWeak], by simp [HWeak, BWeak, SWeak, AWeak, hyI, Ss, S]⟩
      · intro i hi
        simp only [awK, Nat.reduceMod, Nat.reduceDiv, reduceIte]
        rcases Nat.lt_or_ge i 3 with h2 | h2
        · have pg := sls_get (l := ys) (k := i) (by omega)
          have pd := hyd _ (getD_mem (l := ys) (k := i) (d := ([], [])) (by omega))
          generalize ys.getD i ([], []) = p at *
          obtain ⟨c, d⟩ := p
          simp only at pd pg
          obtain ⟨pd1, pd2⟩ := pd
          simp (config := { maxSteps := 1000000 }) (disch := ((try simp only [awL]); omega)) only [nextC_more, nextC_over, bs_size, bs_extract, bs_toList, bs_append, byteAt_bs, bs_cells, nums_length, nums_getD, yl, hyl, pg, ↓awU, awV, awF, ofVal, ofVal0, isShift, aggK, forall_const, ↓reduceIte, ↓reduceDIte, ↓purePost, combine, idsA, cellsA, numsOf, srcA, calleeA, refsA, isScalar, scalarD, scalar0, AV.one, putL, unfA, implies_true, IntKind.signed, Nat.reduceAdd, Nat.reduceSub, Nat.reduceMul, Nat.reducePow, Nat.reduceDiv, Nat.reduceMod, Int.reduceAdd, Int.reduceSub, Int.reduceMul, Int.reducePow, Int.reduceNeg, Int.reduceToNat, Int.reduceLT, Int.reduceLE, Nat.reduceEqDiff, sidsB, Nat.reduceBEq, keyKD, isIntK, aggD, aggL, eqKs]
          refine CallC.of (common_spec c d false false (by omega) (by omega)) (by rfl) ?_
          simp (config := { maxSteps := 1000000 }) (disch := ((try simp only [awL]); omega)) only [nextC_more, nextC_over, bs_size, bs_extract, bs_toList, bs_append, byteAt_bs, bs_cells, nums_length, nums_getD, ↓awU, awV, awF, ofVal, ofVal0, isShift, aggK, forall_const, ↓reduceIte, ↓reduceDIte, ↓purePost, combine, idsA, cellsA, numsOf, srcA, calleeA, refsA, isScalar, scalarD, scalar0, AV.one, putL, unfA, implies_true, IntKind.signed, Nat.reduceAdd, Nat.reduceSub, Nat.reduceMul, Nat.reducePow, Nat.reduceDiv, Nat.reduceMod, Int.reduceAdd, Int.reduceSub, Int.reduceMul, Int.reducePow, Int.reduceNeg, Int.reduceToNat, Int.reduceLT, Int.reduceLE, Nat.reduceEqDiff, sidsB, Nat.reduceBEq, keyKD, isIntK, aggD, aggL, eqKs]
          refine CallC.of (rcommon_spec c d false false (by omega) (by omega)) (by rfl) ?_
          simp (config := { maxSteps := 1000000 }) (disch := ((try simp only [awL]); omega)) only [nextC_more, nextC_over, bs_size, bs_extract, bs_toList, bs_append, byteAt_bs, bs_cells, nums_length, nums_getD, ↓awU, awV, awF, ofVal, ofVal0, isShift, aggK, forall_const, ↓reduceIte, ↓reduceDIte, ↓purePost, combine, idsA, cellsA, numsOf, srcA, calleeA, refsA, isScalar, scalarD, scalar0, AV.one, putL, unfA, implies_true, IntKind.signed, Nat.reduceAdd, Nat.reduceSub, Nat.reduceMul, Nat.reducePow, Nat.reduceDiv, Nat.reduceMod, Int.reduceAdd, Int.reduceSub, Int.reduceMul, Int.reducePow, Int.reduceNeg, Int.reduceToNat, Int.reduceLT, Int.reduceLE, Nat.reduceEqDiff, sidsB, Nat.reduceBEq, keyKD, isIntK, aggD, aggL, eqKs]
          refine CallC.of (union_spec c d false false (by omega) (by omega)) (by rfl) ?_
          simp (config := { maxSteps := 1000000 }) (disch := ((try simp only [awL]); omega)) only [nextC_more, nextC_over, bs_size, bs_extract, bs_toList, bs_append, byteAt_bs, bs_cells, nums_length, nums_getD, ↓awU, awV, awF, ofVal, ofVal0, isShift, aggK, forall_const, ↓reduceIte, ↓reduceDIte, ↓purePost, combine, idsA, cellsA, numsOf, srcA, calleeA, refsA, isScalar, scalarD, scalar0, AV.one, putL, unfA, implies_true, IntKind.signed, Nat.reduceAdd, Nat.reduceSub, Nat.reduceMul, Nat.reducePow, Nat.reduceDiv, Nat.reduceMod, Int.reduceAdd, Int.reduceSub, Int.reduceMul, Int.reducePow, Int.reduceNeg, Int.reduceToNat, Int.reduceLT, Int.reduceLE, Nat.reduceEqDiff, sidsB, Nat.reduceBEq, keyKD, isIntK, aggD, aggL, eqKs]
          refine CallC.of (runion_spec c d false false (by omega) (by omega)) (by rfl) ?_
          simp (config := { maxSteps := 1000000 }) (disch := ((try simp only [awL]); omega)) only [nextC_more, nextC_over, bs_size, bs_extract, bs_toList, bs_append, byteAt_bs, bs_cells, nums_length, nums_getD, ↓awU, awV, awF, ofVal, ofVal0, isShift, aggK, forall_const, ↓reduceIte, ↓reduceDIte, ↓purePost, combine, idsA, cellsA, numsOf, srcA, calleeA, refsA, isScalar, scalarD, scalar0, AV.one, putL, unfA, implies_true, IntKind.signed, Nat.reduceAdd, Nat.reduceSub, Nat.reduceMul, Nat.reducePow, Nat.reduceDiv, Nat.reduceMod, Int.reduceAdd, Int.reduceSub, Int.reduceMul, Int.reducePow, Int.reduceNeg, Int.reduceToNat, Int.reduceLT, Int.reduceLE, Nat.reduceEqDiff, sidsB, Nat.reduceBEq, keyKD, isIntK, aggD, aggL, eqKs]
          exact ⟨by rfl, i + 1, h2, by simp only; omega, ⟨[some 0], rfl, by simp, by simp [setsA, keepA, SWeak, AWeak], by simp [HWeak, BWeak, SWeak, AWeak]⟩⟩
        · obtain rfl : i = 3 := by omega
          simp (config := { maxSteps := 1000000 }) (disch := ((try simp only [awL]); omega)) only [nextC_more, nextC_over, bs_size, bs_extract, bs_toList, bs_append, byteAt_bs, bs_cells, nums_length, nums_getD, yl, hyl, ↓awU, awV, awF, ofVal, ofVal0, isShift, aggK, forall_const, ↓reduceIte, ↓reduceDIte, ↓purePost, combine, idsA, cellsA, numsOf, srcA, calleeA, refsA, isScalar, scalarD, scalar0, AV.one, putL, unfA, implies_true, IntKind.signed, Nat.reduceAdd, Nat.reduceSub, Nat.reduceMul, Nat.reducePow, Nat.reduceDiv, Nat.reduceMod, Int.reduceAdd, Int.reduceSub, Int.reduceMul, Int.reducePow, Int.reduceNeg, Int.reduceToNat, Int.reduceLT, Int.reduceLE, Nat.reduceEqDiff, sidsB, Nat.reduceBEq, keyKD, isIntK, aggD, aggL, eqKs]
end Go.Proofs.Ytpnhbjabnnibcaa
