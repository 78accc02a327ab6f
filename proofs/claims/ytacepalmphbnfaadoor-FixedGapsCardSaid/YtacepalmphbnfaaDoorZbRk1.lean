/-
  A world that lays the variables of fixedGaps.
-/
import Derived.Test.YtacepalmphbnfaaDoorMb2
set_option linter.all false
open Go.Abs renaming ofVal → Qa, ofVal0 → Qb, isShift → Qc, aggK → Qd, purePost → Qe, combine → Qf, idsA → Qg, cellsA → Qh, numsOf → Qi, srcA → Qj, calleeA → Qk, refsA → Ql, isScalar → Qm, scalarD → Qn, scalar0 → Qo, putL → Qr, unfA → Qs, sidsB → QJ, keyKD → QL, isIntK → QM, aggD → QN, aggL → QO, eqKs → QP, boxRow → QQ, nextC_more → QT, nextC_over → QU, bs_size → QV, bs_extract → QW, bs_toList → QX, bs_append → QY, byteAt_bs → QZ, bs_cells → Q0, nums_length → Q1, nums_getD → Q2
open Go.Abs.AV renaming one → Qp
open Go.Abs.D renaming one → Qq
open Go.IntKind renaming signed → Qt
open Nat renaming reduceAdd → Qu, reduceSub → Qv, reduceMul → Qw, reducePow → Qx, reduceDiv → Qy, reduceMod → Qz, reduceEqDiff → QI, reduceBEq → QK
open Int renaming reduceAdd → QA, reduceSub → QB, reduceMul → QC, reducePow → QD, reduceNeg → QE, reduceToNat → QF, reduceLT → QG, reduceLE → QH
open Option renaming toList_some → QR, toList_none → QS

namespace Go.Proofs.YtacepalmphbnfaaDoor
open Go Go.Proofs Go.Abs Go.RowKit Go.ChangeShapes Go.WideShapes Go.ChangeAt
noncomputable def laidWorld_fixedGaps (os : Os) : World :=
  { World.holding Tryd.prog os ⟨#[], #[], []⟩ with heap := ((((((World.holding Tryd.prog os ⟨#[], #[], []⟩).heap.modify 4 fun
      | .cells _ t frozen => .cells #[.int .u8 0, .int .u8 1, .int .u8 28, .int .u8 2, .int .u8 29, .int .u8 14, .int .u8 24, .int .u8 3, .int .u8 30, .int .u8 22, .int .u8 20, .int .u8 15, .int .u8 25, .int .u8 17, .int .u8 4, .int .u8 8, .int .u8 31, .int .u8 27, .int .u8 13, .int .u8 23, .int .u8 21, .int .u8 19, .int .u8 16, .int .u8 7, .int .u8 26, .int .u8 12, .int .u8 18, .int .u8 6, .int .u8 11, .int .u8 5, .int .u8 10, .int .u8 9] t frozen
      | o => o).modify 5 fun
      | .cells _ t frozen => .cells #[.int .u8 0, .int .u8 1, .int .u8 56, .int .u8 2, .int .u8 57, .int .u8 49, .int .u8 28, .int .u8 3, .int .u8 61, .int .u8 58, .int .u8 42, .int .u8 50, .int .u8 38, .int .u8 29, .int .u8 17, .int .u8 4, .int .u8 62, .int .u8 47, .int .u8 59, .int .u8 36, .int .u8 45, .int .u8 43, .int .u8 51, .int .u8 22, .int .u8 53, .int .u8 39, .int .u8 33, .int .u8 30, .int .u8 24, .int .u8 18, .int .u8 12, .int .u8 5, .int .u8 63, .int .u8 55, .int .u8 48, .int .u8 27, .int .u8 60, .int .u8 41, .int .u8 37, .int .u8 16, .int .u8 46, .int .u8 35, .int .u8 44, .int .u8 21, .int .u8 52, .int .u8 32, .int .u8 23, .int .u8 11, .int .u8 54, .int .u8 26, .int .u8 40, .int .u8 15, .int .u8 34, .int .u8 20, .int .u8 31, .int .u8 10, .int .u8 25, .int .u8 14, .int .u8 19, .int .u8 9, .int .u8 13, .int .u8 8, .int .u8 7, .int .u8 6] t frozen
      | o => o).modify 3 fun
      | .cells _ t frozen => .cells #[.int .u64 1, .int .u64 10, .int .u64 100, .int .u64 1000, .int .u64 10000, .int .u64 100000, .int .u64 1000000, .int .u64 10000000, .int .u64 100000000, .int .u64 1000000000, .int .u64 10000000000, .int .u64 100000000000, .int .u64 1000000000000, .int .u64 10000000000000, .int .u64 100000000000000, .int .u64 1000000000000000, .int .u64 10000000000000000, .int .u64 100000000000000000, .int .u64 1000000000000000000, .int .u64 10000000000000000000] t frozen
      | o => o).modify 1 fun
      | .cells _ t frozen => .cells #[.int .u8 128, .int .u8 191, .int .u8 160, .int .u8 191, .int .u8 128, .int .u8 159, .int .u8 144, .int .u8 191, .int .u8 128, .int .u8 143, .int .u8 0, .int .u8 0, .int .u8 0, .int .u8 0, .int .u8 0, .int .u8 0, .int .u8 0, .int .u8 0, .int .u8 0, .int .u8 0, .int .u8 0, .int .u8 0, .int .u8 0, .int .u8 0, .int .u8 0, .int .u8 0, .int .u8 0, .int .u8 0, .int .u8 0, .int .u8 0, .int .u8 0, .int .u8 0] t frozen
      | o => o).modify 0 fun
      | .cells _ t frozen => .cells (Go.Pinned.utf8FirstZ.map fun (n : Nat) => Value.int .u8 (n : Int)).toArray t frozen
      | o => o) }
set_option maxRecDepth 100000 in
theorem laid_met_fixedGaps (os : Os) (args : Array Value) : laidMet Tryd.prog [("math/bits.deBruijn32tab", Rows.laid_math_bits_deBruijn32tab), ("math/bits.deBruijn64tab", Rows.laid_math_bits_deBruijn64tab), ("internal/strconv.uint64pow10", Rows.laid_internal_strconv_uint64pow10), ("unicode/utf8.acceptRanges", Rows.laid_unicode_utf8_acceptRanges), ("unicode/utf8.first", Rows.laid_unicode_utf8_first)] ((laidWorld_fixedGaps os).forCall (fun _ _ => 0) ⟨#[], args, []⟩).memory :=
  laidMet_of_run' 8 (by kernel_rfl) (by kernel_rfl)
end Go.Proofs.YtacepalmphbnfaaDoor

namespace Go.Proofs.YtacepalmphbnfaaDoor
open Go Go.Proofs Go.Abs
variable {G : Globals}
/-! Writing a file in a layout. -/
/-- A row's text, from the i-th field on, where p places are written. -/
def wrF (lay : List Nat) : Nat → Nat → Row → List UInt8
  | _, _, [] => []
  | i, p, s :: r => if s = [] then wrF lay (i + 1) p r else List.replicate (lay.getD i 0 - p) 32 ++ s ++ wrF lay (i + 1) (lay.getD i 0 + rcL s) r
def txtF (lay : List Nat) : List Row → List UInt8
  | [] => []
  | r :: g => wrF lay 0 0 r ++ [10] ++ txtF lay g
def formF (lay : List Int) (g : List Row) : List UInt8 × Nat :=
  if okLay lay = false then ([], 1) else if checkL (natsOf lay) g ≠ 0 then ([], checkL (natsOf lay) g) else
    if 1048576 < (txtF (natsOf lay) g).length then ([], 3) else (txtF (natsOf lay) g, 0)
def fmtE (x : List UInt8 × Nat) : D := .tup [S x.1, .int .i64 x.2]
theorem check_ok {lay : List Nat} {g : List Row} (h : checkL lay g = 0) :
    g.length ≤ 4096 ∧ ∀ r ∈ g, r.length = lay.length ∧ (∀ s ∈ r, Lib.validD s = true ∧ s.length ≤ 1024) ∧ ∀ i, i < r.length → badX lay i (r.getD i []) = false := by
  unfold checkL at h
  split at h
  · cases h
  · rename_i h1
    split at h
    · cases h
    · rename_i h2
      split at h
      · cases h
      · rename_i h3
        simp only [Bool.or_eq_true, decide_eq_true_eq, not_or] at h2
        refine ⟨by omega, fun r hr => ?_⟩
        have e1 : oddRw lay r = false := by
          cases hx : oddRw lay r with
          | false => rfl
          | true => exact absurd (List.any_eq_true.2 ⟨r, hr, hx⟩) h1
        have e2 : r.any bigF = false := by
          cases hx : r.any bigF with
          | false => rfl
          | true => exact absurd (List.any_eq_true.2 ⟨r, hr, hx⟩) h2.2
        have e3 : badRow lay r = false := by
          cases hx : badRow lay r with
          | false => rfl
          | true => exact absurd (List.any_eq_true.2 ⟨r, hr, hx⟩) h3
        unfold oddRw at e1
        simp only [Bool.or_eq_false_iff, decide_eq_false_iff_not, Decidable.not_not] at e1
        refine ⟨e1.1, fun s hs => ⟨?_, ?_⟩, fun i hi => ?_⟩
        · have := List.any_eq_false.1 e1.2 s hs
          simpa using this
        · have := List.any_eq_false.1 e2 s hs
          simp [bigF] at this; omega
        · unfold badRow badTo at e3
          have := List.any_eq_false.1 e3 i (List.mem_range.2 hi)
          simpa using this
theorem wr_len (lay : List Nat) (h1 : ∀ i, lay.getD i 0 ≤ 1048576) : ∀ (r : Row) (i p : Nat), (∀ s ∈ r, s.length ≤ 1024) → (wrF lay i p r).length ≤ 1049600 * r.length
  | [], _, _, _ => by simp [wrF]
  | s :: r, i, p, h => by
    have h2 := h s (by simp)
    have h3 := h1 i
    have a := wr_len lay h1 r (i + 1) p fun x hx => h x (by simp [hx])
    have b := wr_len lay h1 r (i + 1) (lay.getD i 0 + rcL s) fun x hx => h x (by simp [hx])
    rw [wrF]
    split
    · simp only [List.length_cons]; omega
    · simp only [List.length_append, List.length_cons, List.length_replicate]; omega
theorem txt_len (lay : List Nat) (h1 : ∀ i, lay.getD i 0 ≤ 1048576) : ∀ (g : List Row), (∀ r ∈ g, r.length ≤ 64 ∧ ∀ s ∈ r, s.length ≤ 1024) → (txtF lay g).length ≤ 67174401 * g.length
  | [], _ => by simp [txtF]
  | r :: g, h => by
    obtain ⟨h2, h3⟩ := h r (by simp)
    have a := wr_len lay h1 r 0 0 h3
    have b := txt_len lay h1 g fun x hx => h x (by simp [hx])
    simp only [txtF, List.length_append, List.length_cons, List.length_nil]
    omega
theorem wr_step (lay : List Nat) {r : Row} {j p : Nat} (h : j < r.length) :
    wrF lay j p (r.drop j) = if r.getD j [] = [] then wrF lay (j + 1) p (r.drop (j + 1)) else List.replicate (lay.getD j 0 - p) 32 ++ r.getD j [] ++ wrF lay (j + 1) (lay.getD j 0 + rcL (r.getD j [])) (r.drop (j + 1)) := by
  rw [List.drop_eq_getElem_cons h, List.getD_eq_getElem?_getD, List.getElem?_eq_getElem h]; rfl
theorem txt_step (lay : List Nat) {g : List Row} {i : Nat} (h : i < g.length) : txtF lay (g.drop i) = wrF lay 0 0 (g.getD i []) ++ [10] ++ txtF lay (g.drop (i + 1)) := by
  rw [List.drop_eq_getElem_cons h, List.getD_eq_getElem?_getD, List.getElem?_eq_getElem h]; rfl
theorem getD_le {l : List Nat} {m : Nat} (h : ∀ i, i < l.length → l.getD i 0 ≤ m) (i : Nat) : l.getD i 0 ≤ m := by
  rcases Nat.lt_or_ge i l.length with h1 | h1
  · exact h i h1
  · rw [List.getD_eq_getElem?_getD, List.getElem?_eq_none h1]; exact Nat.zero_le _
theorem natsOf_le {l : List Int} (h : ∀ c ∈ l, 0 ≤ c ∧ c ≤ 1048576) (i : Nat) : (natsOf l).getD i 0 ≤ 1048576 :=
  getD_le (fun i hi => by
    have := List.mem_map.1 (memD (d := 0) hi)
    obtain ⟨c, hc, e⟩ := this
    have := h c hc
    show (List.map Int.toNat l).getD i 0 ≤ 1048576
    rw [← e]; omega) i
theorem bad_room {lay : List Nat} {i : Nat} {s : List UInt8} (h : badX lay i s = false) (hi : i + 1 < lay.length) : rcL s ≤ lay.getD (i + 1) 0 - lay.getD i 0 := by
  unfold badX at h
  simp only [Bool.or_eq_false_iff, decide_eq_false_iff_not] at h
  have := h.2
  rw [roomW, if_pos hi] at this
  omega
theorem wrS_any (used : Bool) (l x : List UInt8) (hl : l.length ≤ 10000000000000) (hx : x.length ≤ 10000000000000) (y : List UInt8) (hy : l ++ x = y) :
    Ctr Tryd.prog G 16 [.ptr 0 0, .d (S x)] (BL used l) (.tup [.d (.int .i64 x.length), .undef]) [.bld 51 true y.length (some 2), .dead, .buf 5 y] := by
  subst hy; exact writeString_next used l x hl hx
theorem wrB_any (used : Bool) (l : List UInt8) (c : UInt8) (hl : l.length ≤ 10000000000000) (y : List UInt8) (hy : l ++ [c] = y) :
    Ctr Tryd.prog G 19 [.ptr 0 0, .d (.int .u8 c.toNat)] (BL used l) .undef [.bld 51 true y.length (some 2), .dead, .buf 5 y] := by
  subst hy; exact writeByte_next used l c hl
def MF7 : Muts := fun k => k == 2000007
theorem MF7_t {k : Nat} (h : k = 2000007) : MF7 k = true := by subst h; rfl
theorem MF7_n {k : Nat} (h : k ≠ 2000007) : MF7 k = false := by simpa only [MF7, beq_eq_false_iff_ne] using h
set_option maxHeartbeats 16000000 in
set_option maxRecDepth 100000 in
theorem fformat_spec (hT : HT G) (lay : List Int) (lf : Bool) (g : List Row) (full : Bool) (hlay : lay.length ≤ 1000000) (hg : okGrid g) :
    Ctr Tryd.prog G 7 [.d (IsF lay lf), .d (.agg [Gr g full])] [] (.d (fmtE (formF lay g))) [] := by
  refine Ctr.pure (M := MF7) hmix Tryd.func7 rfl go7 ?_
  obtain ⟨r, hr⟩ : ∃ r, r = formF lay g := ⟨_, rfl⟩
  rw [← hr]
  unfold formF at hr
  simp (config := { maxSteps := 1000000 }) (disch := ((try simp only [awL]); omega)) only [QR, QS, QT, QU, QV, QW, QX, QY, QZ, Q0, Q1, Q2, MF7_t, MF7_n, Tryd.f7, ↓awU, awV, awF, Qa, Qb, Qc, Qd, forall_const, ↓reduceIte, ↓reduceDIte, ↓Qe, Qf, Qg, Qh, Qi, Qj, Qk, Ql, Qm, Qn, Qo, Qp, Qq, Qr, Qs, implies_true, Qt, Qu, Qv, Qw, Qx, Qy, Qz, QA, QB, QC, QD, QE, QF, QG, QH, QI, QJ, QK, QL, QM, QN, QO, QP, QQ]
  refine CallC.of (fvalid_spec lay false (by omega)) (by rfl) ?_
  cases hv : okLay lay
  · rw [if_pos hv] at hr
    simp (config := { maxSteps := 1000000 }) (disch := ((try simp only [awL]); omega)) only [QR, QS, QT, QU, QV, QW, QX, QY, QZ, Q0, Q1, Q2, MF7_t, MF7_n, ↓awU, awV, awF, Qa, Qb, Qc, Qd, forall_const, ↓reduceIte, ↓reduceDIte, ↓Qe, Qf, Qg, Qh, Qi, Qj, Qk, Ql, Qm, Qn, Qo, Qp, Qq, Qr, Qs, implies_true, Qt, Qu, Qv, Qw, Qx, Qy, Qz, QA, QB, QC, QD, QE, QF, QG, QH, QI, QJ, QK, QL, QM, QN, QO, QP, QQ]
    rw [hr]; rfl
  · rw [if_neg (by rw [hv]; decide)] at hr
    obtain ⟨k1, k2, k3, k4⟩ := okLay_ok hv
    have nl : (natsOf lay).length = lay.length := by simp [natsOf]
    have nle := natsOf_le k4
    rw [show IsF lay lf = Ns (natsOf lay) lf by unfold IsF Ns; rw [nats_of k4, nl]]
    generalize natsOf lay = ly at *
    simp (config := { maxSteps := 1000000 }) (disch := ((try simp only [awL]); omega)) only [QR, QS, QT, QU, QV, QW, QX, QY, QZ, Q0, Q1, Q2, MF7_t, MF7_n, ↓awU, awV, awF, Qa, Qb, Qc, Qd, forall_const, ↓reduceIte, ↓reduceDIte, ↓Qe, Qf, Qg, Qh, Qi, Qj, Qk, Ql, Qm, Qn, Qo, Qp, Qq, Qr, Qs, implies_true, Qt, Qu, Qv, Qw, Qx, Qy, Qz, QA, QB, QC, QD, QE, QF, QG, QH, QI, QJ, QK, QL, QM, QN, QO, QP, QQ]
    refine CallC.of (check_spec hT ly false g false k3 hg) (by rfl) ?_
    by_cases hc : checkL ly g = 0
    · rw [if_neg (by rw [hc]; decide)] at hr
      rw [hc]
      obtain ⟨c1, c2⟩ := check_ok hc
      have tl := txt_len ly nle g fun r hr => ⟨by rw [(c2 r hr).1, nl]; exact k2, fun s hs => ((c2 r hr).2.1 s hs).2⟩
      have gl := @rowsD_length g
      have al := @nats_length .i64 ly
      simp (config := { maxSteps := 1000000 }) (disch := ((try simp only [awL]); omega)) only [QR, QS, QT, QU, QV, QW, QX, QY, QZ, Q0, Q1, Q2, MF7_t, MF7_n, ↓awU, awV, awF, Qa, Qb, Qc, Qd, forall_const, ↓reduceIte, ↓reduceDIte, ↓Qe, Qf, Qg, Qh, Qi, Qj, Qk, Ql, Qm, Qn, Qo, Qp, Qq, Qr, Qs, implies_true, Qt, Qu, Qv, Qw, Qx, Qy, Qz, QA, QB, QC, QD, QE, QF, QG, QH, QI, QJ, QK, QL, QM, QN, QO, QP, QQ]
      refine LoopC.fr 50331777 (α := Nat × List UInt8 × Bool) (fun x => g.length - x.1) (fun x => [(26, .d (.int .i64 x.1))]) (fun x => [.dead, .bld 51 x.2.2 x.2.1.length (some 2), .buf 5 x.2.1])
        (fun x => x.1 ≤ g.length ∧ x.2.1 ++ txtF ly (g.drop x.1) = txtF ly g ∧ x.2.1.length ≤ 1048576) (0, [], false) ⟨Nat.zero_le _, by simp, by simp⟩ ?_ ?_
      · exact ⟨[some 0, some 1, none], rfl, by simp, by simp [setsA, keepA, SWeak, AWeak], by simp [HWeak, BWeak, SWeak, AWeak]⟩
      · rintro ⟨i, out, used⟩ ⟨b1, b2, b3⟩
        simp only at b1 b2 b3
        simp only [awK, Nat.reduceMod, Nat.reduceDiv, reduceIte]
        rcases Nat.lt_or_ge i g.length with h | h
        · have gg := rowsD_getD h
          rw [txt_step ly h] at b2
          have mem := c2 _ (memD (d := []) h)
          generalize g.getD i [] = row at *
          obtain ⟨r1, r2, r3⟩ := mem
          have sl := @strs_length row
          simp (config := { maxSteps := 1000000 }) (disch := ((try simp only [awL]); omega)) only [QR, QS, QT, QU, QV, QW, QX, QY, QZ, Q0, Q1, Q2, MF7_t, MF7_n, gl, gg, ↓awU, awV, awF, Qa, Qb, Qc, Qd, forall_const, ↓reduceIte, ↓reduceDIte, ↓Qe, Qf, Qg, Qh, Qi, Qj, Qk, Ql, Qm, Qn, Qo, Qp, Qq, Qr, Qs, implies_true, Qt, Qu, Qv, Qw, Qx, Qy, Qz, QA, QB, QC, QD, QE, QF, QG, QH, QI, QJ, QK, QL, QM, QN, QO, QP, QQ]
          refine LoopC.fr 3338666113 (α := Nat × Nat × List UInt8 × Bool) (fun x => row.length - x.1) (fun x => [(10, .d (.int .i64 x.2.1)), (32, .d (.int .i64 x.1))]) (fun x => [.dead, .bld 51 x.2.2.2 x.2.2.1.length (some 2), .buf 5 x.2.2.1])
            (fun x => x.1 ≤ row.length ∧ (x.1 < row.length → x.2.1 ≤ ly.getD x.1 0) ∧ x.2.2.1 ++ wrF ly x.1 x.2.1 (row.drop x.1) ++ [10] ++ txtF ly (g.drop (i + 1)) = txtF ly g) (0, 0, out, used) ⟨Nat.zero_le _, fun _ => Nat.zero_le _, by simp only [List.drop_zero, List.append_assoc] at b2 ⊢; exact b2⟩ ?_ ?_
          · exact ⟨[some 0, some 1, some 2], rfl, by simp, by simp [setsA, keepA, SWeak, AWeak], by simp [HWeak, BWeak, SWeak, AWeak]⟩
          · rintro ⟨j, p, out2, used2⟩ ⟨d1, d2, d3⟩
            simp only at d1 d2 d3
            have ol2 : out2.length ≤ (txtF ly g).length := by rw [← d3]; simp only [List.length_append]; omega
            simp only [awK, Nat.reduceMod, Nat.reduceDiv, reduceIte]
            rcases Nat.lt_or_ge j row.length with hj | hj
            · have sg2 := strs_getD hj
              have mem2 := r2 _ (memD (d := []) hj)
              have bad := r3 j hj
              have hp := d2 hj
              have lj := nle j
              have gj := nats_getD (k := .i64) (d := .nilp) (l := ly) (i := j) (by omega)
              have mono := k3.2.2 j
              have room := @bad_room ly j _ bad
              rw [wr_step ly hj] at d3
              generalize row.getD j [] = fld at *
              by_cases he : fld = []
              · subst he
                rw [if_pos rfl] at d3
                simp (config := { maxSteps := 1000000 }) (disch := ((try simp only [awL]); omega)) only [QR, QS, QT, QU, QV, QW, QX, QY, QZ, Q0, Q1, Q2, MF7_t, MF7_n, sl, sg2, ↓awU, awV, awF, Qa, Qb, Qc, Qd, forall_const, ↓reduceIte, ↓reduceDIte, ↓Qe, Qf, Qg, Qh, Qi, Qj, Qk, Ql, Qm, Qn, Qo, Qp, Qq, Qr, Qs, implies_true, Qt, Qu, Qv, Qw, Qx, Qy, Qz, QA, QB, QC, QD, QE, QF, QG, QH, QI, QJ, QK, QL, QM, QN, QO, QP, QQ]
                exact ⟨(j + 1, p, out2, used2), ⟨hj, fun hj2 => Nat.le_trans hp (mono (by simp only at hj2; omega)), d3⟩, by simp only; omega, ⟨[some 0, some 1, some 2], rfl, by simp, by simp [setsA, keepA, SWeak, AWeak], by simp [HWeak, BWeak, SWeak, AWeak]⟩⟩
              · rw [if_neg he] at d3
                have hne : (fld == []) = false := by simpa using he
                have ep : ((ly.getD j 0 : Nat) : Int) - (p : Nat) = ((ly.getD j 0 - p : Nat) : Int) := by omega
                simp (config := { maxSteps := 1000000 }) (disch := ((try simp only [awL]); omega)) only [QR, QS, QT, QU, QV, QW, QX, QY, QZ, Q0, Q1, Q2, MF7_t, MF7_n, Ns, al, gj, ep, hne, sl, sg2, ↓awU, awV, awF, Qa, Qb, Qc, Qd, forall_const, ↓reduceIte, ↓reduceDIte, ↓Qe, Qf, Qg, Qh, Qi, Qj, Qk, Ql, Qm, Qn, Qo, Qp, Qq, Qr, Qs, implies_true, Qt, Qu, Qv, Qw, Qx, Qy, Qz, QA, QB, QC, QD, QE, QF, QG, QH, QI, QJ, QK, QL, QM, QN, QO, QP, QQ]
                refine CallC.pure (repeat_spec 32 (ly.getD j 0 - p) (by omega)) ?_
                simp (config := { maxSteps := 1000000 }) (disch := ((try simp only [awL]); omega)) only [QR, QS, QT, QU, QV, QW, QX, QY, QZ, Q0, Q1, Q2, MF7_t, MF7_n, ↓awU, awV, awF, Qa, Qb, Qc, Qd, forall_const, ↓reduceIte, ↓reduceDIte, ↓Qe, Qf, Qg, Qh, Qi, Qj, Qk, Ql, Qm, Qn, Qo, Qp, Qq, Qr, Qs, implies_true, Qt, Qu, Qv, Qw, Qx, Qy, Qz, QA, QB, QC, QD, QE, QF, QG, QH, QI, QJ, QK, QL, QM, QN, QO, QP, QQ]
                have rl : (List.replicate (ly.getD j 0 - p) (32 : UInt8)).length = ly.getD j 0 - p := by simp
                generalize List.replicate (ly.getD j 0 - p) (32 : UInt8) = rp at *
                generalize ha : out2 ++ rp = out3
                have la : out3.length = out2.length + rp.length := by rw [← ha, List.length_append]
                refine CallC.by (wrS_any used2 out2 rp (by omega) (by omega) out3 ha) (by rfl) (by rfl) (by simp) ?_
                simp (config := { maxSteps := 1000000 }) (disch := ((try simp only [awL]); omega)) only [QR, QS, QT, QU, QV, QW, QX, QY, QZ, Q0, Q1, Q2, MF7_t, MF7_n, ↓awU, awV, awF, Qa, Qb, Qc, Qd, forall_const, ↓reduceIte, ↓reduceDIte, ↓Qe, Qf, Qg, Qh, Qi, Qj, Qk, Ql, Qm, Qn, Qo, Qp, Qq, Qr, Qs, implies_true, Qt, Qu, Qv, Qw, Qx, Qy, Qz, QA, QB, QC, QD, QE, QF, QG, QH, QI, QJ, QK, QL, QM, QN, QO, QP, QQ]
                generalize hb : out3 ++ fld = out4
                have lb : out4.length = out3.length + fld.length := by rw [← hb, List.length_append]
                refine CallC.by (wrS_any true out3 fld (by omega) (by omega) out4 hb) (by rfl) (by rfl) (by simp) ?_
                have rc := rcL_le fld
                simp (config := { maxSteps := 1000000 }) (disch := ((try simp only [awL]); omega)) only [QR, QS, QT, QU, QV, QW, QX, QY, QZ, Q0, Q1, Q2, MF7_t, MF7_n, Ns, al, gj, ↓awU, awV, awF, Qa, Qb, Qc, Qd, forall_const, ↓reduceIte, ↓reduceDIte, ↓Qe, Qf, Qg, Qh, Qi, Qj, Qk, Ql, Qm, Qn, Qo, Qp, Qq, Qr, Qs, implies_true, Qt, Qu, Qv, Qw, Qx, Qy, Qz, QA, QB, QC, QD, QE, QF, QG, QH, QI, QJ, QK, QL, QM, QN, QO, QP, QQ]
                refine CallC.pure (runeCount_spec fld (by omega)) ?_
                simp (config := { maxSteps := 1000000 }) (disch := ((try simp only [awL]); omega)) only [QR, QS, QT, QU, QV, QW, QX, QY, QZ, Q0, Q1, Q2, MF7_t, MF7_n, Ns, al, gj, ↓awU, awV, awF, Qa, Qb, Qc, Qd, forall_const, ↓reduceIte, ↓reduceDIte, ↓Qe, Qf, Qg, Qh, Qi, Qj, Qk, Ql, Qm, Qn, Qo, Qp, Qq, Qr, Qs, implies_true, Qt, Qu, Qv, Qw, Qx, Qy, Qz, QA, QB, QC, QD, QE, QF, QG, QH, QI, QJ, QK, QL, QM, QN, QO, QP, QQ]
                refine ⟨by rfl, ?_⟩
                exact ⟨(j + 1, ly.getD j 0 + rcL fld, out4, true), ⟨hj, fun hj2 => by have := room (by simp only at hj2; omega); have := mono (by simp only at hj2; omega); simp only; omega, by rw [← hb, ← ha]; simpa only [List.append_assoc] using d3⟩, by simp only; omega, ⟨[some 0, some 1, some 4], rfl, by simp, by simp [setsA, keepA, SWeak, AWeak], by simp [HWeak, BWeak, SWeak, AWeak]⟩⟩
            · obtain rfl : j = row.length := by omega
              rw [List.drop_length] at d3
              simp only [wrF, List.append_nil] at d3
              simp (config := { maxSteps := 1000000 }) (disch := ((try simp only [awL]); omega)) only [QR, QS, QT, QU, QV, QW, QX, QY, QZ, Q0, Q1, Q2, MF7_t, MF7_n, sl, ↓awU, awV, awF, Qa, Qb, Qc, Qd, forall_const, ↓reduceIte, ↓reduceDIte, ↓Qe, Qf, Qg, Qh, Qi, Qj, Qk, Ql, Qm, Qn, Qo, Qp, Qq, Qr, Qs, implies_true, Qt, Qu, Qv, Qw, Qx, Qy, Qz, QA, QB, QC, QD, QE, QF, QG, QH, QI, QJ, QK, QL, QM, QN, QO, QP, QQ]
              generalize ha : out2 ++ [10] = out3 at *
              have la : out3.length = out2.length + 1 := by rw [← ha, List.length_append]; rfl
              refine CallC.by (wrB_any used2 out2 10 (by omega) out3 ha) (by rfl) (by rfl) (by simp) ?_
              simp (config := { maxSteps := 1000000 }) (disch := ((try simp only [awL]); omega)) only [QR, QS, QT, QU, QV, QW, QX, QY, QZ, Q0, Q1, Q2, MF7_t, MF7_n, ↓awU, awV, awF, Qa, Qb, Qc, Qd, forall_const, ↓reduceIte, ↓reduceDIte, ↓Qe, Qf, Qg, Qh, Qi, Qj, Qk, Ql, Qm, Qn, Qo, Qp, Qq, Qr, Qs, implies_true, Qt, Qu, Qv, Qw, Qx, Qy, Qz, QA, QB, QC, QD, QE, QF, QG, QH, QI, QJ, QK, QL, QM, QN, QO, QP, QQ]
              refine CallC.keep [1, 3] (len_spec true out3) (by rfl) (by rfl) (by simp) (by simp [callEff, outW, outN, frz]) (by simp [callEff, outW, outN, renB, renL, renA, frz]) ?_
              rcases Nat.lt_or_ge 1048576 out3.length with h4 | h4
              · rw [if_pos (by rw [← d3, List.length_append]; omega)] at hr
                simp (config := { maxSteps := 1000000 }) (disch := ((try simp only [awL]); omega)) only [QR, QS, QT, QU, QV, QW, QX, QY, QZ, Q0, Q1, Q2, MF7_t, MF7_n, ↓awU, awV, awF, Qa, Qb, Qc, Qd, forall_const, ↓reduceIte, ↓reduceDIte, ↓Qe, Qf, Qg, Qh, Qi, Qj, Qk, Ql, Qm, Qn, Qo, Qp, Qq, Qr, Qs, implies_true, Qt, Qu, Qv, Qw, Qx, Qy, Qz, QA, QB, QC, QD, QE, QF, QG, QH, QI, QJ, QK, QL, QM, QN, QO, QP, QQ]
                rw [hr]; rfl
              · simp (config := { maxSteps := 1000000 }) (disch := ((try simp only [awL]); omega)) only [QR, QS, QT, QU, QV, QW, QX, QY, QZ, Q0, Q1, Q2, MF7_t, MF7_n, ↓awU, awV, awF, Qa, Qb, Qc, Qd, forall_const, ↓reduceIte, ↓reduceDIte, ↓Qe, Qf, Qg, Qh, Qi, Qj, Qk, Ql, Qm, Qn, Qo, Qp, Qq, Qr, Qs, implies_true, Qt, Qu, Qv, Qw, Qx, Qy, Qz, QA, QB, QC, QD, QE, QF, QG, QH, QI, QJ, QK, QL, QM, QN, QO, QP, QQ]
                exact ⟨(i + 1, out3, true), ⟨h, d3, h4⟩, by simp only; omega, ⟨[some 0, some 1, some 3], rfl, by simp, by simp [setsA, keepA, SWeak, AWeak], by simp [HWeak, BWeak, SWeak, AWeak]⟩⟩
        · obtain rfl : i = g.length := by omega
          rw [List.drop_length] at b2
          simp only [txtF, List.append_nil] at b2
          rw [← b2, if_neg (by omega)] at hr
          simp (config := { maxSteps := 1000000 }) (disch := ((try simp only [awL]); omega)) only [QR, QS, QT, QU, QV, QW, QX, QY, QZ, Q0, Q1, Q2, MF7_t, MF7_n, gl, ↓awU, awV, awF, Qa, Qb, Qc, Qd, forall_const, ↓reduceIte, ↓reduceDIte, ↓Qe, Qf, Qg, Qh, Qi, Qj, Qk, Ql, Qm, Qn, Qo, Qp, Qq, Qr, Qs, implies_true, Qt, Qu, Qv, Qw, Qx, Qy, Qz, QA, QB, QC, QD, QE, QF, QG, QH, QI, QJ, QK, QL, QM, QN, QO, QP, QQ]
          refine CallC.by (string_spec used out) (by rfl) (by rfl) (by simp) ?_
          simp (config := { maxSteps := 1000000 }) (disch := ((try simp only [awL]); omega)) only [QR, QS, QT, QU, QV, QW, QX, QY, QZ, Q0, Q1, Q2, MF7_t, MF7_n, ↓awU, awV, awF, Qa, Qb, Qc, Qd, forall_const, ↓reduceIte, ↓reduceDIte, ↓Qe, Qf, Qg, Qh, Qi, Qj, Qk, Ql, Qm, Qn, Qo, Qp, Qq, Qr, Qs, implies_true, Qt, Qu, Qv, Qw, Qx, Qy, Qz, QA, QB, QC, QD, QE, QF, QG, QH, QI, QJ, QK, QL, QM, QN, QO, QP, QQ]
          rw [hr]; rfl
    · rw [if_pos hc] at hr
      have hk : checkL ly g ≤ 4 := by unfold checkL; repeat' split
                                      all_goals decide
      generalize checkL ly g = ck at *
      simp (config := { maxSteps := 1000000 }) (disch := ((try simp only [awL]); omega)) only [QR, QS, QT, QU, QV, QW, QX, QY, QZ, Q0, Q1, Q2, MF7_t, MF7_n, ↓awU, awV, awF, Qa, Qb, Qc, Qd, forall_const, ↓reduceIte, ↓reduceDIte, ↓Qe, Qf, Qg, Qh, Qi, Qj, Qk, Ql, Qm, Qn, Qo, Qp, Qq, Qr, Qs, implies_true, Qt, Qu, Qv, Qw, Qx, Qy, Qz, QA, QB, QC, QD, QE, QF, QG, QH, QI, QJ, QK, QL, QM, QN, QO, QP, QQ]
      rw [hr]; rfl
end Go.Proofs.YtacepalmphbnfaaDoor

namespace Go.Proofs.YtacepalmphbnfaaDoor
open Go Go.Proofs Go.Abs
variable {G : Globals}
/-! The reference: writing a file in a layout. -/
end Go.Proofs.YtacepalmphbnfaaDoor

namespace Go.Proofs.YtacepalmphbnfaaDoor
open Go Go.Proofs Go.Abs
variable {G : Globals}
/-! The reference's Infer. -/
def mrgR : List Bool → Nat → List Nat → List Bool
  | q, _, [] => q
  | q, k, r :: t => mrgR (stepB q k r) (k + 1) t
theorem mrgF_runes : ∀ (n : Nat) (l : List UInt8) (p k : Nat) (o : List Bool), l.length - p = n → mrgF l p k o = mrgR o k (rnF l p) := by
  intro n
  induction n using Nat.strongRecOn with
  | _ n ih =>
    intro l p k o hn
    by_cases h : p < l.length
    · have := dec_end l p h
      rw [mrgF_more h, rnF_more h, mrgR]
      exact ih _ (by omega) l _ _ _ rfl
    · rw [mrgF_end h, rnF_end h]; rfl
theorem scanF_in : ∀ (n : Nat) (bl : List Bool) (gap : Int) (i run : Nat) (lead : Bool), bl.length - i = n →
    (scanF bl gap i run lead).Pairwise (· < ·) ∧ ∀ x ∈ scanF bl gap i run lead, ((if lead = true then i + 1 else i : Nat) : Int) ≤ x ∧ x < bl.length := by
  intro n
  induction n with
  | zero => intro bl gap i run lead hn; rw [scanF_end (by omega)]; simp
  | succ n ih =>
    intro bl gap i run lead hn
    have h : i < bl.length := by omega
    cases hb : bl.getD i false
    · rw [scanF_ink h hb]
      obtain ⟨a, b⟩ := ih bl gap (i + 1) 0 false (by omega)
      simp only [Bool.false_eq_true, if_false] at b
      by_cases hc : gap ≤ run ∧ lead = false
      · rw [if_pos hc]
        refine ⟨?_, fun x hx => ?_⟩
        · rw [List.singleton_append, List.pairwise_cons]
          exact ⟨fun x hx => by have := (b x hx).1; omega, a⟩
        · rw [hc.2]
          simp only [Bool.false_eq_true, if_false]
          rcases List.mem_append.1 hx with h1 | h1
          · simp only [List.mem_singleton] at h1; omega
          · have := b x h1; omega
      · rw [if_neg hc, List.nil_append]
        refine ⟨a, fun x hx => ?_⟩
        have := b x hx
        split <;> omega
    · rw [scanF_blank h hb]
      obtain ⟨a, b⟩ := ih bl gap (i + 1) (run + 1) lead (by omega)
      refine ⟨a, fun x hx => ?_⟩
      have := b x hx
      split <;> rename_i h5 <;> simp only [h5, if_true, if_false, Bool.false_eq_true] at this <;> omega
theorem ascF_pair {l : List Int} (h1 : l.Pairwise (· < ·)) (h2 : ∀ x ∈ l, x ≤ 1048576) : ∀ (n i : Nat), l.length - i = n → 1 ≤ i → ascF l i = true := by
  intro n
  induction n with
  | zero => intro i hn _; exact ascF_end (by omega)
  | succ n ih =>
    intro i hn hi
    have h : i < l.length := by omega
    have h0 : i - 1 < l.length := by omega
    rw [ascF_more h, ih (i + 1) (by omega) (by omega), Bool.and_true]
    have e1 : l.getD (i - 1) 0 = l[i - 1] := by rw [List.getD_eq_getElem?_getD, List.getElem?_eq_getElem h0]; rfl
    have e2 : l.getD i 0 = l[i] := by rw [List.getD_eq_getElem?_getD, List.getElem?_eq_getElem h]; rfl
    rw [e1, e2]
    exact decide_eq_true ⟨List.pairwise_iff_getElem.1 h1 (i - 1) i h0 h (by omega), h2 _ (List.getElem_mem _)⟩
theorem layL_asc {d : List UInt8} {gap : Int} (h : (blanksL (linesL d)).length ≤ 1048576) : (layL d gap).Pairwise (· < ·) ∧ ∀ x ∈ layL d gap, 0 ≤ x ∧ x ≤ 1048576 := by
  obtain ⟨a, b⟩ := scanF_in _ (blanksL (linesL d)) gap 0 0 true rfl
  simp only [if_true] at b
  unfold layL
  refine ⟨List.pairwise_cons.2 ⟨fun x hx => by have := (b x hx).1; omega, a⟩, fun x hx => ?_⟩
  rcases List.mem_cons.1 hx with rfl | hx
  · decide
  · have := b x hx; omega
theorem okLay_layL {d : List UInt8} {gap : Int} (h : (blanksL (linesL d)).length ≤ 1048576) : okLay (layL d gap) = decide ((layL d gap).length ≤ 64) := by
  obtain ⟨a, b⟩ := layL_asc (gap := gap) h
  have hl : (layL d gap).length ≠ 0 := by simp [layL]
  unfold okLay
  rw [ascF_pair a (fun x hx => (b x hx).2) _ 1 rfl (Nat.le_refl _), Bool.and_true]
  congr 1
  apply propext
  exact ⟨fun h => h.2.1, fun h => ⟨hl, h, rfl⟩⟩
def nots (q : List Bool) : List Bool := q.map not
end Go.Proofs.YtacepalmphbnfaaDoor

namespace Go.Proofs.YtacepalmphbnfaaDoor
open Go Go.Proofs Go.Abs
variable {G : Globals}
/-! The layout with a text: what is parsed. -/
end Go.Proofs.YtacepalmphbnfaaDoor

namespace Go.Proofs.YtacepalmphbnfaaDoor
open Go Go.Proofs Go.Abs
variable {G : Globals}
/-! The layout with a text: fixed.Layout. -/
end Go.Proofs.YtacepalmphbnfaaDoor

namespace Go.Proofs.YtacepalmphbnfaaDoor
open Go Go.Proofs Go.Abs
variable {G : Globals}
/-! The layout with a text: the reference's Layout. -/
end Go.Proofs.YtacepalmphbnfaaDoor

namespace Go.Proofs.YtacepalmphbnfaaDoor
open Go Go.Proofs Go.Abs
variable {G : Globals}
/-! The dice's layouts and grids. -/
def layGo (t : List Int) : Nat → List Nat → Nat → List Nat × Nat
  | 0, l, k => (l, k)
  | n + 1, l, k => layGo t n (l ++ [l.getD (l.length - 1) 0 + 1 + (pk t k 12).toNat]) (k + 1)
def layM (t : List Int) (k : Nat) : List Nat := (layGo t (pk t k 4).toNat [0] (k + 1)).1
def layK (t : List Int) (k : Nat) : Nat := (layGo t (pk t k 4).toNat [0] (k + 1)).2
def asI (l : List Nat) : List Int := l.map fun n : Nat => (n : Int)
theorem ints_asI {l : List Nat} : ints .i64 (asI l) = nats .i64 l := by simp [ints, nats, asI]
/-- Ascending places, each at most a thousand. -/
def LayI (l : List Nat) : Prop := l ≠ [] ∧ l.getD 0 0 = 0 ∧ l.length ≤ 4 ∧ (∀ i, i < l.length → l.getD i 0 ≤ 12 * i) ∧ ∀ i, i + 1 < l.length → l.getD i 0 < l.getD (i + 1) 0
theorem LayI.step {l : List Nat} (h : LayI l) (hl : l.length < 4) {c : Nat} (hc : c < 12) : LayI (l ++ [l.getD (l.length - 1) 0 + 1 + c]) := by
  obtain ⟨h1, h2, h3, h4, h5⟩ := h
  have lp : 0 < l.length := List.length_pos_iff.2 h1
  have old : ∀ i, i < l.length → (l ++ [l.getD (l.length - 1) 0 + 1 + c]).getD i 0 = l.getD i 0 := fun i hi => by
    rw [List.getD_eq_getElem?_getD, List.getElem?_append_left hi, ← List.getD_eq_getElem?_getD]
  have new : (l ++ [l.getD (l.length - 1) 0 + 1 + c]).getD l.length 0 = l.getD (l.length - 1) 0 + 1 + c := by
    rw [List.getD_eq_getElem?_getD, List.getElem?_append_right (Nat.le_refl _), Nat.sub_self]; rfl
  refine ⟨by simp, by rw [old 0 lp, h2], by rw [List.length_append, List.length_singleton]; omega, fun i hi => ?_, fun i hi => ?_⟩
  · rw [List.length_append, List.length_singleton] at hi
    rcases Nat.lt_or_ge i l.length with h | h
    · rw [old i h]; exact h4 i h
    · obtain rfl : i = l.length := by omega
      rw [new]
      have := h4 (l.length - 1) (by omega)
      omega
  · rw [List.length_append, List.length_singleton] at hi
    rcases Nat.lt_or_ge (i + 1) l.length with h | h
    · rw [old i (by omega), old (i + 1) h]; exact h5 i h
    · have e : i + 1 = l.length := by omega
      rw [e, new, old i (by omega)]
      have : i = l.length - 1 := by omega
      rw [this]; omega
theorem layGo_ok (t : List Int) : ∀ (n : Nat) (l : List Nat) (k : Nat), LayI l → l.length + n ≤ 4 → LayI (layGo t n l k).1
  | 0, l, k, h, _ => h
  | n + 1, l, k, h, hn => by
    obtain ⟨c, hc, hc2⟩ := pk_nat t k 12 (by decide)
    rw [layGo, hc, Int.toNat_natCast]
    exact layGo_ok t n _ _ (h.step (by omega) (by omega)) (by rw [List.length_append, List.length_singleton]; omega)
theorem layI_zero : LayI [0] := ⟨by simp, rfl, by simp, fun i hi => by simp at hi; subst hi; simp, fun i hi => by simp at hi⟩
theorem layM_ok (t : List Int) (k : Nat) : LayI (layM t k) := by
  obtain ⟨c, hc, hc2⟩ := pk_nat t k 4 (by decide)
  unfold layM
  rw [hc, Int.toNat_natCast]
  exact layGo_ok t c _ _ layI_zero (by simp only [List.length_singleton]; omega)
theorem LayI.lay {l : List Nat} (h : LayI l) : Lay l := by
  obtain ⟨h1, h2, h3, h4, h5⟩ := h
  exact ⟨by omega, fun i hi => by have := h4 i hi; omega, fun i hi => Nat.le_of_lt (h5 i hi)⟩
theorem natsOf_asI : ∀ l : List Nat, natsOf (asI l) = l
  | [] => rfl
  | a :: t => by
    have ih := natsOf_asI t
    simp only [natsOf, asI, List.map_cons, Int.toNat_natCast] at ih ⊢
    rw [ih]
theorem asI_getD {l : List Nat} {i : Nat} : (asI l).getD i 0 = ((l.getD i 0 : Nat) : Int) := by
  simp only [asI, List.getD_eq_getElem?_getD, List.getElem?_map]
  cases l[i]? <;> rfl
theorem LayI.okLay {l : List Nat} (h : LayI l) : okLay (asI l) = true := by
  obtain ⟨h1, h2, h3, h4, h5⟩ := h
  have hl : (asI l).length = l.length := by simp [asI]
  have key : ∀ n i, (asI l).length - i = n → 1 ≤ i → ascF (asI l) i = true := by
    intro n
    induction n with
    | zero => intro i hn _; exact ascF_end (by omega)
    | succ n ih =>
      intro i hn hi
      rw [ascF_more (by omega), ih (i + 1) (by omega) (by omega), Bool.and_true, asI_getD, asI_getD]
      have a := h4 i (by omega)
      have b := h5 (i - 1) (by omega)
      rw [show i - 1 + 1 = i by omega] at b
      exact decide_eq_true ⟨by omega, by omega⟩
  unfold Go.Proofs.YtacepalmphbnfaaDoor.okLay
  rw [key _ 1 rfl (Nat.le_refl _), Bool.and_true, hl, asI_getD, h2]
  have := List.length_pos_iff.2 h1
  exact decide_eq_true ⟨by omega, by omega, rfl⟩
set_option maxHeartbeats 8000000 in
set_option maxRecDepth 100000 in
theorem layout_spec (t : List Int) (k : Nat) (ht : OkM t) : Ctr Tryd.prog G 6 [.ptr 0 0] [DiceM t k] (.d (IsF (asI (layM t k)) false)) [DiceM t (layK t k)] := by
  obtain ⟨r, hr⟩ : ∃ r, r = layM t k := ⟨_, rfl⟩
  obtain ⟨k2, hk⟩ : ∃ k2, k2 = layK t k := ⟨_, rfl⟩
  rw [← hr, ← hk]
  unfold layM at hr
  unfold layK at hk
  refine Ctr.body (M := M0) hmix Tryd.func6 rfl go6 ?_
  obtain ⟨m, hm, hm2⟩ := pk_nat t k 4 (by decide)
  rw [hm, Int.toNat_natCast] at hr hk
  simp (config := { maxSteps := 1000000 }) (disch := ((try simp only [awL]); omega)) only [QR, QS, QT, QU, QV, QW, QX, QY, QZ, Q0, Q1, Q2, Tryd.f6, ↓awU, awV, awF, Qa, Qb, Qc, Qd, forall_const, ↓reduceIte, ↓reduceDIte, ↓Qe, Qf, Qg, Qh, Qi, Qj, Qk, Ql, Qm, Qn, Qo, Qp, Qq, Qr, Qs, implies_true, Qt, Qu, Qv, Qw, Qx, Qy, Qz, QA, QB, QC, QD, QE, QF, QG, QH, QI, QJ, QK, QL, QM, QN, QO, QP, QQ]
  refine CallC.by (pick_spec t k 4 ht (by decide) (by decide)) (by rfl) (by rfl) (Nat.le_refl _) ?_
  rw [hm]
  simp (config := { maxSteps := 1000000 }) (disch := ((try simp only [awL]); omega)) only [QR, QS, QT, QU, QV, QW, QX, QY, QZ, Q0, Q1, Q2, ↓awU, awV, awF, Qa, Qb, Qc, Qd, forall_const, ↓reduceIte, ↓reduceDIte, ↓Qe, Qf, Qg, Qh, Qi, Qj, Qk, Ql, Qm, Qn, Qo, Qp, Qq, Qr, Qs, implies_true, Qt, Qu, Qv, Qw, Qx, Qy, Qz, QA, QB, QC, QD, QE, QF, QG, QH, QI, QJ, QK, QL, QM, QN, QO, QP, QQ]
  refine LoopC.fr 1 (α := Nat × List Nat × Nat) (fun x => x.1) (fun x => [(3, .lsl 1 1 0 x.2.1.length), (4, .d (.int .i64 x.1))]) (fun x => [DiceM t x.2.2, .row false (nats .i64 x.2.1)])
    (fun x => LayI x.2.1 ∧ x.2.1.length + x.1 ≤ 4 ∧ r = (layGo t x.1 x.2.1 x.2.2).1 ∧ k2 = (layGo t x.1 x.2.1 x.2.2).2) (m, [0], k + 1) ⟨layI_zero, by simp only [List.length_singleton]; omega, hr, hk⟩ ?_ ?_
  · exact ⟨[some 0, some 1], rfl, by simp, by simp [setsA, keepA, SWeak, AWeak], by simp [HWeak, BWeak, SWeak, AWeak, nats]⟩
  · rintro ⟨n, l, k1⟩ ⟨h1, h2, h3, h4⟩
    simp only at h1 h2 h3 h4
    have al := @nats_length .i64 l
    have lp : 0 < l.length := List.length_pos_iff.2 h1.1
    simp only [awK, Nat.reduceMod, Nat.reduceDiv, reduceIte]
    match n with
    | 0 =>
      simp only [layGo] at h3 h4
      subst h3 h4
      have cu : cut (nats .i64 r) 0 r.length = nats .i64 r := cut_all al.symm
      have e : IsF (asI r) false = Ns r false := by unfold IsF Ns; rw [ints_asI, show (asI r).length = r.length by simp [asI]]
      rw [e]
      simp (config := { maxSteps := 1000000 }) (disch := ((try simp only [awL]); omega)) only [QR, QS, QT, QU, QV, QW, QX, QY, QZ, Q0, Q1, Q2, ↓awU, awV, awF, Qa, Qb, Qc, Qd, forall_const, ↓reduceIte, ↓reduceDIte, ↓Qe, Qf, Qg, Qh, Qi, Qj, Qk, Ql, Qm, Qn, Qo, Qp, Qq, Qr, Qs, implies_true, Qt, Qu, Qv, Qw, Qx, Qy, Qz, QA, QB, QC, QD, QE, QF, QG, QH, QI, QJ, QK, QL, QM, QN, QO, QP, QQ]
      refine ⟨[some 0], rfl, by simp, by simp [HWeak, BWeak, SWeak, AWeak], .inr ⟨_, rfl, ?_, rfl⟩⟩
      simp (config := { maxSteps := 1000000 }) (disch := ((try simp only [awL]); omega)) only [QR, QS, QT, QU, QV, QW, QX, QY, QZ, Q0, Q1, Q2, cu, ↓awU, awV, awF, Qa, Qb, Qc, Qd, forall_const, ↓reduceIte, ↓reduceDIte, ↓Qe, Qf, Qg, Qh, Qi, Qj, Qk, Ql, Qm, Qn, Qo, Qp, Qq, Qr, Qs, implies_true, Qt, Qu, Qv, Qw, Qx, Qy, Qz, QA, QB, QC, QD, QE, QF, QG, QH, QI, QJ, QK, QL, QM, QN, QO, QP, QQ]
      try rfl
    | n + 1 =>
      obtain ⟨q, hq, hq2⟩ := pk_nat t k1 12 (by omega)
      simp only [layGo, hq, Int.toNat_natCast] at h3 h4
      have st := h1.step (by omega) (show q < 12 by omega)
      have g0 := nats_getD (k := .i64) (d := .nilp) (l := l) (i := l.length - 1) (by omega)
      have eb := h1.2.2.2.1 (l.length - 1) (by omega)
      have ei : ((l.length : Nat) : Int) - 1 = ((l.length - 1 : Nat) : Int) := by omega
      generalize l.getD (l.length - 1) 0 = c at *
      have sp : nats .i64 l ++ [D.int .i64 ((c : Int) + 1 + (q : Int))] = nats .i64 (l ++ [c + 1 + q]) := by simp [nats]
      have tl : (l ++ [c + 1 + q]).length = l.length + 1 := by simp
      generalize hl2 : l ++ [c + 1 + q] = l2 at *
      simp (config := { maxSteps := 1000000 }) (disch := ((try simp only [awL]); omega)) only [QR, QS, QT, QU, QV, QW, QX, QY, QZ, Q0, Q1, Q2, al, ei, g0, ↓awU, awV, awF, Qa, Qb, Qc, Qd, forall_const, ↓reduceIte, ↓reduceDIte, ↓Qe, Qf, Qg, Qh, Qi, Qj, Qk, Ql, Qm, Qn, Qo, Qp, Qq, Qr, Qs, implies_true, Qt, Qu, Qv, Qw, Qx, Qy, Qz, QA, QB, QC, QD, QE, QF, QG, QH, QI, QJ, QK, QL, QM, QN, QO, QP, QQ]
      refine CallC.by (pick_spec t k1 12 ht (by omega) (by omega)) (by rfl) (by rfl) (Nat.le_refl _) ?_
      rw [hq]
      simp (config := { maxSteps := 1000000 }) (disch := ((try simp only [awL]); omega)) only [QR, QS, QT, QU, QV, QW, QX, QY, QZ, Q0, Q1, Q2, al, sp, ↓awU, awV, awF, Qa, Qb, Qc, Qd, forall_const, ↓reduceIte, ↓reduceDIte, ↓Qe, Qf, Qg, Qh, Qi, Qj, Qk, Ql, Qm, Qn, Qo, Qp, Qq, Qr, Qs, implies_true, Qt, Qu, Qv, Qw, Qx, Qy, Qz, QA, QB, QC, QD, QE, QF, QG, QH, QI, QJ, QK, QL, QM, QN, QO, QP, QQ]
      refine ⟨by rfl, ?_⟩
      exact ⟨(n, l2, k1 + 1), ⟨st, by simp only; omega, h3, h4⟩, by simp only; omega, ⟨[some 0, some 3], rfl, by simp, by simp [setsA, keepA, SWeak, AWeak, tl], by simp [HWeak, BWeak, SWeak, AWeak, hl2]⟩⟩
end Go.Proofs.YtacepalmphbnfaaDoor

namespace Go.Proofs.YtacepalmphbnfaaDoor
open Go Go.Proofs Go.Abs
/-! What the dice make is valid and short. -/
theorem valid_ascii : ∀ s : List UInt8, (∀ c ∈ s, c.toNat < 128) → Lib.validD s = true
  | [], _ => rfl
  | c :: r, h => by rw [Lib.validD_cons _ _ (h c (by simp))]; exact valid_ascii r fun x hx => h x (by simp [hx])
def asciiL (s : List UInt8) : Prop := ∀ c ∈ s, c.toNat < 128
theorem ascii_app {a b : List UInt8} (ha : asciiL a) (hb : asciiL b) : asciiL (a ++ b) := fun c hc => by
  rcases List.mem_append.1 hc with h | h
  · exact ha c h
  · exact hb c h
theorem get_all {P : List UInt8 → Prop} {l : List (List UInt8)} (h0 : P []) (h : ∀ s ∈ l, P s) (i : Nat) : P (l.getD i []) := by
  rcases Nat.lt_or_ge i l.length with h1 | h1
  · exact h _ (memD h1)
  · rw [List.getD_eq_getElem?_getD, List.getElem?_eq_none h1]; exact h0
theorem ascii_nil : asciiL [] := fun c h => by cases h
theorem ascii_cons {c : UInt8} {r : List UInt8} (hc : c.toNat < 128) (hr : asciiL r) : asciiL (c :: r) := fun x hx => by
  rcases List.mem_cons.1 hx with rfl | h
  · exact hc
  · exact hr x h
theorem ascii_itoa {n : Nat} (h : n < 100) : asciiL (itoaL n) := by
  unfold itoaL
  split
  · intro c hc; rw [List.mem_singleton.1 hc]; simp; omega
  · intro c hc
    rcases List.mem_cons.1 hc with rfl | hc
    · simp; omega
    · rw [List.mem_singleton.1 hc]; simp; omega
theorem ascii_num (t : List Int) (k : Nat) : asciiL (numM t k) := by
  have h1 : asciiL (num1 t k) := by
    obtain ⟨b, hb, hb2⟩ := pk_nat t (k + 1) 40 (by decide)
    unfold num1
    rw [hb]
    exact ascii_app (get_all ascii_nil (by unfold asciiL; decide) _) (ascii_itoa (by simp; omega))
  have h2 : asciiL (num2 t k) := by
    unfold num2
    split
    · split
      · exact h1
      · exact ascii_cons (by decide) h1
    · exact h1
  unfold numM
  split
  · exact ascii_app h2 (ascii_cons (by decide) (get_all ascii_nil (by unfold asciiL; decide) _))
  · exact h2
theorem ascii_date (t : List Int) (k : Nat) : asciiL (dateM t k) ∧ (dateM t k).length ≤ 10 := by
  have a1 : asciiL (yearsL.getD (pk t k 6).toNat []) := get_all ascii_nil (by unfold asciiL; decide) _
  have a2 : asciiL (monthsL.getD (pk t (k + 1) 5).toNat []) := get_all ascii_nil (by unfold asciiL; decide) _
  have a3 : asciiL (daysL.getD (pk t (k + 2) 5).toNat []) := get_all ascii_nil (by unfold asciiL; decide) _
  have l1 := get_len (l := yearsL) (m := 4) (by decide) (pk t k 6).toNat
  have l2 := get_len (l := monthsL) (m := 2) (by decide) (pk t (k + 1) 5).toNat
  have l3 := get_len (l := daysL) (m := 2) (by decide) (pk t (k + 2) 5).toNat
  have one : ∀ n : UInt8, n.toNat < 128 → asciiL [n] := fun n h => ascii_cons h ascii_nil
  unfold dateM
  simp only
  split
  · exact ⟨ascii_app (ascii_app (ascii_app (ascii_app a1 (one _ (by decide))) a2) (one _ (by decide))) a3, by simp only [List.length_append, List.length_cons, List.length_nil]; omega⟩
  · split
    · exact ⟨ascii_app (ascii_app (ascii_app (ascii_app a1 (one _ (by decide))) a2) (one _ (by decide))) a3, by simp only [List.length_append, List.length_cons, List.length_nil]; omega⟩
    · exact ⟨ascii_app (ascii_app (ascii_app (ascii_app a3 (one _ (by decide))) a2) (one _ (by decide))) a1, by simp only [List.length_append, List.length_cons, List.length_nil]; omega⟩
def okT (s : List UInt8) : Prop := Lib.validD s = true ∧ s.length ≤ 30
instance (s : List UInt8) : Decidable (okT s) := by unfold okT; exact inferInstance
theorem okT_nil : okT [] := by decide
set_option maxRecDepth 100000 in
theorem okT_words : ∀ s ∈ wordsL, okT s := by decide
set_option maxRecDepth 100000 in
theorem okT_bools : ∀ s ∈ boolsL, okT s := by decide
set_option maxRecDepth 100000 in
theorem okT_nulls : ∀ s ∈ nullsL, okT s := by decide
set_option maxRecDepth 100000 in
theorem okT_odds : ∀ s ∈ oddsL, okT s := by decide
theorem fieldM_ok (t : List Int) (k c : Nat) : okT (fieldM t k c) := by
  unfold fieldM
  repeat' split
  · exact get_all okT_nil okT_words _
  · exact ⟨valid_ascii _ (ascii_num t k), by have := (numM_len t k).2; omega⟩
  · exact ⟨valid_ascii _ (ascii_date t k).1, by have := (ascii_date t k).2; omega⟩
  · exact get_all okT_nil okT_bools _
  · have := (numM_len t k).2
    have l2 := get_len (l := unitsL) (m := 4) (by decide) (pk t (numK t k) 7).toNat
    exact ⟨valid_ascii _ (ascii_app (ascii_num t k) (get_all ascii_nil (by unfold asciiL; decide) _)), by rw [List.length_append]; omega⟩
  · exact get_all okT_nil okT_nulls _
  · exact get_all okT_nil okT_odds _
/-- A grid of the dice. -/
structure OddG (g : List Row) (m n : Nat) : Prop where
  len : g.length ≤ m
  row : ∀ r ∈ g, r ≠ [] ∧ r.length ≤ n
  txt : ∀ r ∈ g, ∀ s ∈ r, okT s
theorem OddG.grid {g : List Row} {m n : Nat} (h : OddG g m n) (hm : m ≤ 1000) (hn : n ≤ 1000) : okGrid g :=
  ⟨by have := h.len; omega, fun r hr => ⟨by have := (h.row r hr).2; omega, fun s hs => by have := (h.txt r hr s hs).2; omega⟩⟩
theorem OddG.bad {g : List Row} {m n : Nat} (h : OddG g m n) : g.any badR = false := by
  rw [List.any_eq_false]
  intro r hr
  have : badR r = false := by
    unfold badR
    rw [Bool.or_eq_false_iff]
    refine ⟨decide_eq_false fun e => (h.row r hr).1 (List.eq_nil_of_length_eq_zero e), List.any_eq_false.2 fun s hs => ?_⟩
    unfold badF
    rw [(h.txt r hr s hs).1]; decide
  rw [this]; decide
end Go.Proofs.YtacepalmphbnfaaDoor

namespace Go.Proofs.YtacepalmphbnfaaDoor
open Go Go.Proofs Go.Abs
variable {G : Globals}
/-! The dice's grids for a layout. -/
def OkS (t : List Int) : Prop := ∀ i, 0 ≤ t.getD i 0 ∧ t.getD i 0 ≤ 255
theorem OkS.take {t : List Int} (h : OkS t) : OkM (t.take 300) := by
  refine ⟨by rw [List.length_take]; omega, fun i => ?_⟩
  rcases Nat.lt_or_ge i 300 with h1 | h1
  · have := h i
    rw [List.getD_eq_getElem?_getD, List.getElem?_take, if_pos h1, ← List.getD_eq_getElem?_getD]
    exact this
  · rw [List.getD_eq_getElem?_getD, List.getElem?_take, if_neg (by omega)]; decide
/-- Whether a text has a control sign. -/
def lowS (s : List UInt8) (p : Nat) : Bool := (rnF s p).any fun r => decide (r < 32)
theorem lowS_more {s : List UInt8} {p : Nat} (h : p < s.length) : lowS s p = (decide ((dec s p).1 < 32) || lowS s (p + (dec s p).2)) := by rw [lowS, rnF_more h, List.any_cons]; rfl
theorem lowS_end {s : List UInt8} {p : Nat} (h : ¬ p < s.length) : lowS s p = false := by rw [lowS, rnF_end h]; rfl
/-- The code points that have room. -/
def runF (ly : List Nat) (i : Nat) (s : List UInt8) : List Nat :=
  if i + 1 < ly.length ∧ ly.getD (i + 1) 0 - ly.getD i 0 < (rnF (Lib.trimB s 32) 0).length then (rnF (Lib.trimB s 32) 0).take (ly.getD (i + 1) 0 - ly.getD i 0) else rnF (Lib.trimB s 32) 0
def fitX (ly : List Nat) (i : Nat) (s : List UInt8) : List UInt8 := if lowS (Lib.trimB (encL (runF ly i s)) 32) 0 = true then [] else Lib.trimB (encL (runF ly i s)) 32
def gFld (ly : List Nat) (fit : Bool) (i : Nat) (s : List UInt8) : List UInt8 := if fit = true then fitX ly i s else s
def gRow (t : List Int) (ly : List Nat) (fit : Bool) : Nat → Nat → Nat → Row × Nat
  | 0, _, k => ([], k)
  | m + 1, i, k => (gFld ly fit i (fieldM t (k + 1) (pk t k 7).toNat) :: (gRow t ly fit m (i + 1) (fieldK t (k + 1) (pk t k 7).toNat)).1, (gRow t ly fit m (i + 1) (fieldK t (k + 1) (pk t k 7).toNat)).2)
def gRows (t : List Int) (ly : List Nat) (fit : Bool) : Nat → Nat → List Row × Nat
  | 0, k => ([], k)
  | m + 1, k => ((gRow t ly fit ly.length 0 k).1 :: (gRows t ly fit m (gRow t ly fit ly.length 0 k).2).1, (gRows t ly fit m (gRow t ly fit ly.length 0 k).2).2)
def gridM (t : List Int) (ly : List Nat) (fit : Bool) (k : Nat) : List Row := (gRows t ly fit (pk t k 6).toNat (k + 1)).1
def gridK (t : List Int) (ly : List Nat) (fit : Bool) (k : Nat) : Nat := (gRows t ly fit (pk t k 6).toNat (k + 1)).2
set_option maxHeartbeats 16000000 in
set_option maxRecDepth 100000 in
theorem grid_spec (t : List Int) (k : Nat) (ly : List Nat) (lf fit : Bool) (ht : OkM t) (hly : LayI ly) :
    Ctr Tryd.prog G 8 [.ptr 0 0, .d (Ns ly lf), .d (.bool fit)] [DiceM t k] (.d (.agg [Gr (gridM t ly fit k) false])) [DiceM t (gridK t ly fit k)] := by
  obtain ⟨r, hr⟩ : ∃ r, r = gridM t ly fit k := ⟨_, rfl⟩
  obtain ⟨k2, hk⟩ : ∃ k2, k2 = gridK t ly fit k := ⟨_, rfl⟩
  rw [← hr, ← hk]
  unfold gridM at hr
  unfold gridK at hk
  refine Ctr.body (M := M0) hmix Tryd.func8 rfl go8 ?_
  obtain ⟨m, hm, hm2⟩ := pk_nat t k 6 (by decide)
  rw [hm, Int.toNat_natCast] at hr hk
  have nl := @nats_length .i64 ly
  have hl4 := hly.2.2.1
  simp (config := { maxSteps := 1000000 }) (disch := ((try simp only [awL]); omega)) only [QR, QS, QT, QU, QV, QW, QX, QY, QZ, Q0, Q1, Q2, Tryd.f8, ↓awU, awV, awF, Qa, Qb, Qc, Qd, forall_const, ↓reduceIte, ↓reduceDIte, ↓Qe, Qf, Qg, Qh, Qi, Qj, Qk, Ql, Qm, Qn, Qo, Qp, Qq, Qr, Qs, implies_true, Qt, Qu, Qv, Qw, Qx, Qy, Qz, QA, QB, QC, QD, QE, QF, QG, QH, QI, QJ, QK, QL, QM, QN, QO, QP, QQ]
  refine CallC.by (pick_spec t k 6 ht (by decide) (by decide)) (by rfl) (by rfl) (Nat.le_refl _) ?_
  rw [hm]
  simp (config := { maxSteps := 1000000 }) (disch := ((try simp only [awL]); omega)) only [QR, QS, QT, QU, QV, QW, QX, QY, QZ, Q0, Q1, Q2, ↓awU, awV, awF, Qa, Qb, Qc, Qd, forall_const, ↓reduceIte, ↓reduceDIte, ↓Qe, Qf, Qg, Qh, Qi, Qj, Qk, Ql, Qm, Qn, Qo, Qp, Qq, Qr, Qs, implies_true, Qt, Qu, Qv, Qw, Qx, Qy, Qz, QA, QB, QC, QD, QE, QF, QG, QH, QI, QJ, QK, QL, QM, QN, QO, QP, QQ]
  refine LoopC.fr 199 (α := List Row × Nat × Nat) (fun x => x.2.1) (fun x => [(8, .d (.int .i64 x.2.1))]) (fun x => [DiceM t x.2.2, .box [.d (.sl 0 true [])], .box [.lsl 3 1 0 x.1.length], .row false (rowsD x.1)])
    (fun x => x.1.length + x.2.1 ≤ 500 ∧ r = x.1 ++ (gRows t ly fit x.2.1 x.2.2).1 ∧ k2 = (gRows t ly fit x.2.1 x.2.2).2) ([], m, k + 1) ⟨by simp only [List.length_nil]; omega, hr, hk⟩ ?_ ?_
  · exact ⟨[some 0, some 1, some 2, none], rfl, by simp, by simp [setsA, keepA, SWeak, AWeak], by simp [HWeak, BWeak, SWeak, AWeak, rowsD]⟩
  · rintro ⟨acc, n, k1⟩ ⟨h1, h2, h3⟩
    simp only at h1 h2 h3
    have al := @rowsD_length acc
    simp only [awK, Nat.reduceMod, Nat.reduceDiv, reduceIte]
    match n with
    | 0 =>
      simp only [gRows, List.append_nil] at h2 h3
      subst h2 h3
      have cu : cut (rowsD r) 0 r.length = rowsD r := cut_all al.symm
      simp (config := { maxSteps := 1000000 }) (disch := ((try simp only [awL]); omega)) only [QR, QS, QT, QU, QV, QW, QX, QY, QZ, Q0, Q1, Q2, ↓awU, awV, awF, Qa, Qb, Qc, Qd, forall_const, ↓reduceIte, ↓reduceDIte, ↓Qe, Qf, Qg, Qh, Qi, Qj, Qk, Ql, Qm, Qn, Qo, Qp, Qq, Qr, Qs, implies_true, Qt, Qu, Qv, Qw, Qx, Qy, Qz, QA, QB, QC, QD, QE, QF, QG, QH, QI, QJ, QK, QL, QM, QN, QO, QP, QQ]
      refine ⟨[some 0], rfl, by simp, by simp [HWeak, BWeak, SWeak, AWeak], .inr ⟨_, rfl, ?_, rfl⟩⟩
      simp (config := { maxSteps := 1000000 }) (disch := ((try simp only [awL]); omega)) only [QR, QS, QT, QU, QV, QW, QX, QY, QZ, Q0, Q1, Q2, cu, rowsD_unf, ↓awU, awV, awF, Qa, Qb, Qc, Qd, forall_const, ↓reduceIte, ↓reduceDIte, ↓Qe, Qf, Qg, Qh, Qi, Qj, Qk, Ql, Qm, Qn, Qo, Qp, Qq, Qr, Qs, implies_true, Qt, Qu, Qv, Qw, Qx, Qy, Qz, QA, QB, QC, QD, QE, QF, QG, QH, QI, QJ, QK, QL, QM, QN, QO, QP, QQ]
      try rfl
    | n + 1 =>
      simp only [gRows] at h2 h3
      simp (config := { maxSteps := 1000000 }) (disch := ((try simp only [awL]); omega)) only [QR, QS, QT, QU, QV, QW, QX, QY, QZ, Q0, Q1, Q2, Ns, nl, ↓awU, awV, awF, Qa, Qb, Qc, Qd, forall_const, ↓reduceIte, ↓reduceDIte, ↓Qe, Qf, Qg, Qh, Qi, Qj, Qk, Ql, Qm, Qn, Qo, Qp, Qq, Qr, Qs, implies_true, Qt, Qu, Qv, Qw, Qx, Qy, Qz, QA, QB, QC, QD, QE, QF, QG, QH, QI, QJ, QK, QL, QM, QN, QO, QP, QQ]
      obtain ⟨row0, hrow⟩ : ∃ x, x = gRow t ly fit ly.length 0 k1 := ⟨_, rfl⟩
      rw [← hrow] at h2 h3
      refine LoopC.fr 4194759 (α := Row × Nat × Nat) (fun x => ly.length - x.2.1) (fun x => [(9, .lsl 4 1 0 x.1.length), (23, .d (.int .i64 x.2.1))]) (fun x => [DiceM t x.2.2, .box [.d (.sl 0 true [])], .box [.lsl 3 1 0 acc.length], .row false (rowsD acc), .row false (strs x.1)])
        (fun x => x.2.1 ≤ ly.length ∧ x.1.length = x.2.1 ∧ row0 = (x.1 ++ (gRow t ly fit (ly.length - x.2.1) x.2.1 x.2.2).1, (gRow t ly fit (ly.length - x.2.1) x.2.1 x.2.2).2)) ([], 0, k1) ⟨Nat.zero_le _, rfl, hrow⟩ ?_ ?_
      · exact ⟨[some 0, some 1, some 2, some 3, none], rfl, by simp, by simp [setsA, keepA, SWeak, AWeak], by simp [HWeak, BWeak, SWeak, AWeak, strs]⟩
      · rintro ⟨ro, i, k3⟩ ⟨j0, j1, j2⟩
        simp only at j0 j1 j2
        have sl := @strs_length ro
        simp only [awK, Nat.reduceMod, Nat.reduceDiv, reduceIte]
        rcases Nat.lt_or_ge i ly.length with h | h
        · obtain ⟨c, hc1, hc2⟩ := pk_nat t k3 7 (by omega)
          rw [show ly.length - i = (ly.length - (i + 1)) + 1 by omega] at j2
          simp only [gRow, hc1, Int.toNat_natCast] at j2
          have hfl := (fieldM_ok t (k3 + 1) c).2
          simp (config := { maxSteps := 1000000 }) (disch := ((try simp only [awL]); omega)) only [QR, QS, QT, QU, QV, QW, QX, QY, QZ, Q0, Q1, Q2, ↓awU, awV, awF, Qa, Qb, Qc, Qd, forall_const, ↓reduceIte, ↓reduceDIte, ↓Qe, Qf, Qg, Qh, Qi, Qj, Qk, Ql, Qm, Qn, Qo, Qp, Qq, Qr, Qs, implies_true, Qt, Qu, Qv, Qw, Qx, Qy, Qz, QA, QB, QC, QD, QE, QF, QG, QH, QI, QJ, QK, QL, QM, QN, QO, QP, QQ]
          refine CallC.by (pick_spec t k3 7 ht (by omega) (by omega)) (by rfl) (by rfl) (Nat.le_refl _) ?_
          rw [hc1]
          simp (config := { maxSteps := 1000000 }) (disch := ((try simp only [awL]); omega)) only [QR, QS, QT, QU, QV, QW, QX, QY, QZ, Q0, Q1, Q2, ↓awU, awV, awF, Qa, Qb, Qc, Qd, forall_const, ↓reduceIte, ↓reduceDIte, ↓Qe, Qf, Qg, Qh, Qi, Qj, Qk, Ql, Qm, Qn, Qo, Qp, Qq, Qr, Qs, implies_true, Qt, Qu, Qv, Qw, Qx, Qy, Qz, QA, QB, QC, QD, QE, QF, QG, QH, QI, QJ, QK, QL, QM, QN, QO, QP, QQ]
          refine CallC.by (field_mspec t (k3 + 1) c ht (by omega)) (by rfl) (by rfl) (Nat.le_refl _) ?_
          generalize fieldK t (k3 + 1) c = k4 at *
          generalize fieldM t (k3 + 1) c = fld at *
          cases fit
          · have sp := @strs_push ro fld
            have tl : (ro ++ [fld]).length = ro.length + 1 := by simp
            rw [show gFld ly false i fld = fld from rfl] at j2
            generalize hro : ro ++ [fld] = ro2 at *
            simp (config := { maxSteps := 1000000 }) (disch := ((try simp only [awL]); omega)) only [QR, QS, QT, QU, QV, QW, QX, QY, QZ, Q0, Q1, Q2, sl, sp, ↓awU, awV, awF, Qa, Qb, Qc, Qd, forall_const, ↓reduceIte, ↓reduceDIte, ↓Qe, Qf, Qg, Qh, Qi, Qj, Qk, Ql, Qm, Qn, Qo, Qp, Qq, Qr, Qs, implies_true, Qt, Qu, Qv, Qw, Qx, Qy, Qz, QA, QB, QC, QD, QE, QF, QG, QH, QI, QJ, QK, QL, QM, QN, QO, QP, QQ]
            refine ⟨(ro2, i + 1, k4), ⟨h, by simp only; omega, ?_⟩, by simp only; omega, ⟨[some 0, some 1, some 2, some 3, some 6], rfl, by simp, by simp [setsA, keepA, SWeak, AWeak, tl], by simp [HWeak, BWeak, SWeak, AWeak]⟩⟩
            rw [j2, ← hro]
            simp
          · rw [show gFld ly true i fld = fitX ly i fld from rfl] at j2
            unfold fitX at j2
            simp (config := { maxSteps := 1000000 }) (disch := ((try simp only [awL]); omega)) only [QR, QS, QT, QU, QV, QW, QX, QY, QZ, Q0, Q1, Q2, sl, ↓awU, awV, awF, Qa, Qb, Qc, Qd, forall_const, ↓reduceIte, ↓reduceDIte, ↓Qe, Qf, Qg, Qh, Qi, Qj, Qk, Ql, Qm, Qn, Qo, Qp, Qq, Qr, Qs, implies_true, Qt, Qu, Qv, Qw, Qx, Qy, Qz, QA, QB, QC, QD, QE, QF, QG, QH, QI, QJ, QK, QL, QM, QN, QO, QP, QQ]
            refine CallC.pure (rtrim_spec fld (by omega)) ?_
            have ts := trimB_len fld
            have rd := runesD_bs (Lib.trimB fld 32)
            have rs := runesS_bs (Lib.trimB fld 32)
            have rl := rcL_le (Lib.trimB fld 32)
            rw [rcL_eq] at rl
            unfold runF at j2
            generalize rnF (Lib.trimB fld 32) 0 = rr at *
            have rrl := @nats_length .i32 rr
            have rrb : runesBytes (rr.map fun (n : Nat) => (n : Int)) = bs (encL rr) := runesBytes_bs rr
            have cur : cut (nats .i32 rr) 0 rr.length = nats .i32 rr := cut_all rrl.symm
            rcases Nat.lt_or_ge (i + 1) ly.length with h7 | h7
            · have g0 := nats_getD (k := .i64) (d := .nilp) h
              have g1 := nats_getD (k := .i64) (d := .nilp) h7
              have b0 := hly.2.2.2.1 i h
              have b1 := hly.2.2.2.1 (i + 1) h7
              have b2 := hly.2.2.2.2 i h7
              generalize ly.getD i 0 = u0 at *
              generalize ly.getD (i + 1) 0 = u1 at *
              have eu : (u1 : Int) - (u0 : Int) = ((u1 - u0 : Nat) : Int) := by omega
              rcases Nat.lt_or_ge (u1 - u0) rr.length with h8 | h8
              · rw [if_pos (show i + 1 < ly.length ∧ u1 - u0 < rr.length from ⟨h7, h8⟩)] at j2
                have cut2 : cut (nats .i32 rr) 0 (u1 - u0) = nats .i32 (rr.take (u1 - u0)) := by simp [cut, nats, List.map_take]
                have rf2 := runesOf_nats (rr.take (u1 - u0))
                have rb2 := runesBytes_bs (rr.take (u1 - u0))
                have tkl : (rr.take (u1 - u0)).length = u1 - u0 := by rw [List.length_take]; omega
                simp (config := { maxSteps := 1000000 }) (disch := ((try simp only [awL]); omega)) only [QR, QS, QT, QU, QV, QW, QX, QY, QZ, Q0, Q1, Q2, Ns, nl, g0, g1, eu, rd, rs, rrl, cut2, rf2, rb2, ↓awU, awV, awF, Qa, Qb, Qc, Qd, forall_const, ↓reduceIte, ↓reduceDIte, ↓Qe, Qf, Qg, Qh, Qi, Qj, Qk, Ql, Qm, Qn, Qo, Qp, Qq, Qr, Qs, implies_true, Qt, Qu, Qv, Qw, Qx, Qy, Qz, QA, QB, QC, QD, QE, QF, QG, QH, QI, QJ, QK, QL, QM, QN, QO, QP, QQ]
                refine ⟨by rfl, by rfl, ?_⟩
                have el := encL_len (rr.take (u1 - u0))
                refine CallC.of (rtrim_spec (encL (rr.take (u1 - u0))) (by omega)) (by first | rfl | simp) ?_
                have tz := trimB_len (encL (rr.take (u1 - u0)))
                generalize Lib.trimB (encL (rr.take (u1 - u0))) 32 = z at *
                obtain ⟨y, hy⟩ : ∃ y, y = (if lowS z 0 = true then [] else z) := ⟨_, rfl⟩
                rw [← hy] at j2
                simp (config := { maxSteps := 1000000 }) (disch := ((try simp only [awL]); omega)) only [QR, QS, QT, QU, QV, QW, QX, QY, QZ, Q0, Q1, Q2, ↓awU, awV, awF, Qa, Qb, Qc, Qd, forall_const, ↓reduceIte, ↓reduceDIte, ↓Qe, Qf, Qg, Qh, Qi, Qj, Qk, Ql, Qm, Qn, Qo, Qp, Qq, Qr, Qs, implies_true, Qt, Qu, Qv, Qw, Qx, Qy, Qz, QA, QB, QC, QD, QE, QF, QG, QH, QI, QJ, QK, QL, QM, QN, QO, QP, QQ]
                refine LoopC.fx 2361183241434835190727 (α := Nat) (β := Unit) (fun p => z.length - p) (fun _ => [(11, .d (S z))]) (fun p => [DiceM t k4, .box [.d (.sl 0 true [])], .box [.lsl 3 1 0 acc.length], .row false (rowsD acc), .row false (strs ro), .dead, .iter (bs z) p]) (fun p => p ≤ z.length ∧ lowS z 0 = lowS z p) 12583879 (fun _ => [(11, .d (S y))]) (fun _ => [DiceM t k4, .box [.d (.sl 0 true [])], .box [.lsl 3 1 0 acc.length], .row false (rowsD acc), .row false (strs ro)]) (fun _ => True) 0 ⟨Nat.zero_le _, rfl⟩ ?_ ?_ ?_
                · exact ⟨[some 0, some 1, some 2, some 3, some 4, some 5, some 6], rfl, by simp, by simp [setsA, keepA, SWeak, AWeak], by simp [HWeak, BWeak, SWeak, AWeak]⟩
                · rintro p ⟨p1, p2⟩
                  simp only [awK, Nat.reduceMod, Nat.reduceDiv, reduceIte]
                  rcases Nat.lt_or_ge p z.length with hp | hp
                  · have hd := dec_end z p hp
                    rw [lowS_more hp] at p2
                    rcases Nat.lt_or_ge (dec z p).1 32 with hc | hc
                    · rw [decide_eq_true hc, Bool.true_or] at p2
                      rw [if_pos p2] at hy
                      subst hy
                      simp (config := { maxSteps := 1000000 }) (disch := ((try simp only [awL]); omega)) only [QR, QS, QT, QU, QV, QW, QX, QY, QZ, Q0, Q1, Q2, ↓awU, awV, awF, Qa, Qb, Qc, Qd, forall_const, ↓reduceIte, ↓reduceDIte, ↓Qe, Qf, Qg, Qh, Qi, Qj, Qk, Ql, Qm, Qn, Qo, Qp, Qq, Qr, Qs, implies_true, Qt, Qu, Qv, Qw, Qx, Qy, Qz, QA, QB, QC, QD, QE, QF, QG, QH, QI, QJ, QK, QL, QM, QN, QO, QP, QQ]
                      exact ⟨(), trivial, ⟨[some 0, some 1, some 2, some 3, some 4], rfl, by simp, by simp [setsA, keepA, SWeak, AWeak], by simp [HWeak, BWeak, SWeak, AWeak]⟩⟩
                    · rw [decide_eq_false (by omega), Bool.false_or] at p2
                      simp (config := { maxSteps := 1000000 }) (disch := ((try simp only [awL]); omega)) only [QR, QS, QT, QU, QV, QW, QX, QY, QZ, Q0, Q1, Q2, ↓awU, awV, awF, Qa, Qb, Qc, Qd, forall_const, ↓reduceIte, ↓reduceDIte, ↓Qe, Qf, Qg, Qh, Qi, Qj, Qk, Ql, Qm, Qn, Qo, Qp, Qq, Qr, Qs, implies_true, Qt, Qu, Qv, Qw, Qx, Qy, Qz, QA, QB, QC, QD, QE, QF, QG, QH, QI, QJ, QK, QL, QM, QN, QO, QP, QQ]
                      exact ⟨p + (dec z p).2, ⟨hd.2, p2⟩, by simp only; omega, ⟨[some 0, some 1, some 2, some 3, some 4, some 5, some 6], rfl, by simp, by simp [setsA, keepA, SWeak, AWeak], by simp [HWeak, BWeak, SWeak, AWeak]⟩⟩
                  · rw [lowS_end (p := p) (by omega)] at p2
                    rw [if_neg (by rw [p2]; decide)] at hy
                    subst hy
                    simp (config := { maxSteps := 1000000 }) (disch := ((try simp only [awL]); omega)) only [QR, QS, QT, QU, QV, QW, QX, QY, QZ, Q0, Q1, Q2, ↓awU, awV, awF, Qa, Qb, Qc, Qd, forall_const, ↓reduceIte, ↓reduceDIte, ↓Qe, Qf, Qg, Qh, Qi, Qj, Qk, Ql, Qm, Qn, Qo, Qp, Qq, Qr, Qs, implies_true, Qt, Qu, Qv, Qw, Qx, Qy, Qz, QA, QB, QC, QD, QE, QF, QG, QH, QI, QJ, QK, QL, QM, QN, QO, QP, QQ]
                    exact ⟨(), trivial, ⟨[some 0, some 1, some 2, some 3, some 4], rfl, by simp, by simp [setsA, keepA, SWeak, AWeak], by simp [HWeak, BWeak, SWeak, AWeak]⟩⟩
                · rintro ⟨⟩ -
                  have sp := @strs_push ro y
                  have tl : (ro ++ [y]).length = ro.length + 1 := by simp
                  generalize hro : ro ++ [y] = ro2 at *
                  simp only [awK, Nat.reduceMod, Nat.reduceDiv, reduceIte]
                  simp (config := { maxSteps := 1000000 }) (disch := ((try simp only [awL]); omega)) only [QR, QS, QT, QU, QV, QW, QX, QY, QZ, Q0, Q1, Q2, sl, sp, ↓awU, awV, awF, Qa, Qb, Qc, Qd, forall_const, ↓reduceIte, ↓reduceDIte, ↓Qe, Qf, Qg, Qh, Qi, Qj, Qk, Ql, Qm, Qn, Qo, Qp, Qq, Qr, Qs, implies_true, Qt, Qu, Qv, Qw, Qx, Qy, Qz, QA, QB, QC, QD, QE, QF, QG, QH, QI, QJ, QK, QL, QM, QN, QO, QP, QQ]
                  refine ⟨(ro2, i + 1, k4), ⟨h, by simp only; omega, ?_⟩, by simp only; omega, ⟨[some 0, some 1, some 2, some 3, some 6], rfl, by simp, by simp [setsA, keepA, SWeak, AWeak, tl], by simp [HWeak, BWeak, SWeak, AWeak]⟩⟩
                  rw [j2, ← hro]
                  simp
              · rw [if_neg (show ¬ (i + 1 < ly.length ∧ u1 - u0 < rr.length) by omega)] at j2
                have rf2 := runesOf_nats rr
                simp (config := { maxSteps := 1000000 }) (disch := ((try simp only [awL]); omega)) only [QR, QS, QT, QU, QV, QW, QX, QY, QZ, Q0, Q1, Q2, Ns, nl, g0, g1, eu, rd, rs, rrl, cur, rf2, rrb, ↓awU, awV, awF, Qa, Qb, Qc, Qd, forall_const, ↓reduceIte, ↓reduceDIte, ↓Qe, Qf, Qg, Qh, Qi, Qj, Qk, Ql, Qm, Qn, Qo, Qp, Qq, Qr, Qs, implies_true, Qt, Qu, Qv, Qw, Qx, Qy, Qz, QA, QB, QC, QD, QE, QF, QG, QH, QI, QJ, QK, QL, QM, QN, QO, QP, QQ]
                refine ⟨by rfl, ?_⟩
                have el := encL_len (rr)
                refine CallC.of (rtrim_spec (encL (rr)) (by omega)) (by first | rfl | simp) ?_
                have tz := trimB_len (encL (rr))
                generalize Lib.trimB (encL (rr)) 32 = z at *
                obtain ⟨y, hy⟩ : ∃ y, y = (if lowS z 0 = true then [] else z) := ⟨_, rfl⟩
                rw [← hy] at j2
                simp (config := { maxSteps := 1000000 }) (disch := ((try simp only [awL]); omega)) only [QR, QS, QT, QU, QV, QW, QX, QY, QZ, Q0, Q1, Q2, ↓awU, awV, awF, Qa, Qb, Qc, Qd, forall_const, ↓reduceIte, ↓reduceDIte, ↓Qe, Qf, Qg, Qh, Qi, Qj, Qk, Ql, Qm, Qn, Qo, Qp, Qq, Qr, Qs, implies_true, Qt, Qu, Qv, Qw, Qx, Qy, Qz, QA, QB, QC, QD, QE, QF, QG, QH, QI, QJ, QK, QL, QM, QN, QO, QP, QQ]
                refine LoopC.fx 2361183241434835190727 (α := Nat) (β := Unit) (fun p => z.length - p) (fun _ => [(11, .d (S z))]) (fun p => [DiceM t k4, .box [.d (.sl 0 true [])], .box [.lsl 3 1 0 acc.length], .row false (rowsD acc), .row false (strs ro), .dead, .iter (bs z) p]) (fun p => p ≤ z.length ∧ lowS z 0 = lowS z p) 12583879 (fun _ => [(11, .d (S y))]) (fun _ => [DiceM t k4, .box [.d (.sl 0 true [])], .box [.lsl 3 1 0 acc.length], .row false (rowsD acc), .row false (strs ro)]) (fun _ => True) 0 ⟨Nat.zero_le _, rfl⟩ ?_ ?_ ?_
                · exact ⟨[some 0, some 1, some 2, some 3, some 4, some 5, some 6], rfl, by simp, by simp [setsA, keepA, SWeak, AWeak], by simp [HWeak, BWeak, SWeak, AWeak]⟩
                · rintro p ⟨p1, p2⟩
                  simp only [awK, Nat.reduceMod, Nat.reduceDiv, reduceIte]
                  rcases Nat.lt_or_ge p z.length with hp | hp
                  · have hd := dec_end z p hp
                    rw [lowS_more hp] at p2
                    rcases Nat.lt_or_ge (dec z p).1 32 with hc | hc
                    · rw [decide_eq_true hc, Bool.true_or] at p2
                      rw [if_pos p2] at hy
                      subst hy
                      simp (config := { maxSteps := 1000000 }) (disch := ((try simp only [awL]); omega)) only [QR, QS, QT, QU, QV, QW, QX, QY, QZ, Q0, Q1, Q2, ↓awU, awV, awF, Qa, Qb, Qc, Qd, forall_const, ↓reduceIte, ↓reduceDIte, ↓Qe, Qf, Qg, Qh, Qi, Qj, Qk, Ql, Qm, Qn, Qo, Qp, Qq, Qr, Qs, implies_true, Qt, Qu, Qv, Qw, Qx, Qy, Qz, QA, QB, QC, QD, QE, QF, QG, QH, QI, QJ, QK, QL, QM, QN, QO, QP, QQ]
                      exact ⟨(), trivial, ⟨[some 0, some 1, some 2, some 3, some 4], rfl, by simp, by simp [setsA, keepA, SWeak, AWeak], by simp [HWeak, BWeak, SWeak, AWeak]⟩⟩
                    · rw [decide_eq_false (by omega), Bool.false_or] at p2
                      simp (config := { maxSteps := 1000000 }) (disch := ((try simp only [awL]); omega)) only [QR, QS, QT, QU, QV, QW, QX, QY, QZ, Q0, Q1, Q2, ↓awU, awV, awF, Qa, Qb, Qc, Qd, forall_const, ↓reduceIte, ↓reduceDIte, ↓Qe, Qf, Qg, Qh, Qi, Qj, Qk, Ql, Qm, Qn, Qo, Qp, Qq, Qr, Qs, implies_true, Qt, Qu, Qv, Qw, Qx, Qy, Qz, QA, QB, QC, QD, QE, QF, QG, QH, QI, QJ, QK, QL, QM, QN, QO, QP, QQ]
                      exact ⟨p + (dec z p).2, ⟨hd.2, p2⟩, by simp only; omega, ⟨[some 0, some 1, some 2, some 3, some 4, some 5, some 6], rfl, by simp, by simp [setsA, keepA, SWeak, AWeak], by simp [HWeak, BWeak, SWeak, AWeak]⟩⟩
                  · rw [lowS_end (p := p) (by omega)] at p2
                    rw [if_neg (by rw [p2]; decide)] at hy
                    subst hy
                    simp (config := { maxSteps := 1000000 }) (disch := ((try simp only [awL]); omega)) only [QR, QS, QT, QU, QV, QW, QX, QY, QZ, Q0, Q1, Q2, ↓awU, awV, awF, Qa, Qb, Qc, Qd, forall_const, ↓reduceIte, ↓reduceDIte, ↓Qe, Qf, Qg, Qh, Qi, Qj, Qk, Ql, Qm, Qn, Qo, Qp, Qq, Qr, Qs, implies_true, Qt, Qu, Qv, Qw, Qx, Qy, Qz, QA, QB, QC, QD, QE, QF, QG, QH, QI, QJ, QK, QL, QM, QN, QO, QP, QQ]
                    exact ⟨(), trivial, ⟨[some 0, some 1, some 2, some 3, some 4], rfl, by simp, by simp [setsA, keepA, SWeak, AWeak], by simp [HWeak, BWeak, SWeak, AWeak]⟩⟩
                · rintro ⟨⟩ -
                  have sp := @strs_push ro y
                  have tl : (ro ++ [y]).length = ro.length + 1 := by simp
                  generalize hro : ro ++ [y] = ro2 at *
                  simp only [awK, Nat.reduceMod, Nat.reduceDiv, reduceIte]
                  simp (config := { maxSteps := 1000000 }) (disch := ((try simp only [awL]); omega)) only [QR, QS, QT, QU, QV, QW, QX, QY, QZ, Q0, Q1, Q2, sl, sp, ↓awU, awV, awF, Qa, Qb, Qc, Qd, forall_const, ↓reduceIte, ↓reduceDIte, ↓Qe, Qf, Qg, Qh, Qi, Qj, Qk, Ql, Qm, Qn, Qo, Qp, Qq, Qr, Qs, implies_true, Qt, Qu, Qv, Qw, Qx, Qy, Qz, QA, QB, QC, QD, QE, QF, QG, QH, QI, QJ, QK, QL, QM, QN, QO, QP, QQ]
                  refine ⟨(ro2, i + 1, k4), ⟨h, by simp only; omega, ?_⟩, by simp only; omega, ⟨[some 0, some 1, some 2, some 3, some 6], rfl, by simp, by simp [setsA, keepA, SWeak, AWeak, tl], by simp [HWeak, BWeak, SWeak, AWeak]⟩⟩
                  rw [j2, ← hro]
                  simp
            · rw [if_neg (show ¬ (i + 1 < ly.length ∧ ly.getD (i + 1) 0 - ly.getD i 0 < rr.length) by omega)] at j2
              have rf2 := runesOf_nats rr
              simp (config := { maxSteps := 1000000 }) (disch := ((try simp only [awL]); omega)) only [QR, QS, QT, QU, QV, QW, QX, QY, QZ, Q0, Q1, Q2, Ns, nl, rd, rs, rrl, cur, rf2, rrb, ↓awU, awV, awF, Qa, Qb, Qc, Qd, forall_const, ↓reduceIte, ↓reduceDIte, ↓Qe, Qf, Qg, Qh, Qi, Qj, Qk, Ql, Qm, Qn, Qo, Qp, Qq, Qr, Qs, implies_true, Qt, Qu, Qv, Qw, Qx, Qy, Qz, QA, QB, QC, QD, QE, QF, QG, QH, QI, QJ, QK, QL, QM, QN, QO, QP, QQ]
              refine ⟨by rfl, ?_⟩
              have el := encL_len (rr)
              refine CallC.of (rtrim_spec (encL (rr)) (by omega)) (by first | rfl | simp) ?_
              have tz := trimB_len (encL (rr))
              generalize Lib.trimB (encL (rr)) 32 = z at *
              obtain ⟨y, hy⟩ : ∃ y, y = (if lowS z 0 = true then [] else z) := ⟨_, rfl⟩
              rw [← hy] at j2
              simp (config := { maxSteps := 1000000 }) (disch := ((try simp only [awL]); omega)) only [QR, QS, QT, QU, QV, QW, QX, QY, QZ, Q0, Q1, Q2, ↓awU, awV, awF, Qa, Qb, Qc, Qd, forall_const, ↓reduceIte, ↓reduceDIte, ↓Qe, Qf, Qg, Qh, Qi, Qj, Qk, Ql, Qm, Qn, Qo, Qp, Qq, Qr, Qs, implies_true, Qt, Qu, Qv, Qw, Qx, Qy, Qz, QA, QB, QC, QD, QE, QF, QG, QH, QI, QJ, QK, QL, QM, QN, QO, QP, QQ]
              refine LoopC.fx 2361183241434835190727 (α := Nat) (β := Unit) (fun p => z.length - p) (fun _ => [(11, .d (S z))]) (fun p => [DiceM t k4, .box [.d (.sl 0 true [])], .box [.lsl 3 1 0 acc.length], .row false (rowsD acc), .row false (strs ro), .dead, .iter (bs z) p]) (fun p => p ≤ z.length ∧ lowS z 0 = lowS z p) 12583879 (fun _ => [(11, .d (S y))]) (fun _ => [DiceM t k4, .box [.d (.sl 0 true [])], .box [.lsl 3 1 0 acc.length], .row false (rowsD acc), .row false (strs ro)]) (fun _ => True) 0 ⟨Nat.zero_le _, rfl⟩ ?_ ?_ ?_
              · exact ⟨[some 0, some 1, some 2, some 3, some 4, some 5, some 6], rfl, by simp, by simp [setsA, keepA, SWeak, AWeak], by simp [HWeak, BWeak, SWeak, AWeak]⟩
              · rintro p ⟨p1, p2⟩
                simp only [awK, Nat.reduceMod, Nat.reduceDiv, reduceIte]
                rcases Nat.lt_or_ge p z.length with hp | hp
                · have hd := dec_end z p hp
                  rw [lowS_more hp] at p2
                  rcases Nat.lt_or_ge (dec z p).1 32 with hc | hc
                  · rw [decide_eq_true hc, Bool.true_or] at p2
                    rw [if_pos p2] at hy
                    subst hy
                    simp (config := { maxSteps := 1000000 }) (disch := ((try simp only [awL]); omega)) only [QR, QS, QT, QU, QV, QW, QX, QY, QZ, Q0, Q1, Q2, ↓awU, awV, awF, Qa, Qb, Qc, Qd, forall_const, ↓reduceIte, ↓reduceDIte, ↓Qe, Qf, Qg, Qh, Qi, Qj, Qk, Ql, Qm, Qn, Qo, Qp, Qq, Qr, Qs, implies_true, Qt, Qu, Qv, Qw, Qx, Qy, Qz, QA, QB, QC, QD, QE, QF, QG, QH, QI, QJ, QK, QL, QM, QN, QO, QP, QQ]
                    exact ⟨(), trivial, ⟨[some 0, some 1, some 2, some 3, some 4], rfl, by simp, by simp [setsA, keepA, SWeak, AWeak], by simp [HWeak, BWeak, SWeak, AWeak]⟩⟩
                  · rw [decide_eq_false (by omega), Bool.false_or] at p2
                    simp (config := { maxSteps := 1000000 }) (disch := ((try simp only [awL]); omega)) only [QR, QS, QT, QU, QV, QW, QX, QY, QZ, Q0, Q1, Q2, ↓awU, awV, awF, Qa, Qb, Qc, Qd, forall_const, ↓reduceIte, ↓reduceDIte, ↓Qe, Qf, Qg, Qh, Qi, Qj, Qk, Ql, Qm, Qn, Qo, Qp, Qq, Qr, Qs, implies_true, Qt, Qu, Qv, Qw, Qx, Qy, Qz, QA, QB, QC, QD, QE, QF, QG, QH, QI, QJ, QK, QL, QM, QN, QO, QP, QQ]
                    exact ⟨p + (dec z p).2, ⟨hd.2, p2⟩, by simp only; omega, ⟨[some 0, some 1, some 2, some 3, some 4, some 5, some 6], rfl, by simp, by simp [setsA, keepA, SWeak, AWeak], by simp [HWeak, BWeak, SWeak, AWeak]⟩⟩
                · rw [lowS_end (p := p) (by omega)] at p2
                  rw [if_neg (by rw [p2]; decide)] at hy
                  subst hy
                  simp (config := { maxSteps := 1000000 }) (disch := ((try simp only [awL]); omega)) only [QR, QS, QT, QU, QV, QW, QX, QY, QZ, Q0, Q1, Q2, ↓awU, awV, awF, Qa, Qb, Qc, Qd, forall_const, ↓reduceIte, ↓reduceDIte, ↓Qe, Qf, Qg, Qh, Qi, Qj, Qk, Ql, Qm, Qn, Qo, Qp, Qq, Qr, Qs, implies_true, Qt, Qu, Qv, Qw, Qx, Qy, Qz, QA, QB, QC, QD, QE, QF, QG, QH, QI, QJ, QK, QL, QM, QN, QO, QP, QQ]
                  exact ⟨(), trivial, ⟨[some 0, some 1, some 2, some 3, some 4], rfl, by simp, by simp [setsA, keepA, SWeak, AWeak], by simp [HWeak, BWeak, SWeak, AWeak]⟩⟩
              · rintro ⟨⟩ -
                have sp := @strs_push ro y
                have tl : (ro ++ [y]).length = ro.length + 1 := by simp
                generalize hro : ro ++ [y] = ro2 at *
                simp only [awK, Nat.reduceMod, Nat.reduceDiv, reduceIte]
                simp (config := { maxSteps := 1000000 }) (disch := ((try simp only [awL]); omega)) only [QR, QS, QT, QU, QV, QW, QX, QY, QZ, Q0, Q1, Q2, sl, sp, ↓awU, awV, awF, Qa, Qb, Qc, Qd, forall_const, ↓reduceIte, ↓reduceDIte, ↓Qe, Qf, Qg, Qh, Qi, Qj, Qk, Ql, Qm, Qn, Qo, Qp, Qq, Qr, Qs, implies_true, Qt, Qu, Qv, Qw, Qx, Qy, Qz, QA, QB, QC, QD, QE, QF, QG, QH, QI, QJ, QK, QL, QM, QN, QO, QP, QQ]
                refine ⟨(ro2, i + 1, k4), ⟨h, by simp only; omega, ?_⟩, by simp only; omega, ⟨[some 0, some 1, some 2, some 3, some 6], rfl, by simp, by simp [setsA, keepA, SWeak, AWeak, tl], by simp [HWeak, BWeak, SWeak, AWeak]⟩⟩
                rw [j2, ← hro]
                simp
        · obtain rfl : i = ly.length := by omega
          simp only [Nat.sub_self, gRow, List.append_nil] at j2
          rw [j2] at h2 h3
          simp only at h2 h3
          have cu : cut (strs ro) 0 ro.length = strs ro := cut_all sl.symm
          have sp := @rowsD_push acc ro
          have tl : (acc ++ [ro]).length = acc.length + 1 := by simp
          generalize hacc2 : acc ++ [ro] = acc2 at *
          simp (config := { maxSteps := 1000000 }) (disch := ((try simp only [awL]); omega)) only [QR, QS, QT, QU, QV, QW, QX, QY, QZ, Q0, Q1, Q2, cu, al, sl, sp, ↓awU, awV, awF, Qa, Qb, Qc, Qd, forall_const, ↓reduceIte, ↓reduceDIte, ↓Qe, Qf, Qg, Qh, Qi, Qj, Qk, Ql, Qm, Qn, Qo, Qp, Qq, Qr, Qs, implies_true, Qt, Qu, Qv, Qw, Qx, Qy, Qz, QA, QB, QC, QD, QE, QF, QG, QH, QI, QJ, QK, QL, QM, QN, QO, QP, QQ]
          refine ⟨(acc2, n, k3), ⟨by simp only; omega, ?_, h3⟩, by simp only; omega, ⟨[some 0, some 1, some 2, some 6], rfl, by simp, by simp [setsA, keepA, SWeak, AWeak], by simp [HWeak, BWeak, SWeak, AWeak, tl]⟩⟩
          rw [h2, ← hacc2]
          simp
end Go.Proofs.YtacepalmphbnfaaDoor

namespace Go.Proofs.YtacepalmphbnfaaDoor
open Go Go.Proofs Go.Abs
variable {G : Globals}
/-! The sanity check. -/
def saneT : List UInt8 := [97, 98, 32, 32, 49, 10, 99, 32, 32, 50, 50]
set_option maxRecDepth 100000 in
theorem sane_lines : linesL saneT = [[97, 98, 32, 32, 49], [99, 32, 32, 50, 50]] := by
  unfold saneT linesL
  rw [rawL_more (by decide), rawL_last (by decide) (by decide)]
  decide +kernel
theorem sane_bl : blanksL [[97, 98, 32, 32, 49], [99, 32, 32, 50, 50]] = [false, false, true, false, false] := by
  decide +kernel
theorem sane_infer : inferL saneT 1 = some [0, 3] := by
  unfold inferL layL
  rw [sane_lines, sane_bl]
  decide +kernel
theorem sane_text : textL [0, 3] = some [48, 44, 51] := by decide +kernel
theorem sane_parse : parseF [0, 3] saneT = ([[[97, 98], [49]], [[99], [50, 50]]], 0) := by
  unfold parseF
  rw [sane_lines]
  decide +kernel
set_option maxHeartbeats 4000000 in
set_option maxRecDepth 100000 in
theorem sane_spec (hT : HT G) (hI : HI G) : Ctr Tryd.prog G 4 [] [] (.d (.bool true)) [] := by
  refine Ctr.pure (M := M0) hmix Tryd.func4 rfl go4 ?_
  simp (config := { maxSteps := 1000000 }) (disch := ((try simp only [awL]); omega)) only [QR, QS, QT, QU, QV, QW, QX, QY, QZ, Q0, Q1, Q2, Tryd.f4, ↓awU, awV, awF, Qa, Qb, Qc, Qd, forall_const, ↓reduceIte, ↓reduceDIte, ↓Qe, Qf, Qg, Qh, Qi, Qj, Qk, Ql, Qm, Qn, Qo, Qp, Qq, Qr, Qs, implies_true, Qt, Qu, Qv, Qw, Qx, Qy, Qz, QA, QB, QC, QD, QE, QF, QG, QH, QI, QJ, QK, QL, QM, QN, QO, QP, QQ]
  have i0 := infer_spec hT saneT 1 (by decide)
  rw [sane_infer] at i0
  refine CallC.of i0 (by rfl) ?_
  simp (config := { maxSteps := 1000000 }) (disch := ((try simp only [awL]); omega)) only [QR, QS, QT, QU, QV, QW, QX, QY, QZ, Q0, Q1, Q2, inferD, ↓awU, awV, awF, Qa, Qb, Qc, Qd, forall_const, ↓reduceIte, ↓reduceDIte, ↓Qe, Qf, Qg, Qh, Qi, Qj, Qk, Ql, Qm, Qn, Qo, Qp, Qq, Qr, Qs, implies_true, Qt, Qu, Qv, Qw, Qx, Qy, Qz, QA, QB, QC, QD, QE, QF, QG, QH, QI, QJ, QK, QL, QM, QN, QO, QP, QQ]
  have t0 := ftext_spec hI [0, 3] false (by decide)
  rw [sane_text] at t0
  refine CallC.of t0 (by rfl) ?_
  simp (config := { maxSteps := 1000000 }) (disch := ((try simp only [awL]); omega)) only [QR, QS, QT, QU, QV, QW, QX, QY, QZ, Q0, Q1, Q2, textD, ↓awU, awV, awF, Qa, Qb, Qc, Qd, forall_const, ↓reduceIte, ↓reduceDIte, ↓Qe, Qf, Qg, Qh, Qi, Qj, Qk, Ql, Qm, Qn, Qo, Qp, Qq, Qr, Qs, implies_true, Qt, Qu, Qv, Qw, Qx, Qy, Qz, QA, QB, QC, QD, QE, QF, QG, QH, QI, QJ, QK, QL, QM, QN, QO, QP, QQ]
  have p0 := fparse_spec hT [0, 3] false saneT (by decide) (by decide)
  rw [sane_parse] at p0
  refine CallC.of p0 (by rfl) ?_
  obtain ⟨g, hg⟩ : ∃ g : List Row, g = [[[97, 98], [49]], [[99], [50, 50]]] := ⟨_, rfl⟩
  obtain ⟨r0, hr0⟩ : ∃ r : Row, r = [[97, 98], [49]] := ⟨_, rfl⟩
  obtain ⟨r1, hr1⟩ : ∃ r : Row, r = [[99], [50, 50]] := ⟨_, rfl⟩
  have gl : (rowsD g).length = 2 := by rw [hg]; rfl
  have gl2 : g.length = 2 := by rw [hg]; rfl
  have g0 : (rowsD g).getD 0 .nilp = Ss r0 false := by rw [hg, hr0]; rfl
  have g1 : (rowsD g).getD 1 .nilp = Ss r1 false := by rw [hg, hr1]; rfl
  have l0 : (strs r0).length = 2 := by rw [hr0]; rfl
  have l0' : r0.length = 2 := by rw [hr0]; rfl
  have l1 : (strs r1).length = 2 := by rw [hr1]; rfl
  have l1' : r1.length = 2 := by rw [hr1]; rfl
  have s0 : (strs r0).getD 0 .nilp = S [97, 98] := by rw [hr0]; rfl
  have s1 : (strs r1).getD 1 .nilp = S [50, 50] := by rw [hr1]; rfl
  rw [← hg]
  unfold gridE
  simp (config := { maxSteps := 1000000 }) (disch := ((try simp only [awL]); omega)) only [QR, QS, QT, QU, QV, QW, QX, QY, QZ, Q0, Q1, Q2, gl, gl2, g0, g1, l0, l0', l1, l1', s0, s1, ↓awU, awV, awF, Qa, Qb, Qc, Qd, forall_const, ↓reduceIte, ↓reduceDIte, ↓Qe, Qf, Qg, Qh, Qi, Qj, Qk, Ql, Qm, Qn, Qo, Qp, Qq, Qr, Qs, implies_true, Qt, Qu, Qv, Qw, Qx, Qy, Qz, QA, QB, QC, QD, QE, QF, QG, QH, QI, QJ, QK, QL, QM, QN, QO, QP, QQ]
  try rfl
end Go.Proofs.YtacepalmphbnfaaDoor

namespace Go.Proofs.YtacepalmphbnfaaDoor
open Go Go.Proofs Go.Abs
/-! Code points of joined texts; what trimming leaves. -/
theorem decodeN_ext {n n' b0 b1 b2 b3 c1 c2 c3 : Nat} (h : ¬ ((Lib.decodeN n b0 b1 b2 b3).1 = 65533 ∧ (Lib.decodeN n b0 b1 b2 b3).2 = 1)) (hn : (Lib.decodeN n b0 b1 b2 b3).2 ≤ n')
    (h1 : 1 < (Lib.decodeN n b0 b1 b2 b3).2 → c1 = b1) (h2 : 2 < (Lib.decodeN n b0 b1 b2 b3).2 → c2 = b2) (h3 : 3 < (Lib.decodeN n b0 b1 b2 b3).2 → c3 = b3) : Lib.decodeN n' b0 c1 c2 c3 = Lib.decodeN n b0 b1 b2 b3 := by
  rcases Lib.decodeN_shape n b0 b1 b2 b3 with ⟨a, e⟩ | ⟨a1, a2, a3, a4, e⟩ | ⟨a1, a2, a3, a4, a5, a6, e⟩ | ⟨a1, a2, a3, a4, a5, a6, a7, e⟩ | e
  · rw [e]; unfold Lib.decodeN; rw [if_pos a]
  · rw [e] at hn h1 ⊢
    simp only at hn h1
    obtain rfl := h1 (by decide)
    unfold Lib.decodeN
    rw [if_neg (by omega), if_pos ⟨a1, by omega, a3⟩, if_pos (by omega)]
  · rw [e] at hn h1 h2 ⊢
    simp only at hn h1 h2
    obtain rfl := h1 (by decide)
    obtain rfl := h2 (by decide)
    unfold Lib.decodeN
    rw [if_neg (by omega), if_neg (by omega), if_pos ⟨a1, ⟨by omega, a3⟩, by omega, a4⟩, if_pos (by omega)]
  · rw [e] at hn h1 h2 h3 ⊢
    simp only at hn h1 h2 h3
    obtain rfl := h1 (by decide)
    obtain rfl := h2 (by decide)
    obtain rfl := h3 (by decide)
    unfold Lib.decodeN
    rw [if_neg (by omega), if_neg (by omega), if_neg (by omega), if_pos ⟨a1, ⟨by omega, a3⟩, ⟨by omega, a4⟩, by omega, a5⟩, if_pos (by omega)]
  · rw [e] at h; simp at h
/-- A code point that is read in the text l, and is no fault. -/
def Rd (l : List UInt8) : Prop := l ≠ [] ∧ ¬ ((Lib.decodeL l).1 = 65533 ∧ (Lib.decodeL l).2 = 1)
theorem decodeL_ext {l l' : List UInt8} (h : Rd l) (hl : (Lib.decodeL l).2 ≤ l'.length) (ht : l'.take (Lib.decodeL l).2 = l.take (Lib.decodeL l).2) : Lib.decodeL l' = Lib.decodeL l := by
  have hk := Lib.decodeL_le l h.1
  have hw := Lib.decodeL_width l
  have hg : ∀ j, j < (Lib.decodeL l).2 → l'.getD j 0 = l.getD j 0 := fun j hj => by
    have := congrArg (fun x : List UInt8 => x[j]?) ht
    simp only [List.getElem?_take, if_pos hj] at this
    rw [List.getD_eq_getElem?_getD, List.getD_eq_getElem?_getD, this]
  have hh := h.2
  rw [Lib.decodeL_N l'] 
  rw [Lib.decodeL_N l] at hh hl hg hw ⊢
  rw [hg 0 hw]
  exact decodeN_ext hh hl (fun x => by rw [hg 1 x]) (fun x => by rw [hg 2 x]) (fun x => by rw [hg 3 x])
theorem rnF_drop : ∀ (n : Nat) (l : List UInt8) (p : Nat), l.length - p = n → rnF l p = rnF (l.drop p) 0 := by
  intro n
  induction n using Nat.strongRecOn with
  | _ n ih =>
    intro l p hn
    by_cases h : p < l.length
    · have hd := dec_end l p h
      have e : dec (l.drop p) 0 = dec l p := by rw [dec_drop, dec_drop, List.drop_zero]
      rw [rnF_more h, rnF_more (l := l.drop p) (p := 0) (by rw [List.length_drop]; omega), e, Nat.zero_add, ih _ (by omega) l _ rfl, ih ((l.drop p).length - (dec l p).2) (by rw [List.length_drop]; omega) (l.drop p) _ rfl, List.drop_drop]
    · rw [rnF_end h, rnF_end (by rw [List.length_drop]; omega)]
theorem rnF_step {l : List UInt8} (h : l ≠ []) : rnF l 0 = (Lib.decodeL l).1 :: rnF (l.drop (Lib.decodeL l).2) 0 := by
  rw [rnF_more (List.length_pos_iff.2 h), dec_drop, List.drop_zero, Nat.zero_add, rnF_drop _ l _ rfl]
theorem rnF_nil : rnF [] 0 = [] := rnF_end (by simp)
/-- A code point that stands for its bytes. -/
def Sc (r : Nat) : Prop := ∃ l, Rd l ∧ (Lib.decodeL l).1 = r
theorem sc_dec {r : Nat} (h : Sc r) (t : List UInt8) : Rd (encC r ++ t) ∧ Lib.decodeL (encC r ++ t) = (r, (encC r).length) := by
  obtain ⟨l, hl, rfl⟩ := h
  have he := Lib.encode_decode l hl.1 hl.2
  have hk := Lib.decodeL_le l hl.1
  have hw := Lib.decodeL_width l
  have e : encC (Lib.decodeL l).1 = l.take (Lib.decodeL l).2 := he
  have len : (encC (Lib.decodeL l).1).length = (Lib.decodeL l).2 := by rw [e, List.length_take]; omega
  have ed : Lib.decodeL (encC (Lib.decodeL l).1 ++ t) = Lib.decodeL l := decodeL_ext hl (by rw [List.length_append]; omega) (by
    rw [List.take_append_of_le_length (by omega), List.take_of_length_le (by omega), e])
  refine ⟨⟨fun e2 => ?_, by rw [ed]; exact hl.2⟩, by rw [ed, len]⟩
  have := congrArg List.length e2
  rw [List.length_append, len] at this
  simp at this; omega
theorem rn_sc {r : Nat} (h : Sc r) (t : List UInt8) : rnF (encC r ++ t) 0 = r :: rnF t 0 := by
  obtain ⟨h1, h2⟩ := sc_dec h t
  rw [rnF_step h1.1, h2, List.drop_left]
theorem rn_encL : ∀ (p : List Nat) (t : List UInt8), (∀ r ∈ p, Sc r) → rnF (encL p ++ t) 0 = p ++ rnF t 0
  | [], t, _ => by simp [encL]
  | r :: p, t, h => by
    have e : encL (r :: p) = encC r ++ encL p := by simp [encL]
    rw [e, List.append_assoc, rn_sc (h r (by simp)), rn_encL p t fun x hx => h x (by simp [hx]), List.cons_append]
theorem valid_enc : ∀ (p : List Nat), (∀ r ∈ p, Sc r) → Lib.validD (encL p) = true
  | [], _ => rfl
  | r :: p, h => by
    have e : encL (r :: p) = encC r ++ encL p := by simp [encL]
    obtain ⟨h1, h2⟩ := sc_dec (h r (by simp)) (encL p)
    rw [e, Lib.validD_step _ h1.1, if_neg h1.2, h2, List.drop_left]
    exact valid_enc p fun x hx => h x (by simp [hx])
theorem valid_rd {l : List UInt8} (h : Lib.validD l = true) (hne : l ≠ []) : Rd l ∧ Lib.validD (l.drop (Lib.decodeL l).2) = true := by
  rw [Lib.validD_step l hne] at h
  split at h
  · cases h
  · rename_i hb; exact ⟨⟨hne, hb⟩, h⟩
theorem sc_all : ∀ (n : Nat) (l : List UInt8), l.length = n → Lib.validD l = true → (∀ r ∈ rnF l 0, Sc r) ∧ encL (rnF l 0) = l := by
  intro n
  induction n using Nat.strongRecOn with
  | _ n ih =>
    intro l hn hv
    by_cases hne : l = []
    · subst hne; rw [rnF_nil]; exact ⟨fun r hr => (by cases hr), rfl⟩
    · obtain ⟨h1, h2⟩ := valid_rd hv hne
      have hk := Lib.decodeL_le l hne
      have hw := Lib.decodeL_width l
      obtain ⟨i1, i2⟩ := ih (l.drop (Lib.decodeL l).2).length (by rw [List.length_drop]; omega) _ rfl h2
      rw [rnF_step hne]
      refine ⟨fun r hr => ?_, ?_⟩
      · rcases List.mem_cons.1 hr with rfl | hr
        · exact ⟨l, h1, rfl⟩
        · exact i1 r hr
      · have e : encL ((Lib.decodeL l).1 :: rnF (l.drop (Lib.decodeL l).2) 0) = encC (Lib.decodeL l).1 ++ encL (rnF (l.drop (Lib.decodeL l).2) 0) := by simp [encL]
        rw [e, i2, show encC (Lib.decodeL l).1 = l.take (Lib.decodeL l).2 from Lib.encode_decode l hne h1.2, List.take_append_drop]
theorem sc_of {l : List UInt8} (h : Lib.validD l = true) : ∀ r ∈ rnF l 0, Sc r := (sc_all _ l rfl h).1
theorem enc_rn {l : List UInt8} (h : Lib.validD l = true) : encL (rnF l 0) = l := (sc_all _ l rfl h).2
theorem rn_app {a b : List UInt8} (h : Lib.validD a = true) : rnF (a ++ b) 0 = rnF a 0 ++ rnF b 0 := by
  conv => lhs; rw [← enc_rn h]
  exact rn_encL _ b (sc_of h)
theorem rn_enc {p : List Nat} (h : ∀ r ∈ p, Sc r) : rnF (encL p) 0 = p := by
  have := rn_encL p [] h
  rwa [List.append_nil, rnF_nil, List.append_nil] at this
theorem rn_cons {c : UInt8} (h : c.toNat < 128) (t : List UInt8) : rnF (c :: t) 0 = c.toNat :: rnF t 0 := by
  rw [rnF_step (by simp), Lib.decodeL_ascii c t h]; rfl
/-! Trimming. -/
theorem trimL_split : ∀ l : List UInt8, ∃ m, l = List.replicate m 32 ++ Lib.trimLeftB l 32
  | [] => ⟨0, rfl⟩
  | c :: t => by
    by_cases h : c = 32
    · obtain ⟨m, e⟩ := trimL_split t
      refine ⟨m + 1, ?_⟩
      have e2 : Lib.trimLeftB (c :: t) 32 = Lib.trimLeftB t 32 := by simp [Lib.trimLeftB, h]
      rw [e2, List.replicate_succ, List.cons_append, ← e, h]
    · exact ⟨0, by simp [Lib.trimLeftB, h]⟩
theorem trimR_split (l : List UInt8) : ∃ n, l = Lib.trimRightB l 32 ++ List.replicate n 32 := by
  obtain ⟨m, e⟩ := trimL_split l.reverse
  refine ⟨m, ?_⟩
  have := congrArg List.reverse e
  rw [List.reverse_reverse, List.reverse_append, List.reverse_replicate] at this
  exact this
theorem trim_split (l : List UInt8) : ∃ m n, l = List.replicate m 32 ++ (Lib.trimB l 32 ++ List.replicate n 32) := by
  obtain ⟨n, e⟩ := trimR_split l
  obtain ⟨m, e2⟩ := trimL_split (Lib.trimRightB l 32)
  refine ⟨m, n, ?_⟩
  rw [← List.append_assoc]
  show l = List.replicate m 32 ++ Lib.trimLeftB (Lib.trimRightB l 32) 32 ++ List.replicate n 32
  rw [← e2, ← e]
theorem trimL_head {l : List UInt8} : (Lib.trimLeftB l 32).head? ≠ some 32 := by
  induction l with
  | nil => simp [Lib.trimLeftB]
  | cons c t ih =>
    by_cases h : c = 32
    · have e2 : Lib.trimLeftB (c :: t) 32 = Lib.trimLeftB t 32 := by simp [Lib.trimLeftB, h]
      rw [e2]; exact ih
    · simp [Lib.trimLeftB, h]
theorem trimL_id {l : List UInt8} (h : l.head? ≠ some 32) : Lib.trimLeftB l 32 = l := by
  cases l with
  | nil => rfl
  | cons c t =>
    have : ¬ c = 32 := fun e => h (by rw [e]; rfl)
    simp [Lib.trimLeftB, this]
theorem trimR_id {l : List UInt8} (h : l.getLast? ≠ some 32) : Lib.trimRightB l 32 = l := by
  have := trimL_id (l := l.reverse) (by rw [List.head?_reverse]; exact h)
  show (Lib.trimLeftB l.reverse 32).reverse = l
  rw [this, List.reverse_reverse]
theorem trimR_last (l : List UInt8) : (Lib.trimRightB l 32).getLast? ≠ some 32 := by
  show ((Lib.trimLeftB l.reverse 32).reverse).getLast? ≠ some 32
  rw [List.getLast?_reverse]; exact trimL_head
theorem trim_ends (l : List UInt8) : (Lib.trimB l 32).head? ≠ some 32 ∧ (Lib.trimB l 32).getLast? ≠ some 32 := by
  refine ⟨trimL_head, ?_⟩
  rw [← trim_comm]
  exact trimR_last _
theorem trim_id {l : List UInt8} (h1 : l.head? ≠ some 32) (h2 : l.getLast? ≠ some 32) : Lib.trimB l 32 = l := by
  show Lib.trimLeftB (Lib.trimRightB l 32) 32 = l
  rw [trimR_id h2, trimL_id h1]
theorem trim_idem (l : List UInt8) : Lib.trimB (Lib.trimB l 32) 32 = Lib.trimB l 32 := trim_id (trim_ends l).1 (trim_ends l).2
theorem trim_right (s : List UInt8) : ∀ n, Lib.trimB (s ++ List.replicate n 32) 32 = Lib.trimB s 32
  | 0 => by rw [List.replicate_zero, List.append_nil]
  | n + 1 => by
    rw [List.replicate_succ', ← List.append_assoc]
    show Lib.trimLeftB (Lib.trimRightB ((s ++ List.replicate n 32) ++ [32]) 32) 32 = _
    rw [trimR_snoc]
    exact trim_right s n
theorem valid_left : ∀ (m : Nat) {x : List UInt8}, Lib.validD (List.replicate m 32 ++ x) = true → Lib.validD x = true
  | 0, x, h => by simpa using h
  | m + 1, x, h => by
    rw [List.replicate_succ, List.cons_append, Lib.validD_cons _ _ (by decide)] at h
    exact valid_left m h
theorem valid_right : ∀ (n : Nat) {x : List UInt8}, Lib.validD (x ++ List.replicate n 32) = true → Lib.validD x = true
  | 0, x, h => by simpa using h
  | n + 1, x, h => by
    rw [List.replicate_succ] at h
    exact (valid_cutA (by decide) _ x _ rfl h).1
theorem valid_trim {x : List UInt8} (h : Lib.validD x = true) : Lib.validD (Lib.trimB x 32) = true := by
  obtain ⟨m, n, e⟩ := trim_split x
  rw [e] at h
  exact valid_right n (valid_left m h)
theorem rn_spaces : ∀ (m : Nat) (t : List UInt8), rnF (List.replicate m 32 ++ t) 0 = List.replicate m 32 ++ rnF t 0
  | 0, t => by simp
  | m + 1, t => by rw [List.replicate_succ, List.cons_append, rn_cons (by decide), rn_spaces m t]; rfl
theorem trim_runes {x : List UInt8} (h : Lib.validD x = true) : (rnF (Lib.trimB x 32) 0).length ≤ (rnF x 0).length ∧ ∀ r ∈ rnF (Lib.trimB x 32) 0, r ∈ rnF x 0 := by
  obtain ⟨m, n, e⟩ := trim_split x
  have ht := valid_trim h
  generalize Lib.trimB x 32 = y at *
  rw [e, rn_spaces, rn_app ht]
  exact ⟨by simp only [List.length_append]; omega, fun r hr => by simp [hr]⟩
theorem encC_bytes (r : Nat) : ∀ c ∈ encC r, c.toNat < 128 → c.toNat = r := by
  intro c hc hlt
  unfold encC Lib.encodeRune at hc
  by_cases c1 : r < 128
  · rw [Lib.encodeRuneZ_one (by omega) (by omega)] at hc
    simp at hc
    rw [hc]; simp; omega
  · exfalso
    by_cases c2 : r < 2048
    · rw [Lib.encodeRuneZ_two (by omega) (by omega)] at hc
      simp only [List.map_cons, List.map_nil, List.mem_cons, List.not_mem_nil, or_false] at hc
      rcases hc with rfl | rfl <;> · simp [Nat.toUInt8] at hlt; omega
    · by_cases c3 : (r < 55296) ∨ (57343 < r ∧ r ≤ 65535)
      · rw [Lib.encodeRuneZ_three (by omega)] at hc
        simp only [List.map_cons, List.map_nil, List.mem_cons, List.not_mem_nil, or_false] at hc
        rcases hc with rfl | rfl | rfl <;> · simp [Nat.toUInt8] at hlt; omega
      · by_cases c5 : 65536 ≤ r ∧ r ≤ 1114111
        · rw [Lib.encodeRuneZ_four (by omega) (by omega)] at hc
          simp only [List.map_cons, List.map_nil, List.mem_cons, List.not_mem_nil, or_false] at hc
          rcases hc with rfl | rfl | rfl | rfl <;> · simp [Nat.toUInt8] at hlt; omega
        · rw [Lib.encodeRuneZ_bad (by omega)] at hc
          simp only [List.map_cons, List.map_nil, List.mem_cons, List.not_mem_nil, or_false] at hc
          rcases hc with rfl | rfl | rfl <;> revert hlt <;> decide
theorem low_bytes {x : List UInt8} (h : Lib.validD x = true) (hl : lowS x 0 = false) : ∀ c ∈ x, 32 ≤ c.toNat := by
  intro c hc
  rw [← enc_rn h] at hc
  obtain ⟨r, hr, hc2⟩ := List.mem_flatMap.1 hc
  have h1 := List.any_eq_false.1 hl r hr
  simp only [decide_eq_true_eq] at h1
  rcases Nat.lt_or_ge c.toNat 128 with h2 | h2
  · have := encC_bytes r c hc2 h2; omega
  · omega
end Go.Proofs.YtacepalmphbnfaaDoor

namespace Go.Proofs.YtacepalmphbnfaaDoor
open Go Go.Proofs Go.Abs
/-! What was written in a layout is read back. -/
theorem cut_app {c : UInt8} {x r : List UInt8} (h : c ∉ x) : cutL c (x ++ c :: r) = x ∧ cutR c (x ++ c :: r) = r ∧ c ∈ x ++ c :: r := by
  have hk : x.length < (x ++ c :: r).length := by simp
  have hg : (x ++ c :: r).getD x.length 0 = c := by simp [List.getD_eq_getElem?_getD]
  have ht : (x ++ c :: r).take x.length = x := by simp
  obtain ⟨h1, h2, h3⟩ := cut_at hk hg (by rw [ht]; exact h)
  refine ⟨by rw [h1, ht], by rw [h2]; simp, h3⟩
/-- A row's code points, from column i on, where p places are written. -/
def wrR (ly : List Nat) : Nat → Nat → Row → List Nat
  | _, _, [] => []
  | i, p, s :: r => if s = [] then wrR ly (i + 1) p r else List.replicate (ly.getD i 0 - p) 32 ++ rnF s 0 ++ wrR ly (i + 1) (ly.getD i 0 + rcL s) r
theorem wr_bytes (ly : List Nat) : ∀ (r : Row) (i p : Nat), ∀ c ∈ wrF ly i p r, c = 32 ∨ ∃ s ∈ r, c ∈ s
  | [], _, _, c, h => by cases h
  | s :: r, i, p, c, h => by
    rw [wrF] at h
    split at h
    · rcases wr_bytes ly r _ _ c h with e | ⟨x, h1, h2⟩
      · exact .inl e
      · exact .inr ⟨x, by simp [h1], h2⟩
    · rcases List.mem_append.1 h with h | h
      · rcases List.mem_append.1 h with h | h
        · exact .inl (List.eq_of_mem_replicate h)
        · exact .inr ⟨s, by simp, h⟩
      · rcases wr_bytes ly r _ _ c h with e | ⟨x, h1, h2⟩
        · exact .inl e
        · exact .inr ⟨x, by simp [h1], h2⟩
theorem valid_spaces : ∀ m : Nat, Lib.validD (List.replicate m 32) = true
  | 0 => rfl
  | m + 1 => by rw [List.replicate_succ, Lib.validD_cons _ _ (by decide)]; exact valid_spaces m
theorem rn_wr (ly : List Nat) : ∀ (r : Row) (i p : Nat), (∀ s ∈ r, Lib.validD s = true) → rnF (wrF ly i p r) 0 = wrR ly i p r ∧ Lib.validD (wrF ly i p r) = true
  | [], _, _, _ => ⟨rnF_nil, rfl⟩
  | s :: r, i, p, h => by
    have hs := h s (by simp)
    have hr : ∀ x ∈ r, Lib.validD x = true := fun x hx => h x (by simp [hx])
    rw [wrF, wrR]
    split
    · exact rn_wr ly r _ _ hr
    · obtain ⟨a, b⟩ := rn_wr ly r (i + 1) (ly.getD i 0 + rcL s) hr
      refine ⟨by rw [List.append_assoc, rn_spaces, rn_app hs, a, List.append_assoc], ?_⟩
      exact valid_app (valid_app (valid_spaces _) hs) b
theorem getQ_left {X Y : List Nat} {q : Nat} (h : q < X.length) : (X ++ Y)[q]? = X[q]? := List.getElem?_append_left h
theorem wr_pos (ly : List Nat) (hm : ∀ i, i + 1 < ly.length → ly.getD i 0 ≤ ly.getD (i + 1) 0) : ∀ (r : Row) (i p : Nat) (X : List Nat), X.length = p → i + r.length = ly.length →
    (∀ k, k < r.length → i + k + 1 < ly.length → rcL (r.getD k []) ≤ ly.getD (i + k + 1) 0 - ly.getD (i + k) 0) → (0 < r.length → p ≤ ly.getD i 0) →
    (∀ k, k < r.length → (∀ q, q < rcL (r.getD k []) → (X ++ wrR ly i p r)[ly.getD (i + k) 0 + q]? = (rnF (r.getD k []) 0)[q]?) ∧
      (∀ q, ly.getD (i + k) 0 + rcL (r.getD k []) ≤ q → (i + k + 1 < ly.length → q < ly.getD (i + k + 1) 0) → (X ++ wrR ly i p r)[q]? = none ∨ (X ++ wrR ly i p r)[q]? = some 32)) ∧
    (∀ q, p ≤ q → (r.length = 0 ∨ q < ly.getD i 0) → (X ++ wrR ly i p r)[q]? = none ∨ (X ++ wrR ly i p r)[q]? = some 32)
  | [], i, p, X, hX, hl, hw, hp => by
    refine ⟨fun k hk => absurd hk (Nat.not_lt_zero _), fun q hq _ => .inl ?_⟩
    rw [wrR, List.append_nil]
    exact List.getElem?_eq_none (by omega)
  | s :: r, i, p, X, hX, hl, hw, hp => by
    have hp0 := hp (by simp)
    rw [List.length_cons] at hl
    have w0 := hw 0 (by simp)
    simp only [Nat.add_zero, List.getD_cons_zero] at w0
    have ws : ∀ k, k < r.length → i + 1 + k + 1 < ly.length → rcL (r.getD k []) ≤ ly.getD (i + 1 + k + 1) 0 - ly.getD (i + 1 + k) 0 := fun k hk h => by
      have := hw (k + 1) (by rw [List.length_cons]; omega) (by omega)
      rw [show i + (k + 1) = i + 1 + k by omega] at this
      exact this
    rw [wrR]
    by_cases he : s = []
    · rw [if_pos he]
      obtain ⟨a, b⟩ := wr_pos ly hm r (i + 1) p X hX (by omega) ws (fun h => Nat.le_trans hp0 (hm i (by omega)))
      refine ⟨fun k hk => ?_, fun q hq h => b q hq ?_⟩
      · cases k with
        | zero =>
          have z : rcL (([] : List UInt8)) = 0 := by rw [rcL_eq, rnF_nil]; rfl
          simp only [List.getD_cons_zero, Nat.add_zero]
          rw [he, z, Nat.add_zero]
          refine ⟨fun q hq => absurd hq (Nat.not_lt_zero _), fun q hq h => b q (by omega) ?_⟩
          rcases Nat.eq_zero_or_pos r.length with h0 | h0
          · exact .inl h0
          · exact .inr (h (by omega))
        | succ k =>
          have := a k (by rw [List.length_cons] at hk; omega)
          rw [List.getD_cons_succ, show i + (k + 1) = i + 1 + k by omega]
          exact this
      · rcases h with h | h
        · simp at h
        · rcases Nat.eq_zero_or_pos r.length with h0 | h0
          · exact .inl h0
          · exact .inr (Nat.lt_of_lt_of_le h (hm i (by omega)))
    · rw [if_neg he]
      have hX2 : (X ++ (List.replicate (ly.getD i 0 - p) 32 ++ rnF s 0)).length = ly.getD i 0 + rcL s := by
        rw [List.length_append, List.length_append, List.length_replicate, ← rcL_eq]; omega
      obtain ⟨a, b⟩ := wr_pos ly hm r (i + 1) (ly.getD i 0 + rcL s) (X ++ (List.replicate (ly.getD i 0 - p) 32 ++ rnF s 0)) hX2 (by omega) ws (fun h => by
        have := w0 (by omega)
        have := hm i (by omega)
        omega)
      rw [← List.append_assoc]
      refine ⟨fun k hk => ?_, fun q hq h => ?_⟩
      · cases k with
        | zero =>
          simp only [List.getD_cons_zero, Nat.add_zero]
          refine ⟨fun q hq => ?_, fun q hq h => b q (by omega) ?_⟩
          · rw [getQ_left (by rw [hX2]; omega), List.getElem?_append_right (by omega), List.getElem?_append_right (by rw [List.length_replicate]; omega), List.length_replicate]
            congr 1; omega
          · rcases Nat.eq_zero_or_pos r.length with h0 | h0
            · exact .inl h0
            · exact .inr (h (by omega))
        | succ k =>
          have := a k (by rw [List.length_cons] at hk; omega)
          rw [List.getD_cons_succ, show i + (k + 1) = i + 1 + k by omega]
          exact this
      · rcases h with h | h
        · simp at h
        · right
          rw [getQ_left (by rw [hX2]; omega), List.getElem?_append_right (by omega), List.getElem?_append_left (by rw [List.length_replicate]; omega), List.getElem?_replicate, if_pos (by omega)]
/-- The part of a row's code points that is column j. -/
def segR (ly : List Nat) (R : List Nat) (j : Nat) : List Nat := if j + 1 < ly.length then (R.take (ly.getD (j + 1) 0)).drop (ly.getD j 0) else R.drop (ly.getD j 0)
theorem segR_get {ly R : List Nat} {j q : Nat} (h : j + 1 < ly.length → ly.getD j 0 + q < ly.getD (j + 1) 0) : (segR ly R j)[q]? = R[ly.getD j 0 + q]? := by
  unfold segR
  split
  · rename_i h1
    rw [List.getElem?_drop, List.getElem?_take, if_pos (h h1)]
  · rw [List.getElem?_drop]
theorem segR_end {ly R : List Nat} {j q : Nat} (h1 : j + 1 < ly.length) (h : ly.getD (j + 1) 0 ≤ ly.getD j 0 + q) : (segR ly R j)[q]? = none := by
  unfold segR
  rw [if_pos h1, List.getElem?_drop, List.getElem?_take, if_neg (by omega)]
theorem seg_shape {ly : List Nat} {r : Row} (hm : ∀ i, i + 1 < ly.length → ly.getD i 0 ≤ ly.getD (i + 1) 0) (h0 : 0 < ly.length) (hl : r.length = ly.length)
    (hw : ∀ k, k < r.length → k + 1 < ly.length → rcL (r.getD k []) ≤ ly.getD (k + 1) 0 - ly.getD k 0) {j : Nat} (hj : j < r.length) : ∃ n, segR ly (wrR ly 0 0 r) j = rnF (r.getD j []) 0 ++ List.replicate n 32 := by
  obtain ⟨a, _⟩ := wr_pos ly hm r 0 0 [] rfl (by omega) (fun k hk h => by rw [Nat.zero_add] at h ⊢; exact hw k hk h) (fun _ => Nat.zero_le _)
  obtain ⟨a1, a2⟩ := a j hj
  rw [Nat.zero_add, List.nil_append] at a1 a2
  have m1 := hm j
  have hwj := hw j hj
  generalize hS : segR ly (wrR ly 0 0 r) j = S
  have g : ∀ q, S[q]? = (if j + 1 < ly.length ∧ ly.getD (j + 1) 0 ≤ ly.getD j 0 + q then none else (wrR ly 0 0 r)[ly.getD j 0 + q]?) := fun q => by
    rw [← hS]
    split
    · rename_i h; exact segR_end h.1 h.2
    · rename_i h; exact segR_get fun h1 => by
        rcases Nat.lt_or_ge (ly.getD j 0 + q) (ly.getD (j + 1) 0) with x | x
        · exact x
        · exact absurd ⟨h1, x⟩ h
  have e1 : S.take (rcL (r.getD j [])) = rnF (r.getD j []) 0 := by
    apply List.ext_getElem?
    intro q
    rw [List.getElem?_take]
    split
    · rename_i hq
      rw [g, if_neg (by rintro ⟨x, y⟩; have := hwj x; omega), a1 q hq]
    · rename_i hq
      rw [List.getElem?_eq_none (by rw [← rcL_eq]; omega)]
  have e2 : ∀ b ∈ S.drop (rcL (r.getD j [])), b = 32 := by
    intro b hb
    obtain ⟨q, hq, e⟩ := List.getElem_of_mem hb
    have e3 : (S.drop (rcL (r.getD j [])))[q]? = some b := by rw [List.getElem?_eq_getElem hq, e]
    rw [List.getElem?_drop, g] at e3
    split at e3
    · cases e3
    · rename_i hn
      have := a2 (ly.getD j 0 + (rcL (r.getD j []) + q)) (by omega) (fun h1 => by
        rcases Nat.lt_or_ge (ly.getD j 0 + (rcL (r.getD j []) + q)) (ly.getD (j + 1) 0) with x | x
        · exact x
        · exact absurd ⟨h1, x⟩ hn)
      rcases this with h | h
      · rw [h] at e3; cases e3
      · rw [h] at e3; exact (Option.some.inj e3).symm
  refine ⟨(S.drop (rcL (r.getD j []))).length, ?_⟩
  conv => lhs; rw [← List.take_append_drop (rcL (r.getD j [])) S]
  rw [e1, List.eq_replicate_of_mem e2, List.length_replicate]
theorem enc_spaces : ∀ n : Nat, encL (List.replicate n 32) = List.replicate n 32
  | 0 => rfl
  | n + 1 => by
    have ih := enc_spaces n
    rw [List.replicate_succ, List.replicate_succ]
    have e : encL (32 :: List.replicate n 32) = encC 32 ++ encL (List.replicate n 32) := by simp [encL]
    rw [e, ih, show encC 32 = [32] from by decide]; rfl
theorem fld_seg {ly : List Nat} {l : List UInt8} (hv : Lib.validD l = true) (hm : ∀ i, i + 1 < ly.length → ly.getD i 0 ≤ ly.getD (i + 1) 0) {j : Nat} (hj : j < ly.length) : fldAt ly l j = Lib.trimB (encL (segR ly (rnF l 0) j)) 32 := by
  unfold segR
  split
  · rename_i h
    rw [enc_seg hv (hm j h), fldAt, cell1, if_pos h]
  · rename_i h
    have e : (rnF l 0).drop (ly.getD j 0) = ((rnF l 0).take (max (rnF l 0).length (ly.getD j 0))).drop (ly.getD j 0) := by rw [List.take_of_length_le (Nat.le_max_left _ _)]
    rw [e, enc_seg hv (Nat.le_max_right _ _), fldAt, cell1, if_neg h, offA_end (k := max (rnF l 0).length (ly.getD j 0)) (by rw [rn_len]; exact Nat.le_max_left _ _)]
/-- A row that fits a layout. -/
structure GoodR (ly : List Nat) (r : Row) : Prop where
  len : r.length = ly.length
  val : ∀ s ∈ r, Lib.validD s = true ∧ s.length ≤ 200 ∧ Lib.trimB s 32 = s ∧ ∀ c ∈ s, 32 ≤ c.toNat
  wid : ∀ k, k < r.length → k + 1 < ly.length → rcL (r.getD k []) ≤ ly.getD (k + 1) 0 - ly.getD k 0
theorem flds_wr {ly : List Nat} {r : Row} (hm : ∀ i, i + 1 < ly.length → ly.getD i 0 ≤ ly.getD (i + 1) 0) (h0 : 0 < ly.length) (h : GoodR ly r) : fldsL ly (wrF ly 0 0 r) = r := by
  obtain ⟨e1, e2⟩ := rn_wr ly r 0 0 fun s hs => (h.val s hs).1
  apply List.ext_getElem?
  intro j
  rw [fldsL, List.getElem?_map]
  rcases Nat.lt_or_ge j ly.length with hj | hj
  · have hj2 : j < r.length := by rw [h.len]; exact hj
    obtain ⟨n, e⟩ := seg_shape hm h0 h.len h.wid hj2
    have hs := h.val _ (memD (d := []) hj2)
    have ea : encL (rnF (r.getD j []) 0 ++ List.replicate n 32) = encL (rnF (r.getD j []) 0) ++ encL (List.replicate n 32) := by simp [encL]
    rw [List.getElem?_range hj, Option.map_some, fld_seg e2 hm hj, e1, e, ea, enc_rn hs.1, enc_spaces, trim_right, hs.2.2.1, getD_some (d := []) hj2]
  · rw [List.getElem?_eq_none (by simp; omega), List.getElem?_eq_none (by rw [h.len]; exact hj)]; rfl
theorem GoodR.clean {ly : List Nat} {r : Row} (h : GoodR ly r) : (10 : UInt8) ∉ wrF ly 0 0 r ∧ (13 : UInt8) ∉ wrF ly 0 0 r := by
  refine ⟨fun hc => ?_, fun hc => ?_⟩
  · rcases wr_bytes ly r 0 0 _ hc with e | ⟨s, h1, h2⟩
    · cases e
    · have := (h.val s h1).2.2.2 _ h2; revert this; decide
  · rcases wr_bytes ly r 0 0 _ hc with e | ⟨s, h1, h2⟩
    · cases e
    · have := (h.val s h1).2.2.2 _ h2; revert this; decide
theorem trimS_none {p : List UInt8} {c : UInt8} (h : c ∉ p) : Lib.trimSuffix p [c] = p := by
  rcases List.eq_nil_or_concat p with rfl | ⟨q, b, rfl⟩
  · exact trimS_nil c
  · rw [List.concat_eq_append, trimS_snoc, if_neg]
    intro e
    exact h (by rw [List.concat_eq_append, beq_iff_eq.1 e]; simp)
theorem lines_txt {ly : List Nat} : ∀ g : List Row, (∀ r ∈ g, GoodR ly r) → linesL (txtF ly g) = g.map (wrF ly 0 0)
  | [], _ => by rw [txtF, linesL_nil]; rfl
  | r :: g, h => by
    obtain ⟨h1, h2⟩ := (h r (by simp)).clean
    have ih := lines_txt g fun x hx => h x (by simp [hx])
    obtain ⟨c1, c2, c3⟩ := cut_app (r := txtF ly g) h1
    rw [txtF, List.append_assoc, List.singleton_append, List.map_cons]
    unfold linesL at ih ⊢
    rw [rawL_more c3, c1, c2, List.map_cons, ih, lnF_nl, trimS_none h2]
theorem wr_len2 (ly : List Nat) {A B : Nat} (h1 : ∀ i, ly.getD i 0 ≤ A) : ∀ (r : Row) (i p : Nat), (∀ s ∈ r, s.length ≤ B) → (wrF ly i p r).length ≤ (A + B) * r.length
  | [], _, _, _ => by simp [wrF]
  | s :: r, i, p, h => by
    have h2 := h s (by simp)
    have h3 := h1 i
    have a := wr_len2 ly h1 r (i + 1) p fun x hx => h x (by simp [hx])
    have b := wr_len2 ly h1 r (i + 1) (ly.getD i 0 + rcL s) fun x hx => h x (by simp [hx])
    rw [wrF, List.length_cons, Nat.mul_add, Nat.mul_one]
    split
    · omega
    · simp only [List.length_append, List.length_replicate]; omega
theorem txt_len2 (ly : List Nat) {A B C : Nat} (h1 : ∀ i, ly.getD i 0 ≤ A) : ∀ (g : List Row), (∀ r ∈ g, r.length ≤ C ∧ ∀ s ∈ r, s.length ≤ B) → (txtF ly g).length ≤ ((A + B) * C + 1) * g.length
  | [], _ => by simp [txtF]
  | r :: g, h => by
    obtain ⟨h2, h3⟩ := h r (by simp)
    have a := wr_len2 ly h1 r 0 0 h3
    have b := txt_len2 ly h1 g fun x hx => h x (by simp [hx])
    have c := Nat.mul_le_mul_left (A + B) h2
    rw [txtF, List.length_cons, Nat.mul_add, Nat.mul_one]
    simp only [List.length_append, List.length_cons, List.length_nil]
    omega
theorem valid_txt {ly : List Nat} : ∀ g : List Row, (∀ r ∈ g, GoodR ly r) → Lib.validD (txtF ly g) = true
  | [], _ => rfl
  | r :: g, h => by
    rw [txtF]
    exact valid_app (valid_app (rn_wr ly r 0 0 fun s hs => ((h r (by simp)).val s hs).1).2 (by decide)) (valid_txt g fun x hx => h x (by simp [hx]))
theorem LayI.mono {l : List Nat} (h : LayI l) : ∀ i, i + 1 < l.length → l.getD i 0 ≤ l.getD (i + 1) 0 := fun i hi => Nat.le_of_lt (h.2.2.2.2 i hi)
theorem LayI.le {l : List Nat} (h : LayI l) (i : Nat) : l.getD i 0 ≤ 48 := getD_le (fun i hi => by have := h.2.2.2.1 i hi; have := h.2.2.1; omega) i
theorem LayI.pos {l : List Nat} (h : LayI l) : 0 < l.length := List.length_pos_iff.2 h.1
theorem parse_txt {ly : List Nat} {g : List Row} (hl : LayI ly) (hg : ∀ r ∈ g, GoodR ly r) (hn : g.length ≤ 100) : parseF (asI ly) (txtF ly g) = (g, 0) ∧ (txtF ly g).length ≤ 200000 := by
  have l4 := hl.2.2.1
  have tl := txt_len2 ly (A := 48) (B := 200) (C := 4) hl.le g fun r hr => ⟨by rw [(hg r hr).len]; exact l4, fun s hs => ((hg r hr).val s hs).2.1⟩
  refine ⟨?_, by omega⟩
  have e : gridF ly (g.map (wrF ly 0 0)) = g := by
    rw [gridF, List.map_map]
    conv => rhs; rw [← List.map_id g]
    exact List.map_congr_left fun r hr => flds_wr hl.mono hl.pos (hg r hr)
  have nb : ¬ (g.any (fun r => r.any bigF) = true) := by
    intro h
    obtain ⟨r, hr, h2⟩ := List.any_eq_true.1 h
    obtain ⟨s, hs, h3⟩ := List.any_eq_true.1 h2
    have := ((hg r hr).val s hs).2.1
    simp [bigF] at h3; omega
  unfold parseF
  rw [if_neg (by rw [hl.okLay]; decide), if_neg (by omega), if_neg (by rw [valid_txt g hg]; decide), lines_txt g hg, if_neg (by rw [List.length_map]; omega), natsOf_asI, e, if_neg nb]
theorem form_txt {ly : List Nat} {g : List Row} (hl : LayI ly) (hg : ∀ r ∈ g, GoodR ly r) (hn : g.length ≤ 100) : formF (asI ly) g = (txtF ly g, 0) := by
  have tl := (parse_txt hl hg hn).2
  have ck : checkL ly g = 0 := by
    unfold checkL
    rw [if_neg, if_neg, if_neg]
    · intro h
      obtain ⟨r, hr, h2⟩ := List.any_eq_true.1 h
      obtain ⟨i, hi, h3⟩ := List.any_eq_true.1 h2
      have hi' := List.mem_range.1 hi
      have hv := (hg r hr).val _ (memD (d := []) hi')
      have hw := (hg r hr).wid i hi'
      have rl := rcL_le (r.getD i [])
      have nn : hasNl (r.getD i []) = false := by
        unfold hasNl
        refine decide_eq_false ?_
        rintro (x | x)
        · have := hv.2.2.2 _ x; revert this; decide
        · have := hv.2.2.2 _ x; revert this; decide
      unfold badX at h3
      rw [hv.2.2.1, nn] at h3
      simp only [beq_self_eq_true, Bool.not_true, Bool.false_or, decide_eq_true_eq] at h3
      unfold roomW at h3
      split at h3
      · rename_i h4; have := hw h4; omega
      · omega
    · intro h
      rw [Bool.or_eq_true, decide_eq_true_eq] at h
      rcases h with h | h
      · omega
      · obtain ⟨r, hr, h2⟩ := List.any_eq_true.1 h
        obtain ⟨s, hs, h3⟩ := List.any_eq_true.1 h2
        have := ((hg r hr).val s hs).2.1
        simp [bigF] at h3; omega
    · intro h
      obtain ⟨r, hr, h2⟩ := List.any_eq_true.1 h
      unfold oddRw at h2
      rw [Bool.or_eq_true, decide_eq_true_eq] at h2
      rcases h2 with h2 | h2
      · exact h2 (hg r hr).len
      · obtain ⟨s, hs, h3⟩ := List.any_eq_true.1 h2
        rw [((hg r hr).val s hs).1] at h3
        cases h3
  unfold formF
  rw [if_neg (by rw [hl.okLay]; decide), natsOf_asI, if_neg (by rw [ck]; decide), if_neg (by omega)]
/-- What the dice make to fit. -/
theorem sc_take {p : List Nat} (h : ∀ r ∈ p, Sc r) (n : Nat) : ∀ r ∈ p.take n, Sc r := fun r hr => h r (List.mem_of_mem_take hr)
theorem fitX_good {ly : List Nat} {i : Nat} {s : List UInt8} (h : okT s) : (Lib.validD (fitX ly i s) = true ∧ (fitX ly i s).length ≤ 200 ∧ Lib.trimB (fitX ly i s) 32 = fitX ly i s ∧ ∀ c ∈ fitX ly i s, 32 ≤ c.toNat) ∧
    (i + 1 < ly.length → rcL (fitX ly i s) ≤ ly.getD (i + 1) 0 - ly.getD i 0) := by
  have ht := valid_trim h.1
  have hsc := sc_of ht
  have hlen : (rnF (Lib.trimB s 32) 0).length ≤ 30 := by
    have a := rcL_le (Lib.trimB s 32)
    have b := trimB_len s
    have c := h.2
    rw [rcL_eq] at a; omega
  have hr : (∀ r ∈ runF ly i s, Sc r) ∧ (runF ly i s).length ≤ 30 ∧ (i + 1 < ly.length → (runF ly i s).length ≤ ly.getD (i + 1) 0 - ly.getD i 0) := by
    unfold runF
    split
    · rename_i hc
      exact ⟨sc_take hsc _, by rw [List.length_take]; omega, fun _ => by rw [List.length_take]; omega⟩
    · rename_i hc
      exact ⟨hsc, hlen, fun h1 => by
        rcases Nat.lt_or_ge (ly.getD (i + 1) 0 - ly.getD i 0) (rnF (Lib.trimB s 32) 0).length with x | x
        · exact absurd ⟨h1, x⟩ hc
        · exact x⟩
  unfold fitX
  generalize runF ly i s = p at hr
  obtain ⟨h1, h2, h3⟩ := hr
  have v1 := valid_enc p h1
  have v2 := valid_trim v1
  have t1 := (trim_runes v1).1
  rw [rn_enc h1] at t1
  have el := encL_len p
  have tl := trimB_len (encL p)
  have ti := trim_idem (encL p)
  generalize Lib.trimB (encL p) 32 = z at *
  cases hz : lowS z 0
  · rw [if_neg (by decide)]
    exact ⟨⟨v2, by omega, ti, low_bytes v2 hz⟩, fun h => by have := h3 h; rw [rcL_eq]; omega⟩
  · rw [if_pos rfl]
    exact ⟨⟨rfl, by simp, rfl, fun c hc => by cases hc⟩, fun _ => by rw [rcL_eq, rnF_nil]; simp⟩
theorem gRow_good (t : List Int) (ly : List Nat) : ∀ (m i k : Nat), i + m = ly.length → (gRow t ly true m i k).1.length = m ∧ (∀ s ∈ (gRow t ly true m i k).1, Lib.validD s = true ∧ s.length ≤ 200 ∧ Lib.trimB s 32 = s ∧ ∀ c ∈ s, 32 ≤ c.toNat) ∧
    ∀ j, j < m → i + j + 1 < ly.length → rcL ((gRow t ly true m i k).1.getD j []) ≤ ly.getD (i + j + 1) 0 - ly.getD (i + j) 0
  | 0, i, k, _ => ⟨rfl, fun s hs => (by cases hs), fun j hj => absurd hj (Nat.not_lt_zero _)⟩
  | m + 1, i, k, h => by
    obtain ⟨a, b, c⟩ := gRow_good t ly m (i + 1) (fieldK t (k + 1) (pk t k 7).toNat) (by omega)
    obtain ⟨d, e⟩ := fitX_good (ly := ly) (i := i) (fieldM_ok t (k + 1) (pk t k 7).toNat)
    rw [gRow]
    refine ⟨by simp only [List.length_cons, a], fun s hs => ?_, fun j hj hl => ?_⟩
    · rcases List.mem_cons.1 hs with rfl | hs
      · exact d
      · exact b s hs
    · cases j with
      | zero => exact e (by omega)
      | succ j =>
        have := c j (by omega) (by omega)
        rw [show i + (j + 1) = i + 1 + j by omega]
        exact this
theorem gRows_good (t : List Int) (ly : List Nat) : ∀ (m k : Nat), (gRows t ly true m k).1.length = m ∧ ∀ r ∈ (gRows t ly true m k).1, GoodR ly r
  | 0, k => ⟨rfl, fun r hr => by cases hr⟩
  | m + 1, k => by
    obtain ⟨a, b⟩ := gRows_good t ly m (gRow t ly true ly.length 0 k).2
    obtain ⟨c, d, e⟩ := gRow_good t ly ly.length 0 k (by omega)
    rw [gRows]
    refine ⟨by simp only [List.length_cons, a], fun r hr => ?_⟩
    rcases List.mem_cons.1 hr with rfl | hr
    · exact ⟨c, d, fun j hj hl => by
        have := e j (by omega) (by omega)
        rw [Nat.zero_add] at this
        exact this⟩
    · exact b r hr
theorem gridM_good (t : List Int) (ly : List Nat) (k : Nat) : (gridM t ly true k).length ≤ 5 ∧ ∀ r ∈ gridM t ly true k, GoodR ly r := by
  obtain ⟨q, hq, hq2⟩ := pk_nat t k 6 (by decide)
  obtain ⟨a, b⟩ := gRows_good t ly (pk t k 6).toNat (k + 1)
  unfold gridM
  exact ⟨by rw [a, hq]; omega, b⟩
theorem GoodR.grid {ly : List Nat} {g : List Row} (hl : LayI ly) (hg : ∀ r ∈ g, GoodR ly r) (hn : g.length ≤ 100) : okGrid g :=
  ⟨by omega, fun r hr => ⟨by rw [(hg r hr).len]; have := hl.2.2.1; omega, fun s hs => by have := ((hg r hr).val s hs).2.1; omega⟩⟩
end Go.Proofs.YtacepalmphbnfaaDoor

namespace Go.Proofs.YtacepalmphbnfaaDoor
open Go Go.Proofs Go.Abs
variable {G : Globals}
/-! The law FixedBack. -/
theorem natO_le {l : List Nat} : (asI l).length = l.length := by simp [asI]
end Go.Proofs.YtacepalmphbnfaaDoor

namespace Go.Proofs.YtacepalmphbnfaaDoor
open Go Go.Proofs Go.Abs
/-! FixedGaps, the plain part. -/
/-- How many of the code points are no blanks. -/
def nbR (R : List Nat) : Nat := (R.filter fun r => decide (r ≠ 32)).length
theorem nbR_app (a b : List Nat) : nbR (a ++ b) = nbR a + nbR b := by simp [nbR]
theorem nbR_blank (n : Nat) : nbR (List.replicate n 32) = 0 := by simp [nbR]
theorem nb_trim {x : List UInt8} (hv : Lib.validD x = true) : nbR (rnF (Lib.trimB x 32) 0) = nbR (rnF x 0) := by
  obtain ⟨m, n, e⟩ := trim_split x
  have e2 : rnF x 0 = List.replicate m 32 ++ (rnF (Lib.trimB x 32) 0 ++ List.replicate n 32) := by
    conv => lhs; rw [e]
    rw [rn_spaces, rn_app (valid_trim hv)]
    have := rn_spaces n []
    rw [List.append_nil, rnF_nil, List.append_nil] at this
    rw [this]
  rw [e2, nbR_app, nbR_app, nbR_blank, nbR_blank]; omega
def sumF : Row → Nat
  | [] => 0
  | s :: r => nbR (rnF s 0) + sumF r
theorem sumF_app : ∀ a b : Row, sumF (a ++ b) = sumF a + sumF b
  | [], b => by simp [sumF]
  | s :: a, b => by rw [List.cons_append, sumF, sumF, sumF_app a b]; omega
theorem sumF_take {row : Row} {i : Nat} (h : i < row.length) : sumF (row.take (i + 1)) = sumF (row.take i) + nbR (rnF (row.getD i []) 0) := by
  rw [List.take_add_one, getD_some (d := []) h, sumF_app]
  simp [sumF]
theorem nb_seg {lay : List Nat} {l : List UInt8} (hv : Lib.validD l = true) (hm : ∀ i, i + 1 < lay.length → lay.getD i 0 ≤ lay.getD (i + 1) 0) {j : Nat} (hj : j < lay.length) : nbR (rnF (fldAt lay l j) 0) = nbR (segR lay (rnF l 0) j) := by
  have hs : ∀ r ∈ segR lay (rnF l 0) j, Sc r := fun r hr => by
    refine sc_of hv r ?_
    unfold segR at hr
    split at hr
    · exact List.mem_of_mem_take (List.mem_of_mem_drop hr)
    · exact List.mem_of_mem_drop hr
  rw [fld_seg hv hm hj, nb_trim (valid_enc _ hs), rn_enc hs]
theorem flds_nb {lay : List Nat} {l : List UInt8} (hv : Lib.validD l = true) (hm : ∀ i, i + 1 < lay.length → lay.getD i 0 ≤ lay.getD (i + 1) 0) (h0 : 0 < lay.length) (hz : lay.getD 0 0 = 0) : sumF (fldsL lay l) = nbR (rnF l 0) := by
  have key : ∀ c, c < lay.length → sumF ((List.range c).map (fldAt lay l)) = nbR ((rnF l 0).take (lay.getD c 0)) := by
    intro c
    induction c with
    | zero => intro _; rw [hz]; rfl
    | succ c ih =>
      intro hc
      rw [List.range_succ, List.map_append, sumF_app, ih (by omega)]
      simp only [List.map_cons, List.map_nil, sumF, Nat.add_zero]
      rw [nb_seg hv hm (by omega), segR, if_pos hc, ← nbR_app]
      congr 1
      have := hm c hc
      conv => rhs; rw [← List.take_append_drop (lay.getD c 0) ((rnF l 0).take (lay.getD (c + 1) 0))]
      rw [List.take_take, Nat.min_eq_left this]
  obtain ⟨n, hn⟩ : ∃ n, lay.length = n + 1 := ⟨lay.length - 1, by omega⟩
  rw [fldsL, hn, List.range_succ, List.map_append, sumF_app, key n (by omega)]
  simp only [List.map_cons, List.map_nil, sumF, Nat.add_zero]
  rw [nb_seg hv hm (by omega), segR, if_neg (by omega), ← nbR_app, List.take_append_drop]
/-! The layouts that are found. -/
theorem scan_sub : ∀ (n : Nat) (bl : List Bool) (gap : Int) (i run : Nat) (lead : Bool), bl.length - i = n → (scanF bl (gap + 1) i run lead).Sublist (scanF bl gap i run lead) := by
  intro n
  induction n with
  | zero => intro bl gap i run lead hn; rw [scanF_end (by omega), scanF_end (by omega)]; exact List.Sublist.slnil
  | succ n ih =>
    intro bl gap i run lead hn
    have h : i < bl.length := by omega
    cases hb : bl.getD i false
    · rw [scanF_ink h hb, scanF_ink h hb]
      refine List.Sublist.append ?_ (ih bl gap (i + 1) 0 false (by omega))
      by_cases h1 : gap + 1 ≤ run ∧ lead = false
      · rw [if_pos h1, if_pos ⟨by omega, h1.2⟩]; exact List.Sublist.refl _
      · rw [if_neg h1]; exact List.nil_sublist _
    · rw [scanF_blank h hb, scanF_blank h hb]
      exact ih bl gap (i + 1) (run + 1) lead (by omega)
theorem scan_len : ∀ (n : Nat) (bl : List Bool) (gap : Int) (i run : Nat) (lead : Bool), bl.length - i = n → 1 ≤ gap → 2 * (scanF bl gap i run lead).length ≤ (bl.length - i) + (if run = 0 then 0 else 1) := by
  intro n
  induction n with
  | zero => intro bl gap i run lead hn _; rw [scanF_end (by omega)]; simp
  | succ n ih =>
    intro bl gap i run lead hn hg
    have h : i < bl.length := by omega
    cases hb : bl.getD i false
    · rw [scanF_ink h hb]
      have := ih bl gap (i + 1) 0 false (by omega) hg
      rw [if_pos rfl] at this
      by_cases h1 : gap ≤ run ∧ lead = false
      · rw [if_pos h1, if_neg (by omega), List.length_append, List.length_singleton]; omega
      · rw [if_neg h1, List.nil_append]; omega
    · rw [scanF_blank h hb]
      have := ih bl gap (i + 1) (run + 1) lead (by omega) hg
      rw [if_neg (by omega)] at this
      omega
theorem mrgR_len : ∀ (R : List Nat) (o : List Bool) (k : Nat), k ≤ o.length → (mrgR o k R).length ≤ max o.length (k + R.length)
  | [], o, k, h => by rw [mrgR]; omega
  | r :: R, o, k, h => by
    have sb := stepB_len (r := r) h
    have := mrgR_len R (stepB o k r) (k + 1) sb.1
    rw [mrgR, List.length_cons]; omega
theorem blanks_len {m : Nat} : ∀ (ls : List (List UInt8)) (o : List Bool), (∀ l ∈ ls, (rnF l 0).length ≤ m) → o.length ≤ m → (ls.foldl (fun o l => mrgF l 0 0 o) o).length ≤ m
  | [], o, _, ho => ho
  | l :: t, o, h, ho => by
    rw [List.foldl_cons]
    refine blanks_len t _ (fun x hx => h x (List.mem_cons_of_mem _ hx)) ?_
    rw [mrgF_runes _ l 0 0 o rfl]
    have := mrgR_len (rnF l 0) o 0 (Nat.zero_le _)
    have := h l (List.mem_cons_self ..)
    omega
theorem wrR_len {ly : List Nat} (hm : ∀ i, i + 1 < ly.length → ly.getD i 0 ≤ ly.getD (i + 1) 0) {B : Nat} : ∀ (r : Row) (i p : Nat), i + r.length = ly.length →
    (∀ k, k < r.length → i + k + 1 < ly.length → rcL (r.getD k []) ≤ ly.getD (i + k + 1) 0 - ly.getD (i + k) 0) → (0 < r.length → p ≤ ly.getD i 0) → p ≤ B → (∀ k, k < r.length → ly.getD (i + k) 0 + rcL (r.getD k []) ≤ B) →
    p + (wrR ly i p r).length ≤ B
  | [], i, p, _, _, _, hp, _ => by rw [wrR]; simpa using hp
  | s :: r, i, p, hl, hw, hp, hB, hc => by
    have hp0 := hp (by simp)
    rw [List.length_cons] at hl
    have w0 := hw 0 (by simp)
    have c0 := hc 0 (by simp)
    simp only [Nat.add_zero, List.getD_cons_zero] at w0 c0
    have ws : ∀ k, k < r.length → i + 1 + k + 1 < ly.length → rcL (r.getD k []) ≤ ly.getD (i + 1 + k + 1) 0 - ly.getD (i + 1 + k) 0 := fun k hk h => by
      have := hw (k + 1) (by rw [List.length_cons]; omega) (by omega)
      rw [show i + (k + 1) = i + 1 + k by omega] at this
      exact this
    have cs : ∀ k, k < r.length → ly.getD (i + 1 + k) 0 + rcL (r.getD k []) ≤ B := fun k hk => by
      have := hc (k + 1) (by rw [List.length_cons]; omega)
      rw [show i + (k + 1) = i + 1 + k by omega] at this
      exact this
    rw [wrR]
    by_cases he : s = []
    · rw [if_pos he]
      exact wrR_len hm r (i + 1) p (by omega) ws (fun h => Nat.le_trans hp0 (hm i (by omega))) hB cs
    · rw [if_neg he]
      have := wrR_len hm r (i + 1) (ly.getD i 0 + rcL s) (by omega) ws (fun h => by
        have := w0 (by omega)
        have := hm i (by omega)
        omega) c0 cs
      have e := rcL_eq s
      simp only [List.length_append, List.length_replicate]
      omega
theorem fitX_rc {ly : List Nat} {i : Nat} {s : List UInt8} (h : okT s) : rcL (fitX ly i s) ≤ 30 := by
  have ht := valid_trim h.1
  have hsc := sc_of ht
  have hlen : (rnF (Lib.trimB s 32) 0).length ≤ 30 := by
    have a := rcL_le (Lib.trimB s 32)
    have b := trimB_len s
    have c := h.2
    rw [rcL_eq] at a; omega
  have hr : (∀ r ∈ runF ly i s, Sc r) ∧ (runF ly i s).length ≤ 30 := by
    unfold runF
    split
    · exact ⟨sc_take hsc _, by rw [List.length_take]; omega⟩
    · exact ⟨hsc, hlen⟩
  unfold fitX
  generalize runF ly i s = p at hr
  obtain ⟨h1, h2⟩ := hr
  have t1 := (trim_runes (valid_enc p h1)).1
  rw [rn_enc h1] at t1
  split
  · rw [rcL_eq, rnF_nil]; simp
  · rw [rcL_eq]; omega
theorem gRow_rc (t : List Int) (ly : List Nat) : ∀ (m i k : Nat), ∀ s ∈ (gRow t ly true m i k).1, rcL s ≤ 30
  | 0, i, k, s, hs => by cases hs
  | m + 1, i, k, s, hs => by
    rw [gRow] at hs
    rcases List.mem_cons.1 hs with rfl | hs
    · exact fitX_rc (fieldM_ok t (k + 1) (pk t k 7).toNat)
    · exact gRow_rc t ly m (i + 1) _ s hs
theorem gRows_rc (t : List Int) (ly : List Nat) : ∀ (m k : Nat), ∀ r ∈ (gRows t ly true m k).1, ∀ s ∈ r, rcL s ≤ 30
  | 0, k, r, hr => by cases hr
  | m + 1, k, r, hr => by
    rw [gRows] at hr
    rcases List.mem_cons.1 hr with rfl | hr
    · exact gRow_rc t ly ly.length 0 k
    · exact gRows_rc t ly m _ r hr
/-- What the law asks of a text with gap: a layout is found. -/
theorem gap_found {ly : List Nat} {g : List Row} (hl : LayI ly) (hg : ∀ r ∈ g, GoodR ly r) (hn : g.length ≤ 100) (h0 : g ≠ []) (hrc : ∀ r ∈ g, ∀ s ∈ r, rcL s ≤ 30) {gap : Int} (h1 : 1 ≤ gap) :
    inferL (txtF ly g) gap = some (layL (txtF ly g) gap) ∧ okLay (layL (txtF ly g) gap) = true := by
  have tl := (parse_txt hl hg hn).2
  have bl : (blanksL (linesL (txtF ly g))).length ≤ 78 := by
    unfold blanksL
    refine blanks_len _ _ (fun l hl2 => ?_) (Nat.zero_le _)
    rw [lines_txt g hg] at hl2
    obtain ⟨r, hr, rfl⟩ := List.mem_map.1 hl2
    have hgr := hg r hr
    rw [(rn_wr ly r 0 0 fun s hs => (hgr.val s hs).1).1]
    have := wrR_len hl.mono (B := 78) r 0 0 (by rw [hgr.len]; omega) (fun k hk h => by rw [Nat.zero_add] at h ⊢; exact hgr.wid k hk h) (fun _ => Nat.zero_le _) (Nat.zero_le _) (fun k hk => by
      have a := hl.le (0 + k)
      have b := hrc r hr _ (memD (d := []) hk)
      omega)
    omega
  have sl := scan_len _ (blanksL (linesL (txtF ly g))) gap 0 0 true rfl h1
  rw [if_pos rfl] at sl
  have ok : okLay (layL (txtF ly g) gap) = true := by
    rw [okLay_layL (by omega)]
    exact decide_eq_true (by unfold layL; rw [List.length_cons]; omega)
  refine ⟨?_, ok⟩
  unfold inferL
  rw [if_neg, if_neg, if_pos ok]
  · rw [lines_txt g hg]
    intro h
    exact h0 (List.map_eq_nil_iff.1 h)
  · rw [valid_txt g hg]
    rintro (h | h | h)
    · cases h
    · omega
    · omega
theorem gap_more (d : List UInt8) (gap : Int) : (layL d (gap + 1)).Sublist (layL d gap) := by
  unfold layL
  exact List.Sublist.cons_cons _ (scan_sub _ _ _ _ _ _ rfl)
theorem gap_parse {ly : List Nat} {g : List Row} (hl : LayI ly) (hg : ∀ r ∈ g, GoodR ly r) (hn : g.length ≤ 100) {lay : List Int} (hok : okLay lay = true) :
    parseF lay (txtF ly g) = (gridF (natsOf lay) (linesL (txtF ly g)), 0) := by
  have tl := (parse_txt hl hg hn).2
  have nb : ¬ ((gridF (natsOf lay) (linesL (txtF ly g))).any (fun r => r.any bigF) = true) := by
    intro h
    obtain ⟨r, hr, h2⟩ := List.any_eq_true.1 h
    obtain ⟨s, hs, h3⟩ := List.any_eq_true.1 h2
    obtain ⟨p, hp, rfl⟩ := List.mem_map.1 hr
    have a := fld_len _ _ s hs
    rw [lines_txt g hg] at hp
    obtain ⟨r2, hr2, rfl⟩ := List.mem_map.1 hp
    have b := wr_len2 ly (A := 48) (B := 200) hl.le r2 0 0 fun s hs => ((hg r2 hr2).val s hs).2.1
    have c := (hg r2 hr2).len
    have l4 := hl.2.2.1
    simp [bigF] at h3; omega
  unfold parseF
  rw [if_neg (by rw [hok]; decide), if_neg (by omega), if_neg (by rw [valid_txt g hg]; decide), if_neg (by rw [lines_txt g hg, List.length_map]; omega), if_neg nb]
end Go.Proofs.YtacepalmphbnfaaDoor

namespace Go.Proofs.YtacepalmphbnfaaDoor
open Go Go.Proofs Go.Abs
variable {G : Globals}
/-! The law FixedGaps. -/
theorem nbR_cons (x : Nat) (t : List Nat) : nbR (x :: t) = (if x ≠ 32 then 1 else 0) + nbR t := by
  unfold nbR
  rw [List.filter_cons]
  by_cases h : x = 32
  · subst h; simp
  · rw [if_pos h, decide_eq_true h, if_pos rfl, List.length_cons]; omega
theorem nbR_le (l : List UInt8) : nbR (rnF l 0) ≤ l.length := by
  have a := List.length_filter_le (fun r : Nat => decide (r ≠ 32)) (rnF l 0)
  have b := rcL_le l
  rw [rcL_eq] at b
  unfold nbR; omega
theorem sumF_le (row : Row) (i : Nat) : sumF (row.take i) ≤ sumF row := by
  conv => rhs; rw [← List.take_append_drop i row, sumF_app]
  omega
set_option maxHeartbeats 32000000 in
set_option maxRecDepth 100000 in
theorem gaps_law (hT : HT G) (hI : HI G) (t : List Int) (ht : OkS t) (hl : t.length ≤ 9223372036854775807) (c : UInt8) :
    Ctr Tryd.prog G 3 [.d (.sl t.length false (ints .u8 t)), .d (.int .u8 c.toNat)] [] (.d (.bool true)) [] := by
  refine Ctr.pure (M := M0) hmix Tryd.func3 rfl go3 ?_
  have hmm := ht.take
  have hc : c.toNat < 256 := c.toNat_lt
  generalize c.toNat = cc at *
  simp (config := { maxSteps := 1000000 }) (disch := ((try simp only [awL]); omega)) only [QR, QS, QT, QU, QV, QW, QX, QY, QZ, Q0, Q1, Q2, Tryd.f3, ↓awU, awV, awF, Qa, Qb, Qc, Qd, forall_const, ↓reduceIte, ↓reduceDIte, ↓Qe, Qf, Qg, Qh, Qi, Qj, Qk, Ql, Qm, Qn, Qo, Qp, Qq, Qr, Qs, implies_true, Qt, Qu, Qv, Qw, Qx, Qy, Qz, QA, QB, QC, QD, QE, QF, QG, QH, QI, QJ, QK, QL, QM, QN, QO, QP, QQ]
  refine CallC.pure (sane_spec hT hI) ?_
  simp (config := { maxSteps := 1000000 }) (disch := ((try simp only [awL]); omega)) only [QR, QS, QT, QU, QV, QW, QX, QY, QZ, Q0, Q1, Q2, ↓awU, awV, awF, Qa, Qb, Qc, Qd, forall_const, ↓reduceIte, ↓reduceDIte, ↓Qe, Qf, Qg, Qh, Qi, Qj, Qk, Ql, Qm, Qn, Qo, Qp, Qq, Qr, Qs, implies_true, Qt, Qu, Qv, Qw, Qx, Qy, Qz, QA, QB, QC, QD, QE, QF, QG, QH, QI, QJ, QK, QL, QM, QN, QO, QP, QQ]
  refine CallC.by (new_spec t hl) (by rfl) (by rfl) (Nat.zero_le _) ?_
  generalize t.take 300 = s at *
  simp (config := { maxSteps := 1000000 }) (disch := ((try simp only [awL]); omega)) only [QR, QS, QT, QU, QV, QW, QX, QY, QZ, Q0, Q1, Q2, ↓awU, awV, awF, Qa, Qb, Qc, Qd, forall_const, ↓reduceIte, ↓reduceDIte, ↓Qe, Qf, Qg, Qh, Qi, Qj, Qk, Ql, Qm, Qn, Qo, Qp, Qq, Qr, Qs, implies_true, Qt, Qu, Qv, Qw, Qx, Qy, Qz, QA, QB, QC, QD, QE, QF, QG, QH, QI, QJ, QK, QL, QM, QN, QO, QP, QQ]
  refine CallC.by (layout_spec s 0 hmm) (by rfl) (by rfl) (Nat.le_refl _) ?_
  have hly := layM_ok s 0
  generalize layM s 0 = ly at *
  generalize layK s 0 = k at *
  have l4 := hly.2.2.1
  have eN : IsF (asI ly) false = Ns ly false := by unfold IsF Ns; rw [ints_asI, natO_le]
  simp (config := { maxSteps := 1000000 }) (disch := ((try simp only [awL]); omega)) only [QR, QS, QT, QU, QV, QW, QX, QY, QZ, Q0, Q1, Q2, ↓awU, awV, awF, Qa, Qb, Qc, Qd, forall_const, ↓reduceIte, ↓reduceDIte, ↓Qe, Qf, Qg, Qh, Qi, Qj, Qk, Ql, Qm, Qn, Qo, Qp, Qq, Qr, Qs, implies_true, Qt, Qu, Qv, Qw, Qx, Qy, Qz, QA, QB, QC, QD, QE, QF, QG, QH, QI, QJ, QK, QL, QM, QN, QO, QP, QQ]
  refine CallC.by (grid_spec s k ly false true hmm hly) (by rw [show D.sl (asI ly).length false (ints .i64 (asI ly)) = Ns ly false from eN]) (by rfl) (Nat.le_refl _) ?_
  obtain ⟨gn, gg⟩ := gridM_good s ly k
  have hrc : ∀ r ∈ gridM s ly true k, ∀ x ∈ r, rcL x ≤ 30 := gRows_rc s ly _ _
  generalize gridM s ly true k = g at *
  generalize gridK s ly true k = k2 at *
  have gok := GoodR.grid hly gg (by omega)
  have ff := fformat_spec hT (asI ly) false g false (by rw [natO_le]; omega) gok
  rw [form_txt hly gg (by omega)] at ff
  unfold fmtE at ff
  have tlen := (parse_txt hly gg (by omega)).2
  have tval := valid_txt g gg
  simp (config := { maxSteps := 1000000 }) (disch := ((try simp only [awL]); omega)) only [QR, QS, QT, QU, QV, QW, QX, QY, QZ, Q0, Q1, Q2, ↓awU, awV, awF, Qa, Qb, Qc, Qd, forall_const, ↓reduceIte, ↓reduceDIte, ↓Qe, Qf, Qg, Qh, Qi, Qj, Qk, Ql, Qm, Qn, Qo, Qp, Qq, Qr, Qs, implies_true, Qt, Qu, Qv, Qw, Qx, Qy, Qz, QA, QB, QC, QD, QE, QF, QG, QH, QI, QJ, QK, QL, QM, QN, QO, QP, QQ]
  refine CallC.of ff (by rfl) ?_
  rcases Nat.eq_zero_or_pos g.length with g0 | g0
  · obtain rfl : g = [] := List.length_eq_zero_iff.1 g0
    rw [show txtF ly [] = [] from rfl]
    simp (config := { maxSteps := 1000000 }) (disch := ((try simp only [awL]); omega)) only [QR, QS, QT, QU, QV, QW, QX, QY, QZ, Q0, Q1, Q2, ↓awU, awV, awF, Qa, Qb, Qc, Qd, forall_const, ↓reduceIte, ↓reduceDIte, ↓Qe, Qf, Qg, Qh, Qi, Qj, Qk, Ql, Qm, Qn, Qo, Qp, Qq, Qr, Qs, implies_true, Qt, Qu, Qv, Qw, Qx, Qy, Qz, QA, QB, QC, QD, QE, QF, QG, QH, QI, QJ, QK, QL, QM, QN, QO, QP, QQ]
  · have gne : g ≠ [] := fun e => by rw [e] at g0; exact absurd g0 (Nat.lt_irrefl _)
    obtain ⟨gap, hgap⟩ : ∃ x, x = cc % 4 + 1 := ⟨_, rfl⟩
    have hg5 : 1 ≤ (gap : Int) ∧ (gap : Int) ≤ 4 := by omega
    have em : (1 : Int) + ((cc : Int).tmod 4) = (gap : Int) := by
      rw [Int.tmod_eq_emod_of_nonneg (by omega)]; omega
    obtain ⟨i1, o1⟩ := gap_found hly gg (by omega) gne hrc (gap := (gap : Int)) hg5.1
    obtain ⟨i2, o2⟩ := gap_found hly gg (by omega) gne hrc (gap := (gap : Int) + 1) (by omega)
    have sb := gap_more (txtF ly g) (gap : Int)
    have pp := gap_parse hly gg (by omega) o1
    have tne : txtF ly g ≠ [] := fun e => by
      have := lines_txt g gg
      rw [e, linesL_nil] at this
      have h2 := congrArg List.length this
      rw [List.length_map, List.length_nil] at h2
      omega
    have z0 : (natsOf (layL (txtF ly g) (gap : Int))).getD 0 0 = 0 := rfl
    have p1 := infer_spec hT (txtF ly g) (gap : Int) (by omega)
    have p2 := infer_spec hT (txtF ly g) ((gap : Int) + 1) (by omega)
    have lv := lines_valid _ (txtF ly g) rfl tval
    obtain ⟨j1, j2⟩ := linesL_in (s := txtF ly g)
    rw [i1] at p1
    rw [i2] at p2
    clear i1 i2
    generalize layL (txtF ly g) (gap : Int) = L1 at *
    generalize layL (txtF ly g) ((gap : Int) + 1) = L2 at *
    generalize txtF ly g = tx at *
    obtain ⟨a1, a2, a3, a4⟩ := okLay_ok o1
    obtain ⟨b1, b2, b3, b4⟩ := okLay_ok o2
    have sl := sb.length_le
    have ss := sb.subset
    have il1 := @ints_length .i64 L1
    have il2 := @ints_length .i64 L2
    have nl : (natsOf L1).length = L1.length := by simp [natsOf]
    have txe : (tx == []) = false := by simpa using tne
    unfold inferD at p1 p2
    have pf := fparse_spec hT L1 false tx (by omega) (by omega)
    rw [pp] at pf
    unfold gridE at pf
    simp (config := { maxSteps := 1000000 }) (disch := ((try simp only [awL]); omega)) only [QR, QS, QT, QU, QV, QW, QX, QY, QZ, Q0, Q1, Q2, txe, ↓awU, awV, awF, Qa, Qb, Qc, Qd, forall_const, ↓reduceIte, ↓reduceDIte, ↓Qe, Qf, Qg, Qh, Qi, Qj, Qk, Ql, Qm, Qn, Qo, Qp, Qq, Qr, Qs, implies_true, Qt, Qu, Qv, Qw, Qx, Qy, Qz, QA, QB, QC, QD, QE, QF, QG, QH, QI, QJ, QK, QL, QM, QN, QO, QP, QQ]
    rw [em]
    refine CallC.of p1 (by rfl) ?_
    have w1 : D.int .i64 (↑gap + 1) = D.int .i64 ((gap : Int) + 1) := rfl
    simp (config := { maxSteps := 1000000 }) (disch := ((try simp only [awL]); omega)) only [QR, QS, QT, QU, QV, QW, QX, QY, QZ, Q0, Q1, Q2, ↓awU, awV, awF, Qa, Qb, Qc, Qd, forall_const, ↓reduceIte, ↓reduceDIte, ↓Qe, Qf, Qg, Qh, Qi, Qj, Qk, Ql, Qm, Qn, Qo, Qp, Qq, Qr, Qs, implies_true, Qt, Qu, Qv, Qw, Qx, Qy, Qz, QA, QB, QC, QD, QE, QF, QG, QH, QI, QJ, QK, QL, QM, QN, QO, QP, QQ]
    refine CallC.of p2 (by rfl) ?_
    simp (config := { maxSteps := 1000000 }) (disch := ((try simp only [awL]); omega)) only [QR, QS, QT, QU, QV, QW, QX, QY, QZ, Q0, Q1, Q2, ↓awU, awV, awF, Qa, Qb, Qc, Qd, forall_const, ↓reduceIte, ↓reduceDIte, ↓Qe, Qf, Qg, Qh, Qi, Qj, Qk, Ql, Qm, Qn, Qo, Qp, Qq, Qr, Qs, implies_true, Qt, Qu, Qv, Qw, Qx, Qy, Qz, QA, QB, QC, QD, QE, QF, QG, QH, QI, QJ, QK, QL, QM, QN, QO, QP, QQ]
    refine LoopC.fr 29014219670751100192949376 (α := Nat) (fun i => L2.length - i) (fun i => [(85, .d (.int .i64 i))]) (fun _ => [DiceM s k2]) (fun i => i ≤ L2.length) 0 (Nat.zero_le _) ?_ ?_
    · exact ⟨[some 0], rfl, by simp, by simp [setsA, keepA, SWeak, AWeak], by simp [HWeak, BWeak, SWeak, AWeak]⟩
    · intro i hi
      simp only [awK, Nat.reduceMod, Nat.reduceDiv, reduceIte]
      rcases Nat.lt_or_ge i L2.length with h | h
      · have gi := ints_getD (k := .i64) (l := L2) (i := i) (d := .nilp) h
        have hin : L2.getD i 0 ∈ L1 := ss (memD (d := 0) h)
        generalize L2.getD i 0 = x at *
        simp (config := { maxSteps := 1000000 }) (disch := ((try simp only [awL]); omega)) only [QR, QS, QT, QU, QV, QW, QX, QY, QZ, Q0, Q1, Q2, il2, gi, ↓awU, awV, awF, Qa, Qb, Qc, Qd, forall_const, ↓reduceIte, ↓reduceDIte, ↓Qe, Qf, Qg, Qh, Qi, Qj, Qk, Ql, Qm, Qn, Qo, Qp, Qq, Qr, Qs, implies_true, Qt, Qu, Qv, Qw, Qx, Qy, Qz, QA, QB, QC, QD, QE, QF, QG, QH, QI, QJ, QK, QL, QM, QN, QO, QP, QQ]
        refine LoopC.fr 1924609904826489646132266112 (α := Nat) (fun j => L1.length - j) (fun j => [(16, .d (.bool (decide (x ∈ L1.take j)))), (91, .d (.int .i64 j))]) (fun _ => [DiceM s k2]) (fun j => j ≤ L1.length) 0 (Nat.zero_le _) ?_ ?_
        · exact ⟨[some 0], rfl, by simp, by simp [setsA, keepA, SWeak, AWeak], by simp [HWeak, BWeak, SWeak, AWeak]⟩
        · intro j hj
          simp only [awK, Nat.reduceMod, Nat.reduceDiv, reduceIte]
          rcases Nat.lt_or_ge j L1.length with h2 | h2
          · have gj := ints_getD (k := .i64) (l := L1) (i := j) (d := .nilp) h2
            have hst : decide (x ∈ L1.take (j + 1)) = (decide (x ∈ L1.take j) || decide (x = L1.getD j 0)) := by
              rw [List.take_add_one, getD_some (d := 0) h2]
              simp [Option.toList, List.mem_append]
            generalize L1.getD j 0 = y at *
            by_cases hm : x ∈ L1.take j
            · rw [decide_eq_true hm, Bool.true_or] at hst
              rw [decide_eq_true hm]
              simp (config := { maxSteps := 1000000 }) (disch := ((try simp only [awL]); omega)) only [QR, QS, QT, QU, QV, QW, QX, QY, QZ, Q0, Q1, Q2, il1, gj, ↓awU, awV, awF, Qa, Qb, Qc, Qd, forall_const, ↓reduceIte, ↓reduceDIte, ↓Qe, Qf, Qg, Qh, Qi, Qj, Qk, Ql, Qm, Qn, Qo, Qp, Qq, Qr, Qs, implies_true, Qt, Qu, Qv, Qw, Qx, Qy, Qz, QA, QB, QC, QD, QE, QF, QG, QH, QI, QJ, QK, QL, QM, QN, QO, QP, QQ]
              exact ⟨j + 1, h2, by simp only; omega, ⟨[some 0], rfl, by simp, by simp [setsA, keepA, SWeak, AWeak, hst], by simp [HWeak, BWeak, SWeak, AWeak]⟩⟩
            · rw [decide_eq_false hm, Bool.false_or] at hst
              rw [decide_eq_false hm]
              simp (config := { maxSteps := 1000000 }) (disch := ((try simp only [awL]); omega)) only [QR, QS, QT, QU, QV, QW, QX, QY, QZ, Q0, Q1, Q2, il1, gj, ↓awU, awV, awF, Qa, Qb, Qc, Qd, forall_const, ↓reduceIte, ↓reduceDIte, ↓Qe, Qf, Qg, Qh, Qi, Qj, Qk, Ql, Qm, Qn, Qo, Qp, Qq, Qr, Qs, implies_true, Qt, Qu, Qv, Qw, Qx, Qy, Qz, QA, QB, QC, QD, QE, QF, QG, QH, QI, QJ, QK, QL, QM, QN, QO, QP, QQ]
              exact ⟨j + 1, h2, by simp only; omega, ⟨[some 0], rfl, by simp, by simp [setsA, keepA, SWeak, AWeak, hst], by simp [HWeak, BWeak, SWeak, AWeak]⟩⟩
          · rw [List.take_of_length_le h2, decide_eq_true hin]
            simp (config := { maxSteps := 1000000 }) (disch := ((try simp only [awL]); omega)) only [QR, QS, QT, QU, QV, QW, QX, QY, QZ, Q0, Q1, Q2, il1, ↓awU, awV, awF, Qa, Qb, Qc, Qd, forall_const, ↓reduceIte, ↓reduceDIte, ↓Qe, Qf, Qg, Qh, Qi, Qj, Qk, Ql, Qm, Qn, Qo, Qp, Qq, Qr, Qs, implies_true, Qt, Qu, Qv, Qw, Qx, Qy, Qz, QA, QB, QC, QD, QE, QF, QG, QH, QI, QJ, QK, QL, QM, QN, QO, QP, QQ]
            exact ⟨i + 1, h, by simp only; omega, ⟨[some 0], rfl, by simp, by simp [setsA, keepA, SWeak, AWeak], by simp [HWeak, BWeak, SWeak, AWeak]⟩⟩
      · obtain rfl : i = L2.length := by omega
        simp (config := { maxSteps := 1000000 }) (disch := ((try simp only [awL]); omega)) only [QR, QS, QT, QU, QV, QW, QX, QY, QZ, Q0, Q1, Q2, il2, ↓awU, awV, awF, Qa, Qb, Qc, Qd, forall_const, ↓reduceIte, ↓reduceDIte, ↓Qe, Qf, Qg, Qh, Qi, Qj, Qk, Ql, Qm, Qn, Qo, Qp, Qq, Qr, Qs, implies_true, Qt, Qu, Qv, Qw, Qx, Qy, Qz, QA, QB, QC, QD, QE, QF, QG, QH, QI, QJ, QK, QL, QM, QN, QO, QP, QQ]
        refine CallC.of pf (by rfl) ?_
        have rgl := @rowsD_length (gridF (natsOf L1) (linesL tx))
        have gfl : (gridF (natsOf L1) (linesL tx)).length = (linesL tx).length := by simp [gridF]
        have rows : ∀ i, i < (linesL tx).length → (gridF (natsOf L1) (linesL tx)).getD i [] = fldsL (natsOf L1) ((linesL tx).getD i []) := fun i hi => by
          simp [gridF, List.getD_eq_getElem?_getD, List.getElem?_map, List.getElem?_eq_getElem hi]
        generalize gridF (natsOf L1) (linesL tx) = g2 at *
        have rl := rlines_spec (G := G) tx (by omega)
        generalize linesL tx = ls at *
        have lsl := @strs_length ls
        simp (config := { maxSteps := 1000000 }) (disch := ((try simp only [awL]); omega)) only [QR, QS, QT, QU, QV, QW, QX, QY, QZ, Q0, Q1, Q2, ↓awU, awV, awF, Qa, Qb, Qc, Qd, forall_const, ↓reduceIte, ↓reduceDIte, ↓Qe, Qf, Qg, Qh, Qi, Qj, Qk, Ql, Qm, Qn, Qo, Qp, Qq, Qr, Qs, implies_true, Qt, Qu, Qv, Qw, Qx, Qy, Qz, QA, QB, QC, QD, QE, QF, QG, QH, QI, QJ, QK, QL, QM, QN, QO, QP, QQ]
        refine CallC.of rl (by rfl) ?_
        simp (config := { maxSteps := 1000000 }) (disch := ((try simp only [awL]); omega)) only [QR, QS, QT, QU, QV, QW, QX, QY, QZ, Q0, Q1, Q2, rgl, gfl, lsl, ↓awU, awV, awF, Qa, Qb, Qc, Qd, forall_const, ↓reduceIte, ↓reduceDIte, ↓Qe, Qf, Qg, Qh, Qi, Qj, Qk, Ql, Qm, Qn, Qo, Qp, Qq, Qr, Qs, implies_true, Qt, Qu, Qv, Qw, Qx, Qy, Qz, QA, QB, QC, QD, QE, QF, QG, QH, QI, QJ, QK, QL, QM, QN, QO, QP, QQ]
        refine ⟨by rfl, ?_⟩
        refine CallC.of rl (by rfl) ?_
        simp (config := { maxSteps := 1000000 }) (disch := ((try simp only [awL]); omega)) only [QR, QS, QT, QU, QV, QW, QX, QY, QZ, Q0, Q1, Q2, ↓awU, awV, awF, Qa, Qb, Qc, Qd, forall_const, ↓reduceIte, ↓reduceDIte, ↓Qe, Qf, Qg, Qh, Qi, Qj, Qk, Ql, Qm, Qn, Qo, Qp, Qq, Qr, Qs, implies_true, Qt, Qu, Qv, Qw, Qx, Qy, Qz, QA, QB, QC, QD, QE, QF, QG, QH, QI, QJ, QK, QL, QM, QN, QO, QP, QQ]
        refine LoopC.fr 31901471898837980949691369446729842688 (α := Nat) (fun i => ls.length - i) (fun i => [(125, .d (.int .i64 i))]) (fun _ => [DiceM s k2, .box [.d (Gr g2 false)]]) (fun i => i ≤ ls.length) 0 (Nat.zero_le _) ?_ ?_
        · exact ⟨[some 0, some 1], rfl, by simp, by simp [setsA, keepA, SWeak, AWeak], by simp [HWeak, BWeak, SWeak, AWeak]⟩
        · intro i hi3
          simp only [awK, Nat.reduceMod, Nat.reduceDiv, reduceIte]
          rcases Nat.lt_or_ge i ls.length with h3 | h3
          · have gs := strs_getD h3
            have gr := rowsD_getD (g := g2) (i := i) (by omega)
            rw [rows i h3] at gr
            have lin := memD (d := []) h3
            have llen := j2 _ lin
            have lval := lv _ lin
            generalize ls.getD i [] = line at *
            have tot := flds_nb (lay := natsOf L1) lval a3.2.2 (by omega) z0
            have nle := nbR_le line
            have rlen := fldsL_len (natsOf L1) line
            have flen := fld_len (natsOf L1) line
            generalize fldsL (natsOf L1) line = row at *
            have rD := @strs_length row
            simp (config := { maxSteps := 1000000 }) (disch := ((try simp only [awL]); omega)) only [QR, QS, QT, QU, QV, QW, QX, QY, QZ, Q0, Q1, Q2, lsl, gs, ↓awU, awV, awF, Qa, Qb, Qc, Qd, forall_const, ↓reduceIte, ↓reduceDIte, ↓Qe, Qf, Qg, Qh, Qi, Qj, Qk, Ql, Qm, Qn, Qo, Qp, Qq, Qr, Qs, implies_true, Qt, Qu, Qv, Qw, Qx, Qy, Qz, QA, QB, QC, QD, QE, QF, QG, QH, QI, QJ, QK, QL, QM, QN, QO, QP, QQ]
            refine LoopC.fr 2796695703131462996589610054829865435136 (α := Nat × Nat) (fun x => line.length - x.1) (fun x => [(23, .d (.int .i64 x.2))]) (fun x => [DiceM s k2, .box [.d (Gr g2 false)], .iter (bs line) x.1])
              (fun x => x.1 ≤ line.length ∧ x.2 + nbR (rnF line x.1) = nbR (rnF line 0)) (0, 0) ⟨Nat.zero_le _, by simp⟩ ?_ ?_
            · exact ⟨[some 0, some 1, some 2], rfl, by simp, by simp [setsA, keepA, SWeak, AWeak], by simp [HWeak, BWeak, SWeak, AWeak]⟩
            · rintro ⟨p, a⟩ ⟨q1, q2⟩
              simp only at q1 q2
              simp only [awK, Nat.reduceMod, Nat.reduceDiv, reduceIte]
              rcases Nat.lt_or_ge p line.length with hp | hp
              · have hd := dec_end line p hp
                have hb := dec_bounds line p
                rw [rnF_more hp, nbR_cons] at q2
                by_cases hx : (dec line p).1 = 32
                · rw [if_neg (by simp [hx])] at q2
                  have hx2 : (((dec line p).1 : Nat) : Int) = 32 := by omega
                  simp (config := { maxSteps := 1000000 }) (disch := ((try simp only [awL]); omega)) only [QR, QS, QT, QU, QV, QW, QX, QY, QZ, Q0, Q1, Q2, hx2, ↓awU, awV, awF, Qa, Qb, Qc, Qd, forall_const, ↓reduceIte, ↓reduceDIte, ↓Qe, Qf, Qg, Qh, Qi, Qj, Qk, Ql, Qm, Qn, Qo, Qp, Qq, Qr, Qs, implies_true, Qt, Qu, Qv, Qw, Qx, Qy, Qz, QA, QB, QC, QD, QE, QF, QG, QH, QI, QJ, QK, QL, QM, QN, QO, QP, QQ]
                  exact ⟨(p + (dec line p).2, a), ⟨hd.2, by simp only; omega⟩, by simp only; omega, ⟨[some 0, some 1, some 2], rfl, by simp, by simp [setsA, keepA, SWeak, AWeak], by simp [HWeak, BWeak, SWeak, AWeak]⟩⟩
                · rw [if_pos hx] at q2
                  have hx2 : ¬ (((dec line p).1 : Nat) : Int) = 32 := by omega
                  simp (config := { maxSteps := 1000000 }) (disch := ((try simp only [awL]); omega)) only [QR, QS, QT, QU, QV, QW, QX, QY, QZ, Q0, Q1, Q2, hx2, ↓awU, awV, awF, Qa, Qb, Qc, Qd, forall_const, ↓reduceIte, ↓reduceDIte, ↓Qe, Qf, Qg, Qh, Qi, Qj, Qk, Ql, Qm, Qn, Qo, Qp, Qq, Qr, Qs, implies_true, Qt, Qu, Qv, Qw, Qx, Qy, Qz, QA, QB, QC, QD, QE, QF, QG, QH, QI, QJ, QK, QL, QM, QN, QO, QP, QQ]
                  exact ⟨(p + (dec line p).2, a + 1), ⟨hd.2, by simp only; omega⟩, by simp only; omega, ⟨[some 0, some 1, some 2], rfl, by simp, by simp [setsA, keepA, SWeak, AWeak], by simp [HWeak, BWeak, SWeak, AWeak]⟩⟩
              · rw [rnF_end (by omega)] at q2
                have ea : a = sumF row := by rw [tot, ← q2]; simp [nbR]
                subst ea
                simp (config := { maxSteps := 1000000 }) (disch := ((try simp only [awL]); omega)) only [QR, QS, QT, QU, QV, QW, QX, QY, QZ, Q0, Q1, Q2, rgl, gfl, gr, ↓awU, awV, awF, Qa, Qb, Qc, Qd, forall_const, ↓reduceIte, ↓reduceDIte, ↓Qe, Qf, Qg, Qh, Qi, Qj, Qk, Ql, Qm, Qn, Qo, Qp, Qq, Qr, Qs, implies_true, Qt, Qu, Qv, Qw, Qx, Qy, Qz, QA, QB, QC, QD, QE, QF, QG, QH, QI, QJ, QK, QL, QM, QN, QO, QP, QQ]
                refine LoopC.fr 33451192234563698667592460022167917968228352 (α := Nat) (fun j => row.length - j) (fun j => [(24, .d (.int .i64 (sumF (row.take j)))), (145, .d (.int .i64 j))]) (fun _ => [DiceM s k2, .box [.d (Gr g2 false)]])
                  (fun j => j ≤ row.length) 0 (Nat.zero_le _) ?_ ?_
                · exact ⟨[some 0, some 1], rfl, by simp, by simp [setsA, keepA, SWeak, AWeak, sumF], by simp [HWeak, BWeak, SWeak, AWeak]⟩
                · intro j hj
                  simp only [awK, Nat.reduceMod, Nat.reduceDiv, reduceIte]
                  rcases Nat.lt_or_ge j row.length with h5 | h5
                  · have gf := strs_getD h5
                    have st := sumF_take h5
                    have sle := sumF_le row (j + 1)
                    have fl := flen _ (memD (d := []) h5)
                    generalize row.getD j [] = f at *
                    generalize sumF (row.take j) = b0 at *
                    obtain ⟨b1, hb1⟩ : ∃ b1, sumF (row.take (j + 1)) = b1 := ⟨_, rfl⟩
                    rw [hb1] at st sle
                    simp (config := { maxSteps := 1000000 }) (disch := ((try simp only [awL]); omega)) only [QR, QS, QT, QU, QV, QW, QX, QY, QZ, Q0, Q1, Q2, rD, gf, ↓awU, awV, awF, Qa, Qb, Qc, Qd, forall_const, ↓reduceIte, ↓reduceDIte, ↓Qe, Qf, Qg, Qh, Qi, Qj, Qk, Ql, Qm, Qn, Qo, Qp, Qq, Qr, Qs, implies_true, Qt, Qu, Qv, Qw, Qx, Qy, Qz, QA, QB, QC, QD, QE, QF, QG, QH, QI, QJ, QK, QL, QM, QN, QO, QP, QQ]
                    refine LoopC.fr 1505300375337584826008949866016959777362935808 (α := Nat × Nat) (fun x => f.length - x.1) (fun x => [(24, .d (.int .i64 x.2))]) (fun x => [DiceM s k2, .box [.d (Gr g2 false)], .iter (bs f) x.1])
                      (fun x => x.1 ≤ f.length ∧ x.2 + nbR (rnF f x.1) = b1) (0, b0) ⟨Nat.zero_le _, st.symm⟩ ?_ ?_
                    · exact ⟨[some 0, some 1, some 2], rfl, by simp, by simp [setsA, keepA, SWeak, AWeak], by simp [HWeak, BWeak, SWeak, AWeak]⟩
                    · rintro ⟨p, b⟩ ⟨q3, q4⟩
                      simp only at q3 q4
                      simp only [awK, Nat.reduceMod, Nat.reduceDiv, reduceIte]
                      rcases Nat.lt_or_ge p f.length with hp2 | hp2
                      · have hd := dec_end f p hp2
                        have hb := dec_bounds f p
                        rw [rnF_more hp2, nbR_cons] at q4
                        by_cases hx : (dec f p).1 = 32
                        · rw [if_neg (by simp [hx])] at q4
                          have hx2 : (((dec f p).1 : Nat) : Int) = 32 := by omega
                          simp (config := { maxSteps := 1000000 }) (disch := ((try simp only [awL]); omega)) only [QR, QS, QT, QU, QV, QW, QX, QY, QZ, Q0, Q1, Q2, hx2, ↓awU, awV, awF, Qa, Qb, Qc, Qd, forall_const, ↓reduceIte, ↓reduceDIte, ↓Qe, Qf, Qg, Qh, Qi, Qj, Qk, Ql, Qm, Qn, Qo, Qp, Qq, Qr, Qs, implies_true, Qt, Qu, Qv, Qw, Qx, Qy, Qz, QA, QB, QC, QD, QE, QF, QG, QH, QI, QJ, QK, QL, QM, QN, QO, QP, QQ]
                          exact ⟨(p + (dec f p).2, b), ⟨hd.2, by simp only; omega⟩, by simp only; omega, ⟨[some 0, some 1, some 2], rfl, by simp, by simp [setsA, keepA, SWeak, AWeak], by simp [HWeak, BWeak, SWeak, AWeak]⟩⟩
                        · rw [if_pos hx] at q4
                          have hx2 : ¬ (((dec f p).1 : Nat) : Int) = 32 := by omega
                          simp (config := { maxSteps := 1000000 }) (disch := ((try simp only [awL]); omega)) only [QR, QS, QT, QU, QV, QW, QX, QY, QZ, Q0, Q1, Q2, hx2, ↓awU, awV, awF, Qa, Qb, Qc, Qd, forall_const, ↓reduceIte, ↓reduceDIte, ↓Qe, Qf, Qg, Qh, Qi, Qj, Qk, Ql, Qm, Qn, Qo, Qp, Qq, Qr, Qs, implies_true, Qt, Qu, Qv, Qw, Qx, Qy, Qz, QA, QB, QC, QD, QE, QF, QG, QH, QI, QJ, QK, QL, QM, QN, QO, QP, QQ]
                          exact ⟨(p + (dec f p).2, b + 1), ⟨hd.2, by simp only; omega⟩, by simp only; omega, ⟨[some 0, some 1, some 2], rfl, by simp, by simp [setsA, keepA, SWeak, AWeak], by simp [HWeak, BWeak, SWeak, AWeak]⟩⟩
                      · rw [rnF_end (by omega)] at q4
                        have eb : b = b1 := by rw [← q4]; simp [nbR]
                        subst eb
                        simp (config := { maxSteps := 1000000 }) (disch := ((try simp only [awL]); omega)) only [QR, QS, QT, QU, QV, QW, QX, QY, QZ, Q0, Q1, Q2, ↓awU, awV, awF, Qa, Qb, Qc, Qd, forall_const, ↓reduceIte, ↓reduceDIte, ↓Qe, Qf, Qg, Qh, Qi, Qj, Qk, Ql, Qm, Qn, Qo, Qp, Qq, Qr, Qs, implies_true, Qt, Qu, Qv, Qw, Qx, Qy, Qz, QA, QB, QC, QD, QE, QF, QG, QH, QI, QJ, QK, QL, QM, QN, QO, QP, QQ]
                        exact ⟨j + 1, h5, by simp only; omega, ⟨[some 0, some 1], rfl, by simp, by simp [setsA, keepA, SWeak, AWeak, hb1], by simp [HWeak, BWeak, SWeak, AWeak]⟩⟩
                  · rw [List.take_of_length_le h5]
                    simp (config := { maxSteps := 1000000 }) (disch := ((try simp only [awL]); omega)) only [QR, QS, QT, QU, QV, QW, QX, QY, QZ, Q0, Q1, Q2, rD, ↓awU, awV, awF, Qa, Qb, Qc, Qd, forall_const, ↓reduceIte, ↓reduceDIte, ↓Qe, Qf, Qg, Qh, Qi, Qj, Qk, Ql, Qm, Qn, Qo, Qp, Qq, Qr, Qs, implies_true, Qt, Qu, Qv, Qw, Qx, Qy, Qz, QA, QB, QC, QD, QE, QF, QG, QH, QI, QJ, QK, QL, QM, QN, QO, QP, QQ]
                    exact ⟨i + 1, h3, by simp only; omega, ⟨[some 0, some 1], rfl, by simp, by simp [setsA, keepA, SWeak, AWeak], by simp [HWeak, BWeak, SWeak, AWeak]⟩⟩
          · obtain rfl : i = ls.length := by omega
            simp (config := { maxSteps := 1000000 }) (disch := ((try simp only [awL]); omega)) only [QR, QS, QT, QU, QV, QW, QX, QY, QZ, Q0, Q1, Q2, lsl, ↓awU, awV, awF, Qa, Qb, Qc, Qd, forall_const, ↓reduceIte, ↓reduceDIte, ↓Qe, Qf, Qg, Qh, Qi, Qj, Qk, Ql, Qm, Qn, Qo, Qp, Qq, Qr, Qs, implies_true, Qt, Qu, Qv, Qw, Qx, Qy, Qz, QA, QB, QC, QD, QE, QF, QG, QH, QI, QJ, QK, QL, QM, QN, QO, QP, QQ]
end Go.Proofs.YtacepalmphbnfaaDoor
