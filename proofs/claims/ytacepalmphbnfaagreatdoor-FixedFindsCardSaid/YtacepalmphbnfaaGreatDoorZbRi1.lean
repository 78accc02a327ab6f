/-
  A world that lays the variables of fixedFinds.
-/
import Derived.Test.YtacepalmphbnfaaGreatDoorMb2
set_option linter.all false
open Go.Abs renaming ofVal → Qa, ofVal0 → Qb, isShift → Qc, aggK → Qd, purePost → Qe, combine → Qf, idsA → Qg, cellsA → Qh, numsOf → Qi, srcA → Qj, calleeA → Qk, refsA → Ql, isScalar → Qm, scalarD → Qn, scalar0 → Qo, putL → Qr, unfA → Qs, sidsB → QJ, keyKD → QL, isIntK → QM, aggD → QN, aggL → QO, eqKs → QP, boxRow → QQ, nextC_more → QT, nextC_over → QU, bs_size → QV, bs_extract → QW, bs_toList → QX, bs_append → QY, byteAt_bs → QZ, bs_cells → Q0, nums_length → Q1, nums_getD → Q2
open Go.Abs.AV renaming one → Qp
open Go.Abs.D renaming one → Qq
open Go.IntKind renaming signed → Qt
open Nat renaming reduceAdd → Qu, reduceSub → Qv, reduceMul → Qw, reducePow → Qx, reduceDiv → Qy, reduceMod → Qz, reduceEqDiff → QI, reduceBEq → QK
open Int renaming reduceAdd → QA, reduceSub → QB, reduceMul → QC, reducePow → QD, reduceNeg → QE, reduceToNat → QF, reduceLT → QG, reduceLE → QH
open Option renaming toList_some → QR, toList_none → QS

namespace Go.Proofs.YtacepalmphbnfaaGreatDoor
open Go Go.Proofs Go.Abs Go.RowKit Go.ChangeShapes Go.WideShapes Go.ChangeAt
noncomputable def laidWorld_fixedFinds (os : Os) : World :=
  { World.holding Tryz.prog os ⟨#[], #[], []⟩ with heap := ((((((World.holding Tryz.prog os ⟨#[], #[], []⟩).heap.modify 6 fun
      | .cells _ t frozen => .cells #[.int .u8 0, .int .u8 1, .int .u8 28, .int .u8 2, .int .u8 29, .int .u8 14, .int .u8 24, .int .u8 3, .int .u8 30, .int .u8 22, .int .u8 20, .int .u8 15, .int .u8 25, .int .u8 17, .int .u8 4, .int .u8 8, .int .u8 31, .int .u8 27, .int .u8 13, .int .u8 23, .int .u8 21, .int .u8 19, .int .u8 16, .int .u8 7, .int .u8 26, .int .u8 12, .int .u8 18, .int .u8 6, .int .u8 11, .int .u8 5, .int .u8 10, .int .u8 9] t frozen
      | o => o).modify 7 fun
      | .cells _ t frozen => .cells #[.int .u8 0, .int .u8 1, .int .u8 56, .int .u8 2, .int .u8 57, .int .u8 49, .int .u8 28, .int .u8 3, .int .u8 61, .int .u8 58, .int .u8 42, .int .u8 50, .int .u8 38, .int .u8 29, .int .u8 17, .int .u8 4, .int .u8 62, .int .u8 47, .int .u8 59, .int .u8 36, .int .u8 45, .int .u8 43, .int .u8 51, .int .u8 22, .int .u8 53, .int .u8 39, .int .u8 33, .int .u8 30, .int .u8 24, .int .u8 18, .int .u8 12, .int .u8 5, .int .u8 63, .int .u8 55, .int .u8 48, .int .u8 27, .int .u8 60, .int .u8 41, .int .u8 37, .int .u8 16, .int .u8 46, .int .u8 35, .int .u8 44, .int .u8 21, .int .u8 52, .int .u8 32, .int .u8 23, .int .u8 11, .int .u8 54, .int .u8 26, .int .u8 40, .int .u8 15, .int .u8 34, .int .u8 20, .int .u8 31, .int .u8 10, .int .u8 25, .int .u8 14, .int .u8 19, .int .u8 9, .int .u8 13, .int .u8 8, .int .u8 7, .int .u8 6] t frozen
      | o => o).modify 5 fun
      | .cells _ t frozen => .cells #[.int .u64 1, .int .u64 10, .int .u64 100, .int .u64 1000, .int .u64 10000, .int .u64 100000, .int .u64 1000000, .int .u64 10000000, .int .u64 100000000, .int .u64 1000000000, .int .u64 10000000000, .int .u64 100000000000, .int .u64 1000000000000, .int .u64 10000000000000, .int .u64 100000000000000, .int .u64 1000000000000000, .int .u64 10000000000000000, .int .u64 100000000000000000, .int .u64 1000000000000000000, .int .u64 10000000000000000000] t frozen
      | o => o).modify 1 fun
      | .cells _ t frozen => .cells #[.int .u8 128, .int .u8 191, .int .u8 160, .int .u8 191, .int .u8 128, .int .u8 159, .int .u8 144, .int .u8 191, .int .u8 128, .int .u8 143, .int .u8 0, .int .u8 0, .int .u8 0, .int .u8 0, .int .u8 0, .int .u8 0, .int .u8 0, .int .u8 0, .int .u8 0, .int .u8 0, .int .u8 0, .int .u8 0, .int .u8 0, .int .u8 0, .int .u8 0, .int .u8 0, .int .u8 0, .int .u8 0, .int .u8 0, .int .u8 0, .int .u8 0, .int .u8 0] t frozen
      | o => o).modify 0 fun
      | .cells _ t frozen => .cells (Go.Pinned.utf8FirstZ.map fun (n : Nat) => Value.int .u8 (n : Int)).toArray t frozen
      | o => o) }
set_option maxRecDepth 100000 in
theorem laid_met_fixedFinds (os : Os) (args : Array Value) : laidMet Tryz.prog [("math/bits.deBruijn32tab", Rows.laid_math_bits_deBruijn32tab), ("math/bits.deBruijn64tab", Rows.laid_math_bits_deBruijn64tab), ("internal/strconv.uint64pow10", Rows.laid_internal_strconv_uint64pow10), ("unicode/utf8.acceptRanges", Rows.laid_unicode_utf8_acceptRanges), ("unicode/utf8.first", Rows.laid_unicode_utf8_first)] ((laidWorld_fixedFinds os).forCall (fun _ _ => 0) ⟨#[], args, []⟩).memory :=
  laidMet_of_run' 8 (by kernel_rfl) (by kernel_rfl)
end Go.Proofs.YtacepalmphbnfaaGreatDoor

namespace Go.Proofs.YtacepalmphbnfaaGreatDoor
open Go Go.Proofs Go.Abs
variable {G : Globals}
/-! Writing a file in a layout. -/
/-- A row's text, from the i-th field on, where p places are written. -/
def wrF (lay : List Nat) : Nat → Nat → Row → List UInt8
  | _, _, [] => []
  | i, p, s :: r => if s = [] then wrF lay (i + 1) p r else List.replicate (lay.getD i 0 - p) 32 ++ s ++ wrF lay (i + 1) (lay.getD i 0 + rcL s) r
def txtF (lay : List Nat) : List Row → List UInt8
  | [] => []
  | r :: g => wrF lay 0 0 r ++ [10] ++ txtF lay g
def formF (lay : List Int) (g : List Row) : List UInt8 × Nat :=
  if okLay lay = false then ([], 1) else if checkL (natsOf lay) g ≠ 0 then ([], checkL (natsOf lay) g) else
    if 1048576 < (txtF (natsOf lay) g).length then ([], 3) else (txtF (natsOf lay) g, 0)
def fmtE (x : List UInt8 × Nat) : D := .tup [S x.1, .int .i64 x.2]
theorem check_ok {lay : List Nat} {g : List Row} (h : checkL lay g = 0) :
    g.length ≤ 4096 ∧ ∀ r ∈ g, r.length = lay.length ∧ (∀ s ∈ r, Lib.validD s = true ∧ s.length ≤ 1024) ∧ ∀ i, i < r.length → badX lay i (r.getD i []) = false := by
  unfold checkL at h
  split at h
  · cases h
  · rename_i h1
    split at h
    · cases h
    · rename_i h2
      split at h
      · cases h
      · rename_i h3
        simp only [Bool.or_eq_true, decide_eq_true_eq, not_or] at h2
        refine ⟨by omega, fun r hr => ?_⟩
        have e1 : oddRw lay r = false := by
          cases hx : oddRw lay r with
          | false => rfl
          | true => exact absurd (List.any_eq_true.2 ⟨r, hr, hx⟩) h1
        have e2 : r.any bigF = false := by
          cases hx : r.any bigF with
          | false => rfl
          | true => exact absurd (List.any_eq_true.2 ⟨r, hr, hx⟩) h2.2
        have e3 : badRow lay r = false := by
          cases hx : badRow lay r with
          | false => rfl
          | true => exact absurd (List.any_eq_true.2 ⟨r, hr, hx⟩) h3
        unfold oddRw at e1
        simp only [Bool.or_eq_false_iff, decide_eq_false_iff_not, Decidable.not_not] at e1
        refine ⟨e1.1, fun s hs => ⟨?_, ?_⟩, fun i hi => ?_⟩
        · have := List.any_eq_false.1 e1.2 s hs
          simpa using this
        · have := List.any_eq_false.1 e2 s hs
          simp [bigF] at this; omega
        · unfold badRow badTo at e3
          have := List.any_eq_false.1 e3 i (List.mem_range.2 hi)
          simpa using this
theorem wr_len (lay : List Nat) (h1 : ∀ i, lay.getD i 0 ≤ 1048576) : ∀ (r : Row) (i p : Nat), (∀ s ∈ r, s.length ≤ 1024) → (wrF lay i p r).length ≤ 1049600 * r.length
  | [], _, _, _ => by simp [wrF]
  | s :: r, i, p, h => by
    have h2 := h s (by simp)
    have h3 := h1 i
    have a := wr_len lay h1 r (i + 1) p fun x hx => h x (by simp [hx])
    have b := wr_len lay h1 r (i + 1) (lay.getD i 0 + rcL s) fun x hx => h x (by simp [hx])
    rw [wrF]
    split
    · simp only [List.length_cons]; omega
    · simp only [List.length_append, List.length_cons, List.length_replicate]; omega
theorem txt_len (lay : List Nat) (h1 : ∀ i, lay.getD i 0 ≤ 1048576) : ∀ (g : List Row), (∀ r ∈ g, r.length ≤ 64 ∧ ∀ s ∈ r, s.length ≤ 1024) → (txtF lay g).length ≤ 67174401 * g.length
  | [], _ => by simp [txtF]
  | r :: g, h => by
    obtain ⟨h2, h3⟩ := h r (by simp)
    have a := wr_len lay h1 r 0 0 h3
    have b := txt_len lay h1 g fun x hx => h x (by simp [hx])
    simp only [txtF, List.length_append, List.length_cons, List.length_nil]
    omega
theorem wr_step (lay : List Nat) {r : Row} {j p : Nat} (h : j < r.length) :
    wrF lay j p (r.drop j) = if r.getD j [] = [] then wrF lay (j + 1) p (r.drop (j + 1)) else List.replicate (lay.getD j 0 - p) 32 ++ r.getD j [] ++ wrF lay (j + 1) (lay.getD j 0 + rcL (r.getD j [])) (r.drop (j + 1)) := by
  rw [List.drop_eq_getElem_cons h, List.getD_eq_getElem?_getD, List.getElem?_eq_getElem h]; rfl
theorem txt_step (lay : List Nat) {g : List Row} {i : Nat} (h : i < g.length) : txtF lay (g.drop i) = wrF lay 0 0 (g.getD i []) ++ [10] ++ txtF lay (g.drop (i + 1)) := by
  rw [List.drop_eq_getElem_cons h, List.getD_eq_getElem?_getD, List.getElem?_eq_getElem h]; rfl
theorem getD_le {l : List Nat} {m : Nat} (h : ∀ i, i < l.length → l.getD i 0 ≤ m) (i : Nat) : l.getD i 0 ≤ m := by
  rcases Nat.lt_or_ge i l.length with h1 | h1
  · exact h i h1
  · rw [List.getD_eq_getElem?_getD, List.getElem?_eq_none h1]; exact Nat.zero_le _
theorem natsOf_le {l : List Int} (h : ∀ c ∈ l, 0 ≤ c ∧ c ≤ 1048576) (i : Nat) : (natsOf l).getD i 0 ≤ 1048576 :=
  getD_le (fun i hi => by
    have := List.mem_map.1 (memD (d := 0) hi)
    obtain ⟨c, hc, e⟩ := this
    have := h c hc
    show (List.map Int.toNat l).getD i 0 ≤ 1048576
    rw [← e]; omega) i
theorem bad_room {lay : List Nat} {i : Nat} {s : List UInt8} (h : badX lay i s = false) (hi : i + 1 < lay.length) : rcL s ≤ lay.getD (i + 1) 0 - lay.getD i 0 := by
  unfold badX at h
  simp only [Bool.or_eq_false_iff, decide_eq_false_iff_not] at h
  have := h.2
  rw [roomW, if_pos hi] at this
  omega
theorem wrS_any (used : Bool) (l x : List UInt8) (hl : l.length ≤ 10000000000000) (hx : x.length ≤ 10000000000000) (y : List UInt8) (hy : l ++ x = y) :
    Ctr Tryz.prog G 70 [.ptr 0 0, .d (S x)] (BL used l) (.tup [.d (.int .i64 x.length), .undef]) [.bld 98 true y.length (some 2), .dead, .buf 5 y] := by
  subst hy; exact writeString_next used l x hl hx
theorem wrB_any (used : Bool) (l : List UInt8) (c : UInt8) (hl : l.length ≤ 10000000000000) (y : List UInt8) (hy : l ++ [c] = y) :
    Ctr Tryz.prog G 73 [.ptr 0 0, .d (.int .u8 c.toNat)] (BL used l) .undef [.bld 98 true y.length (some 2), .dead, .buf 5 y] := by
  subst hy; exact writeByte_next used l c hl
def MF7 : Muts := fun k => k == 2000007
theorem MF7_t {k : Nat} (h : k = 2000007) : MF7 k = true := by subst h; rfl
theorem MF7_n {k : Nat} (h : k ≠ 2000007) : MF7 k = false := by simpa only [MF7, beq_eq_false_iff_ne] using h
set_option maxHeartbeats 16000000 in
set_option maxRecDepth 100000 in
theorem fformat_spec (hT : HT G) (lay : List Int) (lf : Bool) (g : List Row) (full : Bool) (hlay : lay.length ≤ 1000000) (hg : okGrid g) :
    Ctr Tryz.prog G 23 [.d (IsF lay lf), .d (.agg [Gr g full])] [] (.d (fmtE (formF lay g))) [] := by
  refine Ctr.pure (M := MF7) hmix Tryz.func23 rfl go23 ?_
  obtain ⟨r, hr⟩ : ∃ r, r = formF lay g := ⟨_, rfl⟩
  rw [← hr]
  unfold formF at hr
  simp (config := { maxSteps := 1000000 }) (disch := ((try simp only [awL]); omega)) only [QR, QS, QT, QU, QV, QW, QX, QY, QZ, Q0, Q1, Q2, MF7_t, MF7_n, Tryz.f23, ↓awU, awV, awF, Qa, Qb, Qc, Qd, forall_const, ↓reduceIte, ↓reduceDIte, ↓Qe, Qf, Qg, Qh, Qi, Qj, Qk, Ql, Qm, Qn, Qo, Qp, Qq, Qr, Qs, implies_true, Qt, Qu, Qv, Qw, Qx, Qy, Qz, QA, QB, QC, QD, QE, QF, QG, QH, QI, QJ, QK, QL, QM, QN, QO, QP, QQ]
  refine CallC.of (fvalid_spec lay false (by omega)) (by rfl) ?_
  cases hv : okLay lay
  · rw [if_pos hv] at hr
    simp (config := { maxSteps := 1000000 }) (disch := ((try simp only [awL]); omega)) only [QR, QS, QT, QU, QV, QW, QX, QY, QZ, Q0, Q1, Q2, MF7_t, MF7_n, ↓awU, awV, awF, Qa, Qb, Qc, Qd, forall_const, ↓reduceIte, ↓reduceDIte, ↓Qe, Qf, Qg, Qh, Qi, Qj, Qk, Ql, Qm, Qn, Qo, Qp, Qq, Qr, Qs, implies_true, Qt, Qu, Qv, Qw, Qx, Qy, Qz, QA, QB, QC, QD, QE, QF, QG, QH, QI, QJ, QK, QL, QM, QN, QO, QP, QQ]
    rw [hr]; rfl
  · rw [if_neg (by rw [hv]; decide)] at hr
    obtain ⟨k1, k2, k3, k4⟩ := okLay_ok hv
    have nl : (natsOf lay).length = lay.length := by simp [natsOf]
    have nle := natsOf_le k4
    rw [show IsF lay lf = Ns (natsOf lay) lf by unfold IsF Ns; rw [nats_of k4, nl]]
    generalize natsOf lay = ly at *
    simp (config := { maxSteps := 1000000 }) (disch := ((try simp only [awL]); omega)) only [QR, QS, QT, QU, QV, QW, QX, QY, QZ, Q0, Q1, Q2, MF7_t, MF7_n, ↓awU, awV, awF, Qa, Qb, Qc, Qd, forall_const, ↓reduceIte, ↓reduceDIte, ↓Qe, Qf, Qg, Qh, Qi, Qj, Qk, Ql, Qm, Qn, Qo, Qp, Qq, Qr, Qs, implies_true, Qt, Qu, Qv, Qw, Qx, Qy, Qz, QA, QB, QC, QD, QE, QF, QG, QH, QI, QJ, QK, QL, QM, QN, QO, QP, QQ]
    refine CallC.of (check_spec hT ly false g false k3 hg) (by rfl) ?_
    by_cases hc : checkL ly g = 0
    · rw [if_neg (by rw [hc]; decide)] at hr
      rw [hc]
      obtain ⟨c1, c2⟩ := check_ok hc
      have tl := txt_len ly nle g fun r hr => ⟨by rw [(c2 r hr).1, nl]; exact k2, fun s hs => ((c2 r hr).2.1 s hs).2⟩
      have gl := @rowsD_length g
      have al := @nats_length .i64 ly
      simp (config := { maxSteps := 1000000 }) (disch := ((try simp only [awL]); omega)) only [QR, QS, QT, QU, QV, QW, QX, QY, QZ, Q0, Q1, Q2, MF7_t, MF7_n, ↓awU, awV, awF, Qa, Qb, Qc, Qd, forall_const, ↓reduceIte, ↓reduceDIte, ↓Qe, Qf, Qg, Qh, Qi, Qj, Qk, Ql, Qm, Qn, Qo, Qp, Qq, Qr, Qs, implies_true, Qt, Qu, Qv, Qw, Qx, Qy, Qz, QA, QB, QC, QD, QE, QF, QG, QH, QI, QJ, QK, QL, QM, QN, QO, QP, QQ]
      refine LoopC.fr 50331777 (α := Nat × List UInt8 × Bool) (fun x => g.length - x.1) (fun x => [(26, .d (.int .i64 x.1))]) (fun x => [.dead, .bld 98 x.2.2 x.2.1.length (some 2), .buf 5 x.2.1])
        (fun x => x.1 ≤ g.length ∧ x.2.1 ++ txtF ly (g.drop x.1) = txtF ly g ∧ x.2.1.length ≤ 1048576) (0, [], false) ⟨Nat.zero_le _, by simp, by simp⟩ ?_ ?_
      · exact ⟨[some 0, some 1, none], rfl, by simp, by simp [setsA, keepA, SWeak, AWeak], by simp [HWeak, BWeak, SWeak, AWeak]⟩
      · rintro ⟨i, out, used⟩ ⟨b1, b2, b3⟩
        simp only at b1 b2 b3
        simp only [awK, Nat.reduceMod, Nat.reduceDiv, reduceIte]
        rcases Nat.lt_or_ge i g.length with h | h
        · have gg := rowsD_getD h
          rw [txt_step ly h] at b2
          have mem := c2 _ (memD (d := []) h)
          generalize g.getD i [] = row at *
          obtain ⟨r1, r2, r3⟩ := mem
          have sl := @strs_length row
          simp (config := { maxSteps := 1000000 }) (disch := ((try simp only [awL]); omega)) only [QR, QS, QT, QU, QV, QW, QX, QY, QZ, Q0, Q1, Q2, MF7_t, MF7_n, gl, gg, ↓awU, awV, awF, Qa, Qb, Qc, Qd, forall_const, ↓reduceIte, ↓reduceDIte, ↓Qe, Qf, Qg, Qh, Qi, Qj, Qk, Ql, Qm, Qn, Qo, Qp, Qq, Qr, Qs, implies_true, Qt, Qu, Qv, Qw, Qx, Qy, Qz, QA, QB, QC, QD, QE, QF, QG, QH, QI, QJ, QK, QL, QM, QN, QO, QP, QQ]
          refine LoopC.fr 3338666113 (α := Nat × Nat × List UInt8 × Bool) (fun x => row.length - x.1) (fun x => [(10, .d (.int .i64 x.2.1)), (32, .d (.int .i64 x.1))]) (fun x => [.dead, .bld 98 x.2.2.2 x.2.2.1.length (some 2), .buf 5 x.2.2.1])
            (fun x => x.1 ≤ row.length ∧ (x.1 < row.length → x.2.1 ≤ ly.getD x.1 0) ∧ x.2.2.1 ++ wrF ly x.1 x.2.1 (row.drop x.1) ++ [10] ++ txtF ly (g.drop (i + 1)) = txtF ly g) (0, 0, out, used) ⟨Nat.zero_le _, fun _ => Nat.zero_le _, by simp only [List.drop_zero, List.append_assoc] at b2 ⊢; exact b2⟩ ?_ ?_
          · exact ⟨[some 0, some 1, some 2], rfl, by simp, by simp [setsA, keepA, SWeak, AWeak], by simp [HWeak, BWeak, SWeak, AWeak]⟩
          · rintro ⟨j, p, out2, used2⟩ ⟨d1, d2, d3⟩
            simp only at d1 d2 d3
            have ol2 : out2.length ≤ (txtF ly g).length := by rw [← d3]; simp only [List.length_append]; omega
            simp only [awK, Nat.reduceMod, Nat.reduceDiv, reduceIte]
            rcases Nat.lt_or_ge j row.length with hj | hj
            · have sg2 := strs_getD hj
              have mem2 := r2 _ (memD (d := []) hj)
              have bad := r3 j hj
              have hp := d2 hj
              have lj := nle j
              have gj := nats_getD (k := .i64) (d := .nilp) (l := ly) (i := j) (by omega)
              have mono := k3.2.2 j
              have room := @bad_room ly j _ bad
              rw [wr_step ly hj] at d3
              generalize row.getD j [] = fld at *
              by_cases he : fld = []
              · subst he
                rw [if_pos rfl] at d3
                simp (config := { maxSteps := 1000000 }) (disch := ((try simp only [awL]); omega)) only [QR, QS, QT, QU, QV, QW, QX, QY, QZ, Q0, Q1, Q2, MF7_t, MF7_n, sl, sg2, ↓awU, awV, awF, Qa, Qb, Qc, Qd, forall_const, ↓reduceIte, ↓reduceDIte, ↓Qe, Qf, Qg, Qh, Qi, Qj, Qk, Ql, Qm, Qn, Qo, Qp, Qq, Qr, Qs, implies_true, Qt, Qu, Qv, Qw, Qx, Qy, Qz, QA, QB, QC, QD, QE, QF, QG, QH, QI, QJ, QK, QL, QM, QN, QO, QP, QQ]
                exact ⟨(j + 1, p, out2, used2), ⟨hj, fun hj2 => Nat.le_trans hp (mono (by simp only at hj2; omega)), d3⟩, by simp only; omega, ⟨[some 0, some 1, some 2], rfl, by simp, by simp [setsA, keepA, SWeak, AWeak], by simp [HWeak, BWeak, SWeak, AWeak]⟩⟩
              · rw [if_neg he] at d3
                have hne : (fld == []) = false := by simpa using he
                have ep : ((ly.getD j 0 : Nat) : Int) - (p : Nat) = ((ly.getD j 0 - p : Nat) : Int) := by omega
                simp (config := { maxSteps := 1000000 }) (disch := ((try simp only [awL]); omega)) only [QR, QS, QT, QU, QV, QW, QX, QY, QZ, Q0, Q1, Q2, MF7_t, MF7_n, Ns, al, gj, ep, hne, sl, sg2, ↓awU, awV, awF, Qa, Qb, Qc, Qd, forall_const, ↓reduceIte, ↓reduceDIte, ↓Qe, Qf, Qg, Qh, Qi, Qj, Qk, Ql, Qm, Qn, Qo, Qp, Qq, Qr, Qs, implies_true, Qt, Qu, Qv, Qw, Qx, Qy, Qz, QA, QB, QC, QD, QE, QF, QG, QH, QI, QJ, QK, QL, QM, QN, QO, QP, QQ]
                refine CallC.pure (repeat_spec 32 (ly.getD j 0 - p) (by omega)) ?_
                simp (config := { maxSteps := 1000000 }) (disch := ((try simp only [awL]); omega)) only [QR, QS, QT, QU, QV, QW, QX, QY, QZ, Q0, Q1, Q2, MF7_t, MF7_n, ↓awU, awV, awF, Qa, Qb, Qc, Qd, forall_const, ↓reduceIte, ↓reduceDIte, ↓Qe, Qf, Qg, Qh, Qi, Qj, Qk, Ql, Qm, Qn, Qo, Qp, Qq, Qr, Qs, implies_true, Qt, Qu, Qv, Qw, Qx, Qy, Qz, QA, QB, QC, QD, QE, QF, QG, QH, QI, QJ, QK, QL, QM, QN, QO, QP, QQ]
                have rl : (List.replicate (ly.getD j 0 - p) (32 : UInt8)).length = ly.getD j 0 - p := by simp
                generalize List.replicate (ly.getD j 0 - p) (32 : UInt8) = rp at *
                generalize ha : out2 ++ rp = out3
                have la : out3.length = out2.length + rp.length := by rw [← ha, List.length_append]
                refine CallC.by (wrS_any used2 out2 rp (by omega) (by omega) out3 ha) (by rfl) (by rfl) (by simp) ?_
                simp (config := { maxSteps := 1000000 }) (disch := ((try simp only [awL]); omega)) only [QR, QS, QT, QU, QV, QW, QX, QY, QZ, Q0, Q1, Q2, MF7_t, MF7_n, ↓awU, awV, awF, Qa, Qb, Qc, Qd, forall_const, ↓reduceIte, ↓reduceDIte, ↓Qe, Qf, Qg, Qh, Qi, Qj, Qk, Ql, Qm, Qn, Qo, Qp, Qq, Qr, Qs, implies_true, Qt, Qu, Qv, Qw, Qx, Qy, Qz, QA, QB, QC, QD, QE, QF, QG, QH, QI, QJ, QK, QL, QM, QN, QO, QP, QQ]
                generalize hb : out3 ++ fld = out4
                have lb : out4.length = out3.length + fld.length := by rw [← hb, List.length_append]
                refine CallC.by (wrS_any true out3 fld (by omega) (by omega) out4 hb) (by rfl) (by rfl) (by simp) ?_
                have rc := rcL_le fld
                simp (config := { maxSteps := 1000000 }) (disch := ((try simp only [awL]); omega)) only [QR, QS, QT, QU, QV, QW, QX, QY, QZ, Q0, Q1, Q2, MF7_t, MF7_n, Ns, al, gj, ↓awU, awV, awF, Qa, Qb, Qc, Qd, forall_const, ↓reduceIte, ↓reduceDIte, ↓Qe, Qf, Qg, Qh, Qi, Qj, Qk, Ql, Qm, Qn, Qo, Qp, Qq, Qr, Qs, implies_true, Qt, Qu, Qv, Qw, Qx, Qy, Qz, QA, QB, QC, QD, QE, QF, QG, QH, QI, QJ, QK, QL, QM, QN, QO, QP, QQ]
                refine CallC.pure (runeCount_spec fld (by omega)) ?_
                simp (config := { maxSteps := 1000000 }) (disch := ((try simp only [awL]); omega)) only [QR, QS, QT, QU, QV, QW, QX, QY, QZ, Q0, Q1, Q2, MF7_t, MF7_n, Ns, al, gj, ↓awU, awV, awF, Qa, Qb, Qc, Qd, forall_const, ↓reduceIte, ↓reduceDIte, ↓Qe, Qf, Qg, Qh, Qi, Qj, Qk, Ql, Qm, Qn, Qo, Qp, Qq, Qr, Qs, implies_true, Qt, Qu, Qv, Qw, Qx, Qy, Qz, QA, QB, QC, QD, QE, QF, QG, QH, QI, QJ, QK, QL, QM, QN, QO, QP, QQ]
                refine ⟨by rfl, ?_⟩
                exact ⟨(j + 1, ly.getD j 0 + rcL fld, out4, true), ⟨hj, fun hj2 => by have := room (by simp only at hj2; omega); have := mono (by simp only at hj2; omega); simp only; omega, by rw [← hb, ← ha]; simpa only [List.append_assoc] using d3⟩, by simp only; omega, ⟨[some 0, some 1, some 4], rfl, by simp, by simp [setsA, keepA, SWeak, AWeak], by simp [HWeak, BWeak, SWeak, AWeak]⟩⟩
            · obtain rfl : j = row.length := by omega
              rw [List.drop_length] at d3
              simp only [wrF, List.append_nil] at d3
              simp (config := { maxSteps := 1000000 }) (disch := ((try simp only [awL]); omega)) only [QR, QS, QT, QU, QV, QW, QX, QY, QZ, Q0, Q1, Q2, MF7_t, MF7_n, sl, ↓awU, awV, awF, Qa, Qb, Qc, Qd, forall_const, ↓reduceIte, ↓reduceDIte, ↓Qe, Qf, Qg, Qh, Qi, Qj, Qk, Ql, Qm, Qn, Qo, Qp, Qq, Qr, Qs, implies_true, Qt, Qu, Qv, Qw, Qx, Qy, Qz, QA, QB, QC, QD, QE, QF, QG, QH, QI, QJ, QK, QL, QM, QN, QO, QP, QQ]
              generalize ha : out2 ++ [10] = out3 at *
              have la : out3.length = out2.length + 1 := by rw [← ha, List.length_append]; rfl
              refine CallC.by (wrB_any used2 out2 10 (by omega) out3 ha) (by rfl) (by rfl) (by simp) ?_
              simp (config := { maxSteps := 1000000 }) (disch := ((try simp only [awL]); omega)) only [QR, QS, QT, QU, QV, QW, QX, QY, QZ, Q0, Q1, Q2, MF7_t, MF7_n, ↓awU, awV, awF, Qa, Qb, Qc, Qd, forall_const, ↓reduceIte, ↓reduceDIte, ↓Qe, Qf, Qg, Qh, Qi, Qj, Qk, Ql, Qm, Qn, Qo, Qp, Qq, Qr, Qs, implies_true, Qt, Qu, Qv, Qw, Qx, Qy, Qz, QA, QB, QC, QD, QE, QF, QG, QH, QI, QJ, QK, QL, QM, QN, QO, QP, QQ]
              refine CallC.keep [1, 3] (len_spec true out3) (by rfl) (by rfl) (by simp) (by simp [callEff, outW, outN, frz]) (by simp [callEff, outW, outN, renB, renL, renA, frz]) ?_
              rcases Nat.lt_or_ge 1048576 out3.length with h4 | h4
              · rw [if_pos (by rw [← d3, List.length_append]; omega)] at hr
                simp (config := { maxSteps := 1000000 }) (disch := ((try simp only [awL]); omega)) only [QR, QS, QT, QU, QV, QW, QX, QY, QZ, Q0, Q1, Q2, MF7_t, MF7_n, ↓awU, awV, awF, Qa, Qb, Qc, Qd, forall_const, ↓reduceIte, ↓reduceDIte, ↓Qe, Qf, Qg, Qh, Qi, Qj, Qk, Ql, Qm, Qn, Qo, Qp, Qq, Qr, Qs, implies_true, Qt, Qu, Qv, Qw, Qx, Qy, Qz, QA, QB, QC, QD, QE, QF, QG, QH, QI, QJ, QK, QL, QM, QN, QO, QP, QQ]
                rw [hr]; rfl
              · simp (config := { maxSteps := 1000000 }) (disch := ((try simp only [awL]); omega)) only [QR, QS, QT, QU, QV, QW, QX, QY, QZ, Q0, Q1, Q2, MF7_t, MF7_n, ↓awU, awV, awF, Qa, Qb, Qc, Qd, forall_const, ↓reduceIte, ↓reduceDIte, ↓Qe, Qf, Qg, Qh, Qi, Qj, Qk, Ql, Qm, Qn, Qo, Qp, Qq, Qr, Qs, implies_true, Qt, Qu, Qv, Qw, Qx, Qy, Qz, QA, QB, QC, QD, QE, QF, QG, QH, QI, QJ, QK, QL, QM, QN, QO, QP, QQ]
                exact ⟨(i + 1, out3, true), ⟨h, d3, h4⟩, by simp only; omega, ⟨[some 0, some 1, some 3], rfl, by simp, by simp [setsA, keepA, SWeak, AWeak], by simp [HWeak, BWeak, SWeak, AWeak]⟩⟩
        · obtain rfl : i = g.length := by omega
          rw [List.drop_length] at b2
          simp only [txtF, List.append_nil] at b2
          rw [← b2, if_neg (by omega)] at hr
          simp (config := { maxSteps := 1000000 }) (disch := ((try simp only [awL]); omega)) only [QR, QS, QT, QU, QV, QW, QX, QY, QZ, Q0, Q1, Q2, MF7_t, MF7_n, gl, ↓awU, awV, awF, Qa, Qb, Qc, Qd, forall_const, ↓reduceIte, ↓reduceDIte, ↓Qe, Qf, Qg, Qh, Qi, Qj, Qk, Ql, Qm, Qn, Qo, Qp, Qq, Qr, Qs, implies_true, Qt, Qu, Qv, Qw, Qx, Qy, Qz, QA, QB, QC, QD, QE, QF, QG, QH, QI, QJ, QK, QL, QM, QN, QO, QP, QQ]
          refine CallC.by (string_spec used out) (by rfl) (by rfl) (by simp) ?_
          simp (config := { maxSteps := 1000000 }) (disch := ((try simp only [awL]); omega)) only [QR, QS, QT, QU, QV, QW, QX, QY, QZ, Q0, Q1, Q2, MF7_t, MF7_n, ↓awU, awV, awF, Qa, Qb, Qc, Qd, forall_const, ↓reduceIte, ↓reduceDIte, ↓Qe, Qf, Qg, Qh, Qi, Qj, Qk, Ql, Qm, Qn, Qo, Qp, Qq, Qr, Qs, implies_true, Qt, Qu, Qv, Qw, Qx, Qy, Qz, QA, QB, QC, QD, QE, QF, QG, QH, QI, QJ, QK, QL, QM, QN, QO, QP, QQ]
          rw [hr]; rfl
    · rw [if_pos hc] at hr
      have hk : checkL ly g ≤ 4 := by unfold checkL; repeat' split
                                      all_goals decide
      generalize checkL ly g = ck at *
      simp (config := { maxSteps := 1000000 }) (disch := ((try simp only [awL]); omega)) only [QR, QS, QT, QU, QV, QW, QX, QY, QZ, Q0, Q1, Q2, MF7_t, MF7_n, ↓awU, awV, awF, Qa, Qb, Qc, Qd, forall_const, ↓reduceIte, ↓reduceDIte, ↓Qe, Qf, Qg, Qh, Qi, Qj, Qk, Ql, Qm, Qn, Qo, Qp, Qq, Qr, Qs, implies_true, Qt, Qu, Qv, Qw, Qx, Qy, Qz, QA, QB, QC, QD, QE, QF, QG, QH, QI, QJ, QK, QL, QM, QN, QO, QP, QQ]
      rw [hr]; rfl
end Go.Proofs.YtacepalmphbnfaaGreatDoor

namespace Go.Proofs.YtacepalmphbnfaaGreatDoor
open Go Go.Proofs Go.Abs
variable {G : Globals}
/-! The reference: writing a file in a layout. -/
end Go.Proofs.YtacepalmphbnfaaGreatDoor

namespace Go.Proofs.YtacepalmphbnfaaGreatDoor
open Go Go.Proofs Go.Abs
variable {G : Globals}
/-! The reference's Infer. -/
def mrgR : List Bool → Nat → List Nat → List Bool
  | q, _, [] => q
  | q, k, r :: t => mrgR (stepB q k r) (k + 1) t
theorem mrgF_runes : ∀ (n : Nat) (l : List UInt8) (p k : Nat) (o : List Bool), l.length - p = n → mrgF l p k o = mrgR o k (rnF l p) := by
  intro n
  induction n using Nat.strongRecOn with
  | _ n ih =>
    intro l p k o hn
    by_cases h : p < l.length
    · have := dec_end l p h
      rw [mrgF_more h, rnF_more h, mrgR]
      exact ih _ (by omega) l _ _ _ rfl
    · rw [mrgF_end h, rnF_end h]; rfl
theorem dropN {l : List Nat} {i : Nat} (h : i < l.length) : l.drop i = l.getD i 0 :: l.drop (i + 1) := by
  rw [List.drop_eq_getElem_cons h, List.getD_eq_getElem?_getD, List.getElem?_eq_getElem h]; rfl
def nots (q : List Bool) : List Bool := q.map not
end Go.Proofs.YtacepalmphbnfaaGreatDoor

namespace Go.Proofs.YtacepalmphbnfaaGreatDoor
open Go Go.Proofs Go.Abs
variable {G : Globals}
/-! The layout with a text: what is parsed. -/
end Go.Proofs.YtacepalmphbnfaaGreatDoor

namespace Go.Proofs.YtacepalmphbnfaaGreatDoor
open Go Go.Proofs Go.Abs
variable {G : Globals}
/-! The layout with a text: fixed.Layout. -/
end Go.Proofs.YtacepalmphbnfaaGreatDoor

namespace Go.Proofs.YtacepalmphbnfaaGreatDoor
open Go Go.Proofs Go.Abs
variable {G : Globals}
/-! The layout with a text: the reference's Layout. -/
end Go.Proofs.YtacepalmphbnfaaGreatDoor

namespace Go.Proofs.YtacepalmphbnfaaGreatDoor
open Go Go.Proofs Go.Abs
variable {G : Globals}
/-! The dice's layouts and grids. -/
def asI (l : List Nat) : List Int := l.map fun n : Nat => (n : Int)
theorem ints_asI {l : List Nat} : ints .i64 (asI l) = nats .i64 l := by simp [ints, nats, asI]
/-- Ascending places, each at most a thousand. -/
def LayI (l : List Nat) : Prop := l ≠ [] ∧ l.getD 0 0 = 0 ∧ l.length ≤ 4 ∧ (∀ i, i < l.length → l.getD i 0 ≤ 12 * i) ∧ ∀ i, i + 1 < l.length → l.getD i 0 < l.getD (i + 1) 0
theorem LayI.step {l : List Nat} (h : LayI l) (hl : l.length < 4) {c : Nat} (hc : c < 12) : LayI (l ++ [l.getD (l.length - 1) 0 + 1 + c]) := by
  obtain ⟨h1, h2, h3, h4, h5⟩ := h
  have lp : 0 < l.length := List.length_pos_iff.2 h1
  have old : ∀ i, i < l.length → (l ++ [l.getD (l.length - 1) 0 + 1 + c]).getD i 0 = l.getD i 0 := fun i hi => by
    rw [List.getD_eq_getElem?_getD, List.getElem?_append_left hi, ← List.getD_eq_getElem?_getD]
  have new : (l ++ [l.getD (l.length - 1) 0 + 1 + c]).getD l.length 0 = l.getD (l.length - 1) 0 + 1 + c := by
    rw [List.getD_eq_getElem?_getD, List.getElem?_append_right (Nat.le_refl _), Nat.sub_self]; rfl
  refine ⟨by simp, by rw [old 0 lp, h2], by rw [List.length_append, List.length_singleton]; omega, fun i hi => ?_, fun i hi => ?_⟩
  · rw [List.length_append, List.length_singleton] at hi
    rcases Nat.lt_or_ge i l.length with h | h
    · rw [old i h]; exact h4 i h
    · obtain rfl : i = l.length := by omega
      rw [new]
      have := h4 (l.length - 1) (by omega)
      omega
  · rw [List.length_append, List.length_singleton] at hi
    rcases Nat.lt_or_ge (i + 1) l.length with h | h
    · rw [old i (by omega), old (i + 1) h]; exact h5 i h
    · have e : i + 1 = l.length := by omega
      rw [e, new, old i (by omega)]
      have : i = l.length - 1 := by omega
      rw [this]; omega
theorem layI_zero : LayI [0] := ⟨by simp, rfl, by simp, fun i hi => by simp at hi; subst hi; simp, fun i hi => by simp at hi⟩
theorem LayI.lay {l : List Nat} (h : LayI l) : Lay l := by
  obtain ⟨h1, h2, h3, h4, h5⟩ := h
  exact ⟨by omega, fun i hi => by have := h4 i hi; omega, fun i hi => Nat.le_of_lt (h5 i hi)⟩
theorem natsOf_asI : ∀ l : List Nat, natsOf (asI l) = l
  | [] => rfl
  | a :: t => by
    have ih := natsOf_asI t
    simp only [natsOf, asI, List.map_cons, Int.toNat_natCast] at ih ⊢
    rw [ih]
theorem asI_getD {l : List Nat} {i : Nat} : (asI l).getD i 0 = ((l.getD i 0 : Nat) : Int) := by
  simp only [asI, List.getD_eq_getElem?_getD, List.getElem?_map]
  cases l[i]? <;> rfl
theorem LayI.okLay {l : List Nat} (h : LayI l) : okLay (asI l) = true := by
  obtain ⟨h1, h2, h3, h4, h5⟩ := h
  have hl : (asI l).length = l.length := by simp [asI]
  have key : ∀ n i, (asI l).length - i = n → 1 ≤ i → ascF (asI l) i = true := by
    intro n
    induction n with
    | zero => intro i hn _; exact ascF_end (by omega)
    | succ n ih =>
      intro i hn hi
      rw [ascF_more (by omega), ih (i + 1) (by omega) (by omega), Bool.and_true, asI_getD, asI_getD]
      have a := h4 i (by omega)
      have b := h5 (i - 1) (by omega)
      rw [show i - 1 + 1 = i by omega] at b
      exact decide_eq_true ⟨by omega, by omega⟩
  unfold Go.Proofs.YtacepalmphbnfaaGreatDoor.okLay
  rw [key _ 1 rfl (Nat.le_refl _), Bool.and_true, hl, asI_getD, h2]
  have := List.length_pos_iff.2 h1
  exact decide_eq_true ⟨by omega, by omega, rfl⟩
end Go.Proofs.YtacepalmphbnfaaGreatDoor

namespace Go.Proofs.YtacepalmphbnfaaGreatDoor
open Go Go.Proofs Go.Abs
/-! What the dice make is valid and short. -/
def okT (s : List UInt8) : Prop := Lib.validD s = true ∧ s.length ≤ 30
instance (s : List UInt8) : Decidable (okT s) := by unfold okT; exact inferInstance
/-- A grid of the dice. -/
structure OddG (g : List Row) (m n : Nat) : Prop where
  len : g.length ≤ m
  row : ∀ r ∈ g, r ≠ [] ∧ r.length ≤ n
  txt : ∀ r ∈ g, ∀ s ∈ r, okT s
theorem OddG.grid {g : List Row} {m n : Nat} (h : OddG g m n) (hm : m ≤ 1000) (hn : n ≤ 1000) : okGrid g :=
  ⟨by have := h.len; omega, fun r hr => ⟨by have := (h.row r hr).2; omega, fun s hs => by have := (h.txt r hr s hs).2; omega⟩⟩
theorem OddG.bad {g : List Row} {m n : Nat} (h : OddG g m n) : g.any badR = false := by
  rw [List.any_eq_false]
  intro r hr
  have : badR r = false := by
    unfold badR
    rw [Bool.or_eq_false_iff]
    refine ⟨decide_eq_false fun e => (h.row r hr).1 (List.eq_nil_of_length_eq_zero e), List.any_eq_false.2 fun s hs => ?_⟩
    unfold badF
    rw [(h.txt r hr s hs).1]; decide
  rw [this]; decide
end Go.Proofs.YtacepalmphbnfaaGreatDoor

namespace Go.Proofs.YtacepalmphbnfaaGreatDoor
open Go Go.Proofs Go.Abs
variable {G : Globals}
/-! The dice's grids for a layout. -/
def OkS (t : List Int) : Prop := ∀ i, 0 ≤ t.getD i 0 ∧ t.getD i 0 ≤ 255
theorem OkS.take {t : List Int} (h : OkS t) : OkM (t.take 300) := by
  refine ⟨by rw [List.length_take]; omega, fun i => ?_⟩
  rcases Nat.lt_or_ge i 300 with h1 | h1
  · have := h i
    rw [List.getD_eq_getElem?_getD, List.getElem?_take, if_pos h1, ← List.getD_eq_getElem?_getD]
    exact this
  · rw [List.getD_eq_getElem?_getD, List.getElem?_take, if_neg (by omega)]; decide
end Go.Proofs.YtacepalmphbnfaaGreatDoor

namespace Go.Proofs.YtacepalmphbnfaaGreatDoor
open Go Go.Proofs Go.Abs
variable {G : Globals}
/-! The sanity check. -/
def saneT : List UInt8 := [97, 98, 32, 32, 49, 10, 99, 32, 32, 50, 50]
set_option maxRecDepth 100000 in
theorem sane_lines : linesL saneT = [[97, 98, 32, 32, 49], [99, 32, 32, 50, 50]] := by
  unfold saneT linesL
  rw [rawL_more (by decide), rawL_last (by decide) (by decide)]
  decide +kernel
theorem sane_bl : blanksL [[97, 98, 32, 32, 49], [99, 32, 32, 50, 50]] = [false, false, true, false, false] := by
  decide +kernel
theorem sane_infer : inferL saneT 1 = some [0, 3] := by
  unfold inferL layL
  rw [sane_lines, sane_bl]
  decide +kernel
theorem sane_text : textL [0, 3] = some [48, 44, 51] := by decide +kernel
theorem sane_parse : parseF [0, 3] saneT = ([[[97, 98], [49]], [[99], [50, 50]]], 0) := by
  unfold parseF
  rw [sane_lines]
  decide +kernel
set_option maxHeartbeats 4000000 in
set_option maxRecDepth 100000 in
theorem sane_spec (hT : HT G) (hI : HI G) : Ctr Tryz.prog G 11 [] [] (.d (.bool true)) [] := by
  refine Ctr.pure (M := M0) hmix Tryz.func11 rfl go11 ?_
  simp (config := { maxSteps := 1000000 }) (disch := ((try simp only [awL]); omega)) only [QR, QS, QT, QU, QV, QW, QX, QY, QZ, Q0, Q1, Q2, Tryz.f11, ↓awU, awV, awF, Qa, Qb, Qc, Qd, forall_const, ↓reduceIte, ↓reduceDIte, ↓Qe, Qf, Qg, Qh, Qi, Qj, Qk, Ql, Qm, Qn, Qo, Qp, Qq, Qr, Qs, implies_true, Qt, Qu, Qv, Qw, Qx, Qy, Qz, QA, QB, QC, QD, QE, QF, QG, QH, QI, QJ, QK, QL, QM, QN, QO, QP, QQ]
  have i0 := infer_spec hT saneT 1 (by decide)
  rw [sane_infer] at i0
  refine CallC.of i0 (by rfl) ?_
  simp (config := { maxSteps := 1000000 }) (disch := ((try simp only [awL]); omega)) only [QR, QS, QT, QU, QV, QW, QX, QY, QZ, Q0, Q1, Q2, inferD, ↓awU, awV, awF, Qa, Qb, Qc, Qd, forall_const, ↓reduceIte, ↓reduceDIte, ↓Qe, Qf, Qg, Qh, Qi, Qj, Qk, Ql, Qm, Qn, Qo, Qp, Qq, Qr, Qs, implies_true, Qt, Qu, Qv, Qw, Qx, Qy, Qz, QA, QB, QC, QD, QE, QF, QG, QH, QI, QJ, QK, QL, QM, QN, QO, QP, QQ]
  have t0 := ftext_spec hI [0, 3] false (by decide)
  rw [sane_text] at t0
  refine CallC.of t0 (by rfl) ?_
  simp (config := { maxSteps := 1000000 }) (disch := ((try simp only [awL]); omega)) only [QR, QS, QT, QU, QV, QW, QX, QY, QZ, Q0, Q1, Q2, textD, ↓awU, awV, awF, Qa, Qb, Qc, Qd, forall_const, ↓reduceIte, ↓reduceDIte, ↓Qe, Qf, Qg, Qh, Qi, Qj, Qk, Ql, Qm, Qn, Qo, Qp, Qq, Qr, Qs, implies_true, Qt, Qu, Qv, Qw, Qx, Qy, Qz, QA, QB, QC, QD, QE, QF, QG, QH, QI, QJ, QK, QL, QM, QN, QO, QP, QQ]
  have p0 := fparse_spec hT [0, 3] false saneT (by decide) (by decide)
  rw [sane_parse] at p0
  refine CallC.of p0 (by rfl) ?_
  obtain ⟨g, hg⟩ : ∃ g : List Row, g = [[[97, 98], [49]], [[99], [50, 50]]] := ⟨_, rfl⟩
  obtain ⟨r0, hr0⟩ : ∃ r : Row, r = [[97, 98], [49]] := ⟨_, rfl⟩
  obtain ⟨r1, hr1⟩ : ∃ r : Row, r = [[99], [50, 50]] := ⟨_, rfl⟩
  have gl : (rowsD g).length = 2 := by rw [hg]; rfl
  have gl2 : g.length = 2 := by rw [hg]; rfl
  have g0 : (rowsD g).getD 0 .nilp = Ss r0 false := by rw [hg, hr0]; rfl
  have g1 : (rowsD g).getD 1 .nilp = Ss r1 false := by rw [hg, hr1]; rfl
  have l0 : (strs r0).length = 2 := by rw [hr0]; rfl
  have l0' : r0.length = 2 := by rw [hr0]; rfl
  have l1 : (strs r1).length = 2 := by rw [hr1]; rfl
  have l1' : r1.length = 2 := by rw [hr1]; rfl
  have s0 : (strs r0).getD 0 .nilp = S [97, 98] := by rw [hr0]; rfl
  have s1 : (strs r1).getD 1 .nilp = S [50, 50] := by rw [hr1]; rfl
  rw [← hg]
  unfold gridE
  simp (config := { maxSteps := 1000000 }) (disch := ((try simp only [awL]); omega)) only [QR, QS, QT, QU, QV, QW, QX, QY, QZ, Q0, Q1, Q2, gl, gl2, g0, g1, l0, l0', l1, l1', s0, s1, ↓awU, awV, awF, Qa, Qb, Qc, Qd, forall_const, ↓reduceIte, ↓reduceDIte, ↓Qe, Qf, Qg, Qh, Qi, Qj, Qk, Ql, Qm, Qn, Qo, Qp, Qq, Qr, Qs, implies_true, Qt, Qu, Qv, Qw, Qx, Qy, Qz, QA, QB, QC, QD, QE, QF, QG, QH, QI, QJ, QK, QL, QM, QN, QO, QP, QQ]
  try rfl
end Go.Proofs.YtacepalmphbnfaaGreatDoor

namespace Go.Proofs.YtacepalmphbnfaaGreatDoor
open Go Go.Proofs Go.Abs
/-! Code points of joined texts; what trimming leaves. -/
theorem decodeN_ext {n n' b0 b1 b2 b3 c1 c2 c3 : Nat} (h : ¬ ((Lib.decodeN n b0 b1 b2 b3).1 = 65533 ∧ (Lib.decodeN n b0 b1 b2 b3).2 = 1)) (hn : (Lib.decodeN n b0 b1 b2 b3).2 ≤ n')
    (h1 : 1 < (Lib.decodeN n b0 b1 b2 b3).2 → c1 = b1) (h2 : 2 < (Lib.decodeN n b0 b1 b2 b3).2 → c2 = b2) (h3 : 3 < (Lib.decodeN n b0 b1 b2 b3).2 → c3 = b3) : Lib.decodeN n' b0 c1 c2 c3 = Lib.decodeN n b0 b1 b2 b3 := by
  rcases Lib.decodeN_shape n b0 b1 b2 b3 with ⟨a, e⟩ | ⟨a1, a2, a3, a4, e⟩ | ⟨a1, a2, a3, a4, a5, a6, e⟩ | ⟨a1, a2, a3, a4, a5, a6, a7, e⟩ | e
  · rw [e]; unfold Lib.decodeN; rw [if_pos a]
  · rw [e] at hn h1 ⊢
    simp only at hn h1
    obtain rfl := h1 (by decide)
    unfold Lib.decodeN
    rw [if_neg (by omega), if_pos ⟨a1, by omega, a3⟩, if_pos (by omega)]
  · rw [e] at hn h1 h2 ⊢
    simp only at hn h1 h2
    obtain rfl := h1 (by decide)
    obtain rfl := h2 (by decide)
    unfold Lib.decodeN
    rw [if_neg (by omega), if_neg (by omega), if_pos ⟨a1, ⟨by omega, a3⟩, by omega, a4⟩, if_pos (by omega)]
  · rw [e] at hn h1 h2 h3 ⊢
    simp only at hn h1 h2 h3
    obtain rfl := h1 (by decide)
    obtain rfl := h2 (by decide)
    obtain rfl := h3 (by decide)
    unfold Lib.decodeN
    rw [if_neg (by omega), if_neg (by omega), if_neg (by omega), if_pos ⟨a1, ⟨by omega, a3⟩, ⟨by omega, a4⟩, by omega, a5⟩, if_pos (by omega)]
  · rw [e] at h; simp at h
/-- A code point that is read in the text l, and is no fault. -/
def Rd (l : List UInt8) : Prop := l ≠ [] ∧ ¬ ((Lib.decodeL l).1 = 65533 ∧ (Lib.decodeL l).2 = 1)
theorem decodeL_ext {l l' : List UInt8} (h : Rd l) (hl : (Lib.decodeL l).2 ≤ l'.length) (ht : l'.take (Lib.decodeL l).2 = l.take (Lib.decodeL l).2) : Lib.decodeL l' = Lib.decodeL l := by
  have hk := Lib.decodeL_le l h.1
  have hw := Lib.decodeL_width l
  have hg : ∀ j, j < (Lib.decodeL l).2 → l'.getD j 0 = l.getD j 0 := fun j hj => by
    have := congrArg (fun x : List UInt8 => x[j]?) ht
    simp only [List.getElem?_take, if_pos hj] at this
    rw [List.getD_eq_getElem?_getD, List.getD_eq_getElem?_getD, this]
  have hh := h.2
  rw [Lib.decodeL_N l'] 
  rw [Lib.decodeL_N l] at hh hl hg hw ⊢
  rw [hg 0 hw]
  exact decodeN_ext hh hl (fun x => by rw [hg 1 x]) (fun x => by rw [hg 2 x]) (fun x => by rw [hg 3 x])
theorem rnF_drop : ∀ (n : Nat) (l : List UInt8) (p : Nat), l.length - p = n → rnF l p = rnF (l.drop p) 0 := by
  intro n
  induction n using Nat.strongRecOn with
  | _ n ih =>
    intro l p hn
    by_cases h : p < l.length
    · have hd := dec_end l p h
      have e : dec (l.drop p) 0 = dec l p := by rw [dec_drop, dec_drop, List.drop_zero]
      rw [rnF_more h, rnF_more (l := l.drop p) (p := 0) (by rw [List.length_drop]; omega), e, Nat.zero_add, ih _ (by omega) l _ rfl, ih ((l.drop p).length - (dec l p).2) (by rw [List.length_drop]; omega) (l.drop p) _ rfl, List.drop_drop]
    · rw [rnF_end h, rnF_end (by rw [List.length_drop]; omega)]
theorem rnF_step {l : List UInt8} (h : l ≠ []) : rnF l 0 = (Lib.decodeL l).1 :: rnF (l.drop (Lib.decodeL l).2) 0 := by
  rw [rnF_more (List.length_pos_iff.2 h), dec_drop, List.drop_zero, Nat.zero_add, rnF_drop _ l _ rfl]
theorem rnF_nil : rnF [] 0 = [] := rnF_end (by simp)
/-- A code point that stands for its bytes. -/
def Sc (r : Nat) : Prop := ∃ l, Rd l ∧ (Lib.decodeL l).1 = r
theorem sc_dec {r : Nat} (h : Sc r) (t : List UInt8) : Rd (encC r ++ t) ∧ Lib.decodeL (encC r ++ t) = (r, (encC r).length) := by
  obtain ⟨l, hl, rfl⟩ := h
  have he := Lib.encode_decode l hl.1 hl.2
  have hk := Lib.decodeL_le l hl.1
  have hw := Lib.decodeL_width l
  have e : encC (Lib.decodeL l).1 = l.take (Lib.decodeL l).2 := he
  have len : (encC (Lib.decodeL l).1).length = (Lib.decodeL l).2 := by rw [e, List.length_take]; omega
  have ed : Lib.decodeL (encC (Lib.decodeL l).1 ++ t) = Lib.decodeL l := decodeL_ext hl (by rw [List.length_append]; omega) (by
    rw [List.take_append_of_le_length (by omega), List.take_of_length_le (by omega), e])
  refine ⟨⟨fun e2 => ?_, by rw [ed]; exact hl.2⟩, by rw [ed, len]⟩
  have := congrArg List.length e2
  rw [List.length_append, len] at this
  simp at this; omega
theorem rn_sc {r : Nat} (h : Sc r) (t : List UInt8) : rnF (encC r ++ t) 0 = r :: rnF t 0 := by
  obtain ⟨h1, h2⟩ := sc_dec h t
  rw [rnF_step h1.1, h2, List.drop_left]
theorem rn_encL : ∀ (p : List Nat) (t : List UInt8), (∀ r ∈ p, Sc r) → rnF (encL p ++ t) 0 = p ++ rnF t 0
  | [], t, _ => by simp [encL]
  | r :: p, t, h => by
    have e : encL (r :: p) = encC r ++ encL p := by simp [encL]
    rw [e, List.append_assoc, rn_sc (h r (by simp)), rn_encL p t fun x hx => h x (by simp [hx]), List.cons_append]
theorem valid_rd {l : List UInt8} (h : Lib.validD l = true) (hne : l ≠ []) : Rd l ∧ Lib.validD (l.drop (Lib.decodeL l).2) = true := by
  rw [Lib.validD_step l hne] at h
  split at h
  · cases h
  · rename_i hb; exact ⟨⟨hne, hb⟩, h⟩
theorem sc_all : ∀ (n : Nat) (l : List UInt8), l.length = n → Lib.validD l = true → (∀ r ∈ rnF l 0, Sc r) ∧ encL (rnF l 0) = l := by
  intro n
  induction n using Nat.strongRecOn with
  | _ n ih =>
    intro l hn hv
    by_cases hne : l = []
    · subst hne; rw [rnF_nil]; exact ⟨fun r hr => (by cases hr), rfl⟩
    · obtain ⟨h1, h2⟩ := valid_rd hv hne
      have hk := Lib.decodeL_le l hne
      have hw := Lib.decodeL_width l
      obtain ⟨i1, i2⟩ := ih (l.drop (Lib.decodeL l).2).length (by rw [List.length_drop]; omega) _ rfl h2
      rw [rnF_step hne]
      refine ⟨fun r hr => ?_, ?_⟩
      · rcases List.mem_cons.1 hr with rfl | hr
        · exact ⟨l, h1, rfl⟩
        · exact i1 r hr
      · have e : encL ((Lib.decodeL l).1 :: rnF (l.drop (Lib.decodeL l).2) 0) = encC (Lib.decodeL l).1 ++ encL (rnF (l.drop (Lib.decodeL l).2) 0) := by simp [encL]
        rw [e, i2, show encC (Lib.decodeL l).1 = l.take (Lib.decodeL l).2 from Lib.encode_decode l hne h1.2, List.take_append_drop]
theorem sc_of {l : List UInt8} (h : Lib.validD l = true) : ∀ r ∈ rnF l 0, Sc r := (sc_all _ l rfl h).1
theorem enc_rn {l : List UInt8} (h : Lib.validD l = true) : encL (rnF l 0) = l := (sc_all _ l rfl h).2
theorem rn_app {a b : List UInt8} (h : Lib.validD a = true) : rnF (a ++ b) 0 = rnF a 0 ++ rnF b 0 := by
  conv => lhs; rw [← enc_rn h]
  exact rn_encL _ b (sc_of h)
theorem rn_cons {c : UInt8} (h : c.toNat < 128) (t : List UInt8) : rnF (c :: t) 0 = c.toNat :: rnF t 0 := by
  rw [rnF_step (by simp), Lib.decodeL_ascii c t h]; rfl
/-! Trimming. -/
theorem trim_right (s : List UInt8) : ∀ n, Lib.trimB (s ++ List.replicate n 32) 32 = Lib.trimB s 32
  | 0 => by rw [List.replicate_zero, List.append_nil]
  | n + 1 => by
    rw [List.replicate_succ', ← List.append_assoc]
    show Lib.trimLeftB (Lib.trimRightB ((s ++ List.replicate n 32) ++ [32]) 32) 32 = _
    rw [trimR_snoc]
    exact trim_right s n
theorem rn_spaces : ∀ (m : Nat) (t : List UInt8), rnF (List.replicate m 32 ++ t) 0 = List.replicate m 32 ++ rnF t 0
  | 0, t => by simp
  | m + 1, t => by rw [List.replicate_succ, List.cons_append, rn_cons (by decide), rn_spaces m t]; rfl
end Go.Proofs.YtacepalmphbnfaaGreatDoor

namespace Go.Proofs.YtacepalmphbnfaaGreatDoor
open Go Go.Proofs Go.Abs
/-! What was written in a layout is read back. -/
theorem cut_app {c : UInt8} {x r : List UInt8} (h : c ∉ x) : cutL c (x ++ c :: r) = x ∧ cutR c (x ++ c :: r) = r ∧ c ∈ x ++ c :: r := by
  have hk : x.length < (x ++ c :: r).length := by simp
  have hg : (x ++ c :: r).getD x.length 0 = c := by simp [List.getD_eq_getElem?_getD]
  have ht : (x ++ c :: r).take x.length = x := by simp
  obtain ⟨h1, h2, h3⟩ := cut_at hk hg (by rw [ht]; exact h)
  refine ⟨by rw [h1, ht], by rw [h2]; simp, h3⟩
/-- A row's code points, from column i on, where p places are written. -/
def wrR (ly : List Nat) : Nat → Nat → Row → List Nat
  | _, _, [] => []
  | i, p, s :: r => if s = [] then wrR ly (i + 1) p r else List.replicate (ly.getD i 0 - p) 32 ++ rnF s 0 ++ wrR ly (i + 1) (ly.getD i 0 + rcL s) r
theorem wr_bytes (ly : List Nat) : ∀ (r : Row) (i p : Nat), ∀ c ∈ wrF ly i p r, c = 32 ∨ ∃ s ∈ r, c ∈ s
  | [], _, _, c, h => by cases h
  | s :: r, i, p, c, h => by
    rw [wrF] at h
    split at h
    · rcases wr_bytes ly r _ _ c h with e | ⟨x, h1, h2⟩
      · exact .inl e
      · exact .inr ⟨x, by simp [h1], h2⟩
    · rcases List.mem_append.1 h with h | h
      · rcases List.mem_append.1 h with h | h
        · exact .inl (List.eq_of_mem_replicate h)
        · exact .inr ⟨s, by simp, h⟩
      · rcases wr_bytes ly r _ _ c h with e | ⟨x, h1, h2⟩
        · exact .inl e
        · exact .inr ⟨x, by simp [h1], h2⟩
theorem valid_spaces : ∀ m : Nat, Lib.validD (List.replicate m 32) = true
  | 0 => rfl
  | m + 1 => by rw [List.replicate_succ, Lib.validD_cons _ _ (by decide)]; exact valid_spaces m
theorem rn_wr (ly : List Nat) : ∀ (r : Row) (i p : Nat), (∀ s ∈ r, Lib.validD s = true) → rnF (wrF ly i p r) 0 = wrR ly i p r ∧ Lib.validD (wrF ly i p r) = true
  | [], _, _, _ => ⟨rnF_nil, rfl⟩
  | s :: r, i, p, h => by
    have hs := h s (by simp)
    have hr : ∀ x ∈ r, Lib.validD x = true := fun x hx => h x (by simp [hx])
    rw [wrF, wrR]
    split
    · exact rn_wr ly r _ _ hr
    · obtain ⟨a, b⟩ := rn_wr ly r (i + 1) (ly.getD i 0 + rcL s) hr
      refine ⟨by rw [List.append_assoc, rn_spaces, rn_app hs, a, List.append_assoc], ?_⟩
      exact valid_app (valid_app (valid_spaces _) hs) b
theorem getQ_left {X Y : List Nat} {q : Nat} (h : q < X.length) : (X ++ Y)[q]? = X[q]? := List.getElem?_append_left h
theorem wr_pos (ly : List Nat) (hm : ∀ i, i + 1 < ly.length → ly.getD i 0 ≤ ly.getD (i + 1) 0) : ∀ (r : Row) (i p : Nat) (X : List Nat), X.length = p → i + r.length = ly.length →
    (∀ k, k < r.length → i + k + 1 < ly.length → rcL (r.getD k []) ≤ ly.getD (i + k + 1) 0 - ly.getD (i + k) 0) → (0 < r.length → p ≤ ly.getD i 0) →
    (∀ k, k < r.length → (∀ q, q < rcL (r.getD k []) → (X ++ wrR ly i p r)[ly.getD (i + k) 0 + q]? = (rnF (r.getD k []) 0)[q]?) ∧
      (∀ q, ly.getD (i + k) 0 + rcL (r.getD k []) ≤ q → (i + k + 1 < ly.length → q < ly.getD (i + k + 1) 0) → (X ++ wrR ly i p r)[q]? = none ∨ (X ++ wrR ly i p r)[q]? = some 32)) ∧
    (∀ q, p ≤ q → (r.length = 0 ∨ q < ly.getD i 0) → (X ++ wrR ly i p r)[q]? = none ∨ (X ++ wrR ly i p r)[q]? = some 32)
  | [], i, p, X, hX, hl, hw, hp => by
    refine ⟨fun k hk => absurd hk (Nat.not_lt_zero _), fun q hq _ => .inl ?_⟩
    rw [wrR, List.append_nil]
    exact List.getElem?_eq_none (by omega)
  | s :: r, i, p, X, hX, hl, hw, hp => by
    have hp0 := hp (by simp)
    rw [List.length_cons] at hl
    have w0 := hw 0 (by simp)
    simp only [Nat.add_zero, List.getD_cons_zero] at w0
    have ws : ∀ k, k < r.length → i + 1 + k + 1 < ly.length → rcL (r.getD k []) ≤ ly.getD (i + 1 + k + 1) 0 - ly.getD (i + 1 + k) 0 := fun k hk h => by
      have := hw (k + 1) (by rw [List.length_cons]; omega) (by omega)
      rw [show i + (k + 1) = i + 1 + k by omega] at this
      exact this
    rw [wrR]
    by_cases he : s = []
    · rw [if_pos he]
      obtain ⟨a, b⟩ := wr_pos ly hm r (i + 1) p X hX (by omega) ws (fun h => Nat.le_trans hp0 (hm i (by omega)))
      refine ⟨fun k hk => ?_, fun q hq h => b q hq ?_⟩
      · cases k with
        | zero =>
          have z : rcL (([] : List UInt8)) = 0 := by rw [rcL_eq, rnF_nil]; rfl
          simp only [List.getD_cons_zero, Nat.add_zero]
          rw [he, z, Nat.add_zero]
          refine ⟨fun q hq => absurd hq (Nat.not_lt_zero _), fun q hq h => b q (by omega) ?_⟩
          rcases Nat.eq_zero_or_pos r.length with h0 | h0
          · exact .inl h0
          · exact .inr (h (by omega))
        | succ k =>
          have := a k (by rw [List.length_cons] at hk; omega)
          rw [List.getD_cons_succ, show i + (k + 1) = i + 1 + k by omega]
          exact this
      · rcases h with h | h
        · simp at h
        · rcases Nat.eq_zero_or_pos r.length with h0 | h0
          · exact .inl h0
          · exact .inr (Nat.lt_of_lt_of_le h (hm i (by omega)))
    · rw [if_neg he]
      have hX2 : (X ++ (List.replicate (ly.getD i 0 - p) 32 ++ rnF s 0)).length = ly.getD i 0 + rcL s := by
        rw [List.length_append, List.length_append, List.length_replicate, ← rcL_eq]; omega
      obtain ⟨a, b⟩ := wr_pos ly hm r (i + 1) (ly.getD i 0 + rcL s) (X ++ (List.replicate (ly.getD i 0 - p) 32 ++ rnF s 0)) hX2 (by omega) ws (fun h => by
        have := w0 (by omega)
        have := hm i (by omega)
        omega)
      rw [← List.append_assoc]
      refine ⟨fun k hk => ?_, fun q hq h => ?_⟩
      · cases k with
        | zero =>
          simp only [List.getD_cons_zero, Nat.add_zero]
          refine ⟨fun q hq => ?_, fun q hq h => b q (by omega) ?_⟩
          · rw [getQ_left (by rw [hX2]; omega), List.getElem?_append_right (by omega), List.getElem?_append_right (by rw [List.length_replicate]; omega), List.length_replicate]
            congr 1; omega
          · rcases Nat.eq_zero_or_pos r.length with h0 | h0
            · exact .inl h0
            · exact .inr (h (by omega))
        | succ k =>
          have := a k (by rw [List.length_cons] at hk; omega)
          rw [List.getD_cons_succ, show i + (k + 1) = i + 1 + k by omega]
          exact this
      · rcases h with h | h
        · simp at h
        · right
          rw [getQ_left (by rw [hX2]; omega), List.getElem?_append_right (by omega), List.getElem?_append_left (by rw [List.length_replicate]; omega), List.getElem?_replicate, if_pos (by omega)]
/-- The part of a row's code points that is column j. -/
def segR (ly : List Nat) (R : List Nat) (j : Nat) : List Nat := if j + 1 < ly.length then (R.take (ly.getD (j + 1) 0)).drop (ly.getD j 0) else R.drop (ly.getD j 0)
theorem segR_get {ly R : List Nat} {j q : Nat} (h : j + 1 < ly.length → ly.getD j 0 + q < ly.getD (j + 1) 0) : (segR ly R j)[q]? = R[ly.getD j 0 + q]? := by
  unfold segR
  split
  · rename_i h1
    rw [List.getElem?_drop, List.getElem?_take, if_pos (h h1)]
  · rw [List.getElem?_drop]
theorem segR_end {ly R : List Nat} {j q : Nat} (h1 : j + 1 < ly.length) (h : ly.getD (j + 1) 0 ≤ ly.getD j 0 + q) : (segR ly R j)[q]? = none := by
  unfold segR
  rw [if_pos h1, List.getElem?_drop, List.getElem?_take, if_neg (by omega)]
theorem seg_shape {ly : List Nat} {r : Row} (hm : ∀ i, i + 1 < ly.length → ly.getD i 0 ≤ ly.getD (i + 1) 0) (h0 : 0 < ly.length) (hl : r.length = ly.length)
    (hw : ∀ k, k < r.length → k + 1 < ly.length → rcL (r.getD k []) ≤ ly.getD (k + 1) 0 - ly.getD k 0) {j : Nat} (hj : j < r.length) : ∃ n, segR ly (wrR ly 0 0 r) j = rnF (r.getD j []) 0 ++ List.replicate n 32 := by
  obtain ⟨a, _⟩ := wr_pos ly hm r 0 0 [] rfl (by omega) (fun k hk h => by rw [Nat.zero_add] at h ⊢; exact hw k hk h) (fun _ => Nat.zero_le _)
  obtain ⟨a1, a2⟩ := a j hj
  rw [Nat.zero_add, List.nil_append] at a1 a2
  have m1 := hm j
  have hwj := hw j hj
  generalize hS : segR ly (wrR ly 0 0 r) j = S
  have g : ∀ q, S[q]? = (if j + 1 < ly.length ∧ ly.getD (j + 1) 0 ≤ ly.getD j 0 + q then none else (wrR ly 0 0 r)[ly.getD j 0 + q]?) := fun q => by
    rw [← hS]
    split
    · rename_i h; exact segR_end h.1 h.2
    · rename_i h; exact segR_get fun h1 => by
        rcases Nat.lt_or_ge (ly.getD j 0 + q) (ly.getD (j + 1) 0) with x | x
        · exact x
        · exact absurd ⟨h1, x⟩ h
  have e1 : S.take (rcL (r.getD j [])) = rnF (r.getD j []) 0 := by
    apply List.ext_getElem?
    intro q
    rw [List.getElem?_take]
    split
    · rename_i hq
      rw [g, if_neg (by rintro ⟨x, y⟩; have := hwj x; omega), a1 q hq]
    · rename_i hq
      rw [List.getElem?_eq_none (by rw [← rcL_eq]; omega)]
  have e2 : ∀ b ∈ S.drop (rcL (r.getD j [])), b = 32 := by
    intro b hb
    obtain ⟨q, hq, e⟩ := List.getElem_of_mem hb
    have e3 : (S.drop (rcL (r.getD j [])))[q]? = some b := by rw [List.getElem?_eq_getElem hq, e]
    rw [List.getElem?_drop, g] at e3
    split at e3
    · cases e3
    · rename_i hn
      have := a2 (ly.getD j 0 + (rcL (r.getD j []) + q)) (by omega) (fun h1 => by
        rcases Nat.lt_or_ge (ly.getD j 0 + (rcL (r.getD j []) + q)) (ly.getD (j + 1) 0) with x | x
        · exact x
        · exact absurd ⟨h1, x⟩ hn)
      rcases this with h | h
      · rw [h] at e3; cases e3
      · rw [h] at e3; exact (Option.some.inj e3).symm
  refine ⟨(S.drop (rcL (r.getD j []))).length, ?_⟩
  conv => lhs; rw [← List.take_append_drop (rcL (r.getD j [])) S]
  rw [e1, List.eq_replicate_of_mem e2, List.length_replicate]
theorem enc_spaces : ∀ n : Nat, encL (List.replicate n 32) = List.replicate n 32
  | 0 => rfl
  | n + 1 => by
    have ih := enc_spaces n
    rw [List.replicate_succ, List.replicate_succ]
    have e : encL (32 :: List.replicate n 32) = encC 32 ++ encL (List.replicate n 32) := by simp [encL]
    rw [e, ih, show encC 32 = [32] from by decide]; rfl
theorem fld_seg {ly : List Nat} {l : List UInt8} (hv : Lib.validD l = true) (hm : ∀ i, i + 1 < ly.length → ly.getD i 0 ≤ ly.getD (i + 1) 0) {j : Nat} (hj : j < ly.length) : fldAt ly l j = Lib.trimB (encL (segR ly (rnF l 0) j)) 32 := by
  unfold segR
  split
  · rename_i h
    rw [enc_seg hv (hm j h), fldAt, cell1, if_pos h]
  · rename_i h
    have e : (rnF l 0).drop (ly.getD j 0) = ((rnF l 0).take (max (rnF l 0).length (ly.getD j 0))).drop (ly.getD j 0) := by rw [List.take_of_length_le (Nat.le_max_left _ _)]
    rw [e, enc_seg hv (Nat.le_max_right _ _), fldAt, cell1, if_neg h, offA_end (k := max (rnF l 0).length (ly.getD j 0)) (by rw [rn_len]; exact Nat.le_max_left _ _)]
/-- A row that fits a layout. -/
structure GoodR (ly : List Nat) (r : Row) : Prop where
  len : r.length = ly.length
  val : ∀ s ∈ r, Lib.validD s = true ∧ s.length ≤ 200 ∧ Lib.trimB s 32 = s ∧ ∀ c ∈ s, 32 ≤ c.toNat
  wid : ∀ k, k < r.length → k + 1 < ly.length → rcL (r.getD k []) ≤ ly.getD (k + 1) 0 - ly.getD k 0
theorem flds_wr {ly : List Nat} {r : Row} (hm : ∀ i, i + 1 < ly.length → ly.getD i 0 ≤ ly.getD (i + 1) 0) (h0 : 0 < ly.length) (h : GoodR ly r) : fldsL ly (wrF ly 0 0 r) = r := by
  obtain ⟨e1, e2⟩ := rn_wr ly r 0 0 fun s hs => (h.val s hs).1
  apply List.ext_getElem?
  intro j
  rw [fldsL, List.getElem?_map]
  rcases Nat.lt_or_ge j ly.length with hj | hj
  · have hj2 : j < r.length := by rw [h.len]; exact hj
    obtain ⟨n, e⟩ := seg_shape hm h0 h.len h.wid hj2
    have hs := h.val _ (memD (d := []) hj2)
    have ea : encL (rnF (r.getD j []) 0 ++ List.replicate n 32) = encL (rnF (r.getD j []) 0) ++ encL (List.replicate n 32) := by simp [encL]
    rw [List.getElem?_range hj, Option.map_some, fld_seg e2 hm hj, e1, e, ea, enc_rn hs.1, enc_spaces, trim_right, hs.2.2.1, getD_some (d := []) hj2]
  · rw [List.getElem?_eq_none (by simp; omega), List.getElem?_eq_none (by rw [h.len]; exact hj)]; rfl
theorem GoodR.clean {ly : List Nat} {r : Row} (h : GoodR ly r) : (10 : UInt8) ∉ wrF ly 0 0 r ∧ (13 : UInt8) ∉ wrF ly 0 0 r := by
  refine ⟨fun hc => ?_, fun hc => ?_⟩
  · rcases wr_bytes ly r 0 0 _ hc with e | ⟨s, h1, h2⟩
    · cases e
    · have := (h.val s h1).2.2.2 _ h2; revert this; decide
  · rcases wr_bytes ly r 0 0 _ hc with e | ⟨s, h1, h2⟩
    · cases e
    · have := (h.val s h1).2.2.2 _ h2; revert this; decide
theorem trimS_none {p : List UInt8} {c : UInt8} (h : c ∉ p) : Lib.trimSuffix p [c] = p := by
  rcases List.eq_nil_or_concat p with rfl | ⟨q, b, rfl⟩
  · exact trimS_nil c
  · rw [List.concat_eq_append, trimS_snoc, if_neg]
    intro e
    exact h (by rw [List.concat_eq_append, beq_iff_eq.1 e]; simp)
theorem lines_txt {ly : List Nat} : ∀ g : List Row, (∀ r ∈ g, GoodR ly r) → linesL (txtF ly g) = g.map (wrF ly 0 0)
  | [], _ => by rw [txtF, linesL_nil]; rfl
  | r :: g, h => by
    obtain ⟨h1, h2⟩ := (h r (by simp)).clean
    have ih := lines_txt g fun x hx => h x (by simp [hx])
    obtain ⟨c1, c2, c3⟩ := cut_app (r := txtF ly g) h1
    rw [txtF, List.append_assoc, List.singleton_append, List.map_cons]
    unfold linesL at ih ⊢
    rw [rawL_more c3, c1, c2, List.map_cons, ih, lnF_nl, trimS_none h2]
theorem wr_len2 (ly : List Nat) {A B : Nat} (h1 : ∀ i, ly.getD i 0 ≤ A) : ∀ (r : Row) (i p : Nat), (∀ s ∈ r, s.length ≤ B) → (wrF ly i p r).length ≤ (A + B) * r.length
  | [], _, _, _ => by simp [wrF]
  | s :: r, i, p, h => by
    have h2 := h s (by simp)
    have h3 := h1 i
    have a := wr_len2 ly h1 r (i + 1) p fun x hx => h x (by simp [hx])
    have b := wr_len2 ly h1 r (i + 1) (ly.getD i 0 + rcL s) fun x hx => h x (by simp [hx])
    rw [wrF, List.length_cons, Nat.mul_add, Nat.mul_one]
    split
    · omega
    · simp only [List.length_append, List.length_replicate]; omega
theorem txt_len2 (ly : List Nat) {A B C : Nat} (h1 : ∀ i, ly.getD i 0 ≤ A) : ∀ (g : List Row), (∀ r ∈ g, r.length ≤ C ∧ ∀ s ∈ r, s.length ≤ B) → (txtF ly g).length ≤ ((A + B) * C + 1) * g.length
  | [], _ => by simp [txtF]
  | r :: g, h => by
    obtain ⟨h2, h3⟩ := h r (by simp)
    have a := wr_len2 ly h1 r 0 0 h3
    have b := txt_len2 ly h1 g fun x hx => h x (by simp [hx])
    have c := Nat.mul_le_mul_left (A + B) h2
    rw [txtF, List.length_cons, Nat.mul_add, Nat.mul_one]
    simp only [List.length_append, List.length_cons, List.length_nil]
    omega
theorem valid_txt {ly : List Nat} : ∀ g : List Row, (∀ r ∈ g, GoodR ly r) → Lib.validD (txtF ly g) = true
  | [], _ => rfl
  | r :: g, h => by
    rw [txtF]
    exact valid_app (valid_app (rn_wr ly r 0 0 fun s hs => ((h r (by simp)).val s hs).1).2 (by decide)) (valid_txt g fun x hx => h x (by simp [hx]))
theorem LayI.mono {l : List Nat} (h : LayI l) : ∀ i, i + 1 < l.length → l.getD i 0 ≤ l.getD (i + 1) 0 := fun i hi => Nat.le_of_lt (h.2.2.2.2 i hi)
theorem LayI.le {l : List Nat} (h : LayI l) (i : Nat) : l.getD i 0 ≤ 48 := getD_le (fun i hi => by have := h.2.2.2.1 i hi; have := h.2.2.1; omega) i
theorem LayI.pos {l : List Nat} (h : LayI l) : 0 < l.length := List.length_pos_iff.2 h.1
theorem parse_txt {ly : List Nat} {g : List Row} (hl : LayI ly) (hg : ∀ r ∈ g, GoodR ly r) (hn : g.length ≤ 100) : parseF (asI ly) (txtF ly g) = (g, 0) ∧ (txtF ly g).length ≤ 200000 := by
  have l4 := hl.2.2.1
  have tl := txt_len2 ly (A := 48) (B := 200) (C := 4) hl.le g fun r hr => ⟨by rw [(hg r hr).len]; exact l4, fun s hs => ((hg r hr).val s hs).2.1⟩
  refine ⟨?_, by omega⟩
  have e : gridF ly (g.map (wrF ly 0 0)) = g := by
    rw [gridF, List.map_map]
    conv => rhs; rw [← List.map_id g]
    exact List.map_congr_left fun r hr => flds_wr hl.mono hl.pos (hg r hr)
  have nb : ¬ (g.any (fun r => r.any bigF) = true) := by
    intro h
    obtain ⟨r, hr, h2⟩ := List.any_eq_true.1 h
    obtain ⟨s, hs, h3⟩ := List.any_eq_true.1 h2
    have := ((hg r hr).val s hs).2.1
    simp [bigF] at h3; omega
  unfold parseF
  rw [if_neg (by rw [hl.okLay]; decide), if_neg (by omega), if_neg (by rw [valid_txt g hg]; decide), lines_txt g hg, if_neg (by rw [List.length_map]; omega), natsOf_asI, e, if_neg nb]
theorem form_txt {ly : List Nat} {g : List Row} (hl : LayI ly) (hg : ∀ r ∈ g, GoodR ly r) (hn : g.length ≤ 100) : formF (asI ly) g = (txtF ly g, 0) := by
  have tl := (parse_txt hl hg hn).2
  have ck : checkL ly g = 0 := by
    unfold checkL
    rw [if_neg, if_neg, if_neg]
    · intro h
      obtain ⟨r, hr, h2⟩ := List.any_eq_true.1 h
      obtain ⟨i, hi, h3⟩ := List.any_eq_true.1 h2
      have hi' := List.mem_range.1 hi
      have hv := (hg r hr).val _ (memD (d := []) hi')
      have hw := (hg r hr).wid i hi'
      have rl := rcL_le (r.getD i [])
      have nn : hasNl (r.getD i []) = false := by
        unfold hasNl
        refine decide_eq_false ?_
        rintro (x | x)
        · have := hv.2.2.2 _ x; revert this; decide
        · have := hv.2.2.2 _ x; revert this; decide
      unfold badX at h3
      rw [hv.2.2.1, nn] at h3
      simp only [beq_self_eq_true, Bool.not_true, Bool.false_or, decide_eq_true_eq] at h3
      unfold roomW at h3
      split at h3
      · rename_i h4; have := hw h4; omega
      · omega
    · intro h
      rw [Bool.or_eq_true, decide_eq_true_eq] at h
      rcases h with h | h
      · omega
      · obtain ⟨r, hr, h2⟩ := List.any_eq_true.1 h
        obtain ⟨s, hs, h3⟩ := List.any_eq_true.1 h2
        have := ((hg r hr).val s hs).2.1
        simp [bigF] at h3; omega
    · intro h
      obtain ⟨r, hr, h2⟩ := List.any_eq_true.1 h
      unfold oddRw at h2
      rw [Bool.or_eq_true, decide_eq_true_eq] at h2
      rcases h2 with h2 | h2
      · exact h2 (hg r hr).len
      · obtain ⟨s, hs, h3⟩ := List.any_eq_true.1 h2
        rw [((hg r hr).val s hs).1] at h3
        cases h3
  unfold formF
  rw [if_neg (by rw [hl.okLay]; decide), natsOf_asI, if_neg (by rw [ck]; decide), if_neg (by omega)]
theorem GoodR.grid {ly : List Nat} {g : List Row} (hl : LayI ly) (hg : ∀ r ∈ g, GoodR ly r) (hn : g.length ≤ 100) : okGrid g :=
  ⟨by omega, fun r hr => ⟨by rw [(hg r hr).len]; have := hl.2.2.1; omega, fun s hs => by have := ((hg r hr).val s hs).2.1; omega⟩⟩
end Go.Proofs.YtacepalmphbnfaaGreatDoor

namespace Go.Proofs.YtacepalmphbnfaaGreatDoor
open Go Go.Proofs Go.Abs
variable {G : Globals}
/-! The law FixedBack. -/
theorem natO_le {l : List Nat} : (asI l).length = l.length := by simp [asI]
end Go.Proofs.YtacepalmphbnfaaGreatDoor

namespace Go.Proofs.YtacepalmphbnfaaGreatDoor
open Go Go.Proofs Go.Abs
variable {G : Globals}
/-! The law FixedSteps. -/
def txO (x : Option (List UInt8)) : List UInt8 := x.getD []
theorem textD_eq (x : Option (List UInt8)) : textD x = .tup [S (txO x), .bool x.isSome] := by cases x <;> rfl
theorem textL_len (l : List Int) : (txO (textL l)).length ≤ 2000 := by
  unfold textL
  split
  · rename_i h
    obtain ⟨k1, k2, _, _⟩ := okLay_ok h
    obtain ⟨nl, hle⟩ := okLay_le h
    have := join_len [44] 21 (Nat.le_refl _) (numT (natsOf l)) (fun s hs => by
      obtain ⟨n, hn, rfl⟩ := List.mem_map.1 hs
      exact dec_len (hle n hn))
    have hn : (numT (natsOf l)).length = l.length := by rw [numT, List.length_map, nl]
    show (Lib.join (numT (natsOf l)) [44]).length ≤ 2000
    omega
  · simp [txO]
end Go.Proofs.YtacepalmphbnfaaGreatDoor

namespace Go.Proofs.YtacepalmphbnfaaGreatDoor
open Go Go.Proofs Go.Abs
variable {G : Globals}
/-! The options: their order. -/
def cmpI (x y : Int) : Int := if x < y then -1 else if y < x then 1 else 0
theorem isNaN_spec (x : Int) : Ctr Tryz.prog G 106 [.d (.int .i64 x)] [] (.d (.bool false)) [] := by
  refine Ctr.pure (M := M0) hmix Tryz.func106 rfl go106 ?_
  simp (config := { maxSteps := 1000000 }) (disch := ((try simp only [awL]); omega)) only [QR, QS, QT, QU, QV, QW, QX, QY, QZ, Q0, Q1, Q2, Tryz.f106, ↓awU, awV, awF, Qa, Qb, Qc, Qd, forall_const, ↓reduceIte, ↓reduceDIte, ↓Qe, Qf, Qg, Qh, Qi, Qj, Qk, Ql, Qm, Qn, Qo, Qp, Qq, Qr, Qs, implies_true, Qt, Qu, Qv, Qw, Qx, Qy, Qz, QA, QB, QC, QD, QE, QF, QG, QH, QI, QJ, QK, QL, QM, QN, QO, QP, QQ]
  try rfl
theorem compare_spec (x y : Int) : Ctr Tryz.prog G 65 [.d (.int .i64 x), .d (.int .i64 y)] [] (.d (.int .i64 (cmpI x y))) [] := by
  refine Ctr.pure (M := M0) hmix Tryz.func65 rfl go65 ?_
  obtain ⟨r, hr⟩ : ∃ r, r = cmpI x y := ⟨_, rfl⟩
  rw [← hr]
  unfold cmpI at hr
  simp (config := { maxSteps := 1000000 }) (disch := ((try simp only [awL]); omega)) only [QR, QS, QT, QU, QV, QW, QX, QY, QZ, Q0, Q1, Q2, Tryz.f65, ↓awU, awV, awF, Qa, Qb, Qc, Qd, forall_const, ↓reduceIte, ↓reduceDIte, ↓Qe, Qf, Qg, Qh, Qi, Qj, Qk, Ql, Qm, Qn, Qo, Qp, Qq, Qr, Qs, implies_true, Qt, Qu, Qv, Qw, Qx, Qy, Qz, QA, QB, QC, QD, QE, QF, QG, QH, QI, QJ, QK, QL, QM, QN, QO, QP, QQ]
  refine CallC.pure (isNaN_spec x) ?_
  simp (config := { maxSteps := 1000000 }) (disch := ((try simp only [awL]); omega)) only [QR, QS, QT, QU, QV, QW, QX, QY, QZ, Q0, Q1, Q2, ↓awU, awV, awF, Qa, Qb, Qc, Qd, forall_const, ↓reduceIte, ↓reduceDIte, ↓Qe, Qf, Qg, Qh, Qi, Qj, Qk, Ql, Qm, Qn, Qo, Qp, Qq, Qr, Qs, implies_true, Qt, Qu, Qv, Qw, Qx, Qy, Qz, QA, QB, QC, QD, QE, QF, QG, QH, QI, QJ, QK, QL, QM, QN, QO, QP, QQ]
  refine CallC.pure (isNaN_spec y) ?_
  rcases (by omega : x < y ∨ y < x ∨ (¬ x < y ∧ ¬ y < x)) with h | h | ⟨h1, h2⟩
  · rw [if_pos h] at hr
    simp (config := { maxSteps := 1000000 }) (disch := ((try simp only [awL]); omega)) only [QR, QS, QT, QU, QV, QW, QX, QY, QZ, Q0, Q1, Q2, ↓awU, awV, awF, Qa, Qb, Qc, Qd, forall_const, ↓reduceIte, ↓reduceDIte, ↓Qe, Qf, Qg, Qh, Qi, Qj, Qk, Ql, Qm, Qn, Qo, Qp, Qq, Qr, Qs, implies_true, Qt, Qu, Qv, Qw, Qx, Qy, Qz, QA, QB, QC, QD, QE, QF, QG, QH, QI, QJ, QK, QL, QM, QN, QO, QP, QQ]
    all_goals rw [hr]
  · rw [if_neg (by omega), if_pos h] at hr
    simp (config := { maxSteps := 1000000 }) (disch := ((try simp only [awL]); omega)) only [QR, QS, QT, QU, QV, QW, QX, QY, QZ, Q0, Q1, Q2, ↓awU, awV, awF, Qa, Qb, Qc, Qd, forall_const, ↓reduceIte, ↓reduceDIte, ↓Qe, Qf, Qg, Qh, Qi, Qj, Qk, Ql, Qm, Qn, Qo, Qp, Qq, Qr, Qs, implies_true, Qt, Qu, Qv, Qw, Qx, Qy, Qz, QA, QB, QC, QD, QE, QF, QG, QH, QI, QJ, QK, QL, QM, QN, QO, QP, QQ]
    all_goals rw [hr]
  · rw [if_neg h1, if_neg h2] at hr
    simp (config := { maxSteps := 1000000 }) (disch := ((try simp only [awL]); omega)) only [QR, QS, QT, QU, QV, QW, QX, QY, QZ, Q0, Q1, Q2, ↓awU, awV, awF, Qa, Qb, Qc, Qd, forall_const, ↓reduceIte, ↓reduceDIte, ↓Qe, Qf, Qg, Qh, Qi, Qj, Qk, Ql, Qm, Qn, Qo, Qp, Qq, Qr, Qs, implies_true, Qt, Qu, Qv, Qw, Qx, Qy, Qz, QA, QB, QC, QD, QE, QF, QG, QH, QI, QJ, QK, QL, QM, QN, QO, QP, QQ]
    all_goals rw [hr]
def orInv (x y : Int) (i : Nat) : Prop := i ≤ 2 ∧ (0 < i → x = 0) ∧ (1 < i → y = 0)
theorem or_spec (x y : Int) (full : Bool) : Ctr Tryz.prog G 64 [.d (.sl 2 full [.int .i64 x, .int .i64 y])] [] (.d (.int .i64 (if x ≠ 0 then x else y))) [] := by
  refine Ctr.pure (M := M0) hmix Tryz.func64 rfl go64 ?_
  obtain ⟨r, hr⟩ : ∃ r, r = if x ≠ 0 then x else y := ⟨_, rfl⟩
  rw [← hr]
  have il : ([D.int .i64 x, D.int .i64 y]).length = 2 := rfl
  have g0 : ([D.int .i64 x, D.int .i64 y]).getD 0 .nilp = D.int .i64 x := rfl
  have g1 : ([D.int .i64 x, D.int .i64 y]).getD 1 .nilp = D.int .i64 y := rfl
  generalize [D.int .i64 x, D.int .i64 y] = L at *
  simp (config := { maxSteps := 1000000 }) (disch := ((try simp only [awL]); omega)) only [QR, QS, QT, QU, QV, QW, QX, QY, QZ, Q0, Q1, Q2, il, Tryz.f64, ↓awU, awV, awF, Qa, Qb, Qc, Qd, forall_const, ↓reduceIte, ↓reduceDIte, ↓Qe, Qf, Qg, Qh, Qi, Qj, Qk, Ql, Qm, Qn, Qo, Qp, Qq, Qr, Qs, implies_true, Qt, Qu, Qv, Qw, Qx, Qy, Qz, QA, QB, QC, QD, QE, QF, QG, QH, QI, QJ, QK, QL, QM, QN, QO, QP, QQ]
  refine LoopC.fr 200 (α := Nat) (fun i => 2 - i) (fun i => [(8, .d (.int .i64 i))]) (fun _ => []) (orInv x y) 0 ⟨Nat.zero_le _, fun h => absurd h (Nat.lt_irrefl _), fun h => absurd h (by omega)⟩ ?_ ?_
  · exact ⟨[], rfl, by simp, by simp [setsA, keepA, SWeak, AWeak], by simp [HWeak, BWeak, SWeak, AWeak]⟩
  · rintro i ⟨h1, h2, h3⟩
    simp only [awK, Nat.reduceMod, Nat.reduceDiv, reduceIte]
    rcases (by omega : i = 0 ∨ i = 1 ∨ i = 2) with rfl | rfl | rfl
    · by_cases hx : x = 0
      · simp (config := { maxSteps := 1000000 }) (disch := ((try simp only [awL]); omega)) only [QR, QS, QT, QU, QV, QW, QX, QY, QZ, Q0, Q1, Q2, il, g0, hx, ↓awU, awV, awF, Qa, Qb, Qc, Qd, forall_const, ↓reduceIte, ↓reduceDIte, ↓Qe, Qf, Qg, Qh, Qi, Qj, Qk, Ql, Qm, Qn, Qo, Qp, Qq, Qr, Qs, implies_true, Qt, Qu, Qv, Qw, Qx, Qy, Qz, QA, QB, QC, QD, QE, QF, QG, QH, QI, QJ, QK, QL, QM, QN, QO, QP, QQ]
        exact ⟨1, ⟨by decide, fun _ => by first | exact hx | rfl, fun h => absurd h (by decide)⟩, by decide, ⟨[], rfl, by simp, by simp [setsA, keepA, SWeak, AWeak], by simp [HWeak, BWeak, SWeak, AWeak]⟩⟩
      · rw [if_pos hx] at hr
        simp (config := { maxSteps := 1000000 }) (disch := ((try simp only [awL]); omega)) only [QR, QS, QT, QU, QV, QW, QX, QY, QZ, Q0, Q1, Q2, il, g0, ↓awU, awV, awF, Qa, Qb, Qc, Qd, forall_const, ↓reduceIte, ↓reduceDIte, ↓Qe, Qf, Qg, Qh, Qi, Qj, Qk, Ql, Qm, Qn, Qo, Qp, Qq, Qr, Qs, implies_true, Qt, Qu, Qv, Qw, Qx, Qy, Qz, QA, QB, QC, QD, QE, QF, QG, QH, QI, QJ, QK, QL, QM, QN, QO, QP, QQ]
        all_goals rw [hr]
    · have hx := h2 (by omega)
      rw [if_neg (by simpa using hx)] at hr
      by_cases hy : y = 0
      · simp (config := { maxSteps := 1000000 }) (disch := ((try simp only [awL]); omega)) only [QR, QS, QT, QU, QV, QW, QX, QY, QZ, Q0, Q1, Q2, il, g1, hy, ↓awU, awV, awF, Qa, Qb, Qc, Qd, forall_const, ↓reduceIte, ↓reduceDIte, ↓Qe, Qf, Qg, Qh, Qi, Qj, Qk, Ql, Qm, Qn, Qo, Qp, Qq, Qr, Qs, implies_true, Qt, Qu, Qv, Qw, Qx, Qy, Qz, QA, QB, QC, QD, QE, QF, QG, QH, QI, QJ, QK, QL, QM, QN, QO, QP, QQ]
        exact ⟨2, ⟨by decide, fun _ => by first | exact hx | rfl, fun _ => by first | exact hy | rfl⟩, by decide, ⟨[], rfl, by simp, by simp [setsA, keepA, SWeak, AWeak], by simp [HWeak, BWeak, SWeak, AWeak]⟩⟩
      · simp (config := { maxSteps := 1000000 }) (disch := ((try simp only [awL]); omega)) only [QR, QS, QT, QU, QV, QW, QX, QY, QZ, Q0, Q1, Q2, il, g1, ↓awU, awV, awF, Qa, Qb, Qc, Qd, forall_const, ↓reduceIte, ↓reduceDIte, ↓Qe, Qf, Qg, Qh, Qi, Qj, Qk, Ql, Qm, Qn, Qo, Qp, Qq, Qr, Qs, implies_true, Qt, Qu, Qv, Qw, Qx, Qy, Qz, QA, QB, QC, QD, QE, QF, QG, QH, QI, QJ, QK, QL, QM, QN, QO, QP, QQ]
        all_goals rw [hr]
    · have hx := h2 (by omega)
      have hy := h3 (by omega)
      rw [if_neg (by simpa using hx), hy] at hr
      simp (config := { maxSteps := 1000000 }) (disch := ((try simp only [awL]); omega)) only [QR, QS, QT, QU, QV, QW, QX, QY, QZ, Q0, Q1, Q2, il, ↓awU, awV, awF, Qa, Qb, Qc, Qd, forall_const, ↓reduceIte, ↓reduceDIte, ↓Qe, Qf, Qg, Qh, Qi, Qj, Qk, Ql, Qm, Qn, Qo, Qp, Qq, Qr, Qs, implies_true, Qt, Qu, Qv, Qw, Qx, Qy, Qz, QA, QB, QC, QD, QE, QF, QG, QH, QI, QJ, QK, QL, QM, QN, QO, QP, QQ]
      all_goals rw [hr]
structure Opt where
  txt : List UInt8
  fr : Nat
  ag : Nat
  wd : Nat
abbrev Opt.cells (o : Opt) : List D := [S o.txt, .int .i64 o.fr, .int .i64 o.ag]
def optC (l : List Opt) : List D := l.flatMap Opt.cells
/-- Which of two options comes first. -/
def cmpO (a b : Opt) : Int := if cmpI b.fr a.fr ≠ 0 then cmpI b.fr a.fr else cmpI b.wd a.wd
def bef (a b : Opt) : Bool := decide (b.fr < a.fr ∨ (a.fr = b.fr ∧ b.wd < a.wd))
theorem cmpO_bef (a b : Opt) : decide (cmpO a b < 0) = bef a b := by
  unfold cmpO cmpI bef
  congr 1
  apply propext
  repeat' split
  all_goals omega
set_option maxHeartbeats 4000000 in
set_option maxRecDepth 100000 in
theorem cmpO_spec (a b : Opt) (m : List (D × D)) (hk : keysOK Tryz.prog 9 m = true) (ha : lookV (.int .i64 0) m (S a.txt) false = .int .i64 a.wd) (hb : lookV (.int .i64 0) m (S b.txt) false = .int .i64 b.wd) :
    Ctr Tryz.prog G 63 [.d (.agg a.cells), .d (.agg b.cells), .ptr 0 0] [.box [.mp 1], .map m] (.d (.int .i64 (cmpO a b))) [.box [.mp 1], .map m] := by
  refine Ctr.body (M := M0) hmix Tryz.func63 rfl go63 ?_
  simp (config := { maxSteps := 1000000 }) (disch := ((try simp only [awL]); omega)) only [QR, QS, QT, QU, QV, QW, QX, QY, QZ, Q0, Q1, Q2, Tryz.f63, ↓awU, awV, awF, Qa, Qb, Qc, Qd, forall_const, ↓reduceIte, ↓reduceDIte, ↓Qe, Qf, Qg, Qh, Qi, Qj, Qk, Ql, Qm, Qn, Qo, Qp, Qq, Qr, Qs, implies_true, Qt, Qu, Qv, Qw, Qx, Qy, Qz, QA, QB, QC, QD, QE, QF, QG, QH, QI, QJ, QK, QL, QM, QN, QO, QP, QQ]
  refine CallC.pure (compare_spec b.fr a.fr) ?_
  simp (config := { maxSteps := 1000000 }) (disch := ((try simp only [awL]); omega)) only [QR, QS, QT, QU, QV, QW, QX, QY, QZ, Q0, Q1, Q2, hk, ha, hb, ↓awU, awV, awF, Qa, Qb, Qc, Qd, forall_const, ↓reduceIte, ↓reduceDIte, ↓Qe, Qf, Qg, Qh, Qi, Qj, Qk, Ql, Qm, Qn, Qo, Qp, Qq, Qr, Qs, implies_true, Qt, Qu, Qv, Qw, Qx, Qy, Qz, QA, QB, QC, QD, QE, QF, QG, QH, QI, QJ, QK, QL, QM, QN, QO, QP, QQ]
  refine CallC.pure (compare_spec b.wd a.wd) ?_
  simp (config := { maxSteps := 1000000 }) (disch := ((try simp only [awL]); omega)) only [QR, QS, QT, QU, QV, QW, QX, QY, QZ, Q0, Q1, Q2, hk, ha, hb, ↓awU, awV, awF, Qa, Qb, Qc, Qd, forall_const, ↓reduceIte, ↓reduceDIte, ↓Qe, Qf, Qg, Qh, Qi, Qj, Qk, Ql, Qm, Qn, Qo, Qp, Qq, Qr, Qs, implies_true, Qt, Qu, Qv, Qw, Qx, Qy, Qz, QA, QB, QC, QD, QE, QF, QG, QH, QI, QJ, QK, QL, QM, QN, QO, QP, QQ]
  refine CallC.frozenE (or_spec (cmpI b.fr a.fr) (cmpI b.wd a.wd) false) (by rfl) ?_
  have e : (if cmpI b.fr a.fr ≠ 0 then cmpI b.fr a.fr else cmpI b.wd a.wd) = cmpO a b := rfl
  rw [e]
  simp (config := { maxSteps := 1000000 }) (disch := ((try simp only [awL]); omega)) only [QR, QS, QT, QU, QV, QW, QX, QY, QZ, Q0, Q1, Q2, ↓awU, awV, awF, Qa, Qb, Qc, Qd, forall_const, ↓reduceIte, ↓reduceDIte, ↓Qe, Qf, Qg, Qh, Qi, Qj, Qk, Ql, Qm, Qn, Qo, Qp, Qq, Qr, Qs, implies_true, Qt, Qu, Qv, Qw, Qx, Qy, Qz, QA, QB, QC, QD, QE, QF, QG, QH, QI, QJ, QK, QL, QM, QN, QO, QP, QQ]
  first | exact ⟨[some 0, some 1], rfl, by simp, by simp [HWeak, BWeak, SWeak, AWeak], .inl (by simp [AWeak, SWeak])⟩ | exact ⟨by rfl, ⟨[some 0, some 1], rfl, by simp, by simp [HWeak, BWeak, SWeak, AWeak], .inl (by simp [AWeak, SWeak])⟩⟩
end Go.Proofs.YtacepalmphbnfaaGreatDoor

namespace Go.Proofs.YtacepalmphbnfaaGreatDoor
open Go Go.Proofs Go.Abs
variable {G : Globals}
/-! The options: sorting a few of them. -/
def noO : Opt := ⟨[], 0, 0, 0⟩
theorem optC_length : ∀ l : List Opt, (optC l).length = 3 * l.length
  | [] => rfl
  | o :: l => by
    have ih := optC_length l
    simp only [optC, List.flatMap_cons, List.length_append, List.length_cons, List.length_nil] at ih ⊢
    omega
theorem optC_get : ∀ {l : List Opt} {k : Nat}, k < l.length → ((optC l).drop (k * 3)).take 3 = (l.getD k noO).cells
  | [], k, h => absurd h (Nat.not_lt_zero _)
  | o :: l, 0, _ => by simp [optC]
  | o :: l, k + 1, h => by
    have ih := optC_get (l := l) (k := k) (by simpa using h)
    have e : (k + 1) * 3 = k * 3 + 3 := by omega
    have e2 : optC (o :: l) = S o.txt :: .int .i64 o.fr :: .int .i64 o.ag :: optC l := rfl
    rw [e, e2]
    simpa using ih
theorem optC_app (a b : List Opt) : optC (a ++ b) = optC a ++ optC b := by simp [optC]
theorem optC_take (l : List Opt) (k : Nat) : (optC l).take (k * 3) = optC (l.take k) := by
  rcases Nat.lt_or_ge k l.length with h | h
  · conv => lhs; rw [← List.take_append_drop k l, optC_app]
    rw [List.take_append_of_le_length (by rw [optC_length, List.length_take]; omega), List.take_of_length_le (by rw [optC_length, List.length_take]; omega)]
  · rw [List.take_of_length_le (by rw [optC_length]; omega), List.take_of_length_le h]
theorem optC_drop (l : List Opt) (k : Nat) : (optC l).drop (k * 3) = optC (l.drop k) := by
  rcases Nat.lt_or_ge k l.length with h | h
  · conv => lhs; rw [← List.take_append_drop k l, optC_app]
    rw [List.drop_append_of_le_length (by rw [optC_length, List.length_take]; omega), List.drop_of_length_le (by rw [optC_length, List.length_take]; omega), List.nil_append]
  · rw [List.drop_of_length_le (by rw [optC_length]; omega), List.drop_of_length_le h]; rfl
theorem optC_set {l : List Opt} {k : Nat} (x : Opt) (h : k < l.length) : (optC l).take (k * 3) ++ x.cells ++ (optC l).drop (k * 3 + 3) = optC (l.set k x) := by
  rw [List.set_eq_take_append_cons_drop, if_pos h, optC_app, optC_take, show k * 3 + 3 = (k + 1) * 3 by omega, optC_drop, List.append_assoc]
  rfl
def posO (o : Opt) (s : List Opt) : Nat → Nat
  | 0 => 0
  | j + 1 => if bef o (s.getD j noO) = true then posO o s j else j + 1
def insO (o : Opt) (s : List Opt) : List Opt := s.take (posO o s s.length) ++ o :: s.drop (posO o s s.length)
def sortO (l : List Opt) : List Opt := l.foldl (fun s o => insO o s) []
theorem insO_len (o : Opt) (s : List Opt) : (insO o s).length = s.length + 1 := by
  unfold insO
  rw [List.length_append, List.length_cons, List.length_take, List.length_drop]; omega
theorem sortO_snoc (l : List Opt) (o : Opt) : sortO (l ++ [o]) = insO o (sortO l) := by simp [sortO, List.foldl_append]
theorem sortO_take {l : List Opt} {i : Nat} (h : i < l.length) : sortO (l.take (i + 1)) = insO (l.getD i noO) (sortO (l.take i)) := by
  rw [List.take_add_one, getD_some (d := noO) h]
  exact sortO_snoc _ _
theorem sortO_len (l : List Opt) : (sortO l).length = l.length := by
  have : ∀ (l : List Opt) (s : List Opt), (l.foldl (fun s o => insO o s) s).length = s.length + l.length := by
    intro l
    induction l with
    | nil => intro s; simp
    | cons o l ih => intro s; rw [List.foldl_cons, ih, insO_len, List.length_cons]; omega
  rw [sortO, this]; simp
theorem insO_mem {o x : Opt} {s : List Opt} (h : x ∈ insO o s) : x = o ∨ x ∈ s := by
  unfold insO at h
  rcases List.mem_append.1 h with h | h
  · exact .inr (List.mem_of_mem_take h)
  · rcases List.mem_cons.1 h with h | h
    · exact .inl h
    · exact .inr (List.mem_of_mem_drop h)
theorem sortO_mem : ∀ {l : List Opt} {x : Opt}, x ∈ sortO l → x ∈ l := by
  have : ∀ (l s : List Opt) (x : Opt), x ∈ l.foldl (fun s o => insO o s) s → x ∈ s ∨ x ∈ l := by
    intro l
    induction l with
    | nil => intro s x h; exact .inl h
    | cons o l ih =>
      intro s x h
      rw [List.foldl_cons] at h
      rcases ih _ _ h with h | h
      · rcases insO_mem h with rfl | h
        · exact .inr (by simp)
        · exact .inl h
      · exact .inr (by simp [h])
  intro l x h
  rcases this l [] x h with h | h
  · cases h
  · exact h
abbrev CmA : AV := .fn (.func 63) [] [.ptr 0 0]
set_option maxHeartbeats 8000000 in
set_option maxRecDepth 100000 in
theorem insSort_spec (l : List Opt) (m : List (D × D)) (hn : l.length ≤ 1000) (hk : keysOK Tryz.prog 9 m = true) (hl : ∀ o ∈ l, lookV (.int .i64 0) m (S o.txt) false = .int .i64 o.wd) :
    Ctr Tryz.prog G 132 [.lsl 1 3 0 l.length, .d (.int .i64 0), .d (.int .i64 l.length), CmA] [.box [.mp 2], .row false (optC l), .map m] .undef [.box [.mp 2], .row false (optC (sortO l)), .map m] := by
  refine Ctr.body (M := M0) hmix Tryz.func132 rfl go132 ?_
  simp (config := { maxSteps := 1000000 }) (disch := ((try simp only [awL]); omega)) only [QR, QS, QT, QU, QV, QW, QX, QY, QZ, Q0, Q1, Q2, Tryz.f132, ↓awU, awV, awF, Qa, Qb, Qc, Qd, forall_const, ↓reduceIte, ↓reduceDIte, ↓Qe, Qf, Qg, Qh, Qi, Qj, Qk, Ql, Qm, Qn, Qo, Qp, Qq, Qr, Qs, implies_true, Qt, Qu, Qv, Qw, Qx, Qy, Qz, QA, QB, QC, QD, QE, QF, QG, QH, QI, QJ, QK, QL, QM, QN, QO, QP, QQ]
  refine LoopC.fr 15 (α := Nat × List Opt) (fun x => l.length - x.1) (fun x => [(8, .d (.int .i64 x.1))]) (fun x => [.box [.mp 2], .row false (optC x.2), .map m])
    (fun x => 1 ≤ x.1 ∧ x.2.length = l.length ∧ x.2 = sortO (l.take x.1) ++ l.drop x.1) (1, l) ⟨Nat.le_refl _, rfl, by cases l <;> simp [sortO, insO, posO]⟩ ?_ ?_
  · exact ⟨[some 0, some 1, some 2], rfl, by simp, by simp [setsA, keepA, SWeak, AWeak], by simp [HWeak, BWeak, SWeak, AWeak]⟩
  · rintro ⟨i, d⟩ ⟨i1, i2, i3⟩
    simp only at i1 i2 i3
    simp only [awK, Nat.reduceMod, Nat.reduceDiv, reduceIte]
    rcases Nat.lt_or_ge i l.length with h | h
    · have hS : (sortO (l.take i)).length = i := by rw [sortO_len, List.length_take]; omega
      have hst := sortO_take h
      have ho := hl _ (memD (d := noO) h)
      have hSm : ∀ x ∈ sortO (l.take i), lookV (.int .i64 0) m (S x.txt) false = .int .i64 x.wd := fun x hx => hl x (List.mem_of_mem_take (sortO_mem hx))
      have ed : l.drop i = l.getD i noO :: l.drop (i + 1) := by
        rw [List.drop_eq_getElem_cons h, List.getD_eq_getElem?_getD, List.getElem?_eq_getElem h]; rfl
      rw [ed] at i3
      clear ed
      have hr : (l.drop (i + 1)).length = l.length - (i + 1) := List.length_drop ..
      obtain ⟨rest, hrest⟩ : ∃ rest, rest = l.drop (i + 1) := ⟨_, rfl⟩
      rw [← hrest] at hr i3
      generalize l.getD i noO = o at *
      generalize sortO (l.take i) = st at *
      simp (config := { maxSteps := 1000000 }) (disch := ((try simp only [awL]); omega)) only [QR, QS, QT, QU, QV, QW, QX, QY, QZ, Q0, Q1, Q2, ↓awU, awV, awF, Qa, Qb, Qc, Qd, forall_const, ↓reduceIte, ↓reduceDIte, ↓Qe, Qf, Qg, Qh, Qi, Qj, Qk, Ql, Qm, Qn, Qo, Qp, Qq, Qr, Qs, implies_true, Qt, Qu, Qv, Qw, Qx, Qy, Qz, QA, QB, QC, QD, QE, QF, QG, QH, QI, QJ, QK, QL, QM, QN, QO, QP, QQ]
      refine LoopC.fr 271 (α := Nat × List Opt) (fun x => x.1) (fun x => [(9, .d (.int .i64 x.1))]) (fun x => [.box [.mp 2], .row false (optC x.2), .map m])
        (fun x => x.1 ≤ i ∧ x.2 = st.take x.1 ++ o :: (st.drop x.1 ++ rest) ∧ posO o st st.length = posO o st x.1) (i, d) ⟨Nat.le_refl _, by rw [i3, ← hS, List.take_length, List.drop_length]; rfl, by rw [hS]⟩ ?_ ?_
      · exact ⟨[some 0, some 1, some 2], rfl, by simp, by simp [setsA, keepA, SWeak, AWeak], by simp [HWeak, BWeak, SWeak, AWeak]⟩
      · rintro ⟨j, e⟩ ⟨j1, j2, j3⟩
        simp only at j1 j2 j3
        simp only [awK, Nat.reduceMod, Nat.reduceDiv, reduceIte]
        rcases Nat.eq_zero_or_pos j with h0 | h0
        · subst h0
          rw [show posO o st 0 = 0 from rfl] at j3
          have fin : e = sortO (l.take (i + 1)) ++ rest := by
            rw [j2, hst, insO, j3]; simp
          simp (config := { maxSteps := 1000000 }) (disch := ((try simp only [awL]); omega)) only [QR, QS, QT, QU, QV, QW, QX, QY, QZ, Q0, Q1, Q2, ↓awU, awV, awF, Qa, Qb, Qc, Qd, forall_const, ↓reduceIte, ↓reduceDIte, ↓Qe, Qf, Qg, Qh, Qi, Qj, Qk, Ql, Qm, Qn, Qo, Qp, Qq, Qr, Qs, implies_true, Qt, Qu, Qv, Qw, Qx, Qy, Qz, QA, QB, QC, QD, QE, QF, QG, QH, QI, QJ, QK, QL, QM, QN, QO, QP, QQ]
          exact ⟨by rfl, (i + 1, e), ⟨by simp only; omega, by rw [fin, hst, List.length_append, insO_len, hr]; omega, by rw [fin, hrest]⟩, by simp only; omega, ⟨[some 0, some 1, some 2], rfl, by simp, by simp [setsA, keepA, SWeak, AWeak], by simp [HWeak, BWeak, SWeak, AWeak]⟩⟩
        · obtain ⟨q, rfl⟩ : ∃ q, j = q + 1 := ⟨j - 1, by omega⟩
          have oel := optC_length e
          have el : e.length = l.length := by rw [j2]; simp; omega
          have gj := optC_get (l := e) (k := q + 1) (by omega)
          have gq := optC_get (l := e) (k := q) (by omega)
          have e1 : e.getD (q + 1) noO = o := by
            rw [j2, List.getD_eq_getElem?_getD, List.getElem?_append_right (by rw [List.length_take]; omega), List.length_take, show q + 1 - min (q + 1) st.length = 0 by omega]; rfl
          have e2 : e.getD q noO = st.getD q noO := by
            rw [j2, List.getD_eq_getElem?_getD, List.getElem?_append_left (by rw [List.length_take]; omega), List.getElem?_take, if_pos (by omega), List.getD_eq_getElem?_getD]
          rw [e1] at gj
          rw [e2] at gq
          have hp := hSm _ (memD (d := noO) (l := st) (i := q) (by omega))
          rw [show posO o st (q + 1) = if bef o (st.getD q noO) = true then posO o st q else q + 1 from rfl] at j3
          obtain ⟨pp, hpp⟩ : ∃ pp, pp = st.getD q noO := ⟨_, rfl⟩
          rw [← hpp] at gq hp j3 e2
          have eq1 : (((q + 1 : Nat) : Int) - 1) = (q : Int) := by omega
          have eq2 : (((q + 1 : Nat) : Int) - 1).toNat = q := by omega
          simp (config := { maxSteps := 1000000 }) (disch := ((try simp only [awL]); omega)) only [QR, QS, QT, QU, QV, QW, QX, QY, QZ, Q0, Q1, Q2, oel, gj, gq, eq2, ↓awU, awV, awF, Qa, Qb, Qc, Qd, forall_const, ↓reduceIte, ↓reduceDIte, ↓Qe, Qf, Qg, Qh, Qi, Qj, Qk, Ql, Qm, Qn, Qo, Qp, Qq, Qr, Qs, implies_true, Qt, Qu, Qv, Qw, Qx, Qy, Qz, QA, QB, QC, QD, QE, QF, QG, QH, QI, QJ, QK, QL, QM, QN, QO, QP, QQ]
          refine CallC.by (cmpO_spec o pp m hk ho hp) (by rfl) (by rfl) (by simp) ?_
          have hb := cmpO_bef o pp
          generalize cmpO o pp = c at *
          cases hbb : bef o pp
          · rw [hbb] at hb j3
            have hc := of_decide_eq_false hb
            have fin : e = sortO (l.take (i + 1)) ++ rest := by
              rw [if_neg (by decide)] at j3
              rw [j2, hst, insO, j3]; simp
            simp (config := { maxSteps := 1000000 }) (disch := ((try simp only [awL]); omega)) only [QR, QS, QT, QU, QV, QW, QX, QY, QZ, Q0, Q1, Q2, ↓awU, awV, awF, Qa, Qb, Qc, Qd, forall_const, ↓reduceIte, ↓reduceDIte, ↓Qe, Qf, Qg, Qh, Qi, Qj, Qk, Ql, Qm, Qn, Qo, Qp, Qq, Qr, Qs, implies_true, Qt, Qu, Qv, Qw, Qx, Qy, Qz, QA, QB, QC, QD, QE, QF, QG, QH, QI, QJ, QK, QL, QM, QN, QO, QP, QQ]
            exact ⟨by rfl, (i + 1, e), ⟨by simp only; omega, by rw [fin, hst, List.length_append, insO_len, hr]; omega, by rw [fin, hrest]⟩, by simp only; omega, ⟨[some 0, some 1, some 2], rfl, by simp, by simp [setsA, keepA, SWeak, AWeak], by simp [HWeak, BWeak, SWeak, AWeak]⟩⟩
          · rw [hbb] at hb j3
            have hc := of_decide_eq_true hb
            rw [if_pos rfl] at j3
            have s1 := optC_set (l := e) (k := q + 1) pp (by omega)
            have s2 := optC_set (l := e.set (q + 1) pp) (k := q) o (by rw [List.length_set]; omega)
            have fin : (e.set (q + 1) pp).set q o = st.take q ++ o :: (st.drop q ++ rest) := by
              have d1 : st.drop q = pp :: st.drop (q + 1) := by
                rw [List.drop_eq_getElem_cons (show q < st.length by omega), hpp, List.getD_eq_getElem?_getD, List.getElem?_eq_getElem (show q < st.length by omega)]; rfl
              have t1 : st.take (q + 1) = st.take q ++ [pp] := by
                rw [List.take_add_one, getD_some (d := noO) (show q < st.length by omega), ← hpp]; rfl
              have tl : (st.take q).length = q := by rw [List.length_take]; omega
              rw [j2, t1, d1, List.append_assoc, List.set_append_right _ _ (by omega), tl, show q + 1 - q = 1 by omega, List.set_append_right _ _ (by omega), tl, Nat.sub_self]
              rfl
            have oel2 := optC_length (e.set (q + 1) pp)
            rw [List.length_set] at oel2
            simp (config := { maxSteps := 1000000 }) (disch := ((try simp only [awL]); omega)) only [QR, QS, QT, QU, QV, QW, QX, QY, QZ, Q0, Q1, Q2, oel, gj, gq, eq2, s1, oel2, s2, ↓awU, awV, awF, Qa, Qb, Qc, Qd, forall_const, ↓reduceIte, ↓reduceDIte, ↓Qe, Qf, Qg, Qh, Qi, Qj, Qk, Ql, Qm, Qn, Qo, Qp, Qq, Qr, Qs, implies_true, Qt, Qu, Qv, Qw, Qx, Qy, Qz, QA, QB, QC, QD, QE, QF, QG, QH, QI, QJ, QK, QL, QM, QN, QO, QP, QQ]
            refine ⟨by rfl, by rfl, ?_⟩
            exact ⟨(q, (e.set (q + 1) pp).set q o), ⟨by simp only; omega, fin, j3⟩, by simp only; omega, ⟨[some 0, some 1, some 2], rfl, by simp, by simp [setsA, keepA, SWeak, AWeak], by simp [HWeak, BWeak, SWeak, AWeak]⟩⟩
    · rw [List.take_of_length_le h, List.drop_of_length_le h, List.append_nil] at i3
      subst i3
      simp (config := { maxSteps := 1000000 }) (disch := ((try simp only [awL]); omega)) only [QR, QS, QT, QU, QV, QW, QX, QY, QZ, Q0, Q1, Q2, ↓awU, awV, awF, Qa, Qb, Qc, Qd, forall_const, ↓reduceIte, ↓reduceDIte, ↓Qe, Qf, Qg, Qh, Qi, Qj, Qk, Ql, Qm, Qn, Qo, Qp, Qq, Qr, Qs, implies_true, Qt, Qu, Qv, Qw, Qx, Qy, Qz, QA, QB, QC, QD, QE, QF, QG, QH, QI, QJ, QK, QL, QM, QN, QO, QP, QQ]
      exact ⟨[some 0, some 1, some 2], rfl, by simp, by simp [HWeak, BWeak, SWeak, AWeak], .inl (by simp [AWeak, SWeak])⟩
end Go.Proofs.YtacepalmphbnfaaGreatDoor

namespace Go.Proofs.YtacepalmphbnfaaGreatDoor
open Go Go.Proofs Go.Abs
variable {G : Globals}
/-! The options: sorted by slices.SortFunc. -/
theorem bitsLen_spec (n : Nat) (h : n < 18446744073709551616) : Ctr Tryz.prog G 105 [.d (.int .u64 n)] [] (.d (.int .i64 (Lib.bitLen n))) [] := by
  refine Ctr.pure (M := M0) hmix Tryz.func105 rfl go105 ?_
  simp (config := { maxSteps := 1000000 }) (disch := ((try simp only [awL]); omega)) only [QR, QS, QT, QU, QV, QW, QX, QY, QZ, Q0, Q1, Q2, Tryz.f105, ↓awU, awV, awF, Qa, Qb, Qc, Qd, forall_const, ↓reduceIte, ↓reduceDIte, ↓Qe, Qf, Qg, Qh, Qi, Qj, Qk, Ql, Qm, Qn, Qo, Qp, Qq, Qr, Qs, implies_true, Qt, Qu, Qv, Qw, Qx, Qy, Qz, QA, QB, QC, QD, QE, QF, QG, QH, QI, QJ, QK, QL, QM, QN, QO, QP, QQ]
  refine CallC.pure (len64_spec n h) ?_
  simp (config := { maxSteps := 1000000 }) (disch := ((try simp only [awL]); omega)) only [QR, QS, QT, QU, QV, QW, QX, QY, QZ, Q0, Q1, Q2, ↓awU, awV, awF, Qa, Qb, Qc, Qd, forall_const, ↓reduceIte, ↓reduceDIte, ↓Qe, Qf, Qg, Qh, Qi, Qj, Qk, Ql, Qm, Qn, Qo, Qp, Qq, Qr, Qs, implies_true, Qt, Qu, Qv, Qw, Qx, Qy, Qz, QA, QB, QC, QD, QE, QF, QG, QH, QI, QJ, QK, QL, QM, QN, QO, QP, QQ]
def MP : Muts := fun k => k == 132 || k == 104 || k == 62
theorem MP_a : MP 132 = true := rfl
theorem MP_b : MP 104 = true := rfl
theorem MP_c : MP 62 = true := rfl
theorem MP_n {k : Nat} (h : k ≠ 132 ∧ k ≠ 104 ∧ k ≠ 62) : MP k = false := by
  simp only [MP, Bool.or_eq_false_iff, beq_eq_false_iff_ne]; exact ⟨⟨h.1, h.2.1⟩, h.2.2⟩
set_option maxHeartbeats 4000000 in
set_option maxRecDepth 100000 in
theorem pdq_spec (l : List Opt) (lim : Int) (m : List (D × D)) (hn : l.length ≤ 12) (hk : keysOK Tryz.prog 9 m = true) (hl : ∀ o ∈ l, lookV (.int .i64 0) m (S o.txt) false = .int .i64 o.wd) :
    Ctr Tryz.prog G 104 [.lsl 1 3 0 l.length, .d (.int .i64 0), .d (.int .i64 l.length), .d (.int .i64 lim), CmA] [.box [.mp 2], .row false (optC l), .map m] .undef [.box [.mp 2], .row false (optC (sortO l)), .map m] := by
  refine Ctr.body (M := MP) hmix Tryz.func104 rfl go104 ?_
  simp (config := { maxSteps := 1000000 }) (disch := ((try simp only [awL]); omega)) only [QR, QS, QT, QU, QV, QW, QX, QY, QZ, Q0, Q1, Q2, Tryz.f104, ↓awU, awV, awF, Qa, Qb, Qc, Qd, forall_const, ↓reduceIte, ↓reduceDIte, ↓Qe, Qf, Qg, Qh, Qi, Qj, Qk, Ql, Qm, Qn, Qo, Qp, Qq, Qr, Qs, implies_true, Qt, Qu, Qv, Qw, Qx, Qy, Qz, QA, QB, QC, QD, QE, QF, QG, QH, QI, QJ, QK, QL, QM, QN, QO, QP, QQ]
  refine LoopC.fr 17 (α := Unit) (fun _ => 0) (fun _ => [(1, .d (.int .i64 0)), (2, .d (.int .i64 l.length)), (3, .d (.int .i64 lim)), (10, .d (.bool true)), (11, .d (.bool true))]) (fun _ => [.box [.mp 2], .row false (optC l), .map m]) (fun _ => True) () trivial ?_ ?_
  · exact ⟨[some 0, some 1, some 2], rfl, by simp, by simp [setsA, keepA, SWeak, AWeak], by simp [HWeak, BWeak, SWeak, AWeak]⟩
  · rintro ⟨⟩ -
    simp only [awK, Nat.reduceMod, Nat.reduceDiv, reduceIte]
    simp (config := { maxSteps := 1000000 }) (disch := ((try simp only [awL]); omega)) only [QR, QS, QT, QU, QV, QW, QX, QY, QZ, Q0, Q1, Q2, MP_a, MP_n, ↓awU, awV, awF, Qa, Qb, Qc, Qd, forall_const, ↓reduceIte, ↓reduceDIte, ↓Qe, Qf, Qg, Qh, Qi, Qj, Qk, Ql, Qm, Qn, Qo, Qp, Qq, Qr, Qs, implies_true, Qt, Qu, Qv, Qw, Qx, Qy, Qz, QA, QB, QC, QD, QE, QF, QG, QH, QI, QJ, QK, QL, QM, QN, QO, QP, QQ]
    refine CallC.by (insSort_spec l m (by omega) hk hl) (by first | rfl | simp) (by rfl) (by simp) ?_
    simp (config := { maxSteps := 1000000 }) (disch := ((try simp only [awL]); omega)) only [QR, QS, QT, QU, QV, QW, QX, QY, QZ, Q0, Q1, Q2, MP_a, MP_n, ↓awU, awV, awF, Qa, Qb, Qc, Qd, forall_const, ↓reduceIte, ↓reduceDIte, ↓Qe, Qf, Qg, Qh, Qi, Qj, Qk, Ql, Qm, Qn, Qo, Qp, Qq, Qr, Qs, implies_true, Qt, Qu, Qv, Qw, Qx, Qy, Qz, QA, QB, QC, QD, QE, QF, QG, QH, QI, QJ, QK, QL, QM, QN, QO, QP, QQ]
    exact ⟨[some 0, some 1, some 2], rfl, by simp, by simp [HWeak, BWeak, SWeak, AWeak], .inl (by simp [AWeak, SWeak])⟩
set_option maxHeartbeats 4000000 in
set_option maxRecDepth 100000 in
theorem sortFunc_spec (l : List Opt) (m : List (D × D)) (hn : l.length ≤ 12) (hk : keysOK Tryz.prog 9 m = true) (hl : ∀ o ∈ l, lookV (.int .i64 0) m (S o.txt) false = .int .i64 o.wd) :
    Ctr Tryz.prog G 62 [.lsl 1 3 0 l.length, CmA] [.box [.mp 2], .row false (optC l), .map m] .undef [.box [.mp 2], .row false (optC (sortO l)), .map m] := by
  refine Ctr.body (M := MP) hmix Tryz.func62 rfl go62 ?_
  simp (config := { maxSteps := 1000000 }) (disch := ((try simp only [awL]); omega)) only [QR, QS, QT, QU, QV, QW, QX, QY, QZ, Q0, Q1, Q2, MP_b, MP_n, Tryz.f62, ↓awU, awV, awF, Qa, Qb, Qc, Qd, forall_const, ↓reduceIte, ↓reduceDIte, ↓Qe, Qf, Qg, Qh, Qi, Qj, Qk, Ql, Qm, Qn, Qo, Qp, Qq, Qr, Qs, implies_true, Qt, Qu, Qv, Qw, Qx, Qy, Qz, QA, QB, QC, QD, QE, QF, QG, QH, QI, QJ, QK, QL, QM, QN, QO, QP, QQ]
  refine CallC.pure (bitsLen_spec l.length (by omega)) ?_
  simp (config := { maxSteps := 1000000 }) (disch := ((try simp only [awL]); omega)) only [QR, QS, QT, QU, QV, QW, QX, QY, QZ, Q0, Q1, Q2, MP_b, MP_n, ↓awU, awV, awF, Qa, Qb, Qc, Qd, forall_const, ↓reduceIte, ↓reduceDIte, ↓Qe, Qf, Qg, Qh, Qi, Qj, Qk, Ql, Qm, Qn, Qo, Qp, Qq, Qr, Qs, implies_true, Qt, Qu, Qv, Qw, Qx, Qy, Qz, QA, QB, QC, QD, QE, QF, QG, QH, QI, QJ, QK, QL, QM, QN, QO, QP, QQ]
  refine CallC.by (pdq_spec l _ m hn hk hl) (by first | rfl | simp) (by rfl) (by simp) ?_
  simp (config := { maxSteps := 1000000 }) (disch := ((try simp only [awL]); omega)) only [QR, QS, QT, QU, QV, QW, QX, QY, QZ, Q0, Q1, Q2, MP_b, MP_n, ↓awU, awV, awF, Qa, Qb, Qc, Qd, forall_const, ↓reduceIte, ↓reduceDIte, ↓Qe, Qf, Qg, Qh, Qi, Qj, Qk, Ql, Qm, Qn, Qo, Qp, Qq, Qr, Qs, implies_true, Qt, Qu, Qv, Qw, Qx, Qy, Qz, QA, QB, QC, QD, QE, QF, QG, QH, QI, QJ, QK, QL, QM, QN, QO, QP, QQ]
  exact ⟨[some 0, some 1, some 2], rfl, by simp, by simp [HWeak, BWeak, SWeak, AWeak], .inl (by simp [AWeak, SWeak])⟩
end Go.Proofs.YtacepalmphbnfaaGreatDoor

namespace Go.Proofs.YtacepalmphbnfaaGreatDoor
open Go Go.Proofs Go.Abs
variable {G : Globals}
/-! The options of a file: fixed.Options. -/
def cleanF (ly : List Nat) (l : List UInt8) : Bool := decide ([] ∉ fldsL ly l)
def forN (ly : List Nat) (ls : Row) : Nat := (ls.filter (cleanF ly)).length
def agN (ly : List Nat) (ls : Row) : Nat := (ls.filter fun l => !cleanF ly l).length
def mkO (ls : Row) (l : List Int) : Opt := ⟨txO (textL l), forN (natsOf l) ls, agN (natsOf l) ls, l.length⟩
def addO (d : List UInt8) (acc : List Opt) (gap : Nat) : List Opt :=
  match inferL d gap with
  | none => acc
  | some l => if txO (textL l) ∈ acc.map Opt.txt then acc else acc ++ [mkO (linesL d) l]
def colO (d : List UInt8) : Nat → List Opt
  | 0 => []
  | g + 1 => addO d (colO d g) (g + 1)
def optsL (d : List UInt8) : List Opt := sortO (colO d 3)
def cols (c : List Opt) : List (D × D) := c.map fun o => (S o.txt, .int .i64 o.wd)
/-- The width that stands for a text. -/
def wdOf (x : List UInt8) : List Opt → Nat
  | [] => 0
  | o :: c => if x = o.txt then o.wd else wdOf x c
theorem keys_cols (c : List Opt) : keysOK Tryz.prog 9 (cols c) = true := by
  unfold keysOK
  refine List.all_eq_true.2 fun e he => ?_
  obtain ⟨o, _, rfl⟩ := List.mem_map.1 he
  show isKeyD Tryz.prog 9 (S o.txt) = true
  unfold isKeyD
  rw [ti9]
  rfl
theorem bs_beq {a b : List UInt8} : (bs a == bs b) = decide (a = b) := by
  have e : (bs a == bs b) = (a.toArray == b.toArray) := rfl
  rw [e]
  by_cases h : a = b
  · subst h; simp
  · rw [decide_eq_false h]
    exact beq_eq_false_iff_ne.2 fun q => h (by simpa using q)
theorem find_cols (x : List UInt8) : ∀ c : List Opt, (findE (S x) (cols c) = none ∧ wdOf x c = 0 ∧ x ∉ c.map Opt.txt) ∨ ∃ i, findE (S x) (cols c) = some (i, .int .i64 (wdOf x c)) ∧ x ∈ c.map Opt.txt
  | [] => .inl ⟨rfl, rfl, by simp⟩
  | o :: c => by
    have e : findE (S x) (cols (o :: c)) = if (bs x == bs o.txt) = true then some (0, .int .i64 o.wd) else (findE (S x) (cols c)).map fun y => (y.1 + 1, y.2) := rfl
    rw [e, bs_beq, wdOf]
    by_cases h : x = o.txt
    · right
      exact ⟨0, by simp [h], by simp [h]⟩
    · rw [if_neg h, if_neg (by simpa using h)]
      rcases find_cols x c with ⟨a, b, d⟩ | ⟨i, a, b⟩
      · exact .inl ⟨by rw [a]; rfl, b, by simp [h, d]⟩
      · exact .inr ⟨i + 1, by rw [a]; rfl, by simp [b]⟩
theorem look_cols (x : List UInt8) (c : List Opt) : lookV (.int .i64 0) (cols c) (S x) false = .int .i64 (wdOf x c) := by
  unfold lookV
  rcases find_cols x c with ⟨a, b, _⟩ | ⟨i, a, _⟩
  · rw [a, b]; rfl
  · rw [a]; rfl
theorem upd_cols {x : List UInt8} {c : List Opt} (h : x ∉ c.map Opt.txt) (o : Opt) (ho : o.txt = x) : updE (cols c) (S x) (.int .i64 o.wd) = cols (c ++ [o]) := by
  unfold updE
  rcases find_cols x c with ⟨a, _, _⟩ | ⟨i, _, b⟩
  · rw [a, ← ho]; simp [cols]
  · exact absurd b h
/-- Each text once, each width at least one. -/
def OkC (c : List Opt) : Prop := (∀ o ∈ c, 1 ≤ o.wd ∧ wdOf o.txt c = o.wd) ∧ c.length ≤ 3
theorem wdOf_app {x : List UInt8} {a b : List Opt} : wdOf x (a ++ b) = if x ∈ a.map Opt.txt then wdOf x a else wdOf x b := by
  induction a with
  | nil => simp
  | cons o a ih =>
    rw [List.cons_append, wdOf, wdOf, ih]
    by_cases h : x = o.txt
    · simp [h]
    · simp [h]
theorem wdOf_pos {x : List UInt8} : ∀ {c : List Opt}, (∀ o ∈ c, 1 ≤ o.wd) → x ∈ c.map Opt.txt → 1 ≤ wdOf x c
  | [], _, h => by simp at h
  | o :: c, h1, h => by
    rw [wdOf]
    split
    · exact h1 o (by simp)
    · rename_i hx
      refine wdOf_pos (fun y hy => h1 y (by simp [hy])) ?_
      rw [List.map_cons] at h
      exact (List.mem_cons.1 h).resolve_left hx
theorem infer_ok {d : List UInt8} {g : Int} {l : List Int} (h : inferL d g = some l) : okLay l = true ∧ Lib.validD d = true ∧ d.length ≤ 1048576 := by
  unfold inferL at h
  split at h
  · cases h
  · rename_i h1
    have hv : Lib.validD d = true ∧ d.length ≤ 1048576 := by
      refine ⟨?_, ?_⟩
      · cases hx : Lib.validD d with
        | true => rfl
        | false => exact absurd (.inl hx) h1
      · rcases Nat.lt_or_ge 1048576 d.length with x | x
        · exact absurd (.inr (.inl x)) h1
        · exact x
    split at h
    · cases h
    · split at h
      · rename_i hk; cases h; exact ⟨hk, hv⟩
      · cases h
theorem colO_ok (d : List UInt8) : ∀ g, g ≤ 3 → OkC (colO d g) ∧ (colO d g).length ≤ g := by
  intro g
  induction g with
  | zero =>
    intro _
    refine ⟨⟨fun o ho => ?_, Nat.zero_le _⟩, Nat.le_refl _⟩
    cases ho
  | succ g ih =>
    intro hg
    obtain ⟨⟨i1, i2⟩, i3⟩ := ih (by omega)
    rw [colO]
    unfold addO
    split
    · exact ⟨⟨i1, i2⟩, by omega⟩
    · rename_i l hl
      split
      · exact ⟨⟨i1, i2⟩, by omega⟩
      · rename_i hn
        have hlen := (okLay_ok (infer_ok hl).1).1
        refine ⟨⟨fun o ho => ?_, by rw [List.length_append, List.length_singleton]; omega⟩, by rw [List.length_append, List.length_singleton]; omega⟩
        rw [wdOf_app]
        rcases List.mem_append.1 ho with ho | ho
        · rw [if_pos (List.mem_map_of_mem (f := Opt.txt) ho)]
          exact i1 o ho
        · obtain rfl := List.mem_singleton.1 ho
          rw [if_neg (show ¬ (mkO (linesL d) l).txt ∈ (colO d g).map Opt.txt from hn)]
          refine ⟨by show 1 ≤ l.length; omega, ?_⟩
          rw [wdOf, if_pos rfl]
theorem optC_push (a : List Opt) (o : Opt) : optC a ++ o.cells = optC (a ++ [o]) := by rw [optC_app]; simp [optC]
theorem filt_step {p : List UInt8 → Bool} {ls : Row} {i : Nat} (h : i < ls.length) : ((ls.take (i + 1)).filter p).length = ((ls.take i).filter p).length + (if p (ls.getD i []) = true then 1 else 0) := by
  rw [List.take_add_one, getD_some (d := []) h, List.filter_append, List.length_append]
  congr 1
  simp only [Option.toList_some, List.filter_cons, List.filter_nil]
  split <;> rfl
set_option maxHeartbeats 16000000 in
set_option maxRecDepth 100000 in
theorem options_spec (hT : HT G) (hI : HI G) (d : List UInt8) (hd : d.length ≤ 100000000) : Ctr Tryz.prog G 20 [.d (S d)] [] (.d (.sl (optsL d).length false (optC (optsL d)))) [] := by
  refine Ctr.pure (M := MP) hmix Tryz.func20 rfl go20 ?_
  obtain ⟨j1, j2⟩ := linesL_in (s := d)
  simp (config := { maxSteps := 1000000 }) (disch := ((try simp only [awL]); omega)) only [QR, QS, QT, QU, QV, QW, QX, QY, QZ, Q0, Q1, Q2, MP_c, MP_n, Tryz.f20, ↓awU, awV, awF, Qa, Qb, Qc, Qd, forall_const, ↓reduceIte, ↓reduceDIte, ↓Qe, Qf, Qg, Qh, Qi, Qj, Qk, Ql, Qm, Qn, Qo, Qp, Qq, Qr, Qs, implies_true, Qt, Qu, Qv, Qw, Qx, Qy, Qz, QA, QB, QC, QD, QE, QF, QG, QH, QI, QJ, QK, QL, QM, QN, QO, QP, QQ]
  refine CallC.pure (lines_spec d (by omega)) ?_
  simp (config := { maxSteps := 1000000 }) (disch := ((try simp only [awL]); omega)) only [QR, QS, QT, QU, QV, QW, QX, QY, QZ, Q0, Q1, Q2, MP_c, MP_n, ↓awU, awV, awF, Qa, Qb, Qc, Qd, forall_const, ↓reduceIte, ↓reduceDIte, ↓Qe, Qf, Qg, Qh, Qi, Qj, Qk, Ql, Qm, Qn, Qo, Qp, Qq, Qr, Qs, implies_true, Qt, Qu, Qv, Qw, Qx, Qy, Qz, QA, QB, QC, QD, QE, QF, QG, QH, QI, QJ, QK, QL, QM, QN, QO, QP, QQ]
  refine LoopC.fx 49 (α := Nat) (β := Unit) (fun g => 3 - g) (fun g => [(3, .lsl 2 3 0 (colO d g).length), (6, .d (.int .i64 (g + 1 : Nat)))]) (fun g => [.map (cols (colO d g)), .box [.mp 0], .row false (optC (colO d g))]) (fun g => g ≤ 3) 16 (fun _ => [(3, .lsl 2 3 0 (colO d 3).length)]) (fun _ => [.map (cols (colO d 3)), .box [.mp 0], .row false (optC (colO d 3))]) (fun _ => True) 0 (Nat.zero_le _) ?_ ?_ ?_
  · exact ⟨[some 0, some 1, none], rfl, by simp, by simp [setsA, keepA, SWeak, AWeak, colO], by simp [HWeak, BWeak, SWeak, AWeak, colO, cols, optC]⟩
  · intro g hg
    obtain ⟨⟨ok1, ok2⟩, ok3⟩ := colO_ok d g hg
    have ol := optC_length (colO d g)
    have kc := keys_cols (colO d g)
    simp only [awK, Nat.reduceMod, Nat.reduceDiv, reduceIte]
    rcases Nat.lt_or_ge g 3 with h | h
    · have hst : colO d (g + 1) = addO d (colO d g) (g + 1) := rfl
      unfold addO at hst
      simp (config := { maxSteps := 1000000 }) (disch := ((try simp only [awL]); omega)) only [QR, QS, QT, QU, QV, QW, QX, QY, QZ, Q0, Q1, Q2, MP_c, MP_n, ↓awU, awV, awF, Qa, Qb, Qc, Qd, forall_const, ↓reduceIte, ↓reduceDIte, ↓Qe, Qf, Qg, Qh, Qi, Qj, Qk, Ql, Qm, Qn, Qo, Qp, Qq, Qr, Qs, implies_true, Qt, Qu, Qv, Qw, Qx, Qy, Qz, QA, QB, QC, QD, QE, QF, QG, QH, QI, QJ, QK, QL, QM, QN, QO, QP, QQ]
      refine CallC.of (infer_spec hT d (g + 1 : Nat) hd) (by rfl) ?_
      cases hi : inferL d (g + 1 : Nat) with
      | none =>
        rw [hi] at hst
        simp only at hst
        unfold inferD
        simp (config := { maxSteps := 1000000 }) (disch := ((try simp only [awL]); omega)) only [QR, QS, QT, QU, QV, QW, QX, QY, QZ, Q0, Q1, Q2, MP_c, MP_n, ↓awU, awV, awF, Qa, Qb, Qc, Qd, forall_const, ↓reduceIte, ↓reduceDIte, ↓Qe, Qf, Qg, Qh, Qi, Qj, Qk, Ql, Qm, Qn, Qo, Qp, Qq, Qr, Qs, implies_true, Qt, Qu, Qv, Qw, Qx, Qy, Qz, QA, QB, QC, QD, QE, QF, QG, QH, QI, QJ, QK, QL, QM, QN, QO, QP, QQ]
        refine CallC.of (ftext_spec hI [] false (by simp)) (by rfl) ?_
        rw [textD_eq]
        simp (config := { maxSteps := 1000000 }) (disch := ((try simp only [awL]); omega)) only [QR, QS, QT, QU, QV, QW, QX, QY, QZ, Q0, Q1, Q2, MP_c, MP_n, ↓awU, awV, awF, Qa, Qb, Qc, Qd, forall_const, ↓reduceIte, ↓reduceDIte, ↓Qe, Qf, Qg, Qh, Qi, Qj, Qk, Ql, Qm, Qn, Qo, Qp, Qq, Qr, Qs, implies_true, Qt, Qu, Qv, Qw, Qx, Qy, Qz, QA, QB, QC, QD, QE, QF, QG, QH, QI, QJ, QK, QL, QM, QN, QO, QP, QQ]
        exact ⟨g + 1, h, by simp only; omega, ⟨[some 0, some 1, some 2], rfl, by simp, by simp [setsA, keepA, SWeak, AWeak, hst], by simp [HWeak, BWeak, SWeak, AWeak, hst]⟩⟩
      | some l =>
        rw [hi] at hst
        simp only at hst
        obtain ⟨okl, hvd, hdl⟩ := infer_ok hi
        obtain ⟨q1, q2, q3, q4⟩ := okLay_ok okl
        have nl : (natsOf l).length = l.length := by simp [natsOf]
        have tl := textL_len l
        have lk := look_cols (txO (textL l)) (colO d g)
        have fc := find_cols (txO (textL l)) (colO d g)
        unfold inferD
        simp (config := { maxSteps := 1000000 }) (disch := ((try simp only [awL]); omega)) only [QR, QS, QT, QU, QV, QW, QX, QY, QZ, Q0, Q1, Q2, MP_c, MP_n, ↓awU, awV, awF, Qa, Qb, Qc, Qd, forall_const, ↓reduceIte, ↓reduceDIte, ↓Qe, Qf, Qg, Qh, Qi, Qj, Qk, Ql, Qm, Qn, Qo, Qp, Qq, Qr, Qs, implies_true, Qt, Qu, Qv, Qw, Qx, Qy, Qz, QA, QB, QC, QD, QE, QF, QG, QH, QI, QJ, QK, QL, QM, QN, QO, QP, QQ]
        refine CallC.of (ftext_spec hI l false (by omega)) (by rfl) ?_
        rw [textD_eq]
        generalize (textL l).isSome = bb
        by_cases hx : txO (textL l) ∈ (colO d g).map Opt.txt
        · rw [if_pos hx] at hst
          have w1 := wdOf_pos (fun o ho => (ok1 o ho).1) hx
          generalize txO (textL l) = x at *
          generalize wdOf x (colO d g) = w at *
          simp (config := { maxSteps := 1000000 }) (disch := ((try simp only [awL]); omega)) only [QR, QS, QT, QU, QV, QW, QX, QY, QZ, Q0, Q1, Q2, MP_c, MP_n, kc, lk, ↓awU, awV, awF, Qa, Qb, Qc, Qd, forall_const, ↓reduceIte, ↓reduceDIte, ↓Qe, Qf, Qg, Qh, Qi, Qj, Qk, Ql, Qm, Qn, Qo, Qp, Qq, Qr, Qs, implies_true, Qt, Qu, Qv, Qw, Qx, Qy, Qz, QA, QB, QC, QD, QE, QF, QG, QH, QI, QJ, QK, QL, QM, QN, QO, QP, QQ]
          exact ⟨g + 1, h, by simp only; omega, ⟨[some 0, some 1, some 2], rfl, by simp, by simp [setsA, keepA, SWeak, AWeak, hst], by simp [HWeak, BWeak, SWeak, AWeak, hst]⟩⟩
        · rw [if_neg hx] at hst
          have w0 : wdOf (txO (textL l)) (colO d g) = 0 := by
            rcases fc with ⟨_, b, _⟩ | ⟨_, _, b⟩
            · exact b
            · exact absurd b hx
          rw [w0] at lk
          have up := upd_cols hx (mkO (linesL d) l) rfl
          rw [show (mkO (linesL d) l).wd = (natsOf l).length from nl.symm] at up
          have mt : (mkO (linesL d) l).txt = txO (textL l) := rfl
          have mf : (mkO (linesL d) l).fr = forN (natsOf l) (linesL d) := rfl
          have ma : (mkO (linesL d) l).ag = agN (natsOf l) (linesL d) := rfl
          generalize hmk : mkO (linesL d) l = mk at *
          generalize hxx : txO (textL l) = x at *
          clear fc hxx
          have hlines : (linesL d).length ≤ 1048576 := by omega
          generalize linesL d = ls at *
          have sl := @strs_length ls
          rw [show IsF l false = Ns (natsOf l) false by unfold IsF Ns; rw [nats_of q4, nl]]
          simp (config := { maxSteps := 1000000 }) (disch := ((try simp only [awL]); omega)) only [QR, QS, QT, QU, QV, QW, QX, QY, QZ, Q0, Q1, Q2, MP_c, MP_n, kc, lk, up, sl, ↓awU, awV, awF, Qa, Qb, Qc, Qd, forall_const, ↓reduceIte, ↓reduceDIte, ↓Qe, Qf, Qg, Qh, Qi, Qj, Qk, Ql, Qm, Qn, Qo, Qp, Qq, Qr, Qs, implies_true, Qt, Qu, Qv, Qw, Qx, Qy, Qz, QA, QB, QC, QD, QE, QF, QG, QH, QI, QJ, QK, QL, QM, QN, QO, QP, QQ]
          generalize natsOf l = ly at *
          refine LoopC.fx 211106232535289 (α := Nat) (β := Unit) (fun i => ls.length - i) (fun i => [(48, .d (.int .i64 i))]) (fun i => [.map (cols (colO d g ++ [mk])), .box [.mp 0], .row false (optC (colO d g)), .box [.d (S x), .d (.int .i64 (forN ly (ls.take i))), .d (.int .i64 (agN ly (ls.take i)))]])
            (fun i => i ≤ ls.length) 2169 (fun _ => []) (fun _ => [.map (cols (colO d g ++ [mk])), .box [.mp 0], .row false (optC (colO d g)), .box [.d (S x), .d (.int .i64 (forN ly ls)), .d (.int .i64 (agN ly ls))]]) (fun _ => True) 0 (Nat.zero_le _) ?_ ?_ ?_
          · exact ⟨[some 0, some 1, some 2, some 3], rfl, by simp, by simp [setsA, keepA, SWeak, AWeak], by simp [HWeak, BWeak, SWeak, AWeak, forN, agN]⟩
          · intro i hi2
            simp only [awK, Nat.reduceMod, Nat.reduceDiv, reduceIte]
            rcases Nat.lt_or_ge i ls.length with h4 | h4
            · have gs := strs_getD h4
              have hgl : (ls.getD i []).length ≤ 1000000000 := by have := j2 _ (memD (d := []) h4); omega
              have f1 : forN ly (ls.take (i + 1)) = forN ly (ls.take i) + (if cleanF ly (ls.getD i []) = true then 1 else 0) := filt_step h4
              have f2 : agN ly (ls.take (i + 1)) = agN ly (ls.take i) + (if (!cleanF ly (ls.getD i [])) = true then 1 else 0) := filt_step (p := fun l => !cleanF ly l) h4
              have b1 : forN ly (ls.take i) ≤ i := by have := List.length_filter_le (cleanF ly) (ls.take i); unfold forN; rw [List.length_take] at this; omega
              have b2 : agN ly (ls.take i) ≤ i := by have := List.length_filter_le (fun l => !cleanF ly l) (ls.take i); unfold agN; rw [List.length_take] at this; omega
              unfold cleanF at f1 f2
              generalize ls.getD i [] = line at *
              simp (config := { maxSteps := 1000000 }) (disch := ((try simp only [awL]); omega)) only [QR, QS, QT, QU, QV, QW, QX, QY, QZ, Q0, Q1, Q2, MP_n, sl, gs, ↓awU, awV, awF, Qa, Qb, Qc, Qd, forall_const, ↓reduceIte, ↓reduceDIte, ↓Qe, Qf, Qg, Qh, Qi, Qj, Qk, Ql, Qm, Qn, Qo, Qp, Qq, Qr, Qs, implies_true, Qt, Qu, Qv, Qw, Qx, Qy, Qz, QA, QB, QC, QD, QE, QF, QG, QH, QI, QJ, QK, QL, QM, QN, QO, QP, QQ]
              refine CallC.by (fields_spec ly false line hgl) (by rfl) (by rfl) (by simp) ?_
              simp (config := { maxSteps := 1000000 }) (disch := ((try simp only [awL]); omega)) only [QR, QS, QT, QU, QV, QW, QX, QY, QZ, Q0, Q1, Q2, MP_n, ↓awU, awV, awF, Qa, Qb, Qc, Qd, forall_const, ↓reduceIte, ↓reduceDIte, ↓Qe, Qf, Qg, Qh, Qi, Qj, Qk, Ql, Qm, Qn, Qo, Qp, Qq, Qr, Qs, implies_true, Qt, Qu, Qv, Qw, Qx, Qy, Qz, QA, QB, QC, QD, QE, QF, QG, QH, QI, QJ, QK, QL, QM, QN, QO, QP, QQ]
              refine CallC.by (collect_spec ly false line q3 hgl) (by rfl) (by rfl) (by simp) ?_
              simp (config := { maxSteps := 1000000 }) (disch := ((try simp only [awL]); omega)) only [QR, QS, QT, QU, QV, QW, QX, QY, QZ, Q0, Q1, Q2, MP_n, ↓awU, awV, awF, Qa, Qb, Qc, Qd, forall_const, ↓reduceIte, ↓reduceDIte, ↓Qe, Qf, Qg, Qh, Qi, Qj, Qk, Ql, Qm, Qn, Qo, Qp, Qq, Qr, Qs, implies_true, Qt, Qu, Qv, Qw, Qx, Qy, Qz, QA, QB, QC, QD, QE, QF, QG, QH, QI, QJ, QK, QL, QM, QN, QO, QP, QQ]
              have hn := fldsL_len ly line
              generalize fldsL ly line = row at *
              have rn := @strs_length row
              have cu : cut (strs row) 0 ly.length = strs row := cut_all (by rw [rn, hn])
              refine CallC.frozenE (containsL_spec row false [] (by rw [hn]; have := q3.1; omega)) (by rw [cu, ← hn]) ?_
              generalize forN ly (ls.take i) = n1 at *
              generalize agN ly (ls.take i) = n2 at *
              by_cases hc : [] ∈ row
              · rw [decide_eq_true hc]
                have e1 : decide ([] ∉ row) = false := decide_eq_false (by simpa using hc)
                rw [e1] at f1 f2
                simp only [Bool.false_eq_true, if_false, Bool.not_false, if_true, Nat.add_zero] at f1 f2
                simp (config := { maxSteps := 1000000 }) (disch := ((try simp only [awL]); omega)) only [QR, QS, QT, QU, QV, QW, QX, QY, QZ, Q0, Q1, Q2, MP_n, ↓awU, awV, awF, Qa, Qb, Qc, Qd, forall_const, ↓reduceIte, ↓reduceDIte, ↓Qe, Qf, Qg, Qh, Qi, Qj, Qk, Ql, Qm, Qn, Qo, Qp, Qq, Qr, Qs, implies_true, Qt, Qu, Qv, Qw, Qx, Qy, Qz, QA, QB, QC, QD, QE, QF, QG, QH, QI, QJ, QK, QL, QM, QN, QO, QP, QQ]
                exact ⟨i + 1, h4, by simp only; omega, ⟨[some 0, some 1, some 2, some 3], rfl, by simp, by simp [setsA, keepA, SWeak, AWeak], by simp [HWeak, BWeak, SWeak, AWeak, f1, f2]⟩⟩
              · rw [decide_eq_false hc]
                have e1 : decide ([] ∉ row) = true := decide_eq_true hc
                rw [e1] at f1 f2
                simp only [Bool.false_eq_true, if_false, Bool.not_true, if_true, Nat.add_zero] at f1 f2
                simp (config := { maxSteps := 1000000 }) (disch := ((try simp only [awL]); omega)) only [QR, QS, QT, QU, QV, QW, QX, QY, QZ, Q0, Q1, Q2, MP_n, ↓awU, awV, awF, Qa, Qb, Qc, Qd, forall_const, ↓reduceIte, ↓reduceDIte, ↓Qe, Qf, Qg, Qh, Qi, Qj, Qk, Ql, Qm, Qn, Qo, Qp, Qq, Qr, Qs, implies_true, Qt, Qu, Qv, Qw, Qx, Qy, Qz, QA, QB, QC, QD, QE, QF, QG, QH, QI, QJ, QK, QL, QM, QN, QO, QP, QQ]
                exact ⟨i + 1, h4, by simp only; omega, ⟨[some 0, some 1, some 2, some 3], rfl, by simp, by simp [setsA, keepA, SWeak, AWeak], by simp [HWeak, BWeak, SWeak, AWeak, f1, f2]⟩⟩
            · rw [List.take_of_length_le h4]
              simp (config := { maxSteps := 1000000 }) (disch := ((try simp only [awL]); omega)) only [QR, QS, QT, QU, QV, QW, QX, QY, QZ, Q0, Q1, Q2, MP_n, sl, ↓awU, awV, awF, Qa, Qb, Qc, Qd, forall_const, ↓reduceIte, ↓reduceDIte, ↓Qe, Qf, Qg, Qh, Qi, Qj, Qk, Ql, Qm, Qn, Qo, Qp, Qq, Qr, Qs, implies_true, Qt, Qu, Qv, Qw, Qx, Qy, Qz, QA, QB, QC, QD, QE, QF, QG, QH, QI, QJ, QK, QL, QM, QN, QO, QP, QQ]
              exact ⟨(), trivial, ⟨[some 0, some 1, some 2, some 3], rfl, by simp, by simp [setsA, keepA, SWeak, AWeak], by simp [HWeak, BWeak, SWeak, AWeak]⟩⟩
          · rintro ⟨⟩ -
            have pu := optC_push (colO d g) mk
            have ec : mk.cells = [S x, D.int .i64 (forN ly ls), D.int .i64 (agN ly ls)] := by simp only [Opt.cells, mt, mf, ma]
            rw [ec] at pu
            have cu3 : cut [D.str (bs x), D.int .i64 (forN ly ls), D.int .i64 (agN ly ls)] 0 3 = [D.str (bs x), D.int .i64 (forN ly ls), D.int .i64 (agN ly ls)] := rfl
            simp only [awK, Nat.reduceMod, Nat.reduceDiv, reduceIte]
            simp (config := { maxSteps := 1000000 }) (disch := ((try simp only [awL]); omega)) only [QR, QS, QT, QU, QV, QW, QX, QY, QZ, Q0, Q1, Q2, MP_n, ol, cu3, pu, ↓awU, awV, awF, Qa, Qb, Qc, Qd, forall_const, ↓reduceIte, ↓reduceDIte, ↓Qe, Qf, Qg, Qh, Qi, Qj, Qk, Ql, Qm, Qn, Qo, Qp, Qq, Qr, Qs, implies_true, Qt, Qu, Qv, Qw, Qx, Qy, Qz, QA, QB, QC, QD, QE, QF, QG, QH, QI, QJ, QK, QL, QM, QN, QO, QP, QQ]
            exact ⟨g + 1, h, by simp only; omega, ⟨[some 0, some 1, some 5], rfl, by simp, by simp [setsA, keepA, SWeak, AWeak, hst], by simp [HWeak, BWeak, SWeak, AWeak, hst]⟩⟩
    · obtain rfl : g = 3 := by omega
      simp (config := { maxSteps := 1000000 }) (disch := ((try simp only [awL]); omega)) only [QR, QS, QT, QU, QV, QW, QX, QY, QZ, Q0, Q1, Q2, MP_n, ↓awU, awV, awF, Qa, Qb, Qc, Qd, forall_const, ↓reduceIte, ↓reduceDIte, ↓Qe, Qf, Qg, Qh, Qi, Qj, Qk, Ql, Qm, Qn, Qo, Qp, Qq, Qr, Qs, implies_true, Qt, Qu, Qv, Qw, Qx, Qy, Qz, QA, QB, QC, QD, QE, QF, QG, QH, QI, QJ, QK, QL, QM, QN, QO, QP, QQ]
      exact ⟨(), trivial, ⟨[some 0, some 1, some 2], rfl, by simp, by simp [setsA, keepA, SWeak, AWeak], by simp [HWeak, BWeak, SWeak, AWeak]⟩⟩
  · rintro ⟨⟩ -
    obtain ⟨⟨ok1, ok2⟩, ok3⟩ := colO_ok d 3 (Nat.le_refl _)
    have sp := sortFunc_spec (G := G) (colO d 3) (cols (colO d 3)) (by omega) (keys_cols _) (fun o ho => by rw [look_cols, (ok1 o ho).2])
    have sl2 := sortO_len (colO d 3)
    have ol := optC_length (colO d 3)
    simp only [awK, Nat.reduceMod, Nat.reduceDiv, reduceIte]
    simp (config := { maxSteps := 1000000 }) (disch := ((try simp only [awL]); omega)) only [QR, QS, QT, QU, QV, QW, QX, QY, QZ, Q0, Q1, Q2, MP_c, MP_n, ↓awU, awV, awF, Qa, Qb, Qc, Qd, forall_const, ↓reduceIte, ↓reduceDIte, ↓Qe, Qf, Qg, Qh, Qi, Qj, Qk, Ql, Qm, Qn, Qo, Qp, Qq, Qr, Qs, implies_true, Qt, Qu, Qv, Qw, Qx, Qy, Qz, QA, QB, QC, QD, QE, QF, QG, QH, QI, QJ, QK, QL, QM, QN, QO, QP, QQ]
    refine CallC.by sp (by first | rfl | simp) (by rfl) (by simp) ?_
    simp (config := { maxSteps := 1000000 }) (disch := ((try simp only [awL]); omega)) only [QR, QS, QT, QU, QV, QW, QX, QY, QZ, Q0, Q1, Q2, MP_c, MP_n, ↓awU, awV, awF, Qa, Qb, Qc, Qd, forall_const, ↓reduceIte, ↓reduceDIte, ↓Qe, Qf, Qg, Qh, Qi, Qj, Qk, Ql, Qm, Qn, Qo, Qp, Qq, Qr, Qs, implies_true, Qt, Qu, Qv, Qw, Qx, Qy, Qz, QA, QB, QC, QD, QE, QF, QG, QH, QI, QJ, QK, QL, QM, QN, QO, QP, QQ]
    rw [show optsL d = sortO (colO d 3) from rfl, sl2, cut_all (by rw [optC_length, sl2]; omega)]
end Go.Proofs.YtacepalmphbnfaaGreatDoor

namespace Go.Proofs.YtacepalmphbnfaaGreatDoor
open Go Go.Proofs Go.Abs
variable {G : Globals}
/-! The options of a file: the reference's Options. -/
theorem sortO_mem2 : ∀ {l : List Opt} {x : Opt}, x ∈ l → x ∈ sortO l := by
  have ins : ∀ (o x : Opt) (s : List Opt), (x = o ∨ x ∈ s) → x ∈ insO o s := by
    intro o x s h
    unfold insO
    rcases h with rfl | h
    · exact List.mem_append.2 (.inr (by simp))
    · rw [← List.take_append_drop (posO o s s.length) s] at h
      rcases List.mem_append.1 h with h | h
      · exact List.mem_append.2 (.inl h)
      · exact List.mem_append.2 (.inr (by simp [h]))
  have key : ∀ (l s : List Opt) (x : Opt), (x ∈ s ∨ x ∈ l) → x ∈ l.foldl (fun s o => insO o s) s := by
    intro l
    induction l with
    | nil => intro s x h; simpa using h
    | cons o l ih =>
      intro s x h
      rw [List.foldl_cons]
      refine ih _ _ ?_
      rcases h with h | h
      · exact .inl (ins _ _ _ (.inr h))
      · rcases List.mem_cons.1 h with rfl | h
        · exact .inl (ins _ _ _ (.inl rfl))
        · exact .inr h
  intro l x h
  exact key l [] x (.inr h)
end Go.Proofs.YtacepalmphbnfaaGreatDoor

namespace Go.Proofs.YtacepalmphbnfaaGreatDoor
open Go Go.Proofs Go.Abs
variable {G : Globals}
/-! The law FixedInfers. -/
theorem optsL_len (d : List UInt8) : (optsL d).length ≤ 3 := by
  rw [optsL, sortO_len]; exact (colO_ok d 3 (Nat.le_refl _)).2
end Go.Proofs.YtacepalmphbnfaaGreatDoor

namespace Go.Proofs.YtacepalmphbnfaaGreatDoor
open Go Go.Proofs Go.Abs
/-! FixedFinds, the plain part: what was written with gaps of two places at least is found again. -/
/-- No ink at place i of the line l. -/
def BlankAt (R : List Nat) (i : Nat) : Prop := R[i]? = none ∨ R[i]? = some 32
instance (R : List Nat) (i : Nat) : Decidable (BlankAt R i) := by unfold BlankAt; exact inferInstance
theorem stepB_get {o : List Bool} {k r : Nat} (h : k ≤ o.length) (i : Nat) : (stepB o k r).getD i true = if i = k then (o.getD k true && decide (r = 32)) else o.getD i true := by
  unfold stepB
  by_cases hk : k = o.length
  · subst hk
    simp only [if_true]
    simp only [List.getD_eq_getElem?_getD, List.getElem?_set, List.length_append, List.length_singleton]
    by_cases hi : i = o.length
    · subst hi; simp
    · rw [if_neg (fun e => hi e.symm), if_neg hi]
      rcases Nat.lt_or_ge i o.length with h2 | h2
      · rw [List.getElem?_append_left h2]
      · rw [List.getElem?_eq_none (by rw [List.length_append, List.length_singleton]; omega), List.getElem?_eq_none h2]
  · rw [if_neg hk]
    have hk2 : k < o.length := by omega
    simp only [List.getD_eq_getElem?_getD, List.getElem?_set]
    by_cases hi : i = k
    · subst hi; simp [hk2]
    · rw [if_neg (fun e => hi e.symm), if_neg hi]
theorem mrgR_get : ∀ (R : List Nat) (o : List Bool) (k : Nat), k ≤ o.length → ∀ i, (mrgR o k R).getD i true = (o.getD i true && (decide (i < k) || decide (BlankAt R (i - k))))
  | [], o, k, _, i => by simp [mrgR, BlankAt]
  | r :: R, o, k, h, i => by
    rw [mrgR, mrgR_get R _ _ (stepB_len h).1, stepB_get h]
    rcases Nat.lt_trichotomy i k with h1 | h1 | h1
    · rw [if_neg (by omega), decide_eq_true (show i < k + 1 by omega), decide_eq_true h1]; simp
    · subst h1
      rw [if_pos rfl, decide_eq_true (show i < i + 1 by omega), decide_eq_false (Nat.lt_irrefl _), Nat.sub_self]
      simp [BlankAt]
    · rw [if_neg (by omega), decide_eq_false (show ¬ i < k + 1 by omega), decide_eq_false (show ¬ i < k by omega), Bool.false_or, Bool.false_or]
      have e : i - k = (i - (k + 1)) + 1 := by omega
      have q : BlankAt R (i - (k + 1)) ↔ BlankAt (r :: R) (i - k) := by unfold BlankAt; rw [e, List.getElem?_cons_succ]
      rw [decide_eq_decide.2 q]
theorem blanks_get : ∀ (ls : List (List UInt8)) (o : List Bool) (i : Nat), (ls.foldl (fun o l => mrgF l 0 0 o) o).getD i true = (o.getD i true && ls.all fun l => decide (BlankAt (rnF l 0) i))
  | [], o, i => by simp
  | l :: ls, o, i => by
    rw [List.foldl_cons, blanks_get ls, mrgF_runes _ l 0 0 o rfl, mrgR_get _ _ _ (Nat.zero_le _), List.all_cons, Nat.sub_zero, decide_eq_false (Nat.not_lt_zero _), Bool.false_or, Bool.and_assoc]
theorem blanksL_get (ls : List (List UInt8)) (i : Nat) : (blanksL ls).getD i true = ls.all fun l => decide (BlankAt (rnF l 0) i) := by
  unfold blanksL
  rw [blanks_get]; simp
theorem getD_tf {bl : List Bool} {i : Nat} (h : bl.getD i true = false) : i < bl.length ∧ bl.getD i false = false := by
  rcases Nat.lt_or_ge i bl.length with hi | hi
  · refine ⟨hi, ?_⟩
    rw [List.getD_eq_getElem?_getD, List.getElem?_eq_getElem hi] at h ⊢
    exact h
  · rw [List.getD_eq_getElem?_getD, List.getElem?_eq_none hi] at h; cases h
theorem scan_ink {bl : List Bool} {gap : Int} : ∀ (m i : Nat), (∀ j, j < m → bl.getD (i + j) true = false) → (0 < gap) → scanF bl gap i 0 false = scanF bl gap (i + m) 0 false
  | 0, i, _, _ => rfl
  | m + 1, i, h, hg => by
    obtain ⟨h1, h2⟩ := getD_tf (h 0 (by omega))
    rw [Nat.add_zero] at h1 h2
    rw [scanF_ink h1 h2, if_neg (by omega), List.nil_append, scan_ink m (i + 1) (fun j hj => by have := h (j + 1) (by omega); rw [show i + (j + 1) = i + 1 + j by omega] at this; exact this) hg, show i + 1 + m = i + (m + 1) by omega]
theorem scan_blank {bl : List Bool} {gap : Int} : ∀ (m i run : Nat) (lead : Bool), (∀ j, j < m → bl.getD (i + j) true = true) → scanF bl gap i run lead = scanF bl gap (i + m) (run + m) lead
  | 0, i, run, lead, _ => rfl
  | m + 1, i, run, lead, h => by
    rcases Nat.lt_or_ge i bl.length with hi | hi
    · have h2 : bl.getD i false = true := by
        have := h 0 (by omega)
        rw [Nat.add_zero, List.getD_eq_getElem?_getD, List.getElem?_eq_getElem hi] at this
        rw [List.getD_eq_getElem?_getD, List.getElem?_eq_getElem hi]; exact this
      rw [scanF_blank hi h2, scan_blank m (i + 1) (run + 1) lead (fun j hj => by have := h (j + 1) (by omega); rw [show i + (j + 1) = i + 1 + j by omega] at this; exact this), show i + 1 + m = i + (m + 1) by omega, show run + 1 + m = run + (m + 1) by omega]
    · rw [scanF_end (by omega), scanF_end (by omega)]
/-- Columns of ink at the places of ly, the c-th of width M c, two blanks at least between. -/
structure Cols (bl : List Bool) (ly : List Nat) (M : Nat → Nat) : Prop where
  ink : ∀ c, c < ly.length → ∀ d, d < M c → bl.getD (ly.getD c 0 + d) true = false
  gap : ∀ c, c < ly.length → ∀ j, ly.getD c 0 + M c ≤ j → (c + 1 < ly.length → j < ly.getD (c + 1) 0) → bl.getD j true = true
  wide : ∀ c, c < ly.length → 1 ≤ M c
  far : ∀ c, c + 1 < ly.length → ly.getD c 0 + M c + 2 ≤ ly.getD (c + 1) 0
theorem dropI {l : List Nat} {i : Nat} (h : i < l.length) : asI (l.drop i) = (l.getD i 0 : Int) :: asI (l.drop (i + 1)) := by rw [dropN h]; rfl
theorem scan_cols {bl : List Bool} {ly : List Nat} {M : Nat → Nat} (h : Cols bl ly M) {gap : Int} (h1 : 1 ≤ gap) (h2 : gap ≤ 2) : ∀ (n c : Nat), ly.length - c = n → c < ly.length → scanF bl gap (ly.getD c 0 + M c) 0 false = asI (ly.drop (c + 1))
  | 0, c, hn, hc => by omega
  | n + 1, c, hn, hc => by
    rcases Nat.lt_or_ge (c + 1) ly.length with h3 | h3
    · have f := h.far c h3
      have w := h.wide (c + 1) h3
      have ih := scan_cols h h1 h2 n (c + 1) (by omega) h3
      obtain ⟨m, hm⟩ : ∃ m, ly.getD (c + 1) 0 = ly.getD c 0 + M c + m := ⟨ly.getD (c + 1) 0 - (ly.getD c 0 + M c), by omega⟩
      rw [scan_blank m _ 0 false (fun j hj => h.gap c hc _ (by omega) (fun _ => by omega)), ← hm, Nat.zero_add, dropI h3]
      obtain ⟨a, b⟩ := getD_tf (h.ink (c + 1) h3 0 (by omega))
      rw [Nat.add_zero] at a b
      rw [scanF_ink a b, if_pos ⟨by omega, rfl⟩, List.singleton_append]
      congr 1
      rw [← ih]
      have := scan_ink (bl := bl) (gap := gap) (M (c + 1) - 1) (ly.getD (c + 1) 0 + 1) (fun j hj => by
        have := h.ink (c + 1) h3 (j + 1) (by omega)
        rw [show ly.getD (c + 1) 0 + (j + 1) = ly.getD (c + 1) 0 + 1 + j by omega] at this; exact this) (by omega)
      rw [this]; congr 1; omega
    · rw [List.drop_of_length_le h3]
      have := scan_blank (bl := bl) (gap := gap) (bl.length) (ly.getD c 0 + M c) 0 false (fun j hj => h.gap c hc _ (by omega) (fun q => by omega))
      rw [this, scanF_end (by omega)]; rfl
theorem scan_all {bl : List Bool} {ly : List Nat} {M : Nat → Nat} (h : Cols bl ly M) (h0 : 0 < ly.length) (hz : ly.getD 0 0 = 0) {gap : Int} (h1 : 1 ≤ gap) (h2 : gap ≤ 2) : 0 :: scanF bl gap 0 0 true = asI ly := by
  have w := h.wide 0 h0
  obtain ⟨a, b⟩ := getD_tf (h.ink 0 h0 0 (by omega))
  rw [hz, Nat.add_zero] at a b
  have e := scan_cols h h1 h2 _ 0 rfl h0
  rw [scanF_ink a b, if_neg (by simp), List.nil_append]
  have := scan_ink (bl := bl) (gap := gap) (M 0 - 1) 1 (fun j hj => by
    have := h.ink 0 h0 (j + 1) (by omega)
    rw [hz, show 0 + (j + 1) = 1 + j by omega] at this; exact this) (by omega)
  rw [show 0 + 1 = 1 from rfl, this, show 1 + (M 0 - 1) = ly.getD 0 0 + M 0 by omega, e]
  have d := dropI h0
  rw [hz, List.drop_zero] at d
  rw [d]; rfl
theorem infer_txt {ly : List Nat} {g : List Row} (hl : LayI ly) (hg : ∀ r ∈ g, GoodR ly r) (hn : g.length ≤ 100) (h0 : g ≠ []) (M : Nat → Nat)
    (hink : ∀ r ∈ g, ∀ s ∈ r, ∀ x ∈ rnF s 0, x ≠ 32) (hM1 : ∀ r ∈ g, ∀ c, c < ly.length → rcL (r.getD c []) ≤ M c) (hM2 : ∀ c, c < ly.length → ∀ d, d < M c → ∃ r ∈ g, d < rcL (r.getD c []))
    (hM3 : ∀ c, c < ly.length → 1 ≤ M c) (hM4 : ∀ c, c + 1 < ly.length → ly.getD c 0 + M c + 2 ≤ ly.getD (c + 1) 0) {gap : Int} (h1 : 1 ≤ gap) (h2 : gap ≤ 2) :
    inferL (txtF ly g) gap = some (asI ly) := by
  have ps : ∀ r ∈ g, (∀ k, k < ly.length → (∀ q, q < rcL (r.getD k []) → (wrR ly 0 0 r)[ly.getD k 0 + q]? = (rnF (r.getD k []) 0)[q]?) ∧
      (∀ q, ly.getD k 0 + rcL (r.getD k []) ≤ q → (k + 1 < ly.length → q < ly.getD (k + 1) 0) → BlankAt (wrR ly 0 0 r) q)) := by
    intro r hr k hk
    have hgr := hg r hr
    obtain ⟨a, _⟩ := wr_pos ly hl.mono r 0 0 [] rfl (by rw [hgr.len]; omega) (fun k hk h => by rw [Nat.zero_add] at h ⊢; exact hgr.wid k hk h) (fun _ => Nat.zero_le _)
    have := a k (by rw [hgr.len]; exact hk)
    rw [Nat.zero_add, List.nil_append] at this
    exact this
  have cols : Cols (blanksL (linesL (txtF ly g))) ly M := by
    rw [lines_txt g hg]
    refine ⟨fun c hc d hd => ?_, fun c hc j h3 h4 => ?_, hM3, hM4⟩
    · rw [blanksL_get]
      obtain ⟨r, hr, hd2⟩ := hM2 c hc d hd
      have hgr := hg r hr
      have e := (rn_wr ly r 0 0 fun s hs => (hgr.val s hs).1).1
      refine List.all_eq_false.2 ⟨_, List.mem_map_of_mem hr, ?_⟩
      rw [e]
      have h5 := (ps r hr c hc).1 d hd2
      have h6 : d < (rnF (r.getD c []) 0).length := by rw [← rcL_eq]; exact hd2
      rw [List.getElem?_eq_getElem h6] at h5
      have h7 := hink r hr _ (memD (d := []) (show c < r.length by rw [hgr.len]; exact hc)) _ (List.getElem_mem h6)
      simp only [BlankAt, h5, decide_eq_true_eq]
      rintro (h | h)
      · cases h
      · exact h7 (Option.some.inj h)
    · rw [blanksL_get]
      refine List.all_eq_true.2 fun l hl2 => ?_
      obtain ⟨r, hr, rfl⟩ := List.mem_map.1 hl2
      have hgr := hg r hr
      have e := (rn_wr ly r 0 0 fun s hs => (hgr.val s hs).1).1
      rw [e]
      have := hM1 r hr c hc
      exact decide_eq_true ((ps r hr c hc).2 j (by omega) h4)
  have el : layL (txtF ly g) gap = asI ly := scan_all cols hl.pos hl.2.1 h1 h2
  have tl := (parse_txt hl hg hn).2
  unfold inferL
  rw [if_neg, if_neg, el, if_pos hl.okLay]
  · rw [lines_txt g hg]
    intro h
    exact h0 (List.map_eq_nil_iff.1 h)
  · rw [valid_txt g hg]
    rintro (h | h | h)
    · cases h
    · omega
    · omega
/-! The first of the options. -/
theorem posO_spec (o : Opt) (s : List Opt) : ∀ j, posO o s j ≤ j ∧ (0 < posO o s j → bef o (s.getD (posO o s j - 1) noO) = false) ∧ (posO o s j < j → bef o (s.getD (posO o s j) noO) = true)
  | 0 => ⟨Nat.le_refl _, fun h => absurd h (Nat.lt_irrefl _), fun h => absurd h (Nat.not_lt_zero _)⟩
  | j + 1 => by
    obtain ⟨a, b, c⟩ := posO_spec o s j
    rw [posO]
    by_cases hb : bef o (s.getD j noO) = true
    · rw [if_pos hb]
      refine ⟨by omega, b, fun h => ?_⟩
      rcases Nat.lt_or_ge (posO o s j) j with h2 | h2
      · exact c h2
      · rw [show posO o s j = j by omega]; exact hb
    · rw [if_neg hb]
      exact ⟨Nat.le_refl _, fun _ => by rw [Nat.add_sub_cancel]; exact Bool.eq_false_iff.2 hb, fun h => absurd h (Nat.lt_irrefl _)⟩
theorem insO_head {o : Opt} {s : List Opt} (h : ∀ x ∈ s, x.fr ≤ (s.getD 0 noO).fr) : ∀ x ∈ insO o s, x.fr ≤ ((insO o s).getD 0 noO).fr := by
  obtain ⟨a, b, c⟩ := posO_spec o s s.length
  have hm : ∀ x ∈ insO o s, x = o ∨ x ∈ s := fun x hx => insO_mem hx
  have hd : (insO o s).getD 0 noO = if posO o s s.length = 0 then o else s.getD 0 noO := by
    unfold insO
    split
    · rename_i h0; rw [h0]; rfl
    · rename_i h0
      cases s with
      | nil => exact absurd (Nat.le_zero.1 a) h0
      | cons y t =>
        obtain ⟨q, hq⟩ : ∃ q, posO o (y :: t) (y :: t).length = q + 1 := ⟨_, (Nat.succ_pred h0).symm⟩
        rw [hq]; rfl
  rw [hd]
  intro x hx
  by_cases h0 : posO o s s.length = 0
  · rw [if_pos h0]
    rcases hm x hx with rfl | hx
    · exact Nat.le_refl _
    · have hp : 0 < s.length := List.length_pos_of_mem hx
      have h3 := c (by omega)
      rw [h0] at h3
      have h4 : (s.getD 0 noO).fr ≤ o.fr := by have := of_decide_eq_true h3; omega
      exact Nat.le_trans (h x hx) h4
  · rw [if_neg h0]
    rcases hm x hx with rfl | hx
    · have h3 := of_decide_eq_false (b (by omega))
      have h4 := h _ (memD (d := noO) (l := s) (i := posO x s s.length - 1) (by omega))
      omega
    · exact h x hx
theorem sortO_head (l : List Opt) : ∀ x ∈ sortO l, x.fr ≤ ((sortO l).getD 0 noO).fr := by
  have key : ∀ (l s : List Opt), (∀ x ∈ s, x.fr ≤ (s.getD 0 noO).fr) → ∀ x ∈ l.foldl (fun s o => insO o s) s, x.fr ≤ ((l.foldl (fun s o => insO o s) s).getD 0 noO).fr := by
    intro l
    induction l with
    | nil => intro s h; exact h
    | cons o l ih => intro s h; rw [List.foldl_cons]; exact ih _ (insO_head h)
  exact key l [] (by simp)
theorem for_ag (ly : List Nat) : ∀ ls : Row, forN ly ls + agN ly ls = ls.length
  | [] => rfl
  | l :: ls => by
    have ih := for_ag ly ls
    unfold forN agN at ih ⊢
    rw [List.filter_cons, List.filter_cons]
    cases cleanF ly l <;> simp <;> omega
theorem colO_mem (d : List UInt8) : ∀ g, ∀ o ∈ colO d g, o.fr + o.ag = (linesL d).length
  | 0, o, h => by cases h
  | g + 1, o, h => by
    have ih := colO_mem d g
    rw [colO] at h
    unfold addO at h
    split at h
    · exact ih o h
    · split at h
      · exact ih o h
      · rcases List.mem_append.1 h with h | h
        · exact ih o h
        · rw [List.mem_singleton] at h; subst h; exact for_ag _ _
theorem colO_up (d : List UInt8) (g : Nat) {o : Opt} (h : o ∈ colO d g) : o ∈ colO d (g + 1) := by
  rw [colO]
  unfold addO
  split
  · exact h
  · split
    · exact h
    · exact List.mem_append.2 (.inl h)
theorem opts_first {d : List UInt8} {l : List Int} (hi : inferL d 1 = some l) (hf : forN (natsOf l) (linesL d) = (linesL d).length) :
    optsL d ≠ [] ∧ ((optsL d).getD 0 noO).fr = (linesL d).length ∧ ((optsL d).getD 0 noO).ag = 0 := by
  have h1 : mkO (linesL d) l ∈ colO d 1 := by
    rw [colO]
    unfold addO
    rw [show (((0 + 1 : Nat)) : Int) = 1 from rfl, hi]
    simp [colO]
  have h3 : mkO (linesL d) l ∈ sortO (colO d 3) := sortO_mem2 (colO_up d 2 (colO_up d 1 h1))
  have hp : 0 < (optsL d).length := List.length_pos_of_mem h3
  have h4 := sortO_head (colO d 3) _ h3
  have h5 : (optsL d).getD 0 noO ∈ optsL d := memD (d := noO) hp
  have h6 := colO_mem d 3 _ (sortO_mem h5)
  have h7 : (mkO (linesL d) l).fr = forN (natsOf l) (linesL d) := rfl
  have h8 : (sortO (colO d 3)).getD 0 noO = (optsL d).getD 0 noO := rfl
  rw [h8, h7, hf] at h4
  exact ⟨List.ne_nil_of_length_pos hp, by omega, by omega⟩
end Go.Proofs.YtacepalmphbnfaaGreatDoor

namespace Go.Proofs.YtacepalmphbnfaaGreatDoor
open Go Go.Proofs Go.Abs
variable {G : Globals}
/-! The law FixedFinds. -/
def wordsF : List (List UInt8) := [[97, 110, 110], [55], [120, 45, 49], [50, 46, 53], [195, 169], [97, 98, 99, 100, 101, 102]]
theorem wordsF_ok : ∀ s ∈ wordsF, Lib.validD s = true ∧ s.length ≤ 6 ∧ Lib.trimB s 32 = s ∧ (∀ c ∈ s, 32 ≤ c.toNat) ∧ s ≠ [] ∧ 1 ≤ (rnF s 0).length ∧ (rnF s 0).length ≤ 6 ∧ ∀ x ∈ rnF s 0, x ≠ 32 := by
  decide +kernel
structure RowW (w : Nat) (r : Row) : Prop where
  len : r.length = w
  wd : ∀ s ∈ r, s ∈ wordsF
def colM (c : Nat) (g : List Row) : Nat := g.foldl (fun m r => max m (rcL (r.getD c []))) 0
theorem colM_take {c : Nat} {g : List Row} {i : Nat} (h : i < g.length) : colM c (g.take (i + 1)) = max (colM c (g.take i)) (rcL ((g.getD i []).getD c [])) := by
  rw [List.take_add_one, getD_some (d := []) h, colM, List.foldl_append]; rfl
theorem colM_all (c : Nat) (g : List Row) : (∀ r ∈ g, rcL (r.getD c []) ≤ colM c g) ∧ ∀ d, d < colM c g → ∃ r ∈ g, d < rcL (r.getD c []) := by
  have key : ∀ (g : List Row) (m : Nat), (m ≤ g.foldl (fun m r => max m (rcL (r.getD c []))) m ∧ ∀ r ∈ g, rcL (r.getD c []) ≤ g.foldl (fun m r => max m (rcL (r.getD c []))) m) ∧
      ∀ d, d < g.foldl (fun m r => max m (rcL (r.getD c []))) m → d < m ∨ ∃ r ∈ g, d < rcL (r.getD c []) := by
    intro g
    induction g with
    | nil => intro m; exact ⟨⟨Nat.le_refl _, fun r h => by cases h⟩, fun d h => .inl h⟩
    | cons r g ih =>
      intro m
      obtain ⟨⟨a, b⟩, e⟩ := ih (max m (rcL (r.getD c [])))
      rw [List.foldl_cons]
      refine ⟨⟨by omega, fun x hx => ?_⟩, fun d hd => ?_⟩
      · rcases List.mem_cons.1 hx with rfl | hx
        · omega
        · exact b x hx
      · rcases e d hd with h | ⟨x, hx, h⟩
        · rcases (by omega : d < m ∨ d < rcL (r.getD c [])) with h | h
          · exact .inl h
          · exact .inr ⟨r, by simp, h⟩
        · exact .inr ⟨x, by simp [hx], h⟩
  obtain ⟨⟨_, a⟩, b⟩ := key g 0
  exact ⟨a, fun d hd => (b d hd).resolve_left (Nat.not_lt_zero _)⟩
theorem RowW.cell {w : Nat} {r : Row} (h : RowW w r) {c : Nat} (hc : c < w) : r.getD c [] ∈ wordsF := h.wd _ (memD (d := []) (by rw [h.len]; exact hc))
theorem colM_le {w : Nat} {g : List Row} (h : ∀ r ∈ g, RowW w r) {c : Nat} (hc : c < w) : colM c g ≤ 6 := by
  rcases Nat.lt_or_ge 6 (colM c g) with h1 | h1
  · obtain ⟨r, hr, h2⟩ := (colM_all c g).2 6 h1
    have := (wordsF_ok _ ((h r hr).cell hc)).2.2.2.2.2.2.1
    rw [← rcL_eq] at this
    omega
  · exact h1
theorem colM_pos {w : Nat} {g : List Row} (h : ∀ r ∈ g, RowW w r) (h0 : g ≠ []) {c : Nat} (hc : c < w) : 1 ≤ colM c g := by
  cases g with
  | nil => exact absurd rfl h0
  | cons r g =>
    have a := (colM_all c (r :: g)).1 r (by simp)
    have := (wordsF_ok _ ((h r (by simp)).cell hc)).2.2.2.2.2.1
    rw [← rcL_eq] at this
    omega
/-- The layout's places fit the grid. -/
structure FitG (g : List Row) (l : List Nat) : Prop where
  lay : LayI l
  far : ∀ c, c + 1 < l.length → l.getD c 0 + colM c g + 2 ≤ l.getD (c + 1) 0
theorem FitG.step {g : List Row} {l : List Nat} (h : FitG g l) (hl : l.length < 4) {q : Nat} (hq : q < 3) (hm : colM (l.length - 1) g ≤ 6) : FitG g (l ++ [l.getD (l.length - 1) 0 + colM (l.length - 1) g + 2 + q]) := by
  have lp := h.lay.pos
  have e : l.getD (l.length - 1) 0 + colM (l.length - 1) g + 2 + q = l.getD (l.length - 1) 0 + 1 + (colM (l.length - 1) g + 1 + q) := by omega
  rw [e]
  refine ⟨h.lay.step hl (by omega), fun c hc => ?_⟩
  rw [List.length_append, List.length_singleton] at hc
  have old : ∀ x i, i < l.length → (l ++ [x]).getD i 0 = l.getD i 0 := fun x i hi => by
    rw [List.getD_eq_getElem?_getD, List.getElem?_append_left hi, ← List.getD_eq_getElem?_getD]
  rcases Nat.lt_or_ge (c + 1) l.length with h2 | h2
  · rw [old _ c (by omega), old _ (c + 1) h2]; exact h.far c h2
  · have e2 : c + 1 = l.length := by omega
    have new : (l ++ [l.getD (l.length - 1) 0 + 1 + (colM (l.length - 1) g + 1 + q)]).getD (c + 1) 0 = l.getD (l.length - 1) 0 + 1 + (colM (l.length - 1) g + 1 + q) := by
      rw [e2, List.getD_eq_getElem?_getD, List.getElem?_append_right (Nat.le_refl _), Nat.sub_self]; rfl
    rw [new, old _ c (by omega)]
    have : c = l.length - 1 := by omega
    rw [this]; omega
theorem fit_good {g : List Row} {l : List Nat} (h : FitG g l) (hg : ∀ r ∈ g, RowW l.length r) : ∀ r ∈ g, GoodR l r := by
  intro r hr
  have hw := hg r hr
  refine ⟨hw.len, fun s hs => ?_, fun k hk h1 => ?_⟩
  · obtain ⟨a, b, c, d, _⟩ := wordsF_ok s (hw.wd s hs)
    exact ⟨a, by omega, c, d⟩
  · have := h.far k h1
    have := (colM_all k g).1 r hr
    omega
/-- What is found again. -/
theorem found {g : List Row} {l : List Nat} (h : FitG g l) (hg : ∀ r ∈ g, RowW l.length r) (h0 : g ≠ []) (hn : g.length ≤ 5) :
    formF (asI l) g = (txtF l g, 0) ∧ (txtF l g).length ≤ 200000 ∧ inferL (txtF l g) 1 = some (asI l) ∧ inferL (txtF l g) 2 = some (asI l) ∧ parseF (asI l) (txtF l g) = (g, 0) ∧
    optsL (txtF l g) ≠ [] ∧ ((optsL (txtF l g)).getD 0 noO).fr = g.length ∧ ((optsL (txtF l g)).getD 0 noO).ag = 0 := by
  have gg := fit_good h hg
  obtain ⟨p1, p2⟩ := parse_txt h.lay gg (by omega)
  have hink : ∀ r ∈ g, ∀ s ∈ r, ∀ x ∈ rnF s 0, x ≠ 32 := fun r hr s hs => (wordsF_ok s ((hg r hr).wd s hs)).2.2.2.2.2.2.2
  have key : ∀ {gap : Int}, 1 ≤ gap → gap ≤ 2 → inferL (txtF l g) gap = some (asI l) := fun a b =>
    infer_txt h.lay gg (by omega) h0 (fun c => colM c g) hink (fun r hr c _ => (colM_all c g).1 r hr) (fun c _ => (colM_all c g).2) (fun c hc => colM_pos hg h0 hc) h.far a b
  have i1 := key (gap := 1) (by decide) (by decide)
  have ll : (linesL (txtF l g)).length = g.length := by rw [lines_txt g gg, List.length_map]
  have hf : forN (natsOf (asI l)) (linesL (txtF l g)) = (linesL (txtF l g)).length := by
    rw [natsOf_asI, forN, List.filter_eq_self.2]
    intro x hx
    rw [lines_txt g gg] at hx
    obtain ⟨r, hr, rfl⟩ := List.mem_map.1 hx
    rw [cleanF, flds_wr h.lay.mono h.lay.pos (gg r hr)]
    exact decide_eq_true fun q => (wordsF_ok [] ((hg r hr).wd [] q)).2.2.2.2.1 rfl
  obtain ⟨o1, o2, o3⟩ := opts_first i1 hf
  rw [ll] at o2
  exact ⟨form_txt h.lay gg (by omega), p2, i1, key (by decide) (by decide), p1, o1, o2, o3⟩
set_option maxHeartbeats 32000000 in
set_option maxRecDepth 100000 in
theorem finds_law (hT : HT G) (hI : HI G) (t : List Int) (ht : OkS t) (hl : t.length ≤ 9223372036854775807) :
    Ctr Tryz.prog G 4 [.d (.sl t.length false (ints .u8 t))] [] (.d (.bool true)) [] := by
  refine Ctr.pure (M := M0) hmix Tryz.func4 rfl go4 ?_
  have hmm := ht.take
  simp (config := { maxSteps := 1000000 }) (disch := ((try simp only [awL]); omega)) only [QR, QS, QT, QU, QV, QW, QX, QY, QZ, Q0, Q1, Q2, Tryz.f4, ↓awU, awV, awF, Qa, Qb, Qc, Qd, forall_const, ↓reduceIte, ↓reduceDIte, ↓Qe, Qf, Qg, Qh, Qi, Qj, Qk, Ql, Qm, Qn, Qo, Qp, Qq, Qr, Qs, implies_true, Qt, Qu, Qv, Qw, Qx, Qy, Qz, QA, QB, QC, QD, QE, QF, QG, QH, QI, QJ, QK, QL, QM, QN, QO, QP, QQ]
  refine CallC.pure (sane_spec hT hI) ?_
  simp (config := { maxSteps := 1000000 }) (disch := ((try simp only [awL]); omega)) only [QR, QS, QT, QU, QV, QW, QX, QY, QZ, Q0, Q1, Q2, ↓awU, awV, awF, Qa, Qb, Qc, Qd, forall_const, ↓reduceIte, ↓reduceDIte, ↓Qe, Qf, Qg, Qh, Qi, Qj, Qk, Ql, Qm, Qn, Qo, Qp, Qq, Qr, Qs, implies_true, Qt, Qu, Qv, Qw, Qx, Qy, Qz, QA, QB, QC, QD, QE, QF, QG, QH, QI, QJ, QK, QL, QM, QN, QO, QP, QQ]
  refine CallC.by (new_spec t hl) (by rfl) (by rfl) (Nat.zero_le _) ?_
  generalize t.take 300 = s at *
  simp (config := { maxSteps := 1000000 }) (disch := ((try simp only [awL]); omega)) only [QR, QS, QT, QU, QV, QW, QX, QY, QZ, Q0, Q1, Q2, ↓awU, awV, awF, Qa, Qb, Qc, Qd, forall_const, ↓reduceIte, ↓reduceDIte, ↓Qe, Qf, Qg, Qh, Qi, Qj, Qk, Ql, Qm, Qn, Qo, Qp, Qq, Qr, Qs, implies_true, Qt, Qu, Qv, Qw, Qx, Qy, Qz, QA, QB, QC, QD, QE, QF, QG, QH, QI, QJ, QK, QL, QM, QN, QO, QP, QQ]
  obtain ⟨w0, hw, hw2⟩ := pk_nat s 0 4 (by decide)
  obtain ⟨n0, hn0, hn2⟩ := pk_nat s 1 5 (by decide)
  refine CallC.by (pick_spec s 0 4 hmm (by decide) (by decide)) (by rfl) (by rfl) (Nat.le_refl _) ?_
  rw [hw]
  simp (config := { maxSteps := 1000000 }) (disch := ((try simp only [awL]); omega)) only [QR, QS, QT, QU, QV, QW, QX, QY, QZ, Q0, Q1, Q2, ↓awU, awV, awF, Qa, Qb, Qc, Qd, forall_const, ↓reduceIte, ↓reduceDIte, ↓Qe, Qf, Qg, Qh, Qi, Qj, Qk, Ql, Qm, Qn, Qo, Qp, Qq, Qr, Qs, implies_true, Qt, Qu, Qv, Qw, Qx, Qy, Qz, QA, QB, QC, QD, QE, QF, QG, QH, QI, QJ, QK, QL, QM, QN, QO, QP, QQ]
  refine CallC.by (pick_spec s 1 5 hmm (by decide) (by decide)) (by rfl) (by rfl) (Nat.le_refl _) ?_
  rw [hn0]
  simp (config := { maxSteps := 1000000 }) (disch := ((try simp only [awL]); omega)) only [QR, QS, QT, QU, QV, QW, QX, QY, QZ, Q0, Q1, Q2, ↓awU, awV, awF, Qa, Qb, Qc, Qd, forall_const, ↓reduceIte, ↓reduceDIte, ↓Qe, Qf, Qg, Qh, Qi, Qj, Qk, Ql, Qm, Qn, Qo, Qp, Qq, Qr, Qs, implies_true, Qt, Qu, Qv, Qw, Qx, Qy, Qz, QA, QB, QC, QD, QE, QF, QG, QH, QI, QJ, QK, QL, QM, QN, QO, QP, QQ]
  have e1 : (1 : Int) + (w0 : Int) = ((w0 + 1 : Nat) : Int) := by omega
  have e2 : (1 : Int) + (n0 : Int) = ((n0 + 1 : Nat) : Int) := by omega
  rw [e1, e2]
  obtain ⟨w, hww⟩ : ∃ w, w = w0 + 1 := ⟨_, rfl⟩
  obtain ⟨cnt, hcnt⟩ : ∃ c, c = n0 + 1 := ⟨_, rfl⟩
  rw [← hww, ← hcnt]
  have hdice : ABlk.box [AV.d (D.sl s.length false (ints .u8 s)), AV.d (D.int .i64 (min 2 s.length : Nat))] = DiceM s 2 := rfl
  refine LoopC.fr 56 (α := List Row × Nat × Nat) (fun x => x.2.1) (fun x => [(6, .d (.int .i64 x.2.1))]) (fun x => [DiceM s x.2.2, .box [.lsl 2 1 0 x.1.length], .row false (rowsD x.1)])
    (fun x => x.1.length + x.2.1 = cnt ∧ ∀ r ∈ x.1, RowW w r) ([], cnt, 2) ⟨by simp, by simp⟩ ?_ ?_
  · exact ⟨[some 0, some 1, none], rfl, by simp, by simp [setsA, keepA, SWeak, AWeak], by simp [HWeak, BWeak, SWeak, AWeak, rowsD]⟩
  · rintro ⟨acc, n, k⟩ ⟨h1, h2⟩
    simp only at h1 h2
    have al := @rowsD_length acc
    simp only [awK, Nat.reduceMod, Nat.reduceDiv, reduceIte]
    match n with
    | n + 1 =>
      simp (config := { maxSteps := 1000000 }) (disch := ((try simp only [awL]); omega)) only [QR, QS, QT, QU, QV, QW, QX, QY, QZ, Q0, Q1, Q2, ↓awU, awV, awF, Qa, Qb, Qc, Qd, forall_const, ↓reduceIte, ↓reduceDIte, ↓Qe, Qf, Qg, Qh, Qi, Qj, Qk, Ql, Qm, Qn, Qo, Qp, Qq, Qr, Qs, implies_true, Qt, Qu, Qv, Qw, Qx, Qy, Qz, QA, QB, QC, QD, QE, QF, QG, QH, QI, QJ, QK, QL, QM, QN, QO, QP, QQ]
      refine LoopC.fr 120 (α := Row × Nat) (fun x => w - x.1.length) (fun x => [(7, .lsl 3 1 0 x.1.length), (8, .d (.int .i64 x.1.length))]) (fun x => [DiceM s x.2, .box [.lsl 2 1 0 acc.length], .row false (rowsD acc), .row false (strs x.1)])
        (fun x => x.1.length ≤ w ∧ ∀ y ∈ x.1, y ∈ wordsF) ([], k) ⟨Nat.zero_le _, by simp⟩ ?_ ?_
      · exact ⟨[some 0, some 1, some 2, none], rfl, by simp, by simp [setsA, keepA, SWeak, AWeak], by simp [HWeak, BWeak, SWeak, AWeak, strs]⟩
      · rintro ⟨ro, k3⟩ ⟨j1, j2⟩
        simp only at j1 j2
        have sl := @strs_length ro
        simp only [awK, Nat.reduceMod, Nat.reduceDiv, reduceIte]
        rcases Nat.lt_or_ge ro.length w with h | h
        · obtain ⟨q, hq, hq2⟩ := pk_nat s k3 6 (by decide)
          simp (config := { maxSteps := 1000000 }) (disch := ((try simp only [awL]); omega)) only [QR, QS, QT, QU, QV, QW, QX, QY, QZ, Q0, Q1, Q2, ↓awU, awV, awF, Qa, Qb, Qc, Qd, forall_const, ↓reduceIte, ↓reduceDIte, ↓Qe, Qf, Qg, Qh, Qi, Qj, Qk, Ql, Qm, Qn, Qo, Qp, Qq, Qr, Qs, implies_true, Qt, Qu, Qv, Qw, Qx, Qy, Qz, QA, QB, QC, QD, QE, QF, QG, QH, QI, QJ, QK, QL, QM, QN, QO, QP, QQ]
          refine CallC.by (pick_spec s k3 6 hmm (by decide) (by decide)) (by rfl) (by rfl) (Nat.le_refl _) ?_
          rw [hq]
          have wl : (strs wordsF).length = 6 := rfl
          have gw := strs_getD (l := wordsF) (i := q) (by show q < 6; omega)
          have mw := memD (d := []) (l := wordsF) (i := q) (by show q < 6; omega)
          generalize wordsF.getD q [] = y at *
          rw [show [D.str { data := #[97, 110, 110] }, D.str { data := #[55] }, D.str { data := #[120, 45, 49] }, D.str { data := #[50, 46, 53] }, D.str { data := #[195, 169] }, D.str { data := #[97, 98, 99, 100, 101, 102] }] = strs wordsF from rfl]
          have wf : wordsF.length = 6 := rfl
          have sp := @strs_push ro y
          have tl : (ro ++ [y]).length = ro.length + 1 := by simp
          generalize hro : ro ++ [y] = ro2 at *
          have ym : ∀ z ∈ ro2, z ∈ wordsF := fun z hz => by
            rw [← hro] at hz
            rcases List.mem_append.1 hz with hz | hz
            · exact j2 z hz
            · rw [List.mem_singleton] at hz; rw [hz]; exact mw
          simp (config := { maxSteps := 1000000 }) (disch := ((try simp only [awL]); omega)) only [QR, QS, QT, QU, QV, QW, QX, QY, QZ, Q0, Q1, Q2, sl, sp, wl, wf, gw, ↓awU, awV, awF, Qa, Qb, Qc, Qd, forall_const, ↓reduceIte, ↓reduceDIte, ↓Qe, Qf, Qg, Qh, Qi, Qj, Qk, Ql, Qm, Qn, Qo, Qp, Qq, Qr, Qs, implies_true, Qt, Qu, Qv, Qw, Qx, Qy, Qz, QA, QB, QC, QD, QE, QF, QG, QH, QI, QJ, QK, QL, QM, QN, QO, QP, QQ]
          exact ⟨(ro2, k3 + 1), ⟨by simp only; omega, ym⟩, by simp only; omega, ⟨[some 0, some 1, some 2, some 6], rfl, by simp, by simp [setsA, keepA, SWeak, AWeak, tl], by simp [HWeak, BWeak, SWeak, AWeak]⟩⟩
        · have e : ro.length = w := by omega
          have cu : cut (strs ro) 0 ro.length = strs ro := cut_all sl.symm
          have sp := @rowsD_push acc ro
          have tl : (acc ++ [ro]).length = acc.length + 1 := by simp
          have hrw : ∀ r ∈ acc ++ [ro], RowW w r := fun r hr => by
            rcases List.mem_append.1 hr with hr | hr
            · exact h2 r hr
            · rw [List.mem_singleton] at hr; subst hr; exact ⟨e, j2⟩
          generalize hacc2 : acc ++ [ro] = acc2 at *
          simp (config := { maxSteps := 1000000 }) (disch := ((try simp only [awL]); omega)) only [QR, QS, QT, QU, QV, QW, QX, QY, QZ, Q0, Q1, Q2, cu, al, sl, sp, ↓awU, awV, awF, Qa, Qb, Qc, Qd, forall_const, ↓reduceIte, ↓reduceDIte, ↓Qe, Qf, Qg, Qh, Qi, Qj, Qk, Ql, Qm, Qn, Qo, Qp, Qq, Qr, Qs, implies_true, Qt, Qu, Qv, Qw, Qx, Qy, Qz, QA, QB, QC, QD, QE, QF, QG, QH, QI, QJ, QK, QL, QM, QN, QO, QP, QQ]
          exact ⟨(acc2, n, k3), ⟨by simp only; omega, hrw⟩, by simp only; omega, ⟨[some 0, some 1, some 5], rfl, by simp, by simp [setsA, keepA, SWeak, AWeak], by simp [HWeak, BWeak, SWeak, AWeak, tl]⟩⟩
    | 0 =>
      have gl : acc.length = cnt := h1
      have g0 : acc ≠ [] := fun e => by rw [e] at gl; simp only [List.length_nil] at gl; omega
      generalize acc = g at *
      simp (config := { maxSteps := 1000000 }) (disch := ((try simp only [awL]); omega)) only [QR, QS, QT, QU, QV, QW, QX, QY, QZ, Q0, Q1, Q2, ↓awU, awV, awF, Qa, Qb, Qc, Qd, forall_const, ↓reduceIte, ↓reduceDIte, ↓Qe, Qf, Qg, Qh, Qi, Qj, Qk, Ql, Qm, Qn, Qo, Qp, Qq, Qr, Qs, implies_true, Qt, Qu, Qv, Qw, Qx, Qy, Qz, QA, QB, QC, QD, QE, QF, QG, QH, QI, QJ, QK, QL, QM, QN, QO, QP, QQ]
      refine LoopC.fr 56 (α := List Nat × Nat) (fun x => w - x.1.length) (fun x => [(9, .lsl 3 1 0 x.1.length), (10, .d (.int .i64 x.1.length))]) (fun x => [DiceM s x.2, .box [.lsl 2 1 0 g.length], .row false (rowsD g), .row false (nats .i64 x.1)])
        (fun x => x.1.length ≤ w ∧ FitG g x.1) ([0], k) ⟨by simp only [List.length_singleton]; omega, layI_zero, fun c hc => by simp at hc⟩ ?_ ?_
      · exact ⟨[some 0, some 1, some 2, some 3], rfl, by simp, by simp [setsA, keepA, SWeak, AWeak], by simp [HWeak, BWeak, SWeak, AWeak, nats]⟩
      · rintro ⟨l, k3⟩ ⟨j1, j2⟩
        simp only at j1 j2
        have nl := @nats_length .i64 l
        have lp := j2.lay.pos
        have ei : ((l.length : Nat) : Int) - 1 = ((l.length - 1 : Nat) : Int) := by omega
        simp only [awK, Nat.reduceMod, Nat.reduceDiv, reduceIte]
        rcases Nat.lt_or_ge l.length w with h | h
        · simp (config := { maxSteps := 1000000 }) (disch := ((try simp only [awL]); omega)) only [QR, QS, QT, QU, QV, QW, QX, QY, QZ, Q0, Q1, Q2, ↓awU, awV, awF, Qa, Qb, Qc, Qd, forall_const, ↓reduceIte, ↓reduceDIte, ↓Qe, Qf, Qg, Qh, Qi, Qj, Qk, Ql, Qm, Qn, Qo, Qp, Qq, Qr, Qs, implies_true, Qt, Qu, Qv, Qw, Qx, Qy, Qz, QA, QB, QC, QD, QE, QF, QG, QH, QI, QJ, QK, QL, QM, QN, QO, QP, QQ]
          refine LoopC.fr 27670116110564329016 (α := Nat) (fun i => g.length - i) (fun i => [(11, .d (.int .i64 (colM (l.length - 1) (g.take i)))), (65, .d (.int .i64 i))]) (fun _ => [DiceM s k3, .box [.lsl 2 1 0 g.length], .row false (rowsD g), .row false (nats .i64 l)])
            (fun i => i ≤ g.length) 0 (Nat.zero_le _) ?_ ?_
          · exact ⟨[some 0, some 1, some 2, some 3], rfl, by simp, by simp [setsA, keepA, SWeak, AWeak, colM], by simp [HWeak, BWeak, SWeak, AWeak]⟩
          · intro i hi
            simp only [awK, Nat.reduceMod, Nat.reduceDiv, reduceIte]
            rcases Nat.lt_or_ge i g.length with h3 | h3
            · have hct := colM_take (c := l.length - 1) h3
              have gr := rowsD_getD (g := g) (i := i) h3
              have hrw := h2 _ (memD (d := []) h3)
              generalize g.getD i [] = r at *
              have rl := @strs_length r
              have rlen := hrw.len
              have gs := strs_getD (l := r) (i := l.length - 1) (by omega)
              have hy := (wordsF_ok _ (hrw.cell (c := l.length - 1) (by omega))).2.1
              generalize r.getD (l.length - 1) [] = y at *
              have rd := runesD_bs y
              have rs := runesS_bs y
              have rc := rcL_eq y
              have rcl := rcL_le y
              have cm := colM_le (g := g.take i) (fun r hr => h2 r (List.mem_of_mem_take hr)) (c := l.length - 1) (by omega)
              generalize colM (l.length - 1) (g.take i) = m at *
              generalize rnF y 0 = rr at *
              have rrl := @nats_length .i32 rr
              rw [rc] at hct
              simp (config := { maxSteps := 1000000 }) (disch := ((try simp only [awL]); omega)) only [QR, QS, QT, QU, QV, QW, QX, QY, QZ, Q0, Q1, Q2, ei, al, gr, rl, rlen, gs, rd, rs, rrl, ↓awU, awV, awF, Qa, Qb, Qc, Qd, forall_const, ↓reduceIte, ↓reduceDIte, ↓Qe, Qf, Qg, Qh, Qi, Qj, Qk, Ql, Qm, Qn, Qo, Qp, Qq, Qr, Qs, implies_true, Qt, Qu, Qv, Qw, Qx, Qy, Qz, QA, QB, QC, QD, QE, QF, QG, QH, QI, QJ, QK, QL, QM, QN, QO, QP, QQ]
              exact ⟨i + 1, h3, by simp only; omega, ⟨[some 0, some 1, some 2, some 3], rfl, by simp, by simp [setsA, keepA, SWeak, AWeak, hct], by simp [HWeak, BWeak, SWeak, AWeak]⟩⟩
            · obtain rfl : i = g.length := by omega
              rw [List.take_length]
              obtain ⟨q, hq, hq2⟩ := pk_nat s k3 3 (by decide)
              have cm := colM_le h2 (c := l.length - 1) (by omega)
              have st := j2.step (by omega) (show q < 3 by omega) cm
              have g1 := nats_getD (k := .i64) (d := .nilp) (l := l) (i := l.length - 1) (by omega)
              have eb := j2.lay.2.2.2.1 (l.length - 1) (by omega)
              generalize l.getD (l.length - 1) 0 = c at *
              generalize colM (l.length - 1) g = m at *
              simp (config := { maxSteps := 1000000 }) (disch := ((try simp only [awL]); omega)) only [QR, QS, QT, QU, QV, QW, QX, QY, QZ, Q0, Q1, Q2, ei, nl, g1, ↓awU, awV, awF, Qa, Qb, Qc, Qd, forall_const, ↓reduceIte, ↓reduceDIte, ↓Qe, Qf, Qg, Qh, Qi, Qj, Qk, Ql, Qm, Qn, Qo, Qp, Qq, Qr, Qs, implies_true, Qt, Qu, Qv, Qw, Qx, Qy, Qz, QA, QB, QC, QD, QE, QF, QG, QH, QI, QJ, QK, QL, QM, QN, QO, QP, QQ]
              refine CallC.by (pick_spec s k3 3 hmm (by decide) (by decide)) (by rfl) (by rfl) (Nat.le_refl _) ?_
              rw [hq]
              have sp : nats .i64 l ++ [D.int .i64 (((c + m : Nat) : Int) + 2 + (q : Int))] = nats .i64 (l ++ [c + m + 2 + q]) := by
                rw [show ((c + m : Nat) : Int) + 2 + (q : Int) = ((c + m + 2 + q : Nat) : Int) by omega]; simp [nats]
              have tl : (l ++ [c + m + 2 + q]).length = l.length + 1 := by simp
              generalize hl2 : l ++ [c + m + 2 + q] = l2 at *
              simp (config := { maxSteps := 1000000 }) (disch := ((try simp only [awL]); omega)) only [QR, QS, QT, QU, QV, QW, QX, QY, QZ, Q0, Q1, Q2, nl, sp, ↓awU, awV, awF, Qa, Qb, Qc, Qd, forall_const, ↓reduceIte, ↓reduceDIte, ↓Qe, Qf, Qg, Qh, Qi, Qj, Qk, Ql, Qm, Qn, Qo, Qp, Qq, Qr, Qs, implies_true, Qt, Qu, Qv, Qw, Qx, Qy, Qz, QA, QB, QC, QD, QE, QF, QG, QH, QI, QJ, QK, QL, QM, QN, QO, QP, QQ]
              refine ⟨by rfl, ?_⟩
              exact ⟨(l2, k3 + 1), ⟨by simp only; omega, st⟩, by simp only; omega, ⟨[some 0, some 1, some 2, some 5], rfl, by simp, by simp [setsA, keepA, SWeak, AWeak, tl], by simp [HWeak, BWeak, SWeak, AWeak, hl2]⟩⟩
        · have e : l.length = w := by omega
          rw [← e] at h2
          obtain ⟨f1, f2, f3, f4, f5, f6, f7, f8⟩ := found j2 h2 g0 (by omega)
          have gok := GoodR.grid j2.lay (fit_good j2 h2) (by omega)
          have l4 := j2.lay.2.2.1
          have eN : IsF (asI l) false = Ns l false := by unfold IsF Ns; rw [ints_asI, natO_le]
          have cu : cut (rowsD g) 0 g.length = rowsD g := cut_all al.symm
          have ff := fformat_spec hT (asI l) false g false (by rw [natO_le]; omega) gok
          have i1 := infer_spec hT (txtF l g) 1 (by omega)
          have i2 := infer_spec hT (txtF l g) 2 (by omega)
          have pp := fparse_spec hT (asI l) false (txtF l g) (by rw [natO_le]; omega) (by omega)
          have oo := options_spec hT hI (txtF l g) (by omega)
          have o3 := optsL_len (txtF l g)
          rw [f1] at ff
          rw [f3] at i1
          rw [f4] at i2
          rw [f5] at pp
          generalize txtF l g = tx at *
          generalize optsL tx = os at *
          unfold inferD at i1 i2
          unfold fmtE at ff
          unfold gridE at pp
          simp (config := { maxSteps := 1000000 }) (disch := ((try simp only [awL]); omega)) only [QR, QS, QT, QU, QV, QW, QX, QY, QZ, Q0, Q1, Q2, ↓awU, awV, awF, Qa, Qb, Qc, Qd, forall_const, ↓reduceIte, ↓reduceDIte, ↓Qe, Qf, Qg, Qh, Qi, Qj, Qk, Ql, Qm, Qn, Qo, Qp, Qq, Qr, Qs, implies_true, Qt, Qu, Qv, Qw, Qx, Qy, Qz, QA, QB, QC, QD, QE, QF, QG, QH, QI, QJ, QK, QL, QM, QN, QO, QP, QQ]
          refine CallC.frozenE ff (by rw [cu, eN]) ?_
          simp (config := { maxSteps := 1000000 }) (disch := ((try simp only [awL]); omega)) only [QR, QS, QT, QU, QV, QW, QX, QY, QZ, Q0, Q1, Q2, ↓awU, awV, awF, Qa, Qb, Qc, Qd, forall_const, ↓reduceIte, ↓reduceDIte, ↓Qe, Qf, Qg, Qh, Qi, Qj, Qk, Ql, Qm, Qn, Qo, Qp, Qq, Qr, Qs, implies_true, Qt, Qu, Qv, Qw, Qx, Qy, Qz, QA, QB, QC, QD, QE, QF, QG, QH, QI, QJ, QK, QL, QM, QN, QO, QP, QQ]
          refine CallC.of i1 (by rfl) ?_
          simp (config := { maxSteps := 1000000 }) (disch := ((try simp only [awL]); omega)) only [QR, QS, QT, QU, QV, QW, QX, QY, QZ, Q0, Q1, Q2, ↓awU, awV, awF, Qa, Qb, Qc, Qd, forall_const, ↓reduceIte, ↓reduceDIte, ↓Qe, Qf, Qg, Qh, Qi, Qj, Qk, Ql, Qm, Qn, Qo, Qp, Qq, Qr, Qs, implies_true, Qt, Qu, Qv, Qw, Qx, Qy, Qz, QA, QB, QC, QD, QE, QF, QG, QH, QI, QJ, QK, QL, QM, QN, QO, QP, QQ]
          refine CallC.of i2 (by rfl) ?_
          simp (config := { maxSteps := 1000000 }) (disch := ((try simp only [awL]); omega)) only [QR, QS, QT, QU, QV, QW, QX, QY, QZ, Q0, Q1, Q2, ↓awU, awV, awF, Qa, Qb, Qc, Qd, forall_const, ↓reduceIte, ↓reduceDIte, ↓Qe, Qf, Qg, Qh, Qi, Qj, Qk, Ql, Qm, Qn, Qo, Qp, Qq, Qr, Qs, implies_true, Qt, Qu, Qv, Qw, Qx, Qy, Qz, QA, QB, QC, QD, QE, QF, QG, QH, QI, QJ, QK, QL, QM, QN, QO, QP, QQ]
          refine CallC.of pp (by rfl) ?_
          simp (config := { maxSteps := 1000000 }) (disch := ((try simp only [awL]); omega)) only [QR, QS, QT, QU, QV, QW, QX, QY, QZ, Q0, Q1, Q2, ↓awU, awV, awF, Qa, Qb, Qc, Qd, forall_const, ↓reduceIte, ↓reduceDIte, ↓Qe, Qf, Qg, Qh, Qi, Qj, Qk, Ql, Qm, Qn, Qo, Qp, Qq, Qr, Qs, implies_true, Qt, Qu, Qv, Qw, Qx, Qy, Qz, QA, QB, QC, QD, QE, QF, QG, QH, QI, QJ, QK, QL, QM, QN, QO, QP, QQ]
          refine CallC.of oo (by rfl) ?_
          simp (config := { maxSteps := 1000000 }) (disch := ((try simp only [awL]); omega)) only [QR, QS, QT, QU, QV, QW, QX, QY, QZ, Q0, Q1, Q2, ↓awU, awV, awF, Qa, Qb, Qc, Qd, forall_const, ↓reduceIte, ↓reduceDIte, ↓Qe, Qf, Qg, Qh, Qi, Qj, Qk, Ql, Qm, Qn, Qo, Qp, Qq, Qr, Qs, implies_true, Qt, Qu, Qv, Qw, Qx, Qy, Qz, QA, QB, QC, QD, QE, QF, QG, QH, QI, QJ, QK, QL, QM, QN, QO, QP, QQ]
          have eN2 : D.sl (asI l).length false (ints .i64 (asI l)) = D.sl l.length false (nats .i64 l) := by rw [ints_asI, natO_le]
          have rI : decide (asI l = asI l) = true := decide_eq_true rfl
          refine CallC.frozenE (intsR_spec (asI l) (asI l) false false (by rw [natO_le]; omega) (by rw [natO_le]; omega)) (by rw [show IsF (asI l) false = D.sl l.length false (nats .i64 l) from eN2, eN2]) ?_
          rw [rI]
          simp (config := { maxSteps := 1000000 }) (disch := ((try simp only [awL]); omega)) only [QR, QS, QT, QU, QV, QW, QX, QY, QZ, Q0, Q1, Q2, ↓awU, awV, awF, Qa, Qb, Qc, Qd, forall_const, ↓reduceIte, ↓reduceDIte, ↓Qe, Qf, Qg, Qh, Qi, Qj, Qk, Ql, Qm, Qn, Qo, Qp, Qq, Qr, Qs, implies_true, Qt, Qu, Qv, Qw, Qx, Qy, Qz, QA, QB, QC, QD, QE, QF, QG, QH, QI, QJ, QK, QL, QM, QN, QO, QP, QQ]
          refine CallC.frozenE (intsR_spec (asI l) (asI l) false false (by rw [natO_le]; omega) (by rw [natO_le]; omega)) (by rw [show IsF (asI l) false = D.sl l.length false (nats .i64 l) from eN2, eN2]) ?_
          rw [rI]
          simp (config := { maxSteps := 1000000 }) (disch := ((try simp only [awL]); omega)) only [QR, QS, QT, QU, QV, QW, QX, QY, QZ, Q0, Q1, Q2, ↓awU, awV, awF, Qa, Qb, Qc, Qd, forall_const, ↓reduceIte, ↓reduceDIte, ↓Qe, Qf, Qg, Qh, Qi, Qj, Qk, Ql, Qm, Qn, Qo, Qp, Qq, Qr, Qs, implies_true, Qt, Qu, Qv, Qw, Qx, Qy, Qz, QA, QB, QC, QD, QE, QF, QG, QH, QI, QJ, QK, QL, QM, QN, QO, QP, QQ]
          refine CallC.frozenE (sameG_spec g g false false gok gok) (by rw [cu]) ?_
          rw [decide_eq_true rfl]
          obtain ⟨o, os2, hos⟩ := List.exists_cons_of_ne_nil f6
          have ol := optC_length os
          have osp : 0 < os.length := List.length_pos_iff.2 f6
          have q1 : (optC os).getD 1 .nilp = .int .i64 g.length := by
            rw [hos] at f7 ⊢
            rw [← f7]; rfl
          have q2 : (optC os).getD 2 .nilp = .int .i64 0 := by
            rw [hos] at f8 ⊢
            have f9 : o.ag = 0 := f8
            show D.int .i64 (o.ag : Int) = _
            rw [f9]; rfl
          clear hos f7 f8
          simp (config := { maxSteps := 1000000 }) (disch := ((try simp only [awL]); omega)) only [QR, QS, QT, QU, QV, QW, QX, QY, QZ, Q0, Q1, Q2, ol, q1, q2, ↓awU, awV, awF, Qa, Qb, Qc, Qd, forall_const, ↓reduceIte, ↓reduceDIte, ↓Qe, Qf, Qg, Qh, Qi, Qj, Qk, Ql, Qm, Qn, Qo, Qp, Qq, Qr, Qs, implies_true, Qt, Qu, Qv, Qw, Qx, Qy, Qz, QA, QB, QC, QD, QE, QF, QG, QH, QI, QJ, QK, QL, QM, QN, QO, QP, QQ]
          first | rfl | exact ⟨by rfl, by rfl⟩ | (refine ⟨by rfl, ?_⟩; trace_state)
end Go.Proofs.YtacepalmphbnfaaGreatDoor
