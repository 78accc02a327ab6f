/-
  A world that lays the variables of fixedSteps.
-/
import Derived.Test.YtacepalmphbnfaaGreatDoorMb3
set_option linter.all false
open Go.Abs renaming ofVal → Qa, ofVal0 → Qb, isShift → Qc, aggK → Qd, purePost → Qe, combine → Qf, idsA → Qg, cellsA → Qh, numsOf → Qi, srcA → Qj, calleeA → Qk, refsA → Ql, isScalar → Qm, scalarD → Qn, scalar0 → Qo, putL → Qr, unfA → Qs, sidsB → QJ, keyKD → QL, isIntK → QM, aggD → QN, aggL → QO, eqKs → QP, boxRow → QQ, nextC_more → QT, nextC_over → QU, bs_size → QV, bs_extract → QW, bs_toList → QX, bs_append → QY, byteAt_bs → QZ, bs_cells → Q0, nums_length → Q1, nums_getD → Q2
open Go.Abs.AV renaming one → Qp
open Go.Abs.D renaming one → Qq
open Go.IntKind renaming signed → Qt
open Nat renaming reduceAdd → Qu, reduceSub → Qv, reduceMul → Qw, reducePow → Qx, reduceDiv → Qy, reduceMod → Qz, reduceEqDiff → QI, reduceBEq → QK
open Int renaming reduceAdd → QA, reduceSub → QB, reduceMul → QC, reducePow → QD, reduceNeg → QE, reduceToNat → QF, reduceLT → QG, reduceLE → QH
open Option renaming toList_some → QR, toList_none → QS

namespace Go.Proofs.YtacepalmphbnfaaGreatDoor
open Go Go.Proofs Go.Abs Go.RowKit Go.ChangeShapes Go.WideShapes Go.ChangeAt
noncomputable def laidWorld_fixedSteps (os : Os) : World :=
  { World.holding Tryz.prog os ⟨#[.cells #[.string ⟨#[118, 97, 108, 117, 101, 32, 111, 117, 116, 32, 111, 102, 32, 114, 97, 110, 103, 101]⟩] 225, .cells #[.string ⟨#[105, 110, 118, 97, 108, 105, 100, 32, 115, 121, 110, 116, 97, 120]⟩] 225], #[], []⟩ with heap := ((((((((World.holding Tryz.prog os ⟨#[.cells #[.string ⟨#[118, 97, 108, 117, 101, 32, 111, 117, 116, 32, 111, 102, 32, 114, 97, 110, 103, 101]⟩] 225, .cells #[.string ⟨#[105, 110, 118, 97, 108, 105, 100, 32, 115, 121, 110, 116, 97, 120]⟩] 225], #[], []⟩).heap.modify 6 fun
      | .cells _ t frozen => .cells #[.int .u8 0, .int .u8 1, .int .u8 28, .int .u8 2, .int .u8 29, .int .u8 14, .int .u8 24, .int .u8 3, .int .u8 30, .int .u8 22, .int .u8 20, .int .u8 15, .int .u8 25, .int .u8 17, .int .u8 4, .int .u8 8, .int .u8 31, .int .u8 27, .int .u8 13, .int .u8 23, .int .u8 21, .int .u8 19, .int .u8 16, .int .u8 7, .int .u8 26, .int .u8 12, .int .u8 18, .int .u8 6, .int .u8 11, .int .u8 5, .int .u8 10, .int .u8 9] t frozen
      | o => o).modify 7 fun
      | .cells _ t frozen => .cells #[.int .u8 0, .int .u8 1, .int .u8 56, .int .u8 2, .int .u8 57, .int .u8 49, .int .u8 28, .int .u8 3, .int .u8 61, .int .u8 58, .int .u8 42, .int .u8 50, .int .u8 38, .int .u8 29, .int .u8 17, .int .u8 4, .int .u8 62, .int .u8 47, .int .u8 59, .int .u8 36, .int .u8 45, .int .u8 43, .int .u8 51, .int .u8 22, .int .u8 53, .int .u8 39, .int .u8 33, .int .u8 30, .int .u8 24, .int .u8 18, .int .u8 12, .int .u8 5, .int .u8 63, .int .u8 55, .int .u8 48, .int .u8 27, .int .u8 60, .int .u8 41, .int .u8 37, .int .u8 16, .int .u8 46, .int .u8 35, .int .u8 44, .int .u8 21, .int .u8 52, .int .u8 32, .int .u8 23, .int .u8 11, .int .u8 54, .int .u8 26, .int .u8 40, .int .u8 15, .int .u8 34, .int .u8 20, .int .u8 31, .int .u8 10, .int .u8 25, .int .u8 14, .int .u8 19, .int .u8 9, .int .u8 13, .int .u8 8, .int .u8 7, .int .u8 6] t frozen
      | o => o).modify 5 fun
      | .cells _ t frozen => .cells #[.int .u64 1, .int .u64 10, .int .u64 100, .int .u64 1000, .int .u64 10000, .int .u64 100000, .int .u64 1000000, .int .u64 10000000, .int .u64 100000000, .int .u64 1000000000, .int .u64 10000000000, .int .u64 100000000000, .int .u64 1000000000000, .int .u64 10000000000000, .int .u64 100000000000000, .int .u64 1000000000000000, .int .u64 10000000000000000, .int .u64 100000000000000000, .int .u64 1000000000000000000, .int .u64 10000000000000000000] t frozen
      | o => o).modify 1 fun
      | .cells _ t frozen => .cells #[.int .u8 128, .int .u8 191, .int .u8 160, .int .u8 191, .int .u8 128, .int .u8 159, .int .u8 144, .int .u8 191, .int .u8 128, .int .u8 143, .int .u8 0, .int .u8 0, .int .u8 0, .int .u8 0, .int .u8 0, .int .u8 0, .int .u8 0, .int .u8 0, .int .u8 0, .int .u8 0, .int .u8 0, .int .u8 0, .int .u8 0, .int .u8 0, .int .u8 0, .int .u8 0, .int .u8 0, .int .u8 0, .int .u8 0, .int .u8 0, .int .u8 0, .int .u8 0] t frozen
      | o => o).modify 3 fun
      | .cells _ t frozen => .cells #[.iface 223 (.pointer (some ⟨(World.settled Tryz.prog os).heap.size, 0, none⟩))] t frozen
      | o => o).modify 2 fun
      | .cells _ t frozen => .cells #[.iface 223 (.pointer (some ⟨(World.settled Tryz.prog os).heap.size + 1, 0, none⟩))] t frozen
      | o => o).modify 0 fun
      | .cells _ t frozen => .cells (Go.Pinned.utf8FirstZ.map fun (n : Nat) => Value.int .u8 (n : Int)).toArray t frozen
      | o => o) }
set_option maxRecDepth 100000 in
theorem laid_met_fixedSteps (os : Os) (args : Array Value) : laidMet Tryz.prog [("math/bits.deBruijn32tab", Rows.laid_math_bits_deBruijn32tab), ("math/bits.deBruijn64tab", Rows.laid_math_bits_deBruijn64tab), ("internal/strconv.uint64pow10", Rows.laid_internal_strconv_uint64pow10), ("unicode/utf8.acceptRanges", Rows.laid_unicode_utf8_acceptRanges), ("strconv.ErrRange", Rows.laid_strconv_ErrRange), ("strconv.ErrSyntax", Rows.laid_strconv_ErrSyntax), ("unicode/utf8.first", Rows.laid_unicode_utf8_first)] ((laidWorld_fixedSteps os).forCall (fun _ _ => 0) ⟨#[], args, []⟩).memory :=
  laidMet_of_run' 8 (by kernel_rfl) (by kernel_rfl)
end Go.Proofs.YtacepalmphbnfaaGreatDoor

namespace Go.Proofs.YtacepalmphbnfaaGreatDoor
open Go Go.Proofs Go.Abs
variable {G : Globals}
/-! Writing a file in a layout. -/
/-- A row's text, from the i-th field on, where p places are written. -/
def wrF (lay : List Nat) : Nat → Nat → Row → List UInt8
  | _, _, [] => []
  | i, p, s :: r => if s = [] then wrF lay (i + 1) p r else List.replicate (lay.getD i 0 - p) 32 ++ s ++ wrF lay (i + 1) (lay.getD i 0 + rcL s) r
def txtF (lay : List Nat) : List Row → List UInt8
  | [] => []
  | r :: g => wrF lay 0 0 r ++ [10] ++ txtF lay g
def formF (lay : List Int) (g : List Row) : List UInt8 × Nat :=
  if okLay lay = false then ([], 1) else if checkL (natsOf lay) g ≠ 0 then ([], checkL (natsOf lay) g) else
    if 1048576 < (txtF (natsOf lay) g).length then ([], 3) else (txtF (natsOf lay) g, 0)
def fmtE (x : List UInt8 × Nat) : D := .tup [S x.1, .int .i64 x.2]
theorem check_ok {lay : List Nat} {g : List Row} (h : checkL lay g = 0) :
    g.length ≤ 4096 ∧ ∀ r ∈ g, r.length = lay.length ∧ (∀ s ∈ r, Lib.validD s = true ∧ s.length ≤ 1024) ∧ ∀ i, i < r.length → badX lay i (r.getD i []) = false := by
  unfold checkL at h
  split at h
  · cases h
  · rename_i h1
    split at h
    · cases h
    · rename_i h2
      split at h
      · cases h
      · rename_i h3
        simp only [Bool.or_eq_true, decide_eq_true_eq, not_or] at h2
        refine ⟨by omega, fun r hr => ?_⟩
        have e1 : oddRw lay r = false := by
          cases hx : oddRw lay r with
          | false => rfl
          | true => exact absurd (List.any_eq_true.2 ⟨r, hr, hx⟩) h1
        have e2 : r.any bigF = false := by
          cases hx : r.any bigF with
          | false => rfl
          | true => exact absurd (List.any_eq_true.2 ⟨r, hr, hx⟩) h2.2
        have e3 : badRow lay r = false := by
          cases hx : badRow lay r with
          | false => rfl
          | true => exact absurd (List.any_eq_true.2 ⟨r, hr, hx⟩) h3
        unfold oddRw at e1
        simp only [Bool.or_eq_false_iff, decide_eq_false_iff_not, Decidable.not_not] at e1
        refine ⟨e1.1, fun s hs => ⟨?_, ?_⟩, fun i hi => ?_⟩
        · have := List.any_eq_false.1 e1.2 s hs
          simpa using this
        · have := List.any_eq_false.1 e2 s hs
          simp [bigF] at this; omega
        · unfold badRow badTo at e3
          have := List.any_eq_false.1 e3 i (List.mem_range.2 hi)
          simpa using this
theorem wr_len (lay : List Nat) (h1 : ∀ i, lay.getD i 0 ≤ 1048576) : ∀ (r : Row) (i p : Nat), (∀ s ∈ r, s.length ≤ 1024) → (wrF lay i p r).length ≤ 1049600 * r.length
  | [], _, _, _ => by simp [wrF]
  | s :: r, i, p, h => by
    have h2 := h s (by simp)
    have h3 := h1 i
    have a := wr_len lay h1 r (i + 1) p fun x hx => h x (by simp [hx])
    have b := wr_len lay h1 r (i + 1) (lay.getD i 0 + rcL s) fun x hx => h x (by simp [hx])
    rw [wrF]
    split
    · simp only [List.length_cons]; omega
    · simp only [List.length_append, List.length_cons, List.length_replicate]; omega
theorem txt_len (lay : List Nat) (h1 : ∀ i, lay.getD i 0 ≤ 1048576) : ∀ (g : List Row), (∀ r ∈ g, r.length ≤ 64 ∧ ∀ s ∈ r, s.length ≤ 1024) → (txtF lay g).length ≤ 67174401 * g.length
  | [], _ => by simp [txtF]
  | r :: g, h => by
    obtain ⟨h2, h3⟩ := h r (by simp)
    have a := wr_len lay h1 r 0 0 h3
    have b := txt_len lay h1 g fun x hx => h x (by simp [hx])
    simp only [txtF, List.length_append, List.length_cons, List.length_nil]
    omega
theorem wr_step (lay : List Nat) {r : Row} {j p : Nat} (h : j < r.length) :
    wrF lay j p (r.drop j) = if r.getD j [] = [] then wrF lay (j + 1) p (r.drop (j + 1)) else List.replicate (lay.getD j 0 - p) 32 ++ r.getD j [] ++ wrF lay (j + 1) (lay.getD j 0 + rcL (r.getD j [])) (r.drop (j + 1)) := by
  rw [List.drop_eq_getElem_cons h, List.getD_eq_getElem?_getD, List.getElem?_eq_getElem h]; rfl
theorem txt_step (lay : List Nat) {g : List Row} {i : Nat} (h : i < g.length) : txtF lay (g.drop i) = wrF lay 0 0 (g.getD i []) ++ [10] ++ txtF lay (g.drop (i + 1)) := by
  rw [List.drop_eq_getElem_cons h, List.getD_eq_getElem?_getD, List.getElem?_eq_getElem h]; rfl
theorem getD_le {l : List Nat} {m : Nat} (h : ∀ i, i < l.length → l.getD i 0 ≤ m) (i : Nat) : l.getD i 0 ≤ m := by
  rcases Nat.lt_or_ge i l.length with h1 | h1
  · exact h i h1
  · rw [List.getD_eq_getElem?_getD, List.getElem?_eq_none h1]; exact Nat.zero_le _
theorem natsOf_le {l : List Int} (h : ∀ c ∈ l, 0 ≤ c ∧ c ≤ 1048576) (i : Nat) : (natsOf l).getD i 0 ≤ 1048576 :=
  getD_le (fun i hi => by
    have := List.mem_map.1 (memD (d := 0) hi)
    obtain ⟨c, hc, e⟩ := this
    have := h c hc
    show (List.map Int.toNat l).getD i 0 ≤ 1048576
    rw [← e]; omega) i
theorem bad_room {lay : List Nat} {i : Nat} {s : List UInt8} (h : badX lay i s = false) (hi : i + 1 < lay.length) : rcL s ≤ lay.getD (i + 1) 0 - lay.getD i 0 := by
  unfold badX at h
  simp only [Bool.or_eq_false_iff, decide_eq_false_iff_not] at h
  have := h.2
  rw [roomW, if_pos hi] at this
  omega
theorem wrS_any (used : Bool) (l x : List UInt8) (hl : l.length ≤ 10000000000000) (hx : x.length ≤ 10000000000000) (y : List UInt8) (hy : l ++ x = y) :
    Ctr Tryz.prog G 70 [.ptr 0 0, .d (S x)] (BL used l) (.tup [.d (.int .i64 x.length), .undef]) [.bld 98 true y.length (some 2), .dead, .buf 5 y] := by
  subst hy; exact writeString_next used l x hl hx
theorem wrB_any (used : Bool) (l : List UInt8) (c : UInt8) (hl : l.length ≤ 10000000000000) (y : List UInt8) (hy : l ++ [c] = y) :
    Ctr Tryz.prog G 73 [.ptr 0 0, .d (.int .u8 c.toNat)] (BL used l) .undef [.bld 98 true y.length (some 2), .dead, .buf 5 y] := by
  subst hy; exact writeByte_next used l c hl
def MF7 : Muts := fun k => k == 2000007
theorem MF7_t {k : Nat} (h : k = 2000007) : MF7 k = true := by subst h; rfl
theorem MF7_n {k : Nat} (h : k ≠ 2000007) : MF7 k = false := by simpa only [MF7, beq_eq_false_iff_ne] using h
set_option maxHeartbeats 16000000 in
set_option maxRecDepth 100000 in
theorem fformat_spec (hT : HT G) (lay : List Int) (lf : Bool) (g : List Row) (full : Bool) (hlay : lay.length ≤ 1000000) (hg : okGrid g) :
    Ctr Tryz.prog G 23 [.d (IsF lay lf), .d (.agg [Gr g full])] [] (.d (fmtE (formF lay g))) [] := by
  refine Ctr.pure (M := MF7) hmix Tryz.func23 rfl go23 ?_
  obtain ⟨r, hr⟩ : ∃ r, r = formF lay g := ⟨_, rfl⟩
  rw [← hr]
  unfold formF at hr
  simp (config := { maxSteps := 1000000 }) (disch := ((try simp only [awL]); omega)) only [QR, QS, QT, QU, QV, QW, QX, QY, QZ, Q0, Q1, Q2, MF7_t, MF7_n, Tryz.f23, ↓awU, awV, awF, Qa, Qb, Qc, Qd, forall_const, ↓reduceIte, ↓reduceDIte, ↓Qe, Qf, Qg, Qh, Qi, Qj, Qk, Ql, Qm, Qn, Qo, Qp, Qq, Qr, Qs, implies_true, Qt, Qu, Qv, Qw, Qx, Qy, Qz, QA, QB, QC, QD, QE, QF, QG, QH, QI, QJ, QK, QL, QM, QN, QO, QP, QQ]
  refine CallC.of (fvalid_spec lay false (by omega)) (by rfl) ?_
  cases hv : okLay lay
  · rw [if_pos hv] at hr
    simp (config := { maxSteps := 1000000 }) (disch := ((try simp only [awL]); omega)) only [QR, QS, QT, QU, QV, QW, QX, QY, QZ, Q0, Q1, Q2, MF7_t, MF7_n, ↓awU, awV, awF, Qa, Qb, Qc, Qd, forall_const, ↓reduceIte, ↓reduceDIte, ↓Qe, Qf, Qg, Qh, Qi, Qj, Qk, Ql, Qm, Qn, Qo, Qp, Qq, Qr, Qs, implies_true, Qt, Qu, Qv, Qw, Qx, Qy, Qz, QA, QB, QC, QD, QE, QF, QG, QH, QI, QJ, QK, QL, QM, QN, QO, QP, QQ]
    rw [hr]; rfl
  · rw [if_neg (by rw [hv]; decide)] at hr
    obtain ⟨k1, k2, k3, k4⟩ := okLay_ok hv
    have nl : (natsOf lay).length = lay.length := by simp [natsOf]
    have nle := natsOf_le k4
    rw [show IsF lay lf = Ns (natsOf lay) lf by unfold IsF Ns; rw [nats_of k4, nl]]
    generalize natsOf lay = ly at *
    simp (config := { maxSteps := 1000000 }) (disch := ((try simp only [awL]); omega)) only [QR, QS, QT, QU, QV, QW, QX, QY, QZ, Q0, Q1, Q2, MF7_t, MF7_n, ↓awU, awV, awF, Qa, Qb, Qc, Qd, forall_const, ↓reduceIte, ↓reduceDIte, ↓Qe, Qf, Qg, Qh, Qi, Qj, Qk, Ql, Qm, Qn, Qo, Qp, Qq, Qr, Qs, implies_true, Qt, Qu, Qv, Qw, Qx, Qy, Qz, QA, QB, QC, QD, QE, QF, QG, QH, QI, QJ, QK, QL, QM, QN, QO, QP, QQ]
    refine CallC.of (check_spec hT ly false g false k3 hg) (by rfl) ?_
    by_cases hc : checkL ly g = 0
    · rw [if_neg (by rw [hc]; decide)] at hr
      rw [hc]
      obtain ⟨c1, c2⟩ := check_ok hc
      have tl := txt_len ly nle g fun r hr => ⟨by rw [(c2 r hr).1, nl]; exact k2, fun s hs => ((c2 r hr).2.1 s hs).2⟩
      have gl := @rowsD_length g
      have al := @nats_length .i64 ly
      simp (config := { maxSteps := 1000000 }) (disch := ((try simp only [awL]); omega)) only [QR, QS, QT, QU, QV, QW, QX, QY, QZ, Q0, Q1, Q2, MF7_t, MF7_n, ↓awU, awV, awF, Qa, Qb, Qc, Qd, forall_const, ↓reduceIte, ↓reduceDIte, ↓Qe, Qf, Qg, Qh, Qi, Qj, Qk, Ql, Qm, Qn, Qo, Qp, Qq, Qr, Qs, implies_true, Qt, Qu, Qv, Qw, Qx, Qy, Qz, QA, QB, QC, QD, QE, QF, QG, QH, QI, QJ, QK, QL, QM, QN, QO, QP, QQ]
      refine LoopC.fr 50331777 (α := Nat × List UInt8 × Bool) (fun x => g.length - x.1) (fun x => [(26, .d (.int .i64 x.1))]) (fun x => [.dead, .bld 98 x.2.2 x.2.1.length (some 2), .buf 5 x.2.1])
        (fun x => x.1 ≤ g.length ∧ x.2.1 ++ txtF ly (g.drop x.1) = txtF ly g ∧ x.2.1.length ≤ 1048576) (0, [], false) ⟨Nat.zero_le _, by simp, by simp⟩ ?_ ?_
      · exact ⟨[some 0, some 1, none], rfl, by simp, by simp [setsA, keepA, SWeak, AWeak], by simp [HWeak, BWeak, SWeak, AWeak]⟩
      · rintro ⟨i, out, used⟩ ⟨b1, b2, b3⟩
        simp only at b1 b2 b3
        simp only [awK, Nat.reduceMod, Nat.reduceDiv, reduceIte]
        rcases Nat.lt_or_ge i g.length with h | h
        · have gg := rowsD_getD h
          rw [txt_step ly h] at b2
          have mem := c2 _ (memD (d := []) h)
          generalize g.getD i [] = row at *
          obtain ⟨r1, r2, r3⟩ := mem
          have sl := @strs_length row
          simp (config := { maxSteps := 1000000 }) (disch := ((try simp only [awL]); omega)) only [QR, QS, QT, QU, QV, QW, QX, QY, QZ, Q0, Q1, Q2, MF7_t, MF7_n, gl, gg, ↓awU, awV, awF, Qa, Qb, Qc, Qd, forall_const, ↓reduceIte, ↓reduceDIte, ↓Qe, Qf, Qg, Qh, Qi, Qj, Qk, Ql, Qm, Qn, Qo, Qp, Qq, Qr, Qs, implies_true, Qt, Qu, Qv, Qw, Qx, Qy, Qz, QA, QB, QC, QD, QE, QF, QG, QH, QI, QJ, QK, QL, QM, QN, QO, QP, QQ]
          refine LoopC.fr 3338666113 (α := Nat × Nat × List UInt8 × Bool) (fun x => row.length - x.1) (fun x => [(10, .d (.int .i64 x.2.1)), (32, .d (.int .i64 x.1))]) (fun x => [.dead, .bld 98 x.2.2.2 x.2.2.1.length (some 2), .buf 5 x.2.2.1])
            (fun x => x.1 ≤ row.length ∧ (x.1 < row.length → x.2.1 ≤ ly.getD x.1 0) ∧ x.2.2.1 ++ wrF ly x.1 x.2.1 (row.drop x.1) ++ [10] ++ txtF ly (g.drop (i + 1)) = txtF ly g) (0, 0, out, used) ⟨Nat.zero_le _, fun _ => Nat.zero_le _, by simp only [List.drop_zero, List.append_assoc] at b2 ⊢; exact b2⟩ ?_ ?_
          · exact ⟨[some 0, some 1, some 2], rfl, by simp, by simp [setsA, keepA, SWeak, AWeak], by simp [HWeak, BWeak, SWeak, AWeak]⟩
          · rintro ⟨j, p, out2, used2⟩ ⟨d1, d2, d3⟩
            simp only at d1 d2 d3
            have ol2 : out2.length ≤ (txtF ly g).length := by rw [← d3]; simp only [List.length_append]; omega
            simp only [awK, Nat.reduceMod, Nat.reduceDiv, reduceIte]
            rcases Nat.lt_or_ge j row.length with hj | hj
            · have sg2 := strs_getD hj
              have mem2 := r2 _ (memD (d := []) hj)
              have bad := r3 j hj
              have hp := d2 hj
              have lj := nle j
              have gj := nats_getD (k := .i64) (d := .nilp) (l := ly) (i := j) (by omega)
              have mono := k3.2.2 j
              have room := @bad_room ly j _ bad
              rw [wr_step ly hj] at d3
              generalize row.getD j [] = fld at *
              by_cases he : fld = []
              · subst he
                rw [if_pos rfl] at d3
                simp (config := { maxSteps := 1000000 }) (disch := ((try simp only [awL]); omega)) only [QR, QS, QT, QU, QV, QW, QX, QY, QZ, Q0, Q1, Q2, MF7_t, MF7_n, sl, sg2, ↓awU, awV, awF, Qa, Qb, Qc, Qd, forall_const, ↓reduceIte, ↓reduceDIte, ↓Qe, Qf, Qg, Qh, Qi, Qj, Qk, Ql, Qm, Qn, Qo, Qp, Qq, Qr, Qs, implies_true, Qt, Qu, Qv, Qw, Qx, Qy, Qz, QA, QB, QC, QD, QE, QF, QG, QH, QI, QJ, QK, QL, QM, QN, QO, QP, QQ]
                exact ⟨(j + 1, p, out2, used2), ⟨hj, fun hj2 => Nat.le_trans hp (mono (by simp only at hj2; omega)), d3⟩, by simp only; omega, ⟨[some 0, some 1, some 2], rfl, by simp, by simp [setsA, keepA, SWeak, AWeak], by simp [HWeak, BWeak, SWeak, AWeak]⟩⟩
              · rw [if_neg he] at d3
                have hne : (fld == []) = false := by simpa using he
                have ep : ((ly.getD j 0 : Nat) : Int) - (p : Nat) = ((ly.getD j 0 - p : Nat) : Int) := by omega
                simp (config := { maxSteps := 1000000 }) (disch := ((try simp only [awL]); omega)) only [QR, QS, QT, QU, QV, QW, QX, QY, QZ, Q0, Q1, Q2, MF7_t, MF7_n, Ns, al, gj, ep, hne, sl, sg2, ↓awU, awV, awF, Qa, Qb, Qc, Qd, forall_const, ↓reduceIte, ↓reduceDIte, ↓Qe, Qf, Qg, Qh, Qi, Qj, Qk, Ql, Qm, Qn, Qo, Qp, Qq, Qr, Qs, implies_true, Qt, Qu, Qv, Qw, Qx, Qy, Qz, QA, QB, QC, QD, QE, QF, QG, QH, QI, QJ, QK, QL, QM, QN, QO, QP, QQ]
                refine CallC.pure (repeat_spec 32 (ly.getD j 0 - p) (by omega)) ?_
                simp (config := { maxSteps := 1000000 }) (disch := ((try simp only [awL]); omega)) only [QR, QS, QT, QU, QV, QW, QX, QY, QZ, Q0, Q1, Q2, MF7_t, MF7_n, ↓awU, awV, awF, Qa, Qb, Qc, Qd, forall_const, ↓reduceIte, ↓reduceDIte, ↓Qe, Qf, Qg, Qh, Qi, Qj, Qk, Ql, Qm, Qn, Qo, Qp, Qq, Qr, Qs, implies_true, Qt, Qu, Qv, Qw, Qx, Qy, Qz, QA, QB, QC, QD, QE, QF, QG, QH, QI, QJ, QK, QL, QM, QN, QO, QP, QQ]
                have rl : (List.replicate (ly.getD j 0 - p) (32 : UInt8)).length = ly.getD j 0 - p := by simp
                generalize List.replicate (ly.getD j 0 - p) (32 : UInt8) = rp at *
                generalize ha : out2 ++ rp = out3
                have la : out3.length = out2.length + rp.length := by rw [← ha, List.length_append]
                refine CallC.by (wrS_any used2 out2 rp (by omega) (by omega) out3 ha) (by rfl) (by rfl) (by simp) ?_
                simp (config := { maxSteps := 1000000 }) (disch := ((try simp only [awL]); omega)) only [QR, QS, QT, QU, QV, QW, QX, QY, QZ, Q0, Q1, Q2, MF7_t, MF7_n, ↓awU, awV, awF, Qa, Qb, Qc, Qd, forall_const, ↓reduceIte, ↓reduceDIte, ↓Qe, Qf, Qg, Qh, Qi, Qj, Qk, Ql, Qm, Qn, Qo, Qp, Qq, Qr, Qs, implies_true, Qt, Qu, Qv, Qw, Qx, Qy, Qz, QA, QB, QC, QD, QE, QF, QG, QH, QI, QJ, QK, QL, QM, QN, QO, QP, QQ]
                generalize hb : out3 ++ fld = out4
                have lb : out4.length = out3.length + fld.length := by rw [← hb, List.length_append]
                refine CallC.by (wrS_any true out3 fld (by omega) (by omega) out4 hb) (by rfl) (by rfl) (by simp) ?_
                have rc := rcL_le fld
                simp (config := { maxSteps := 1000000 }) (disch := ((try simp only [awL]); omega)) only [QR, QS, QT, QU, QV, QW, QX, QY, QZ, Q0, Q1, Q2, MF7_t, MF7_n, Ns, al, gj, ↓awU, awV, awF, Qa, Qb, Qc, Qd, forall_const, ↓reduceIte, ↓reduceDIte, ↓Qe, Qf, Qg, Qh, Qi, Qj, Qk, Ql, Qm, Qn, Qo, Qp, Qq, Qr, Qs, implies_true, Qt, Qu, Qv, Qw, Qx, Qy, Qz, QA, QB, QC, QD, QE, QF, QG, QH, QI, QJ, QK, QL, QM, QN, QO, QP, QQ]
                refine CallC.pure (runeCount_spec fld (by omega)) ?_
                simp (config := { maxSteps := 1000000 }) (disch := ((try simp only [awL]); omega)) only [QR, QS, QT, QU, QV, QW, QX, QY, QZ, Q0, Q1, Q2, MF7_t, MF7_n, Ns, al, gj, ↓awU, awV, awF, Qa, Qb, Qc, Qd, forall_const, ↓reduceIte, ↓reduceDIte, ↓Qe, Qf, Qg, Qh, Qi, Qj, Qk, Ql, Qm, Qn, Qo, Qp, Qq, Qr, Qs, implies_true, Qt, Qu, Qv, Qw, Qx, Qy, Qz, QA, QB, QC, QD, QE, QF, QG, QH, QI, QJ, QK, QL, QM, QN, QO, QP, QQ]
                refine ⟨by rfl, ?_⟩
                exact ⟨(j + 1, ly.getD j 0 + rcL fld, out4, true), ⟨hj, fun hj2 => by have := room (by simp only at hj2; omega); have := mono (by simp only at hj2; omega); simp only; omega, by rw [← hb, ← ha]; simpa only [List.append_assoc] using d3⟩, by simp only; omega, ⟨[some 0, some 1, some 4], rfl, by simp, by simp [setsA, keepA, SWeak, AWeak], by simp [HWeak, BWeak, SWeak, AWeak]⟩⟩
            · obtain rfl : j = row.length := by omega
              rw [List.drop_length] at d3
              simp only [wrF, List.append_nil] at d3
              simp (config := { maxSteps := 1000000 }) (disch := ((try simp only [awL]); omega)) only [QR, QS, QT, QU, QV, QW, QX, QY, QZ, Q0, Q1, Q2, MF7_t, MF7_n, sl, ↓awU, awV, awF, Qa, Qb, Qc, Qd, forall_const, ↓reduceIte, ↓reduceDIte, ↓Qe, Qf, Qg, Qh, Qi, Qj, Qk, Ql, Qm, Qn, Qo, Qp, Qq, Qr, Qs, implies_true, Qt, Qu, Qv, Qw, Qx, Qy, Qz, QA, QB, QC, QD, QE, QF, QG, QH, QI, QJ, QK, QL, QM, QN, QO, QP, QQ]
              generalize ha : out2 ++ [10] = out3 at *
              have la : out3.length = out2.length + 1 := by rw [← ha, List.length_append]; rfl
              refine CallC.by (wrB_any used2 out2 10 (by omega) out3 ha) (by rfl) (by rfl) (by simp) ?_
              simp (config := { maxSteps := 1000000 }) (disch := ((try simp only [awL]); omega)) only [QR, QS, QT, QU, QV, QW, QX, QY, QZ, Q0, Q1, Q2, MF7_t, MF7_n, ↓awU, awV, awF, Qa, Qb, Qc, Qd, forall_const, ↓reduceIte, ↓reduceDIte, ↓Qe, Qf, Qg, Qh, Qi, Qj, Qk, Ql, Qm, Qn, Qo, Qp, Qq, Qr, Qs, implies_true, Qt, Qu, Qv, Qw, Qx, Qy, Qz, QA, QB, QC, QD, QE, QF, QG, QH, QI, QJ, QK, QL, QM, QN, QO, QP, QQ]
              refine CallC.keep [1, 3] (len_spec true out3) (by rfl) (by rfl) (by simp) (by simp [callEff, outW, outN, frz]) (by simp [callEff, outW, outN, renB, renL, renA, frz]) ?_
              rcases Nat.lt_or_ge 1048576 out3.length with h4 | h4
              · rw [if_pos (by rw [← d3, List.length_append]; omega)] at hr
                simp (config := { maxSteps := 1000000 }) (disch := ((try simp only [awL]); omega)) only [QR, QS, QT, QU, QV, QW, QX, QY, QZ, Q0, Q1, Q2, MF7_t, MF7_n, ↓awU, awV, awF, Qa, Qb, Qc, Qd, forall_const, ↓reduceIte, ↓reduceDIte, ↓Qe, Qf, Qg, Qh, Qi, Qj, Qk, Ql, Qm, Qn, Qo, Qp, Qq, Qr, Qs, implies_true, Qt, Qu, Qv, Qw, Qx, Qy, Qz, QA, QB, QC, QD, QE, QF, QG, QH, QI, QJ, QK, QL, QM, QN, QO, QP, QQ]
                rw [hr]; rfl
              · simp (config := { maxSteps := 1000000 }) (disch := ((try simp only [awL]); omega)) only [QR, QS, QT, QU, QV, QW, QX, QY, QZ, Q0, Q1, Q2, MF7_t, MF7_n, ↓awU, awV, awF, Qa, Qb, Qc, Qd, forall_const, ↓reduceIte, ↓reduceDIte, ↓Qe, Qf, Qg, Qh, Qi, Qj, Qk, Ql, Qm, Qn, Qo, Qp, Qq, Qr, Qs, implies_true, Qt, Qu, Qv, Qw, Qx, Qy, Qz, QA, QB, QC, QD, QE, QF, QG, QH, QI, QJ, QK, QL, QM, QN, QO, QP, QQ]
                exact ⟨(i + 1, out3, true), ⟨h, d3, h4⟩, by simp only; omega, ⟨[some 0, some 1, some 3], rfl, by simp, by simp [setsA, keepA, SWeak, AWeak], by simp [HWeak, BWeak, SWeak, AWeak]⟩⟩
        · obtain rfl : i = g.length := by omega
          rw [List.drop_length] at b2
          simp only [txtF, List.append_nil] at b2
          rw [← b2, if_neg (by omega)] at hr
          simp (config := { maxSteps := 1000000 }) (disch := ((try simp only [awL]); omega)) only [QR, QS, QT, QU, QV, QW, QX, QY, QZ, Q0, Q1, Q2, MF7_t, MF7_n, gl, ↓awU, awV, awF, Qa, Qb, Qc, Qd, forall_const, ↓reduceIte, ↓reduceDIte, ↓Qe, Qf, Qg, Qh, Qi, Qj, Qk, Ql, Qm, Qn, Qo, Qp, Qq, Qr, Qs, implies_true, Qt, Qu, Qv, Qw, Qx, Qy, Qz, QA, QB, QC, QD, QE, QF, QG, QH, QI, QJ, QK, QL, QM, QN, QO, QP, QQ]
          refine CallC.by (string_spec used out) (by rfl) (by rfl) (by simp) ?_
          simp (config := { maxSteps := 1000000 }) (disch := ((try simp only [awL]); omega)) only [QR, QS, QT, QU, QV, QW, QX, QY, QZ, Q0, Q1, Q2, MF7_t, MF7_n, ↓awU, awV, awF, Qa, Qb, Qc, Qd, forall_const, ↓reduceIte, ↓reduceDIte, ↓Qe, Qf, Qg, Qh, Qi, Qj, Qk, Ql, Qm, Qn, Qo, Qp, Qq, Qr, Qs, implies_true, Qt, Qu, Qv, Qw, Qx, Qy, Qz, QA, QB, QC, QD, QE, QF, QG, QH, QI, QJ, QK, QL, QM, QN, QO, QP, QQ]
          rw [hr]; rfl
    · rw [if_pos hc] at hr
      have hk : checkL ly g ≤ 4 := by unfold checkL; repeat' split
                                      all_goals decide
      generalize checkL ly g = ck at *
      simp (config := { maxSteps := 1000000 }) (disch := ((try simp only [awL]); omega)) only [QR, QS, QT, QU, QV, QW, QX, QY, QZ, Q0, Q1, Q2, MF7_t, MF7_n, ↓awU, awV, awF, Qa, Qb, Qc, Qd, forall_const, ↓reduceIte, ↓reduceDIte, ↓Qe, Qf, Qg, Qh, Qi, Qj, Qk, Ql, Qm, Qn, Qo, Qp, Qq, Qr, Qs, implies_true, Qt, Qu, Qv, Qw, Qx, Qy, Qz, QA, QB, QC, QD, QE, QF, QG, QH, QI, QJ, QK, QL, QM, QN, QO, QP, QQ]
      rw [hr]; rfl
end Go.Proofs.YtacepalmphbnfaaGreatDoor

namespace Go.Proofs.YtacepalmphbnfaaGreatDoor
open Go Go.Proofs Go.Abs
variable {G : Globals}
/-! The reference: writing a file in a layout. -/
abbrev BtF (l : List UInt8) : List D := ints .u8 (nums l)
theorem BtF_length {l : List UInt8} : (BtF l).length = l.length := by rw [ints_length, nums_length]
theorem BtF_push {a : List UInt8} {c : UInt8} : BtF a ++ [.int .u8 c.toNat] = BtF (a ++ [c]) := by simp [BtF, ints, nums]
theorem BtF_app {a b : List UInt8} : BtF a ++ BtF b = BtF (a ++ b) := by simp [BtF, ints, nums]
/-- The width of a column, -1 for the last one. -/
def widW (lay : List Nat) (i : Nat) : Int := if i + 1 < lay.length then ((lay.getD (i + 1) 0 - lay.getD i 0 : Nat) : Int) else -1
def badY (lay : List Nat) (i : Nat) (s : List UInt8) : Bool := oddS s (widW lay i)
def badYTo (lay : List Nat) (r : Row) (n : Nat) : Bool := (List.range n).any fun i => badY lay i (r.getD i [])
def badYRow (lay : List Nat) (r : Row) : Bool := badYTo lay r r.length
theorem badY_eq {lay : List Nat} {i : Nat} {s : List UInt8} (h : s.length ≤ 1024) : badY lay i s = badX lay i s := by
  have rl := rcL_le s
  unfold badY oddS badX widW roomW
  generalize (!(Lib.trimB s 32 == s)) = a
  generalize hasNl s = b
  split
  · generalize lay.getD (i + 1) 0 - lay.getD i 0 = n
    rw [show decide (0 ≤ ((n : Nat) : Int) ∧ ((n : Nat) : Int) < (rcL s : Int)) = decide (n < rcL s) from by congr 1; apply propext; omega]
    cases a <;> cases b <;> simp
  · rw [show decide (0 ≤ (-1 : Int) ∧ (-1 : Int) < (rcL s : Int)) = false from by simp, show decide (1048576 < rcL s) = false from decide_eq_false (by omega)]
    cases a <;> cases b <;> rfl
theorem badYTo_step {lay : List Nat} {r : Row} {j : Nat} : badYTo lay r (j + 1) = (badYTo lay r j || badY lay j (r.getD j [])) := by
  rw [badYTo, badYTo, List.range_succ, List.any_append]; simp
theorem any_eq {α : Type} {p q : α → Bool} : ∀ {l : List α}, (∀ x ∈ l, p x = q x) → l.any p = l.any q
  | [], _ => rfl
  | x :: t, h => by rw [List.any_cons, List.any_cons, h x (by simp), any_eq fun y hy => h y (by simp [hy])]
theorem badYRow_eq {lay : List Nat} {r : Row} (h : r.any bigF = false) : badYRow lay r = badRow lay r := by
  refine any_eq fun i hi => badY_eq ?_
  have hi' := List.mem_range.1 hi
  have := List.any_eq_false.1 h _ (memD (d := []) hi')
  unfold bigF at this
  rw [decide_eq_true_eq] at this
  omega
theorem badYAll_eq {lay : List Nat} {g : List Row} (h : g.any (fun r => r.any bigF) = false) : g.any (badYRow lay) = g.any (badRow lay) :=
  any_eq fun r hr => badYRow_eq (by have := List.any_eq_false.1 h r hr; simpa using this)
set_option maxHeartbeats 16000000 in
set_option maxRecDepth 100000 in
theorem rfformat_spec (hT : HT G) (lay : List Int) (lf : Bool) (g : List Row) (full : Bool) (hlay : lay.length ≤ 1000000) (hg : okGrid g) :
    Ctr Tryz.prog G 14 [.d (IsF lay lf), .d (.agg [Gr g full])] [] (.d (fmtE (formF lay g))) [] := by
  refine Ctr.pure (M := M0) hmix Tryz.func14 rfl go14 ?_
  obtain ⟨r, hr⟩ : ∃ r, r = formF lay g := ⟨_, rfl⟩
  rw [← hr]
  unfold formF at hr
  have gl := @rowsD_length g
  obtain ⟨g1, g2⟩ := hg
  simp (config := { maxSteps := 1000000 }) (disch := ((try simp only [awL]); omega)) only [QR, QS, QT, QU, QV, QW, QX, QY, QZ, Q0, Q1, Q2, Tryz.f14, ↓awU, awV, awF, Qa, Qb, Qc, Qd, forall_const, ↓reduceIte, ↓reduceDIte, ↓Qe, Qf, Qg, Qh, Qi, Qj, Qk, Ql, Qm, Qn, Qo, Qp, Qq, Qr, Qs, implies_true, Qt, Qu, Qv, Qw, Qx, Qy, Qz, QA, QB, QC, QD, QE, QF, QG, QH, QI, QJ, QK, QL, QM, QN, QO, QP, QQ]
  refine CallC.of (rfvalid_spec lay false (by omega)) (by rfl) ?_
  cases hv : okLay lay
  · rw [if_pos hv] at hr
    simp (config := { maxSteps := 1000000 }) (disch := ((try simp only [awL]); omega)) only [QR, QS, QT, QU, QV, QW, QX, QY, QZ, Q0, Q1, Q2, ↓awU, awV, awF, Qa, Qb, Qc, Qd, forall_const, ↓reduceIte, ↓reduceDIte, ↓Qe, Qf, Qg, Qh, Qi, Qj, Qk, Ql, Qm, Qn, Qo, Qp, Qq, Qr, Qs, implies_true, Qt, Qu, Qv, Qw, Qx, Qy, Qz, QA, QB, QC, QD, QE, QF, QG, QH, QI, QJ, QK, QL, QM, QN, QO, QP, QQ]
    rw [hr]; rfl
  · rw [if_neg (by rw [hv]; decide)] at hr
    obtain ⟨k1, k2, k3, k4⟩ := okLay_ok hv
    have nl : (natsOf lay).length = lay.length := by simp [natsOf]
    have nle := natsOf_le k4
    rw [show IsF lay lf = Ns (natsOf lay) lf by unfold IsF Ns; rw [nats_of k4, nl]]
    generalize natsOf lay = ly at *
    have al := @nats_length .i64 ly
    obtain ⟨lim0, hlim⟩ : ∃ b, b = decide (4096 < g.length) := ⟨_, rfl⟩
    have hl0 : decide ((4096 : Int) < (g.length : Nat)) = lim0 := by rw [hlim]; simp; omega
    simp (config := { maxSteps := 1000000 }) (disch := ((try simp only [awL]); omega)) only [QR, QS, QT, QU, QV, QW, QX, QY, QZ, Q0, Q1, Q2, gl, hl0, ↓awU, awV, awF, Qa, Qb, Qc, Qd, forall_const, ↓reduceIte, ↓reduceDIte, ↓Qe, Qf, Qg, Qh, Qi, Qj, Qk, Ql, Qm, Qn, Qo, Qp, Qq, Qr, Qs, implies_true, Qt, Qu, Qv, Qw, Qx, Qy, Qz, QA, QB, QC, QD, QE, QF, QG, QH, QI, QJ, QK, QL, QM, QN, QO, QP, QQ]
    refine LoopC.fx 25769803785 (α := Nat) (β := Unit) (fun i => g.length - i) (fun i => [(6, .d (.bool (lim0 || (g.take i).any (fun r => r.any bigF)))), (7, .d (.bool ((g.take i).any (badYRow ly)))), (35, .d (.int .i64 i))]) (fun _ => [.box [.d (Gr g full)]])
      (fun i => i ≤ g.length ∧ (g.take i).any (oddRw ly) = false) 9 (fun _ => [(6, .d (.bool (lim0 || g.any (fun r => r.any bigF)))), (7, .d (.bool (g.any (badYRow ly))))]) (fun _ => [.box [.d (Gr g full)]]) (fun _ => g.any (oddRw ly) = false) 0 ⟨Nat.zero_le _, rfl⟩ ?_ ?_ ?_
    · simp only [List.take_zero, List.any_nil, Bool.or_false]
      exact ⟨[some 0], rfl, by simp, by simp [setsA, keepA, SWeak, AWeak], by simp [HWeak, BWeak, SWeak, AWeak]⟩
    · rintro i ⟨h1, h2⟩
      simp only [awK, Nat.reduceMod, Nat.reduceDiv, reduceIte]
      rcases Nat.lt_or_ge i g.length with h | h
      · have gg := rowsD_getD (g := g) (i := i) h
        have ge := getD_some (d := ([] : Row)) h
        have hm := memD (d := ([] : Row)) h
        have sLim := any_snoc (p := fun r : Row => r.any bigF) h ge
        have sBad := any_snoc (p := badYRow ly) h ge
        have sOdd := any_snoc (p := oddRw ly) h ge
        obtain ⟨r1, r2⟩ := g2 _ hm
        have hodd : oddRw ly (g.getD i []) = true → checkL ly g = 1 := fun e => by
          unfold checkL; rw [if_pos (List.any_eq_true.2 ⟨_, hm, e⟩)]
        generalize g.getD i [] = row at *
        have rn := @strs_length row
        by_cases hlen : row.length = ly.length
        · simp (config := { maxSteps := 1000000 }) (disch := ((try simp only [awL]); omega)) only [QR, QS, QT, QU, QV, QW, QX, QY, QZ, Q0, Q1, Q2, Ns, gl, al, gg, rn, hlen, ↓awU, awV, awF, Qa, Qb, Qc, Qd, forall_const, ↓reduceIte, ↓reduceDIte, ↓Qe, Qf, Qg, Qh, Qi, Qj, Qk, Ql, Qm, Qn, Qo, Qp, Qq, Qr, Qs, implies_true, Qt, Qu, Qv, Qw, Qx, Qy, Qz, QA, QB, QC, QD, QE, QF, QG, QH, QI, QJ, QK, QL, QM, QN, QO, QP, QQ]
          obtain ⟨L0, hL0⟩ : ∃ b, b = (lim0 || (g.take i).any (fun r => r.any bigF)) := ⟨_, rfl⟩
          obtain ⟨F0, hF0⟩ : ∃ b, b = (g.take i).any (badYRow ly) := ⟨_, rfl⟩
          rw [← hL0, ← hF0]
          have w1 : (lim0 || (g.take (i + 1)).any (fun r => r.any bigF)) = (L0 || row.any bigF) := by rw [sLim, ← Bool.or_assoc, ← hL0]
          have w2 : (g.take (i + 1)).any (badYRow ly) = (F0 || badYRow ly row) := by rw [sBad, ← hF0]
          refine LoopC.fx 52836687675401 (α := Nat) (β := Unit) (fun j => row.length - j) (fun j => [(6, .d (.bool (L0 || (row.take j).any bigF))), (7, .d (.bool (F0 || badYTo ly row j))), (46, .d (.int .i64 j))]) (fun _ => [.box [.d (Gr g full)]])
            (fun j => j ≤ row.length ∧ (row.take j).any (fun s => !Lib.validD s) = false) 60129542153 (fun _ => [(6, .d (.bool (L0 || row.any bigF))), (7, .d (.bool (F0 || badYRow ly row)))]) (fun _ => [.box [.d (Gr g full)]]) (fun _ => row.any (fun s => !Lib.validD s) = false) 0 ⟨Nat.zero_le _, rfl⟩ ?_ ?_ ?_
          · have e0 : badYTo ly row 0 = false := rfl
            simp only [List.take_zero, List.any_nil, Bool.or_false, e0]
            exact ⟨[some 0], rfl, by simp, by simp [setsA, keepA, SWeak, AWeak], by simp [HWeak, BWeak, SWeak, AWeak]⟩
          · rintro j ⟨h5, h6⟩
            simp only [awK, Nat.reduceMod, Nat.reduceDiv, reduceIte]
            rcases Nat.lt_or_ge j row.length with h7 | h7
            · have gs := strs_getD h7
              have hs := r2 _ (memD (d := []) h7)
              have hmv := memD (d := ([] : List UInt8)) h7
              have tL := any_snoc (p := bigF) h7 (getD_some (d := []) h7)
              have tV := any_snoc (p := fun s => !Lib.validD s) h7 (getD_some (d := []) h7)
              have tB := badYTo_step (lay := ly) (r := row) (j := j)
              generalize row.getD j [] = x at *
              simp (config := { maxSteps := 1000000 }) (disch := ((try simp only [awL]); omega)) only [QR, QS, QT, QU, QV, QW, QX, QY, QZ, Q0, Q1, Q2, rn, hlen, gs, ↓awU, awV, awF, Qa, Qb, Qc, Qd, forall_const, ↓reduceIte, ↓reduceDIte, ↓Qe, Qf, Qg, Qh, Qi, Qj, Qk, Ql, Qm, Qn, Qo, Qp, Qq, Qr, Qs, implies_true, Qt, Qu, Qv, Qw, Qx, Qy, Qz, QA, QB, QC, QD, QE, QF, QG, QH, QI, QJ, QK, QL, QM, QN, QO, QP, QQ]
              refine CallC.pure (rvalidS_spec hT x (by omega)) ?_
              cases hv : Lib.validD x
              · have e1 := hodd (by rw [oddRw, Bool.or_eq_true]; exact .inr (List.any_eq_true.2 ⟨x, hmv, by rw [hv]; rfl⟩))
                rw [e1, if_pos (by decide)] at hr
                simp (config := { maxSteps := 1000000 }) (disch := ((try simp only [awL]); omega)) only [QR, QS, QT, QU, QV, QW, QX, QY, QZ, Q0, Q1, Q2, ↓awU, awV, awF, Qa, Qb, Qc, Qd, forall_const, ↓reduceIte, ↓reduceDIte, ↓Qe, Qf, Qg, Qh, Qi, Qj, Qk, Ql, Qm, Qn, Qo, Qp, Qq, Qr, Qs, implies_true, Qt, Qu, Qv, Qw, Qx, Qy, Qz, QA, QB, QC, QD, QE, QF, QG, QH, QI, QJ, QK, QL, QM, QN, QO, QP, QQ]
                rw [hr]; rfl
              · obtain ⟨L, hL⟩ : ∃ b, b = (L0 || (row.take j).any bigF) := ⟨_, rfl⟩
                obtain ⟨F, hF⟩ : ∃ b, b = (F0 || badYTo ly row j) := ⟨_, rfl⟩
                rw [← hL, ← hF]
                have v1 : (L0 || (row.take (j + 1)).any bigF) = (L || bigF x) := by rw [tL, ← Bool.or_assoc, ← hL]
                have v2 : (F0 || badYTo ly row (j + 1)) = (F || badY ly j x) := by rw [tB, ← Bool.or_assoc, ← hF]
                have v3 : (row.take (j + 1)).any (fun s => !Lib.validD s) = false := by rw [tV, h6, hv]; rfl
                have v5 : decide ((1024 : Int) < (x.length : Nat)) = bigF x := by simp only [bigF]; congr 1; apply propext; omega
                have lj := nle j
                have lj1 := nle (j + 1)
                have mono := k3.2.2 j
                have gj := nats_getD (k := .i64) (d := .nilp) (l := ly) (i := j) (by omega)
                unfold badY at v2
                rcases Nat.lt_or_ge (j + 1) ly.length with h8 | h8
                · have gj1 := nats_getD (k := .i64) (d := .nilp) (l := ly) (i := j + 1) h8
                  have m1 := mono h8
                  have ew : ((ly.getD (j + 1) 0 : Nat) : Int) - (ly.getD j 0 : Nat) = ((ly.getD (j + 1) 0 - ly.getD j 0 : Nat) : Int) := by omega
                  have ww : widW ly j = ((ly.getD (j + 1) 0 - ly.getD j 0 : Nat) : Int) := by rw [widW, if_pos h8]
                  rw [ww] at v2
                  cases L
                  · cases F
                    · simp (config := { maxSteps := 1000000 }) (disch := ((try simp only [awL]); omega)) only [QR, QS, QT, QU, QV, QW, QX, QY, QZ, Q0, Q1, Q2, Ns, rn, al, gj, gj1, ew, v5, hlen, ↓awU, awV, awF, Qa, Qb, Qc, Qd, forall_const, ↓reduceIte, ↓reduceDIte, ↓Qe, Qf, Qg, Qh, Qi, Qj, Qk, Ql, Qm, Qn, Qo, Qp, Qq, Qr, Qs, implies_true, Qt, Qu, Qv, Qw, Qx, Qy, Qz, QA, QB, QC, QD, QE, QF, QG, QH, QI, QJ, QK, QL, QM, QN, QO, QP, QQ]
                      refine ⟨by rfl, ?_⟩
                      refine CallC.pure (oddS_spec x _ (by omega)) ?_
                      simp (config := { maxSteps := 1000000 }) (disch := ((try simp only [awL]); omega)) only [QR, QS, QT, QU, QV, QW, QX, QY, QZ, Q0, Q1, Q2, ↓awU, awV, awF, Qa, Qb, Qc, Qd, forall_const, ↓reduceIte, ↓reduceDIte, ↓Qe, Qf, Qg, Qh, Qi, Qj, Qk, Ql, Qm, Qn, Qo, Qp, Qq, Qr, Qs, implies_true, Qt, Qu, Qv, Qw, Qx, Qy, Qz, QA, QB, QC, QD, QE, QF, QG, QH, QI, QJ, QK, QL, QM, QN, QO, QP, QQ]
                      refine ⟨j + 1, ⟨(by omega), v3⟩, by simp only; omega, ?_⟩
                      simp only [v1, v2, Bool.false_or, Bool.true_or, Bool.or_false, Bool.or_true]
                      exact ⟨[some 0], rfl, by simp, by simp [setsA, keepA, SWeak, AWeak], by simp [HWeak, BWeak, SWeak, AWeak]⟩
                    · simp (config := { maxSteps := 1000000 }) (disch := ((try simp only [awL]); omega)) only [QR, QS, QT, QU, QV, QW, QX, QY, QZ, Q0, Q1, Q2, Ns, rn, al, gj, gj1, ew, v5, hlen, ↓awU, awV, awF, Qa, Qb, Qc, Qd, forall_const, ↓reduceIte, ↓reduceDIte, ↓Qe, Qf, Qg, Qh, Qi, Qj, Qk, Ql, Qm, Qn, Qo, Qp, Qq, Qr, Qs, implies_true, Qt, Qu, Qv, Qw, Qx, Qy, Qz, QA, QB, QC, QD, QE, QF, QG, QH, QI, QJ, QK, QL, QM, QN, QO, QP, QQ]
                      refine ⟨by rfl, ?_⟩
                      refine ⟨j + 1, ⟨(by omega), v3⟩, by simp only; omega, ?_⟩
                      simp only [v1, v2, Bool.false_or, Bool.true_or, Bool.or_false, Bool.or_true]
                      exact ⟨[some 0], rfl, by simp, by simp [setsA, keepA, SWeak, AWeak], by simp [HWeak, BWeak, SWeak, AWeak]⟩
                  · cases F
                    · simp (config := { maxSteps := 1000000 }) (disch := ((try simp only [awL]); omega)) only [QR, QS, QT, QU, QV, QW, QX, QY, QZ, Q0, Q1, Q2, Ns, rn, al, gj, gj1, ew, v5, hlen, ↓awU, awV, awF, Qa, Qb, Qc, Qd, forall_const, ↓reduceIte, ↓reduceDIte, ↓Qe, Qf, Qg, Qh, Qi, Qj, Qk, Ql, Qm, Qn, Qo, Qp, Qq, Qr, Qs, implies_true, Qt, Qu, Qv, Qw, Qx, Qy, Qz, QA, QB, QC, QD, QE, QF, QG, QH, QI, QJ, QK, QL, QM, QN, QO, QP, QQ]
                      refine ⟨by rfl, ?_⟩
                      refine CallC.pure (oddS_spec x _ (by omega)) ?_
                      simp (config := { maxSteps := 1000000 }) (disch := ((try simp only [awL]); omega)) only [QR, QS, QT, QU, QV, QW, QX, QY, QZ, Q0, Q1, Q2, ↓awU, awV, awF, Qa, Qb, Qc, Qd, forall_const, ↓reduceIte, ↓reduceDIte, ↓Qe, Qf, Qg, Qh, Qi, Qj, Qk, Ql, Qm, Qn, Qo, Qp, Qq, Qr, Qs, implies_true, Qt, Qu, Qv, Qw, Qx, Qy, Qz, QA, QB, QC, QD, QE, QF, QG, QH, QI, QJ, QK, QL, QM, QN, QO, QP, QQ]
                      refine ⟨j + 1, ⟨(by omega), v3⟩, by simp only; omega, ?_⟩
                      simp only [v1, v2, Bool.false_or, Bool.true_or, Bool.or_false, Bool.or_true]
                      exact ⟨[some 0], rfl, by simp, by simp [setsA, keepA, SWeak, AWeak], by simp [HWeak, BWeak, SWeak, AWeak]⟩
                    · simp (config := { maxSteps := 1000000 }) (disch := ((try simp only [awL]); omega)) only [QR, QS, QT, QU, QV, QW, QX, QY, QZ, Q0, Q1, Q2, Ns, rn, al, gj, gj1, ew, v5, hlen, ↓awU, awV, awF, Qa, Qb, Qc, Qd, forall_const, ↓reduceIte, ↓reduceDIte, ↓Qe, Qf, Qg, Qh, Qi, Qj, Qk, Ql, Qm, Qn, Qo, Qp, Qq, Qr, Qs, implies_true, Qt, Qu, Qv, Qw, Qx, Qy, Qz, QA, QB, QC, QD, QE, QF, QG, QH, QI, QJ, QK, QL, QM, QN, QO, QP, QQ]
                      refine ⟨by rfl, ?_⟩
                      refine ⟨j + 1, ⟨(by omega), v3⟩, by simp only; omega, ?_⟩
                      simp only [v1, v2, Bool.false_or, Bool.true_or, Bool.or_false, Bool.or_true]
                      exact ⟨[some 0], rfl, by simp, by simp [setsA, keepA, SWeak, AWeak], by simp [HWeak, BWeak, SWeak, AWeak]⟩
                · have ww : widW ly j = -1 := by rw [widW, if_neg (by omega)]
                  rw [ww] at v2
                  cases L
                  · cases F
                    · simp (config := { maxSteps := 1000000 }) (disch := ((try simp only [awL]); omega)) only [QR, QS, QT, QU, QV, QW, QX, QY, QZ, Q0, Q1, Q2, Ns, rn, al, v5, hlen, ↓awU, awV, awF, Qa, Qb, Qc, Qd, forall_const, ↓reduceIte, ↓reduceDIte, ↓Qe, Qf, Qg, Qh, Qi, Qj, Qk, Ql, Qm, Qn, Qo, Qp, Qq, Qr, Qs, implies_true, Qt, Qu, Qv, Qw, Qx, Qy, Qz, QA, QB, QC, QD, QE, QF, QG, QH, QI, QJ, QK, QL, QM, QN, QO, QP, QQ]
                      refine CallC.pure (oddS_spec x _ (by omega)) ?_
                      simp (config := { maxSteps := 1000000 }) (disch := ((try simp only [awL]); omega)) only [QR, QS, QT, QU, QV, QW, QX, QY, QZ, Q0, Q1, Q2, ↓awU, awV, awF, Qa, Qb, Qc, Qd, forall_const, ↓reduceIte, ↓reduceDIte, ↓Qe, Qf, Qg, Qh, Qi, Qj, Qk, Ql, Qm, Qn, Qo, Qp, Qq, Qr, Qs, implies_true, Qt, Qu, Qv, Qw, Qx, Qy, Qz, QA, QB, QC, QD, QE, QF, QG, QH, QI, QJ, QK, QL, QM, QN, QO, QP, QQ]
                      refine ⟨j + 1, ⟨(by omega), v3⟩, by simp only; omega, ?_⟩
                      simp only [v1, v2, Bool.false_or, Bool.true_or, Bool.or_false, Bool.or_true]
                      exact ⟨[some 0], rfl, by simp, by simp [setsA, keepA, SWeak, AWeak], by simp [HWeak, BWeak, SWeak, AWeak]⟩
                    · simp (config := { maxSteps := 1000000 }) (disch := ((try simp only [awL]); omega)) only [QR, QS, QT, QU, QV, QW, QX, QY, QZ, Q0, Q1, Q2, Ns, rn, al, v5, hlen, ↓awU, awV, awF, Qa, Qb, Qc, Qd, forall_const, ↓reduceIte, ↓reduceDIte, ↓Qe, Qf, Qg, Qh, Qi, Qj, Qk, Ql, Qm, Qn, Qo, Qp, Qq, Qr, Qs, implies_true, Qt, Qu, Qv, Qw, Qx, Qy, Qz, QA, QB, QC, QD, QE, QF, QG, QH, QI, QJ, QK, QL, QM, QN, QO, QP, QQ]
                      refine ⟨j + 1, ⟨(by omega), v3⟩, by simp only; omega, ?_⟩
                      simp only [v1, v2, Bool.false_or, Bool.true_or, Bool.or_false, Bool.or_true]
                      exact ⟨[some 0], rfl, by simp, by simp [setsA, keepA, SWeak, AWeak], by simp [HWeak, BWeak, SWeak, AWeak]⟩
                  · cases F
                    · simp (config := { maxSteps := 1000000 }) (disch := ((try simp only [awL]); omega)) only [QR, QS, QT, QU, QV, QW, QX, QY, QZ, Q0, Q1, Q2, Ns, rn, al, v5, hlen, ↓awU, awV, awF, Qa, Qb, Qc, Qd, forall_const, ↓reduceIte, ↓reduceDIte, ↓Qe, Qf, Qg, Qh, Qi, Qj, Qk, Ql, Qm, Qn, Qo, Qp, Qq, Qr, Qs, implies_true, Qt, Qu, Qv, Qw, Qx, Qy, Qz, QA, QB, QC, QD, QE, QF, QG, QH, QI, QJ, QK, QL, QM, QN, QO, QP, QQ]
                      refine CallC.pure (oddS_spec x _ (by omega)) ?_
                      simp (config := { maxSteps := 1000000 }) (disch := ((try simp only [awL]); omega)) only [QR, QS, QT, QU, QV, QW, QX, QY, QZ, Q0, Q1, Q2, ↓awU, awV, awF, Qa, Qb, Qc, Qd, forall_const, ↓reduceIte, ↓reduceDIte, ↓Qe, Qf, Qg, Qh, Qi, Qj, Qk, Ql, Qm, Qn, Qo, Qp, Qq, Qr, Qs, implies_true, Qt, Qu, Qv, Qw, Qx, Qy, Qz, QA, QB, QC, QD, QE, QF, QG, QH, QI, QJ, QK, QL, QM, QN, QO, QP, QQ]
                      refine ⟨j + 1, ⟨(by omega), v3⟩, by simp only; omega, ?_⟩
                      simp only [v1, v2, Bool.false_or, Bool.true_or, Bool.or_false, Bool.or_true]
                      exact ⟨[some 0], rfl, by simp, by simp [setsA, keepA, SWeak, AWeak], by simp [HWeak, BWeak, SWeak, AWeak]⟩
                    · simp (config := { maxSteps := 1000000 }) (disch := ((try simp only [awL]); omega)) only [QR, QS, QT, QU, QV, QW, QX, QY, QZ, Q0, Q1, Q2, Ns, rn, al, v5, hlen, ↓awU, awV, awF, Qa, Qb, Qc, Qd, forall_const, ↓reduceIte, ↓reduceDIte, ↓Qe, Qf, Qg, Qh, Qi, Qj, Qk, Ql, Qm, Qn, Qo, Qp, Qq, Qr, Qs, implies_true, Qt, Qu, Qv, Qw, Qx, Qy, Qz, QA, QB, QC, QD, QE, QF, QG, QH, QI, QJ, QK, QL, QM, QN, QO, QP, QQ]
                      refine ⟨j + 1, ⟨(by omega), v3⟩, by simp only; omega, ?_⟩
                      simp only [v1, v2, Bool.false_or, Bool.true_or, Bool.or_false, Bool.or_true]
                      exact ⟨[some 0], rfl, by simp, by simp [setsA, keepA, SWeak, AWeak], by simp [HWeak, BWeak, SWeak, AWeak]⟩
            · rw [List.take_of_length_le h7] at h6 ⊢
              have e0 : badYTo ly row j = badYRow ly row := by rw [badYRow, show row.length = j by omega]
              rw [e0]
              simp (config := { maxSteps := 1000000 }) (disch := ((try simp only [awL]); omega)) only [QR, QS, QT, QU, QV, QW, QX, QY, QZ, Q0, Q1, Q2, rn, hlen, ↓awU, awV, awF, Qa, Qb, Qc, Qd, forall_const, ↓reduceIte, ↓reduceDIte, ↓Qe, Qf, Qg, Qh, Qi, Qj, Qk, Ql, Qm, Qn, Qo, Qp, Qq, Qr, Qs, implies_true, Qt, Qu, Qv, Qw, Qx, Qy, Qz, QA, QB, QC, QD, QE, QF, QG, QH, QI, QJ, QK, QL, QM, QN, QO, QP, QQ]
              exact ⟨(), h6, ⟨[some 0], rfl, by simp, by simp [setsA, keepA, SWeak, AWeak], by simp [HWeak, BWeak, SWeak, AWeak]⟩⟩
          · rintro ⟨⟩ h5
            simp only [awK, Nat.reduceMod, Nat.reduceDiv, reduceIte]
            simp (config := { maxSteps := 1000000 }) (disch := ((try simp only [awL]); omega)) only [QR, QS, QT, QU, QV, QW, QX, QY, QZ, Q0, Q1, Q2, ↓awU, awV, awF, Qa, Qb, Qc, Qd, forall_const, ↓reduceIte, ↓reduceDIte, ↓Qe, Qf, Qg, Qh, Qi, Qj, Qk, Ql, Qm, Qn, Qo, Qp, Qq, Qr, Qs, implies_true, Qt, Qu, Qv, Qw, Qx, Qy, Qz, QA, QB, QC, QD, QE, QF, QG, QH, QI, QJ, QK, QL, QM, QN, QO, QP, QQ]
            rw [← w1, ← w2]
            exact ⟨i + 1, ⟨h, by rw [sOdd, h2]; simp [oddRw, hlen, h5]⟩, by simp only; omega, ⟨[some 0], rfl, by simp, by simp [setsA, keepA, SWeak, AWeak], by simp [HWeak, BWeak, SWeak, AWeak]⟩⟩
        · have e1 := hodd (by simp [oddRw, hlen])
          rw [e1, if_pos (by decide)] at hr
          simp (config := { maxSteps := 1000000 }) (disch := ((try simp only [awL]); omega)) only [QR, QS, QT, QU, QV, QW, QX, QY, QZ, Q0, Q1, Q2, Ns, gl, al, gg, rn, hlen, ↓awU, awV, awF, Qa, Qb, Qc, Qd, forall_const, ↓reduceIte, ↓reduceDIte, ↓Qe, Qf, Qg, Qh, Qi, Qj, Qk, Ql, Qm, Qn, Qo, Qp, Qq, Qr, Qs, implies_true, Qt, Qu, Qv, Qw, Qx, Qy, Qz, QA, QB, QC, QD, QE, QF, QG, QH, QI, QJ, QK, QL, QM, QN, QO, QP, QQ]
          rw [hr]; rfl
      · rw [List.take_of_length_le h] at h2 ⊢
        simp (config := { maxSteps := 1000000 }) (disch := ((try simp only [awL]); omega)) only [QR, QS, QT, QU, QV, QW, QX, QY, QZ, Q0, Q1, Q2, gl, ↓awU, awV, awF, Qa, Qb, Qc, Qd, forall_const, ↓reduceIte, ↓reduceDIte, ↓Qe, Qf, Qg, Qh, Qi, Qj, Qk, Ql, Qm, Qn, Qo, Qp, Qq, Qr, Qs, implies_true, Qt, Qu, Qv, Qw, Qx, Qy, Qz, QA, QB, QC, QD, QE, QF, QG, QH, QI, QJ, QK, QL, QM, QN, QO, QP, QQ]
        exact ⟨(), h2, ⟨[some 0], rfl, by simp, by simp [setsA, keepA, SWeak, AWeak], by simp [HWeak, BWeak, SWeak, AWeak]⟩⟩
    · rintro ⟨⟩ h2
      simp only [awK, Nat.reduceMod, Nat.reduceDiv, reduceIte]
      have ck : checkL ly g = if lim0 || g.any (fun r => r.any bigF) then 3 else if g.any (badRow ly) then 4 else 0 := by
        unfold checkL; rw [if_neg (by rw [h2]; decide), ← hlim]
      cases hL : (lim0 || g.any (fun r => r.any bigF))
      · rw [hL, if_neg (by decide)] at ck
        rw [badYAll_eq (Bool.or_eq_false_iff.1 hL).2]
        cases hF : g.any (badRow ly)
        · rw [hF, if_neg (by decide)] at ck
          rw [if_neg (by rw [ck]; decide)] at hr
          obtain ⟨c1, c2⟩ := check_ok ck
          have tl := txt_len ly nle g fun r hr => ⟨by rw [(c2 r hr).1, nl]; exact k2, fun s hs => ((c2 r hr).2.1 s hs).2⟩
          simp (config := { maxSteps := 1000000 }) (disch := ((try simp only [awL]); omega)) only [QR, QS, QT, QU, QV, QW, QX, QY, QZ, Q0, Q1, Q2, gl, ↓awU, awV, awF, Qa, Qb, Qc, Qd, forall_const, ↓reduceIte, ↓reduceDIte, ↓Qe, Qf, Qg, Qh, Qi, Qj, Qk, Ql, Qm, Qn, Qo, Qp, Qq, Qr, Qs, implies_true, Qt, Qu, Qv, Qw, Qx, Qy, Qz, QA, QB, QC, QD, QE, QF, QG, QH, QI, QJ, QK, QL, QM, QN, QO, QP, QQ]
          refine LoopC.fx 232113757366008801543585801 (α := Nat × Nat) (β := Unit) (fun x => g.length - x.1) (fun x => [(13, .d (.int .i64 x.2)), (88, .d (.int .i64 x.1))]) (fun _ => [.box [.d (Gr g full)]])
            (fun x => x.1 ≤ g.length ∧ x.2 + (txtF ly (g.drop x.1)).length = (txtF ly g).length ∧ x.2 ≤ 1048576) 9 (fun _ => []) (fun _ => [.box [.d (Gr g full)]]) (fun _ => (txtF ly g).length ≤ 1048576) (0, 0) ⟨Nat.zero_le _, by simp, Nat.zero_le _⟩ ?_ ?_ ?_
          · exact ⟨[some 0], rfl, by simp, by simp [setsA, keepA, SWeak, AWeak], by simp [HWeak, BWeak, SWeak, AWeak]⟩
          · rintro ⟨i, sz⟩ ⟨b1, b2, b3⟩
            simp only at b1 b2 b3
            simp only [awK, Nat.reduceMod, Nat.reduceDiv, reduceIte]
            rcases Nat.lt_or_ge i g.length with h | h
            · have gg := rowsD_getD h
              rw [txt_step ly h] at b2
              have mem := c2 _ (memD (d := []) h)
              generalize g.getD i [] = row at *
              obtain ⟨r1, r2, r3⟩ := mem
              have sl := @strs_length row
              simp only [List.length_append, List.length_cons, List.length_nil] at b2
              simp (config := { maxSteps := 1000000 }) (disch := ((try simp only [awL]); omega)) only [QR, QS, QT, QU, QV, QW, QX, QY, QZ, Q0, Q1, Q2, gl, gg, ↓awU, awV, awF, Qa, Qb, Qc, Qd, forall_const, ↓reduceIte, ↓reduceDIte, ↓Qe, Qf, Qg, Qh, Qi, Qj, Qk, Ql, Qm, Qn, Qo, Qp, Qq, Qr, Qs, implies_true, Qt, Qu, Qv, Qw, Qx, Qy, Qz, QA, QB, QC, QD, QE, QF, QG, QH, QI, QJ, QK, QL, QM, QN, QO, QP, QQ]
              refine LoopC.fx 15396879238611917169057857545 (α := Nat × Nat × Nat) (β := Nat × Nat) (fun x => row.length - x.1) (fun x => [(13, .d (.int .i64 x.2.2)), (16, .d (.int .i64 x.2.1)), (94, .d (.int .i64 x.1))]) (fun _ => [.box [.d (Gr g full)]])
                (fun x => x.1 ≤ row.length ∧ (x.1 < row.length → x.2.1 ≤ ly.getD x.1 0) ∧ x.2.2 + x.2.1 + (wrF ly x.1 x.2.1 (row.drop x.1)).length + 1 + (txtF ly (g.drop (i + 1))).length = (txtF ly g).length) 541598767187353870268366857 (fun y => [(13, .d (.int .i64 y.2)), (16, .d (.int .i64 y.1))]) (fun _ => [.box [.d (Gr g full)]])
                (fun y => y.2 + y.1 + 1 + (txtF ly (g.drop (i + 1))).length = (txtF ly g).length) (0, 0, sz) ⟨Nat.zero_le _, fun _ => Nat.zero_le _, by simp only [List.drop_zero]; omega⟩ ?_ ?_ ?_
              · exact ⟨[some 0], rfl, by simp, by simp [setsA, keepA, SWeak, AWeak], by simp [HWeak, BWeak, SWeak, AWeak]⟩
              · rintro ⟨j, p, z⟩ ⟨d1, d2, d3⟩
                simp only at d1 d2 d3
                simp only [awK, Nat.reduceMod, Nat.reduceDiv, reduceIte]
                rcases Nat.lt_or_ge j row.length with hj | hj
                · have sg2 := strs_getD hj
                  have mem2 := r2 _ (memD (d := []) hj)
                  have bad := r3 j hj
                  have hp := d2 hj
                  have lj := nle j
                  have gj := nats_getD (k := .i64) (d := .nilp) (l := ly) (i := j) (by omega)
                  have mono := k3.2.2 j
                  have room := @bad_room ly j _ bad
                  rw [wr_step ly hj] at d3
                  generalize row.getD j [] = fld at *
                  by_cases he : fld = []
                  · subst he
                    rw [if_pos rfl] at d3
                    simp (config := { maxSteps := 1000000 }) (disch := ((try simp only [awL]); omega)) only [QR, QS, QT, QU, QV, QW, QX, QY, QZ, Q0, Q1, Q2, sl, sg2, ↓awU, awV, awF, Qa, Qb, Qc, Qd, forall_const, ↓reduceIte, ↓reduceDIte, ↓Qe, Qf, Qg, Qh, Qi, Qj, Qk, Ql, Qm, Qn, Qo, Qp, Qq, Qr, Qs, implies_true, Qt, Qu, Qv, Qw, Qx, Qy, Qz, QA, QB, QC, QD, QE, QF, QG, QH, QI, QJ, QK, QL, QM, QN, QO, QP, QQ]
                    exact ⟨(j + 1, p, z), ⟨hj, fun hj2 => Nat.le_trans hp (mono (by simp only at hj2; omega)), d3⟩, by simp only; omega, ⟨[some 0], rfl, by simp, by simp [setsA, keepA, SWeak, AWeak], by simp [HWeak, BWeak, SWeak, AWeak]⟩⟩
                  · rw [if_neg he] at d3
                    have hne : (fld == []) = false := by simpa using he
                    have rd := runesD_bs fld
                    have rs := runesS_bs fld
                    have nlr := @nats_length .i32 (rnF fld 0)
                    have rc := rcL_eq fld
                    have rl := rcL_le fld
                    have e1 : (p : Int) + (((ly.getD j 0 : Nat) : Int) - (p : Nat)) = ((ly.getD j 0 : Nat) : Int) := by omega
                    have e2 : ((fld.length : Nat) : Int) - ((rcL fld : Nat) : Int) = ((fld.length - rcL fld : Nat) : Int) := by omega
                    simp only [List.length_append, List.length_replicate] at d3
                    rw [← rc] at nlr
                    simp (config := { maxSteps := 1000000 }) (disch := ((try simp only [awL]); omega)) only [QR, QS, QT, QU, QV, QW, QX, QY, QZ, Q0, Q1, Q2, Ns, al, gj, hne, e1, e2, rd, rs, nlr, rc.symm, sl, sg2, ↓awU, awV, awF, Qa, Qb, Qc, Qd, forall_const, ↓reduceIte, ↓reduceDIte, ↓Qe, Qf, Qg, Qh, Qi, Qj, Qk, Ql, Qm, Qn, Qo, Qp, Qq, Qr, Qs, implies_true, Qt, Qu, Qv, Qw, Qx, Qy, Qz, QA, QB, QC, QD, QE, QF, QG, QH, QI, QJ, QK, QL, QM, QN, QO, QP, QQ]
                    exact ⟨(j + 1, ly.getD j 0 + rcL fld, z + (fld.length - rcL fld)), ⟨hj, fun hj2 => by have := room (by simp only at hj2; omega); have := mono (by simp only at hj2; omega); simp only; omega, by simp only; omega⟩, by simp only; omega, ⟨[some 0], rfl, by simp, by simp [setsA, keepA, SWeak, AWeak], by simp [HWeak, BWeak, SWeak, AWeak]⟩⟩
                · obtain rfl : j = row.length := by omega
                  rw [List.drop_length] at d3
                  simp only [wrF, List.length_nil] at d3
                  simp (config := { maxSteps := 1000000 }) (disch := ((try simp only [awL]); omega)) only [QR, QS, QT, QU, QV, QW, QX, QY, QZ, Q0, Q1, Q2, sl, ↓awU, awV, awF, Qa, Qb, Qc, Qd, forall_const, ↓reduceIte, ↓reduceDIte, ↓Qe, Qf, Qg, Qh, Qi, Qj, Qk, Ql, Qm, Qn, Qo, Qp, Qq, Qr, Qs, implies_true, Qt, Qu, Qv, Qw, Qx, Qy, Qz, QA, QB, QC, QD, QE, QF, QG, QH, QI, QJ, QK, QL, QM, QN, QO, QP, QQ]
                  exact ⟨(p, z), by simp only; omega, ⟨[some 0], rfl, by simp, by simp [setsA, keepA, SWeak, AWeak], by simp [HWeak, BWeak, SWeak, AWeak]⟩⟩
              · rintro ⟨p, z⟩ d3
                simp only at d3
                simp only [awK, Nat.reduceMod, Nat.reduceDiv, reduceIte]
                rcases Nat.lt_or_ge 1048576 (z + (p + 1)) with h4 | h4
                · rw [if_pos (by omega)] at hr
                  simp (config := { maxSteps := 1000000 }) (disch := ((try simp only [awL]); omega)) only [QR, QS, QT, QU, QV, QW, QX, QY, QZ, Q0, Q1, Q2, ↓awU, awV, awF, Qa, Qb, Qc, Qd, forall_const, ↓reduceIte, ↓reduceDIte, ↓Qe, Qf, Qg, Qh, Qi, Qj, Qk, Ql, Qm, Qn, Qo, Qp, Qq, Qr, Qs, implies_true, Qt, Qu, Qv, Qw, Qx, Qy, Qz, QA, QB, QC, QD, QE, QF, QG, QH, QI, QJ, QK, QL, QM, QN, QO, QP, QQ]
                  rw [hr]; rfl
                · simp (config := { maxSteps := 1000000 }) (disch := ((try simp only [awL]); omega)) only [QR, QS, QT, QU, QV, QW, QX, QY, QZ, Q0, Q1, Q2, ↓awU, awV, awF, Qa, Qb, Qc, Qd, forall_const, ↓reduceIte, ↓reduceDIte, ↓Qe, Qf, Qg, Qh, Qi, Qj, Qk, Ql, Qm, Qn, Qo, Qp, Qq, Qr, Qs, implies_true, Qt, Qu, Qv, Qw, Qx, Qy, Qz, QA, QB, QC, QD, QE, QF, QG, QH, QI, QJ, QK, QL, QM, QN, QO, QP, QQ]
                  exact ⟨(i + 1, z + (p + 1)), ⟨h, by simp only; omega, h4⟩, by simp only; omega, ⟨[some 0], rfl, by simp, by simp [setsA, keepA, SWeak, AWeak], by simp [HWeak, BWeak, SWeak, AWeak]⟩⟩
            · obtain rfl : i = g.length := by omega
              rw [List.drop_length] at b2
              simp only [txtF, List.length_nil] at b2
              simp (config := { maxSteps := 1000000 }) (disch := ((try simp only [awL]); omega)) only [QR, QS, QT, QU, QV, QW, QX, QY, QZ, Q0, Q1, Q2, gl, ↓awU, awV, awF, Qa, Qb, Qc, Qd, forall_const, ↓reduceIte, ↓reduceDIte, ↓Qe, Qf, Qg, Qh, Qi, Qj, Qk, Ql, Qm, Qn, Qo, Qp, Qq, Qr, Qs, implies_true, Qt, Qu, Qv, Qw, Qx, Qy, Qz, QA, QB, QC, QD, QE, QF, QG, QH, QI, QJ, QK, QL, QM, QN, QO, QP, QQ]
              exact ⟨(), by trivial, ⟨[some 0], rfl, by simp, by simp [setsA, keepA, SWeak, AWeak], by simp [HWeak, BWeak, SWeak, AWeak]⟩⟩
          · rintro ⟨⟩ htl
            rw [if_neg (by omega)] at hr
            simp only [awK, Nat.reduceMod, Nat.reduceDiv, reduceIte]
            simp (config := { maxSteps := 1000000 }) (disch := ((try simp only [awL]); omega)) only [QR, QS, QT, QU, QV, QW, QX, QY, QZ, Q0, Q1, Q2, gl, ↓awU, awV, awF, Qa, Qb, Qc, Qd, forall_const, ↓reduceIte, ↓reduceDIte, ↓Qe, Qf, Qg, Qh, Qi, Qj, Qk, Ql, Qm, Qn, Qo, Qp, Qq, Qr, Qs, implies_true, Qt, Qu, Qv, Qw, Qx, Qy, Qz, QA, QB, QC, QD, QE, QF, QG, QH, QI, QJ, QK, QL, QM, QN, QO, QP, QQ]
            refine LoopC.fr 8166776806102523123120990578362437074945 (α := Nat × List UInt8) (fun x => g.length - x.1) (fun x => [(19, .lsl 1 1 0 x.2.length), (133, .d (.int .i64 x.1))]) (fun x => [.dead, .row false (BtF x.2)])
              (fun x => x.1 ≤ g.length ∧ x.2 ++ txtF ly (g.drop x.1) = txtF ly g) (0, []) ⟨Nat.zero_le _, by simp⟩ ?_ ?_
            · exact ⟨[some 0, none], rfl, by simp, by simp [setsA, keepA, SWeak, AWeak], by simp [HWeak, BWeak, SWeak, AWeak, ints, nums]⟩
            · rintro ⟨i, out⟩ ⟨b1, b2⟩
              simp only at b1 b2
              have bl := @BtF_length out
              simp only [awK, Nat.reduceMod, Nat.reduceDiv, reduceIte]
              rcases Nat.lt_or_ge i g.length with h | h
              · have gg := rowsD_getD h
                rw [txt_step ly h] at b2
                have mem := c2 _ (memD (d := []) h)
                generalize g.getD i [] = row at *
                obtain ⟨r1, r2, r3⟩ := mem
                have sl := @strs_length row
                simp (config := { maxSteps := 1000000 }) (disch := ((try simp only [awL]); omega)) only [QR, QS, QT, QU, QV, QW, QX, QY, QZ, Q0, Q1, Q2, gl, gg, ↓awU, awV, awF, Qa, Qb, Qc, Qd, forall_const, ↓reduceIte, ↓reduceDIte, ↓Qe, Qf, Qg, Qh, Qi, Qj, Qk, Ql, Qm, Qn, Qo, Qp, Qq, Qr, Qs, implies_true, Qt, Qu, Qv, Qw, Qx, Qy, Qz, QA, QB, QC, QD, QE, QF, QG, QH, QI, QJ, QK, QL, QM, QN, QO, QP, QQ]
                refine LoopC.fr 541729528138134033833692375031374992637953 (α := Nat × Nat × List UInt8) (fun x => row.length - x.1) (fun x => [(19, .lsl 1 1 0 x.2.2.length), (22, .d (.int .i64 x.2.1)), (139, .d (.int .i64 x.1))]) (fun x => [.dead, .row false (BtF x.2.2)])
                  (fun x => x.1 ≤ row.length ∧ (x.1 < row.length → x.2.1 ≤ ly.getD x.1 0) ∧ x.2.2 ++ wrF ly x.1 x.2.1 (row.drop x.1) ++ [10] ++ txtF ly (g.drop (i + 1)) = txtF ly g) (0, 0, out) ⟨Nat.zero_le _, fun _ => Nat.zero_le _, by simp only [List.drop_zero, List.append_assoc] at b2 ⊢; exact b2⟩ ?_ ?_
                · exact ⟨[some 0, some 1], rfl, by simp, by simp [setsA, keepA, SWeak, AWeak], by simp [HWeak, BWeak, SWeak, AWeak]⟩
                · rintro ⟨j, p, out2⟩ ⟨d1, d2, d3⟩
                  simp only at d1 d2 d3
                  have ol2 : out2.length ≤ (txtF ly g).length := by rw [← d3]; simp only [List.length_append]; omega
                  have bl2 := @BtF_length out2
                  simp only [awK, Nat.reduceMod, Nat.reduceDiv, reduceIte]
                  rcases Nat.lt_or_ge j row.length with hj | hj
                  · have sg2 := strs_getD hj
                    have mem2 := r2 _ (memD (d := []) hj)
                    have bad := r3 j hj
                    have hp := d2 hj
                    have lj := nle j
                    have gj := nats_getD (k := .i64) (d := .nilp) (l := ly) (i := j) (by omega)
                    have mono := k3.2.2 j
                    have room := @bad_room ly j _ bad
                    rw [wr_step ly hj] at d3
                    generalize row.getD j [] = fld at *
                    by_cases he : fld = []
                    · subst he
                      rw [if_pos rfl] at d3
                      simp (config := { maxSteps := 1000000 }) (disch := ((try simp only [awL]); omega)) only [QR, QS, QT, QU, QV, QW, QX, QY, QZ, Q0, Q1, Q2, sl, sg2, ↓awU, awV, awF, Qa, Qb, Qc, Qd, forall_const, ↓reduceIte, ↓reduceDIte, ↓Qe, Qf, Qg, Qh, Qi, Qj, Qk, Ql, Qm, Qn, Qo, Qp, Qq, Qr, Qs, implies_true, Qt, Qu, Qv, Qw, Qx, Qy, Qz, QA, QB, QC, QD, QE, QF, QG, QH, QI, QJ, QK, QL, QM, QN, QO, QP, QQ]
                      exact ⟨(j + 1, p, out2), ⟨hj, fun hj2 => Nat.le_trans hp (mono (by simp only at hj2; omega)), d3⟩, by simp only; omega, ⟨[some 0, some 1], rfl, by simp, by simp [setsA, keepA, SWeak, AWeak], by simp [HWeak, BWeak, SWeak, AWeak]⟩⟩
                    · rw [if_neg he] at d3
                      have hne : (fld == []) = false := by simpa using he
                      simp (config := { maxSteps := 1000000 }) (disch := ((try simp only [awL]); omega)) only [QR, QS, QT, QU, QV, QW, QX, QY, QZ, Q0, Q1, Q2, hne, sl, sg2, ↓awU, awV, awF, Qa, Qb, Qc, Qd, forall_const, ↓reduceIte, ↓reduceDIte, ↓Qe, Qf, Qg, Qh, Qi, Qj, Qk, Ql, Qm, Qn, Qo, Qp, Qq, Qr, Qs, implies_true, Qt, Qu, Qv, Qw, Qx, Qy, Qz, QA, QB, QC, QD, QE, QF, QG, QH, QI, QJ, QK, QL, QM, QN, QO, QP, QQ]
                      refine LoopC.fx 1238627815592216007006683571051636314865665 (α := Nat × List UInt8) (β := List UInt8) (fun x => ly.getD j 0 - x.1) (fun x => [(19, .lsl 1 1 0 x.2.length), (22, .d (.int .i64 x.1))]) (fun x => [.dead, .row false (BtF x.2)])
                        (fun x => x.1 ≤ ly.getD j 0 ∧ x.2 ++ List.replicate (ly.getD j 0 - x.1) 32 = out2 ++ List.replicate (ly.getD j 0 - p) 32) 1238627815592216007006683571051636314865665 (fun y => [(19, .lsl 1 1 0 y.length), (22, .d (.int .i64 (ly.getD j 0)))]) (fun y => [.dead, .row false (BtF y)])
                        (fun y => y = out2 ++ List.replicate (ly.getD j 0 - p) 32) (p, out2) ⟨hp, rfl⟩ ?_ ?_ ?_
                      · exact ⟨[some 0, some 1], rfl, by simp, by simp [setsA, keepA, SWeak, AWeak], by simp [HWeak, BWeak, SWeak, AWeak]⟩
                      · rintro ⟨n, out3⟩ ⟨f1, f2⟩
                        simp only at f1 f2
                        have bl3 := @BtF_length out3
                        have f3 := congrArg List.length f2
                        simp only [List.length_append, List.length_replicate] at f3
                        simp only [awK, Nat.reduceMod, Nat.reduceDiv, reduceIte]
                        rcases Nat.lt_or_ge n (ly.getD j 0) with hn | hn
                        · have sp : BtF out3 ++ [.int .u8 32] = BtF (out3 ++ [32]) := @BtF_push out3 32
                          have lb : (out3 ++ [(32 : UInt8)]).length = out3.length + 1 := by simp
                          have f4 : (out3 ++ [32]) ++ List.replicate (ly.getD j 0 - (n + 1)) 32 = out2 ++ List.replicate (ly.getD j 0 - p) 32 := by
                            rw [← f2, List.append_assoc, show ly.getD j 0 - n = (ly.getD j 0 - (n + 1)) + 1 by omega, List.replicate_succ]; rfl
                          generalize hb : out3 ++ [32] = out4 at *
                          simp (config := { maxSteps := 1000000 }) (disch := ((try simp only [awL]); omega)) only [QR, QS, QT, QU, QV, QW, QX, QY, QZ, Q0, Q1, Q2, Ns, al, gj, bl3, sp, ↓awU, awV, awF, Qa, Qb, Qc, Qd, forall_const, ↓reduceIte, ↓reduceDIte, ↓Qe, Qf, Qg, Qh, Qi, Qj, Qk, Ql, Qm, Qn, Qo, Qp, Qq, Qr, Qs, implies_true, Qt, Qu, Qv, Qw, Qx, Qy, Qz, QA, QB, QC, QD, QE, QF, QG, QH, QI, QJ, QK, QL, QM, QN, QO, QP, QQ]
                          exact ⟨(n + 1, out4), ⟨hn, f4⟩, by simp only; omega, ⟨[some 0, some 3], rfl, by simp, by simp [setsA, keepA, SWeak, AWeak, lb], by simp [HWeak, BWeak, SWeak, AWeak]⟩⟩
                        · obtain rfl : n = ly.getD j 0 := by omega
                          simp (config := { maxSteps := 1000000 }) (disch := ((try simp only [awL]); omega)) only [QR, QS, QT, QU, QV, QW, QX, QY, QZ, Q0, Q1, Q2, Ns, al, gj, ↓awU, awV, awF, Qa, Qb, Qc, Qd, forall_const, ↓reduceIte, ↓reduceDIte, ↓Qe, Qf, Qg, Qh, Qi, Qj, Qk, Ql, Qm, Qn, Qo, Qp, Qq, Qr, Qs, implies_true, Qt, Qu, Qv, Qw, Qx, Qy, Qz, QA, QB, QC, QD, QE, QF, QG, QH, QI, QJ, QK, QL, QM, QN, QO, QP, QQ]
                          exact ⟨out3, by simpa using f2, ⟨[some 0, some 1], rfl, by simp, by simp [setsA, keepA, SWeak, AWeak], by simp [HWeak, BWeak, SWeak, AWeak]⟩⟩
                      · rintro out3 f1
                        have f3 := congrArg List.length f1
                        simp only [List.length_append, List.length_replicate] at f3
                        have bl3 := @BtF_length out3
                        have sp2 := @BtF_app out3 fld
                        have lb2 : (out3 ++ fld).length = out3.length + fld.length := by simp
                        have lf := @BtF_length fld
                        have sm : (fld.map fun b => D.int .u8 b.toNat) = BtF fld := by simp [BtF, ints, nums]
                        have rd := runesD_bs fld
                        have rs := runesS_bs fld
                        have nlr := @nats_length .i32 (rnF fld 0)
                        have rc := rcL_eq fld
                        have rl := rcL_le fld
                        rw [← rc] at nlr
                        have d4 : (out3 ++ fld) ++ wrF ly (j + 1) (ly.getD j 0 + rcL fld) (row.drop (j + 1)) ++ [10] ++ txtF ly (g.drop (i + 1)) = txtF ly g := by
                          rw [f1, ← d3]; simp only [List.append_assoc]
                        generalize hb2 : out3 ++ fld = out5 at *
                        simp only [awK, Nat.reduceMod, Nat.reduceDiv, reduceIte]
                        simp (config := { maxSteps := 1000000 }) (disch := ((try simp only [awL]); omega)) only [QR, QS, QT, QU, QV, QW, QX, QY, QZ, Q0, Q1, Q2, bl3, sp2, lf, sm, rd, rs, nlr, rc.symm, ↓awU, awV, awF, Qa, Qb, Qc, Qd, forall_const, ↓reduceIte, ↓reduceDIte, ↓Qe, Qf, Qg, Qh, Qi, Qj, Qk, Ql, Qm, Qn, Qo, Qp, Qq, Qr, Qs, implies_true, Qt, Qu, Qv, Qw, Qx, Qy, Qz, QA, QB, QC, QD, QE, QF, QG, QH, QI, QJ, QK, QL, QM, QN, QO, QP, QQ]
                        exact ⟨(j + 1, ly.getD j 0 + rcL fld, out5), ⟨hj, fun hj2 => by have := room (by simp only at hj2; omega); have := mono (by simp only at hj2; omega); simp only; omega, d4⟩, by simp only; omega, ⟨[some 0, some 2], rfl, by simp, by simp [setsA, keepA, SWeak, AWeak, lb2], by simp [HWeak, BWeak, SWeak, AWeak]⟩⟩
                  · obtain rfl : j = row.length := by omega
                    rw [List.drop_length] at d3
                    simp only [wrF, List.append_nil] at d3
                    have sp : BtF out2 ++ [.int .u8 10] = BtF (out2 ++ [10]) := @BtF_push out2 10
                    have lb : (out2 ++ [(10 : UInt8)]).length = out2.length + 1 := by simp
                    generalize hb : out2 ++ [10] = out4 at *
                    simp (config := { maxSteps := 1000000 }) (disch := ((try simp only [awL]); omega)) only [QR, QS, QT, QU, QV, QW, QX, QY, QZ, Q0, Q1, Q2, sl, bl2, sp, ↓awU, awV, awF, Qa, Qb, Qc, Qd, forall_const, ↓reduceIte, ↓reduceDIte, ↓Qe, Qf, Qg, Qh, Qi, Qj, Qk, Ql, Qm, Qn, Qo, Qp, Qq, Qr, Qs, implies_true, Qt, Qu, Qv, Qw, Qx, Qy, Qz, QA, QB, QC, QD, QE, QF, QG, QH, QI, QJ, QK, QL, QM, QN, QO, QP, QQ]
                    exact ⟨(i + 1, out4), ⟨h, d3⟩, by simp only; omega, ⟨[some 0, some 3], rfl, by simp, by simp [setsA, keepA, SWeak, AWeak, lb], by simp [HWeak, BWeak, SWeak, AWeak]⟩⟩
              · obtain rfl : i = g.length := by omega
                rw [List.drop_length] at b2
                simp only [txtF, List.append_nil] at b2
                rw [← b2] at hr
                have cu : cut (BtF out) 0 out.length = BtF out := cut_all bl.symm
                simp (config := { maxSteps := 1000000 }) (disch := ((try simp only [awL]); omega)) only [QR, QS, QT, QU, QV, QW, QX, QY, QZ, Q0, Q1, Q2, gl, bl, cu, numsOf_ints, strOfNums_nums, ↓awU, awV, awF, Qa, Qb, Qc, Qd, forall_const, ↓reduceIte, ↓reduceDIte, ↓Qe, Qf, Qg, Qh, Qi, Qj, Qk, Ql, Qm, Qn, Qo, Qp, Qq, Qr, Qs, implies_true, Qt, Qu, Qv, Qw, Qx, Qy, Qz, QA, QB, QC, QD, QE, QF, QG, QH, QI, QJ, QK, QL, QM, QN, QO, QP, QQ]
                rw [hr]; rfl
        · rw [hF, if_pos rfl] at ck
          rw [ck, if_pos (by decide)] at hr
          simp (config := { maxSteps := 1000000 }) (disch := ((try simp only [awL]); omega)) only [QR, QS, QT, QU, QV, QW, QX, QY, QZ, Q0, Q1, Q2, ↓awU, awV, awF, Qa, Qb, Qc, Qd, forall_const, ↓reduceIte, ↓reduceDIte, ↓Qe, Qf, Qg, Qh, Qi, Qj, Qk, Ql, Qm, Qn, Qo, Qp, Qq, Qr, Qs, implies_true, Qt, Qu, Qv, Qw, Qx, Qy, Qz, QA, QB, QC, QD, QE, QF, QG, QH, QI, QJ, QK, QL, QM, QN, QO, QP, QQ]
          rw [hr]; rfl
      · rw [hL, if_pos rfl] at ck
        rw [ck, if_pos (by decide)] at hr
        generalize g.any (badYRow ly) = F
        simp (config := { maxSteps := 1000000 }) (disch := ((try simp only [awL]); omega)) only [QR, QS, QT, QU, QV, QW, QX, QY, QZ, Q0, Q1, Q2, ↓awU, awV, awF, Qa, Qb, Qc, Qd, forall_const, ↓reduceIte, ↓reduceDIte, ↓Qe, Qf, Qg, Qh, Qi, Qj, Qk, Ql, Qm, Qn, Qo, Qp, Qq, Qr, Qs, implies_true, Qt, Qu, Qv, Qw, Qx, Qy, Qz, QA, QB, QC, QD, QE, QF, QG, QH, QI, QJ, QK, QL, QM, QN, QO, QP, QQ]
        rw [hr]; rfl
end Go.Proofs.YtacepalmphbnfaaGreatDoor

namespace Go.Proofs.YtacepalmphbnfaaGreatDoor
open Go Go.Proofs Go.Abs
variable {G : Globals}
/-! The reference's Infer. -/
end Go.Proofs.YtacepalmphbnfaaGreatDoor

namespace Go.Proofs.YtacepalmphbnfaaGreatDoor
open Go Go.Proofs Go.Abs
variable {G : Globals}
/-! The layout with a text: what is parsed. -/
theorem dg_byte {n : Nat} (h : n < 10) : (UInt8.ofNat (48 + n)).toNat = 48 + n := by simp; omega
theorem dec_ne (n : Nat) : Lib.decDigits n ≠ [] := by
  intro e
  have := congrArg List.length e
  rw [Lib.decDigits_length] at this
  have := Lib.nDigits_pos n
  simp at *; omega
theorem dec_bytes : ∀ (n : Nat), ∀ c ∈ Lib.decDigits n, 48 ≤ c.toNat ∧ c.toNat ≤ 57 := by
  intro n
  induction n using Nat.strongRecOn with
  | _ n ih =>
    intro c hc
    rw [Lib.decDigits] at hc
    split at hc
    · simp only [List.mem_singleton] at hc
      rw [hc, dg_byte (by omega)]; omega
    · rcases List.mem_append.1 hc with h | h
      · exact ih _ (by omega) c h
      · simp only [List.mem_singleton] at h
        rw [h, dg_byte (by omega)]; omega
theorem parse_dec : ∀ (n : Nat) (t : List UInt8), n < 100000000 → Lib.parseUint10 0 (Lib.decDigits n ++ t) = Lib.parseUint10 n t := by
  intro n
  induction n using Nat.strongRecOn with
  | _ n ih =>
    intro t hn
    rw [Lib.decDigits]
    split
    · rw [List.singleton_append, Lib.parseUint10, dg_byte (by omega), if_pos (by omega), if_neg (by omega), if_neg (by omega)]
      congr 1; omega
    · rw [List.append_assoc, ih _ (by omega) _ (by omega), List.singleton_append, Lib.parseUint10, dg_byte (by omega), if_pos (by omega), if_neg (by omega), if_neg (by omega)]
      congr 1; omega
theorem atoi_dec (n : Nat) (hn : n < 100000000) : Lib.atoiAll (Lib.decDigits n) = .ok (n : Int) := by
  have hp := parse_dec n [] hn
  rw [List.append_nil] at hp
  cases e : Lib.decDigits n with
  | nil => exact absurd e (dec_ne n)
  | cons c r =>
    have hc := dec_bytes n c (by rw [e]; simp)
    rw [e] at hp
    unfold Lib.atoiAll
    have c1 : ¬ (c.toNat = 43 ∨ c.toNat = 45) := by omega
    have c2 : ¬ (c.toNat = 45) := by omega
    simp only [if_neg c1, Lib.parseMag, hp, Lib.parseUint10, if_neg (show ¬ (c :: r = []) from by simp), if_neg c2]
    rw [if_neg (by omega), if_neg (by omega)]
theorem natGo_dec : ∀ (n : Nat) (t : List UInt8), n < 100000000 → natGo 0 0 (Lib.decDigits n ++ t) = natGo n (Lib.decDigits n).length t := by
  intro n
  induction n using Nat.strongRecOn with
  | _ n ih =>
    intro t hn
    rw [Lib.decDigits]
    split
    · rw [List.singleton_append, natGo, dg_byte (by omega), if_neg (by omega)]
      congr 1; omega
    · rw [List.append_assoc, ih _ (by omega) _ (by omega), List.singleton_append, natGo, dg_byte (by omega), if_neg (by omega), List.length_append]
      congr 1; omega
/-- What a part is as a number: for the program, and for the reference. -/
def atoiO (p : List UInt8) : Option Int := match Lib.atoiAll p with | .ok v => some v | _ => none
def natO (p : List UInt8) : Option Nat := match natGo 0 0 p with | some n => if p = [] then none else some n | none => none
theorem atoiO_dec {n : Nat} (hn : n < 100000000) : atoiO (Lib.decDigits n) = some (n : Int) := by rw [atoiO, atoi_dec n hn]
theorem natO_dec {n : Nat} (hn : n < 100000000) : natO (Lib.decDigits n) = some n := by
  have := natGo_dec n [] hn
  rw [List.append_nil] at this
  rw [natO, this, natGo]
  simp only [if_neg (dec_ne n)]
def allO {α : Type} (f : List UInt8 → Option α) : List (List UInt8) → Option (List α)
  | [] => some []
  | p :: t => match f p, allO f t with
    | some v, some l => some (v :: l)
    | _, _ => none
theorem splL_app {x r : List UInt8} (h : (44 : UInt8) ∉ x) : splL (x ++ 44 :: r) = x :: splL r := by
  have hk : x.length < (x ++ 44 :: r).length := by simp
  have hg : (x ++ 44 :: r).getD x.length 0 = 44 := by simp [List.getD_eq_getElem?_getD]
  have ht : (x ++ 44 :: r).take x.length = x := by simp
  obtain ⟨h1, h2, h3⟩ := cut_at (c := 44) hk hg (by rw [ht]; exact h)
  rw [splL_more h3, h1, h2, ht]
  simp
theorem dec_no44 (n : Nat) : (44 : UInt8) ∉ Lib.decDigits n := fun h => by have := (dec_bytes n _ h).1; revert this; decide
theorem splL_join : ∀ (l : List Nat), l ≠ [] → splL (Lib.join (numT l) [44]) = numT l
  | [], h => absurd rfl h
  | [n], _ => by rw [numT, List.map_cons, List.map_nil, Lib.join_one, splL_last (dec_no44 n)]
  | n :: m :: t, _ => by
    have ih := splL_join (m :: t) (by simp)
    have e : Lib.join (numT (n :: m :: t)) [44] = Lib.decDigits n ++ 44 :: Lib.join (numT (m :: t)) [44] := by
      simp only [numT, List.map_cons]
      rw [Lib.join_cons, Lib.join_cons]
      simp [Lib.joinTail]
    rw [e, splL_app (dec_no44 n), ih]
    rfl
theorem allO_dec {α : Type} {f : List UInt8 → Option α} {g : Nat → α} (hf : ∀ n, n < 100000000 → f (Lib.decDigits n) = some (g n)) : ∀ (l : List Nat), (∀ n ∈ l, n < 100000000) → allO f (numT l) = some (l.map g)
  | [], _ => rfl
  | n :: t, h => by
    have ih := allO_dec hf t fun x hx => h x (by simp [hx])
    rw [numT, List.map_cons, allO, hf n (h n (by simp))]
    rw [numT] at ih
    rw [ih]; rfl
/-- The layout with a text, if there is one. -/
def layO (s : List UInt8) : Option (List Int) :=
  match allO atoiO (splL s) with
  | some l => if textL l = some s then some l else none
  | none => none
theorem text_parts {l : List Int} {s : List UInt8} (h : textL l = some s) : splL s = numT (natsOf l) ∧ allO atoiO (splL s) = some l ∧ allO natO (splL s) = some (natsOf l) ∧ (natsOf l).map (fun n : Nat => (n : Int)) = l := by
  unfold textL at h
  split at h
  · rename_i hok
    obtain ⟨k1, k2, k3, k4⟩ := okLay_ok hok
    obtain ⟨nl, hle⟩ := okLay_le hok
    have e := Option.some.inj h
    have hne : natsOf l ≠ [] := fun q => k1 (by rw [← nl, q]; rfl)
    have e1 : splL s = numT (natsOf l) := by rw [← e]; exact splL_join _ hne
    have e4 : (natsOf l).map (fun n : Nat => (n : Int)) = l := by
      unfold natsOf
      rw [List.map_map]
      conv => rhs; rw [← List.map_id l]
      refine List.map_congr_left fun c hc => ?_
      have := k4 c hc
      show ((c.toNat : Nat) : Int) = c
      omega
    refine ⟨e1, ?_, ?_, e4⟩
    · rw [e1, allO_dec (g := fun n : Nat => (n : Int)) (fun n hn => atoiO_dec hn) _ fun n hn => by have := hle n hn; omega, e4]
    · rw [e1, allO_dec (g := fun n => n) (fun n hn => natO_dec hn) _ fun n hn => by have := hle n hn; omega, List.map_id']
  · cases h
theorem layO_iff {s : List UInt8} {l : List Int} : layO s = some l ↔ textL l = some s := by
  refine ⟨fun h => ?_, fun h => ?_⟩
  · unfold layO at h
    split at h
    · split at h
      · rename_i h2; cases h; exact h2
      · cases h
    · cases h
  · obtain ⟨e1, e2, e3, e4⟩ := text_parts h
    unfold layO
    rw [e2]
    exact if_pos h
theorem layO_none {s : List UInt8} (h : ∀ l, textL l ≠ some s) : layO s = none := by
  cases e : layO s with
  | none => rfl
  | some l => exact absurd (layO_iff.1 e) (h l)
theorem layO_nat {s : List UInt8} {o : List Nat} (h : allO natO (splL s) = some o) : layO s = if textL (o.map fun n : Nat => (n : Int)) = some s then some (o.map fun n : Nat => (n : Int)) else none := by
  split
  · rename_i h2; exact layO_iff.2 h2
  · rename_i h2
    refine layO_none fun l hl => h2 ?_
    obtain ⟨e1, e2, e3, e4⟩ := text_parts hl
    rw [h] at e3
    rw [Option.some.inj e3, e4, hl]
theorem layO_nat_none {s : List UInt8} (h : allO natO (splL s) = none) : layO s = none :=
  layO_none fun l hl => by obtain ⟨e1, e2, e3, e4⟩ := text_parts hl; rw [h] at e3; cases e3
theorem allO_none {α : Type} {f : List UInt8 → Option α} : ∀ {l : List (List UInt8)} {i : Nat}, i < l.length → f (l.getD i []) = none → allO f l = none
  | [], i, h, _ => absurd h (Nat.not_lt_zero _)
  | p :: t, 0, _, h => by rw [allO]; rw [show f p = none from h]
  | p :: t, i + 1, h, h2 => by
    rw [allO, allO_none (l := t) (i := i) (by simpa using h) (by simpa using h2)]
    cases f p <;> rfl
theorem allO_len {α : Type} {f : List UInt8 → Option α} : ∀ {l : List (List UInt8)} {o : List α}, allO f l = some o → o.length = l.length
  | [], o, h => by cases h; rfl
  | p :: t, o, h => by
    rw [allO] at h
    split at h
    · rename_i h1 h2; cases h; rw [List.length_cons, allO_len h2, List.length_cons]
    · cases h
theorem allO_at {α : Type} {f : List UInt8 → Option α} {d : α} : ∀ {l : List (List UInt8)} {o : List α}, allO f l = some o → ∀ {i : Nat}, i < l.length → f (l.getD i []) = some (o.getD i d)
  | [], o, h, i, hi => absurd hi (Nat.not_lt_zero _)
  | p :: t, o, h, i, hi => by
    rw [allO] at h
    split at h
    · rename_i h1 h2
      cases h
      cases i with
      | zero => exact h1
      | succ i => exact allO_at h2 (i := i) (by simpa using hi)
    · cases h
theorem allO_some {α : Type} {f : List UInt8 → Option α} : ∀ {l : List (List UInt8)}, (∀ i, i < l.length → f (l.getD i []) ≠ none) → ∃ o, allO f l = some o
  | [], _ => ⟨[], rfl⟩
  | p :: t, h => by
    obtain ⟨o, ho⟩ := allO_some (l := t) (f := f) fun i hi => by have := h (i + 1) (by simpa using hi); simpa using this
    have h0 := h 0 (by simp)
    cases e : f p with
    | none => exact absurd e h0
    | some v => exact ⟨v :: o, by rw [allO, e, ho]⟩
theorem textL_long {l : List Int} (h : 64 < l.length) (s : List UInt8) : textL l ≠ some s := by
  unfold textL
  split
  · rename_i hok; have := (okLay_ok hok).2.1; omega
  · simp
theorem splL_len : ∀ (n : Nat) (s : List UInt8), s.length = n → (splL s).length ≤ n + 1 ∧ ∀ p ∈ splL s, p.length ≤ n := by
  intro n
  induction n using Nat.strongRecOn with
  | _ n ih =>
    intro s hn
    by_cases h : (44 : UInt8) ∈ s
    · rw [splL_more h]
      have hl := cut_len h
      obtain ⟨a, b⟩ := ih _ (by omega) (cutR 44 s) rfl
      refine ⟨by rw [List.length_cons]; omega, fun p hp => ?_⟩
      rcases List.mem_cons.1 hp with rfl | hp
      · omega
      · have := b p hp; omega
    · rw [splL_last h]
      refine ⟨by simp, fun p hp => ?_⟩
      simp at hp; subst hp; omega
/-- The first part that stops the program: no number, or one too many. -/
theorem first_bad (ps : List (List UInt8)) : (∃ n, n < ps.length ∧ n ≤ 64 ∧ (∀ k, k < n → atoiO (ps.getD k []) ≠ none) ∧ (n = 64 ∨ atoiO (ps.getD n []) = none)) ∨ (ps.length ≤ 64 ∧ ∃ o, allO atoiO ps = some o) := by
  have key : ∀ m, m ≤ 64 → m ≤ ps.length → (∃ n, n < m ∧ (∀ k, k < n → atoiO (ps.getD k []) ≠ none) ∧ atoiO (ps.getD n []) = none) ∨ ∀ k, k < m → atoiO (ps.getD k []) ≠ none := by
    intro m
    induction m with
    | zero => intro _ _; exact .inr fun k hk => absurd hk (Nat.not_lt_zero _)
    | succ m ih =>
      intro h1 h2
      rcases ih (by omega) (by omega) with ⟨n, a, b, c⟩ | h
      · exact .inl ⟨n, by omega, b, c⟩
      · by_cases e : atoiO (ps.getD m []) = none
        · exact .inl ⟨m, by omega, h, e⟩
        · exact .inr fun k hk => by
            rcases Nat.lt_or_ge k m with x | x
            · exact h k x
            · obtain rfl : k = m := by omega
              exact e
  rcases Nat.lt_or_ge 64 ps.length with h | h
  · rcases key 64 (Nat.le_refl _) (by omega) with ⟨n, a, b, c⟩ | k
    · exact .inl ⟨n, by omega, by omega, b, .inr c⟩
    · exact .inl ⟨64, h, Nat.le_refl _, k, .inl rfl⟩
  · rcases key ps.length h (Nat.le_refl _) with ⟨n, a, b, c⟩ | k
    · exact .inl ⟨n, a, by omega, b, .inr c⟩
    · exact .inr ⟨h, allO_some k⟩
theorem layO_bad {s : List UInt8} {n : Nat} (h : n < (splL s).length) (hb : n = 64 ∨ atoiO ((splL s).getD n []) = none) : layO s = none := by
  rcases hb with rfl | hb
  · refine layO_none fun l hl => ?_
    obtain ⟨e1, e2, e3, e4⟩ := text_parts hl
    have := allO_len e2
    exact textL_long (by omega) s hl
  · unfold layO
    rw [allO_none h hb]
end Go.Proofs.YtacepalmphbnfaaGreatDoor

namespace Go.Proofs.YtacepalmphbnfaaGreatDoor
open Go Go.Proofs Go.Abs
variable {G : Globals}
/-! The layout with a text: fixed.Layout. -/
def atoiV (p : List UInt8) : Int := (atoiO p).getD 0
theorem atoiD_ok {p : List UInt8} (h : atoiO p ≠ none) : atoiD p = .tup [.int .i64 (atoiV p), .nili] := by
  unfold atoiV atoiO at *
  unfold atoiD
  rcases e : Lib.atoiAll p with v | _ | _
  · rfl
  · rw [e] at h; exact absurd rfl h
  · rw [e] at h; exact absurd rfl h
theorem atoiD_bad {p : List UInt8} (h : atoiO p = none) : ∃ v, atoiD p = .tup [.int .i64 v, .ifc] := by
  unfold atoiO at *
  unfold atoiD
  rcases e : Lib.atoiAll p with v | _ | _
  · rw [e] at h; cases h
  · exact ⟨_, rfl⟩
  · exact ⟨_, rfl⟩
set_option maxHeartbeats 8000000 in
set_option maxRecDepth 100000 in
theorem flayout_spec (hI : HI G) (hE : HE G) (s : List UInt8) (hs : s.length ≤ 900000) : Ctr Tryz.prog G 33 [.d (S s)] [] (.d (inferD (layO s))) [] := by
  obtain ⟨r, hr⟩ : ∃ r, r = layO s := ⟨_, rfl⟩
  rw [← hr]
  refine Ctr.pure (M := M0) hmix Tryz.func33 rfl go33 ?_
  obtain ⟨n1, n2⟩ := splL_len _ s rfl
  simp (config := { maxSteps := 1000000 }) (disch := ((try simp only [awL]); omega)) only [QR, QS, QT, QU, QV, QW, QX, QY, QZ, Q0, Q1, Q2, Tryz.f33, ↓awU, awV, awF, Qa, Qb, Qc, Qd, forall_const, ↓reduceIte, ↓reduceDIte, ↓Qe, Qf, Qg, Qh, Qi, Qj, Qk, Ql, Qm, Qn, Qo, Qp, Qq, Qr, Qs, implies_true, Qt, Qu, Qv, Qw, Qx, Qy, Qz, QA, QB, QC, QD, QE, QF, QG, QH, QI, QJ, QK, QL, QM, QN, QO, QP, QQ]
  refine CallC.by (split_spec s) rfl rfl (by simp) ?_
  simp (config := { maxSteps := 1000000 }) (disch := ((try simp only [awL]); omega)) only [QR, QS, QT, QU, QV, QW, QX, QY, QZ, Q0, Q1, Q2, ↓awU, awV, awF, Qa, Qb, Qc, Qd, forall_const, ↓reduceIte, ↓reduceDIte, ↓Qe, Qf, Qg, Qh, Qi, Qj, Qk, Ql, Qm, Qn, Qo, Qp, Qq, Qr, Qs, implies_true, Qt, Qu, Qv, Qw, Qx, Qy, Qz, QA, QB, QC, QD, QE, QF, QG, QH, QI, QJ, QK, QL, QM, QN, QO, QP, QQ]
  rcases first_bad (splL s) with ⟨n, h1, h2, h3, h4⟩ | ⟨h1, o, ho⟩
  · have hbad := layO_bad h1 h4
    rw [hbad] at hr
    refine RangeC.stop (α := Unit) (β := Unit) (split1_spec s (by omega)) n (by rw [strs_length]; exact h1) [some 0, some 1, some 2, none] 1 [(2, .ptr 0 0), (3, .ptr 1 0), (4, .ptr 2 0)] (fun k _ => [.box [.d (.sl 0 true [])], .box [.d (.bool false)], .box [.lsl 3 1 0 k], .row false (ints .i64 (((splL s).take k).map atoiV))]) (fun k _ => True) .ret (fun _ => [.box [.d (.sl 0 true [])], .box [.d (.bool false)], .dead, .dead]) (fun _ => True)
      rfl rfl rfl rfl rfl rfl rfl (by simp) () trivial (by simp [setsA, keepA, SWeak, AWeak]) (by simp [HWeak, BWeak, SWeak, AWeak, ints]) (fun _ _ => ⟨rfl, rfl⟩) (fun _ => rfl) ?_ ?_ ?_
    · rintro k d ⟨⟩ hk hd -
      obtain ⟨y, hy, rfl⟩ := strs_get hd
      have hyl := n2 y (List.mem_of_getElem? hy)
      have hk2 : k < (splL s).length := by omega
      have hyd : (splL s).getD k [] = y := by rw [List.getD_eq_getElem?_getD, hy]; rfl
      have ho := h3 k hk
      rw [hyd] at ho
      have st := @ints_length .i64 (((splL s).take k).map atoiV)
      rw [List.length_map, List.length_take, Nat.min_eq_left (by omega)] at st
      have e2 : ints .i64 (((splL s).take k).map atoiV) ++ [D.int .i64 (atoiV y)] = ints .i64 (((splL s).take (k + 1)).map atoiV) := by
        rw [List.take_add_one, hy, List.map_append]; simp [ints]
      simp only [awK, Nat.reduceMod, Nat.reduceDiv, reduceIte]
      simp (config := { maxSteps := 1000000 }) (disch := ((try simp only [awL]); omega)) only [QR, QS, QT, QU, QV, QW, QX, QY, QZ, Q0, Q1, Q2, st, ↓awU, awV, awF, Qa, Qb, Qc, Qd, forall_const, ↓reduceIte, ↓reduceDIte, ↓Qe, Qf, Qg, Qh, Qi, Qj, Qk, Ql, Qm, Qn, Qo, Qp, Qq, Qr, Qs, implies_true, Qt, Qu, Qv, Qw, Qx, Qy, Qz, QA, QB, QC, QD, QE, QF, QG, QH, QI, QJ, QK, QL, QM, QN, QO, QP, QQ]
      refine CallC.pure (atoi_spec hE y (by omega)) ?_
      rw [atoiD_ok ho]
      simp (config := { maxSteps := 1000000 }) (disch := ((try simp only [awL]); omega)) only [QR, QS, QT, QU, QV, QW, QX, QY, QZ, Q0, Q1, Q2, st, e2, ↓awU, awV, awF, Qa, Qb, Qc, Qd, forall_const, ↓reduceIte, ↓reduceDIte, ↓Qe, Qf, Qg, Qh, Qi, Qj, Qk, Ql, Qm, Qn, Qo, Qp, Qq, Qr, Qs, implies_true, Qt, Qu, Qv, Qw, Qx, Qy, Qz, QA, QB, QC, QD, QE, QF, QG, QH, QI, QJ, QK, QL, QM, QN, QO, QP, QQ]
      exact RndE.mk (⟨[some 0, some 1, some 2, some 5], rfl, by simp, by simp [setsA, keepA, SWeak, AWeak], by simp [HWeak, BWeak, SWeak, AWeak]⟩ : Weak 0 _ _ _ [.box [.d (.sl 0 true [])], .box [.d (.bool false)], .box [.lsl 3 1 0 (k + 1)], .row false (ints .i64 (((splL s).take (k + 1)).map atoiV))]) ⟨(), rfl⟩
    · rintro d ⟨⟩ hd -
      obtain ⟨y, hy, rfl⟩ := strs_get hd
      have hyl := n2 y (List.mem_of_getElem? hy)
      have hyd : (splL s).getD n [] = y := by rw [List.getD_eq_getElem?_getD, hy]; rfl
      rw [hyd] at h4
      have st := @ints_length .i64 (((splL s).take n).map atoiV)
      rw [List.length_map, List.length_take, Nat.min_eq_left (by omega)] at st
      simp only [awK, Nat.reduceMod, Nat.reduceDiv, reduceIte]
      simp (config := { maxSteps := 1000000 }) (disch := ((try simp only [awL]); omega)) only [QR, QS, QT, QU, QV, QW, QX, QY, QZ, Q0, Q1, Q2, st, ↓awU, awV, awF, Qa, Qb, Qc, Qd, forall_const, ↓reduceIte, ↓reduceDIte, ↓Qe, Qf, Qg, Qh, Qi, Qj, Qk, Ql, Qm, Qn, Qo, Qp, Qq, Qr, Qs, implies_true, Qt, Qu, Qv, Qw, Qx, Qy, Qz, QA, QB, QC, QD, QE, QF, QG, QH, QI, QJ, QK, QL, QM, QN, QO, QP, QQ]
      refine CallC.pure (atoi_spec hE y (by omega)) ?_
      by_cases ho : atoiO y = none
      · obtain ⟨v, hv⟩ := atoiD_bad ho
        rw [hv]
        simp (config := { maxSteps := 1000000 }) (disch := ((try simp only [awL]); omega)) only [QR, QS, QT, QU, QV, QW, QX, QY, QZ, Q0, Q1, Q2, st, ↓awU, awV, awF, Qa, Qb, Qc, Qd, forall_const, ↓reduceIte, ↓reduceDIte, ↓Qe, Qf, Qg, Qh, Qi, Qj, Qk, Ql, Qm, Qn, Qo, Qp, Qq, Qr, Qs, implies_true, Qt, Qu, Qv, Qw, Qx, Qy, Qz, QA, QB, QC, QD, QE, QF, QG, QH, QI, QJ, QK, QL, QM, QN, QO, QP, QQ]
        exact RndE.mk (⟨[some 0, some 1, some 2, some 3], rfl, by simp, by simp [setsA, keepA, SWeak, AWeak], by simp [HWeak, BWeak, SWeak, AWeak]⟩ : Weak 0 _ _ _ [.box [.d (.sl 0 true [])], .box [.d (.bool false)], .dead, .dead]) ⟨(), rfl⟩
      · obtain rfl : n = 64 := h4.resolve_right ho
        rw [atoiD_ok ho]
        simp (config := { maxSteps := 1000000 }) (disch := ((try simp only [awL]); omega)) only [QR, QS, QT, QU, QV, QW, QX, QY, QZ, Q0, Q1, Q2, st, ↓awU, awV, awF, Qa, Qb, Qc, Qd, forall_const, ↓reduceIte, ↓reduceDIte, ↓Qe, Qf, Qg, Qh, Qi, Qj, Qk, Ql, Qm, Qn, Qo, Qp, Qq, Qr, Qs, implies_true, Qt, Qu, Qv, Qw, Qx, Qy, Qz, QA, QB, QC, QD, QE, QF, QG, QH, QI, QJ, QK, QL, QM, QN, QO, QP, QQ]
        exact RndE.mk (⟨[some 0, some 1, some 2, some 3], rfl, by simp, by simp [setsA, keepA, SWeak, AWeak], by simp [HWeak, BWeak, SWeak, AWeak]⟩ : Weak 0 _ _ _ [.box [.d (.sl 0 true [])], .box [.d (.bool false)], .dead, .dead]) ⟨(), rfl⟩
    · rintro ⟨⟩ -
      show JmpQ _ _ _ _
      simp only [JmpQ]
      simp only [awK, Nat.reduceMod, Nat.reduceDiv, reduceIte]
      simp (config := { maxSteps := 1000000 }) (disch := ((try simp only [awL]); omega)) only [QR, QS, QT, QU, QV, QW, QX, QY, QZ, Q0, Q1, Q2, ↓awU, awV, awF, Qa, Qb, Qc, Qd, forall_const, ↓reduceIte, ↓reduceDIte, ↓Qe, Qf, Qg, Qh, Qi, Qj, Qk, Ql, Qm, Qn, Qo, Qp, Qq, Qr, Qs, implies_true, Qt, Qu, Qv, Qw, Qx, Qy, Qz, QA, QB, QC, QD, QE, QF, QG, QH, QI, QJ, QK, QL, QM, QN, QO, QP, QQ]
      rw [hr]; rfl
  · have hol := allO_len ho
    have hv : (splL s).map atoiV = o := by
      apply List.ext_getElem?
      intro i
      rw [List.getElem?_map]
      rcases Nat.lt_or_ge i (splL s).length with h | h
      · have := allO_at (d := (0 : Int)) ho h
        rw [List.getElem?_eq_getElem h, List.getElem?_eq_getElem (by omega)]
        rw [List.getD_eq_getElem?_getD, List.getD_eq_getElem?_getD, List.getElem?_eq_getElem h, List.getElem?_eq_getElem (show i < o.length by omega)] at this
        simp only [Option.getD_some] at this
        simp only [Option.map_some, atoiV, this, Option.getD_some]
      · rw [List.getElem?_eq_none h, List.getElem?_eq_none (by omega)]; rfl
    have hr2 : r = if textL o = some s then some o else none := by rw [hr, layO, ho]
    refine RangeC.all (α := Unit) (split1_spec s (by omega)) [some 0, some 1, some 2, none] 1 [(2, .ptr 0 0), (3, .ptr 1 0), (4, .ptr 2 0)] (fun k _ => [.box [.d (.sl 0 true [])], .box [.d (.bool false)], .box [.lsl 3 1 0 k], .row false (ints .i64 (((splL s).take k).map atoiV))]) (fun k _ => True)
      rfl rfl rfl rfl rfl rfl rfl (by simp) () trivial (by simp [setsA, keepA, SWeak, AWeak]) (by simp [HWeak, BWeak, SWeak, AWeak, ints]) (fun _ _ => ⟨rfl, rfl⟩) ?_ ?_
    · rintro k d ⟨⟩ hk hd -
      rw [strs_length] at hk
      obtain ⟨y, hy, rfl⟩ := strs_get hd
      have hyl := n2 y (List.mem_of_getElem? hy)
      have hyd : (splL s).getD k [] = y := by rw [List.getD_eq_getElem?_getD, hy]; rfl
      have hoy : atoiO y ≠ none := by
        have := allO_at (d := (0 : Int)) ho hk
        rw [hyd] at this
        rw [this]; simp
      have st := @ints_length .i64 (((splL s).take k).map atoiV)
      rw [List.length_map, List.length_take, Nat.min_eq_left (by omega)] at st
      have e2 : ints .i64 (((splL s).take k).map atoiV) ++ [D.int .i64 (atoiV y)] = ints .i64 (((splL s).take (k + 1)).map atoiV) := by
        rw [List.take_add_one, hy, List.map_append]; simp [ints]
      simp only [awK, Nat.reduceMod, Nat.reduceDiv, reduceIte]
      simp (config := { maxSteps := 1000000 }) (disch := ((try simp only [awL]); omega)) only [QR, QS, QT, QU, QV, QW, QX, QY, QZ, Q0, Q1, Q2, st, ↓awU, awV, awF, Qa, Qb, Qc, Qd, forall_const, ↓reduceIte, ↓reduceDIte, ↓Qe, Qf, Qg, Qh, Qi, Qj, Qk, Ql, Qm, Qn, Qo, Qp, Qq, Qr, Qs, implies_true, Qt, Qu, Qv, Qw, Qx, Qy, Qz, QA, QB, QC, QD, QE, QF, QG, QH, QI, QJ, QK, QL, QM, QN, QO, QP, QQ]
      refine CallC.pure (atoi_spec hE y (by omega)) ?_
      rw [atoiD_ok hoy]
      simp (config := { maxSteps := 1000000 }) (disch := ((try simp only [awL]); omega)) only [QR, QS, QT, QU, QV, QW, QX, QY, QZ, Q0, Q1, Q2, st, e2, ↓awU, awV, awF, Qa, Qb, Qc, Qd, forall_const, ↓reduceIte, ↓reduceDIte, ↓Qe, Qf, Qg, Qh, Qi, Qj, Qk, Ql, Qm, Qn, Qo, Qp, Qq, Qr, Qs, implies_true, Qt, Qu, Qv, Qw, Qx, Qy, Qz, QA, QB, QC, QD, QE, QF, QG, QH, QI, QJ, QK, QL, QM, QN, QO, QP, QQ]
      exact RndE.mk (⟨[some 0, some 1, some 2, some 5], rfl, by simp, by simp [setsA, keepA, SWeak, AWeak], by simp [HWeak, BWeak, SWeak, AWeak]⟩ : Weak 0 _ _ _ [.box [.d (.sl 0 true [])], .box [.d (.bool false)], .box [.lsl 3 1 0 (k + 1)], .row false (ints .i64 (((splL s).take (k + 1)).map atoiV))]) ⟨(), rfl⟩
    · rintro ⟨⟩ -
      rw [strs_length, List.take_length, hv, ← hol]
      have ol := @ints_length .i64 o
      have cu : cut (ints .i64 o) 0 o.length = ints .i64 o := cut_all ol.symm
      simp only [awK, Nat.reduceMod, Nat.reduceDiv, reduceIte]
      simp (config := { maxSteps := 1000000 }) (disch := ((try simp only [awL]); omega)) only [QR, QS, QT, QU, QV, QW, QX, QY, QZ, Q0, Q1, Q2, ol, cu, ↓awU, awV, awF, Qa, Qb, Qc, Qd, forall_const, ↓reduceIte, ↓reduceDIte, ↓Qe, Qf, Qg, Qh, Qi, Qj, Qk, Ql, Qm, Qn, Qo, Qp, Qq, Qr, Qs, implies_true, Qt, Qu, Qv, Qw, Qx, Qy, Qz, QA, QB, QC, QD, QE, QF, QG, QH, QI, QJ, QK, QL, QM, QN, QO, QP, QQ]
      refine CallC.frozenE (ftext_spec hI o false (by omega)) (by rfl) ?_
      cases ht : textL o with
      | none =>
        rw [if_neg (by rw [ht]; simp)] at hr2
        simp (config := { maxSteps := 1000000 }) (disch := ((try simp only [awL]); omega)) only [QR, QS, QT, QU, QV, QW, QX, QY, QZ, Q0, Q1, Q2, textD, ol, cu, ↓awU, awV, awF, Qa, Qb, Qc, Qd, forall_const, ↓reduceIte, ↓reduceDIte, ↓Qe, Qf, Qg, Qh, Qi, Qj, Qk, Ql, Qm, Qn, Qo, Qp, Qq, Qr, Qs, implies_true, Qt, Qu, Qv, Qw, Qx, Qy, Qz, QA, QB, QC, QD, QE, QF, QG, QH, QI, QJ, QK, QL, QM, QN, QO, QP, QQ]
        rw [hr2]; rfl
      | some t =>
        by_cases hts : t = s
        · subst hts
          rw [if_pos ht] at hr2
          simp (config := { maxSteps := 1000000 }) (disch := ((try simp only [awL]); omega)) only [QR, QS, QT, QU, QV, QW, QX, QY, QZ, Q0, Q1, Q2, textD, ol, cu, beq_self_eq_true, ↓awU, awV, awF, Qa, Qb, Qc, Qd, forall_const, ↓reduceIte, ↓reduceDIte, ↓Qe, Qf, Qg, Qh, Qi, Qj, Qk, Ql, Qm, Qn, Qo, Qp, Qq, Qr, Qs, implies_true, Qt, Qu, Qv, Qw, Qx, Qy, Qz, QA, QB, QC, QD, QE, QF, QG, QH, QI, QJ, QK, QL, QM, QN, QO, QP, QQ]
          rw [hr2]; rfl
        · have hne : (t == s) = false := by simpa using hts
          rw [if_neg (by rw [ht]; simpa using hts)] at hr2
          simp (config := { maxSteps := 1000000 }) (disch := ((try simp only [awL]); omega)) only [QR, QS, QT, QU, QV, QW, QX, QY, QZ, Q0, Q1, Q2, textD, ol, cu, hne, ↓awU, awV, awF, Qa, Qb, Qc, Qd, forall_const, ↓reduceIte, ↓reduceDIte, ↓Qe, Qf, Qg, Qh, Qi, Qj, Qk, Ql, Qm, Qn, Qo, Qp, Qq, Qr, Qs, implies_true, Qt, Qu, Qv, Qw, Qx, Qy, Qz, QA, QB, QC, QD, QE, QF, QG, QH, QI, QJ, QK, QL, QM, QN, QO, QP, QQ]
          rw [hr2]; rfl
end Go.Proofs.YtacepalmphbnfaaGreatDoor

namespace Go.Proofs.YtacepalmphbnfaaGreatDoor
open Go Go.Proofs Go.Abs
variable {G : Globals}
/-! The layout with a text: the reference's Layout. -/
theorem natO_some {p : List UInt8} {n : Nat} (h : natO p = some n) : natD p = .tup [.int .i64 n, .bool true] := by
  unfold natO at h
  unfold natD
  cases e : natGo 0 0 p with
  | none => rw [e] at h; cases h
  | some m =>
    rw [e] at h
    simp only at h
    by_cases hp : p = []
    · rw [if_pos hp] at h; cases h
    · rw [if_neg hp] at h; cases h
      simp [hp]
theorem natO_none {p : List UInt8} (h : natO p = none) : ∃ n : Nat, natD p = .tup [.int .i64 n, .bool false] := by
  unfold natO at h
  unfold natD
  cases e : natGo 0 0 p with
  | none => exact ⟨0, rfl⟩
  | some m =>
    rw [e] at h
    simp only at h
    by_cases hp : p = []
    · exact ⟨m, by simp [hp]⟩
    · rw [if_neg hp] at h; cases h
def joinO (o : List Nat) (x : Option (List Nat)) : Option (List Nat) := x.map (o ++ ·)
theorem joinO_none {o : List Nat} {x : Option (List Nat)} (h : x = none) : joinO o x = none := by subst h; rfl
theorem allO_cons_none {α : Type} {f : List UInt8 → Option α} {p : List UInt8} {t : List (List UInt8)} (h : f p = none) : allO f (p :: t) = none := by rw [allO, h]
theorem joinO_cons {o : List Nat} {p : List UInt8} {t : List (List UInt8)} {n : Nat} (h : natO p = some n) : joinO o (allO natO (p :: t)) = joinO (o ++ [n]) (allO natO t) := by
  rw [allO, h]
  cases allO natO t with
  | none => rfl
  | some l => simp [joinO]
set_option maxHeartbeats 8000000 in
set_option maxRecDepth 100000 in
theorem rlayout_spec (hI : HI G) (s : List UInt8) (hs : s.length ≤ 900000) : Ctr Tryz.prog G 34 [.d (S s)] [] (.d (inferD (layO s))) [] := by
  obtain ⟨r, hr⟩ : ∃ r, r = layO s := ⟨_, rfl⟩
  rw [← hr]
  refine Ctr.pure (M := M0) hmix Tryz.func34 rfl go34 ?_
  simp (config := { maxSteps := 1000000 }) (disch := ((try simp only [awL]); omega)) only [QR, QS, QT, QU, QV, QW, QX, QY, QZ, Q0, Q1, Q2, Tryz.f34, ↓awU, awV, awF, Qa, Qb, Qc, Qd, forall_const, ↓reduceIte, ↓reduceDIte, ↓Qe, Qf, Qg, Qh, Qi, Qj, Qk, Ql, Qm, Qn, Qo, Qp, Qq, Qr, Qs, implies_true, Qt, Qu, Qv, Qw, Qx, Qy, Qz, QA, QB, QC, QD, QE, QF, QG, QH, QI, QJ, QK, QL, QM, QN, QO, QP, QQ]
  refine LoopC.fx 1 (α := Nat × Nat × List Nat) (β := List Nat) (fun x => s.length + 1 - x.1) (fun x => [(4, .lsl 0 1 0 x.2.2.length), (5, .d (.int .i64 x.2.1)), (6, .d (.int .i64 x.1))]) (fun x => [.row false (nats .i64 x.2.2)])
    (fun x => (x.1 ≤ s.length ∧ x.2.1 ≤ x.1 ∧ x.2.2.length ≤ x.1 ∧ (44 : UInt8) ∉ (s.take x.1).drop x.2.1 ∧ allO natO (splL s) = joinO x.2.2 (allO natO (splL (s.drop x.2.1)))) ∨ (x.1 = s.length + 1 ∧ x.2.2.length ≤ x.1 ∧ x.2.1 ≤ x.1 ∧ allO natO (splL s) = some x.2.2)) 1 (fun y => [(4, .lsl 0 1 0 y.length)]) (fun y => [.row false (nats .i64 y)]) (fun y => y.length ≤ s.length + 1 ∧ allO natO (splL s) = some y) (0, 0, []) (.inl ⟨Nat.zero_le _, Nat.zero_le _, Nat.zero_le _, by simp, by cases h : allO natO (splL s) <;> simp [joinO, h]⟩) ?_ ?_ ?_
  · exact ⟨[none], rfl, by simp, by simp [setsA, keepA, SWeak, AWeak], by simp [HWeak, BWeak, SWeak, AWeak, nats]⟩
  · rintro ⟨i, a, o⟩ hinv
    simp only at hinv
    have ol := @nats_length .i64 o
    simp only [awK, Nat.reduceMod, Nat.reduceDiv, reduceIte]
    rcases hinv with ⟨h1, h2, h3, h4, h5⟩ | ⟨h1, h2, h3, h4⟩
    · have hpart : ((s.take i).drop a).length ≤ s.length := by simp; omega
      rcases Nat.lt_or_ge i s.length with h | h
      · by_cases hc : (s.getD i 0).toNat = 44
        · have hc2 : s.getD i 0 = 44 := UInt8.toNat_inj.1 hc
          have hsp : splL (s.drop a) = (s.take i).drop a :: splL (s.drop (i + 1)) := by
            have e : s.drop a = (s.take i).drop a ++ 44 :: s.drop (i + 1) := by
              have e1 : s = s.take i ++ 44 :: s.drop (i + 1) := by
                conv => lhs; rw [← List.take_append_drop i s]
                rw [List.drop_eq_getElem_cons h]
                have : s[i] = 44 := by rw [List.getD_eq_getElem?_getD, List.getElem?_eq_getElem h] at hc2; exact hc2
                rw [this]
              conv => lhs; rw [e1]
              rw [List.drop_append_of_le_length (by simp; omega)]
            rw [e]
            exact splL_app h4
          rw [hsp] at h5
          simp (config := { maxSteps := 1000000 }) (disch := ((try simp only [awL]); omega)) only [QR, QS, QT, QU, QV, QW, QX, QY, QZ, Q0, Q1, Q2, ol, hc, ↓awU, awV, awF, Qa, Qb, Qc, Qd, forall_const, ↓reduceIte, ↓reduceDIte, ↓Qe, Qf, Qg, Qh, Qi, Qj, Qk, Ql, Qm, Qn, Qo, Qp, Qq, Qr, Qs, implies_true, Qt, Qu, Qv, Qw, Qx, Qy, Qz, QA, QB, QC, QD, QE, QF, QG, QH, QI, QJ, QK, QL, QM, QN, QO, QP, QQ]
          refine CallC.of (natural_spec ((s.take i).drop a) (by omega)) (by rfl) ?_
          generalize (s.take i).drop a = part at *
          cases hn : natO part with
          | none =>
            have := layO_nat_none (h5.trans (joinO_none (allO_cons_none hn)))
            rw [this] at hr
            obtain ⟨n, e⟩ := natO_none hn
            rw [e]
            simp (config := { maxSteps := 1000000 }) (disch := ((try simp only [awL]); omega)) only [QR, QS, QT, QU, QV, QW, QX, QY, QZ, Q0, Q1, Q2, ↓awU, awV, awF, Qa, Qb, Qc, Qd, forall_const, ↓reduceIte, ↓reduceDIte, ↓Qe, Qf, Qg, Qh, Qi, Qj, Qk, Ql, Qm, Qn, Qo, Qp, Qq, Qr, Qs, implies_true, Qt, Qu, Qv, Qw, Qx, Qy, Qz, QA, QB, QC, QD, QE, QF, QG, QH, QI, QJ, QK, QL, QM, QN, QO, QP, QQ]
            rw [hr]; rfl
          | some n =>
            have sp : nats .i64 o ++ [D.int .i64 (n : Int)] = nats .i64 (o ++ [n]) := by simp [nats]
            have lb : (o ++ [n]).length = o.length + 1 := by simp
            rw [joinO_cons hn] at h5
            generalize hb : o ++ [n] = o2 at *
            rw [natO_some hn]
            simp (config := { maxSteps := 1000000 }) (disch := ((try simp only [awL]); omega)) only [QR, QS, QT, QU, QV, QW, QX, QY, QZ, Q0, Q1, Q2, ol, sp, ↓awU, awV, awF, Qa, Qb, Qc, Qd, forall_const, ↓reduceIte, ↓reduceDIte, ↓Qe, Qf, Qg, Qh, Qi, Qj, Qk, Ql, Qm, Qn, Qo, Qp, Qq, Qr, Qs, implies_true, Qt, Qu, Qv, Qw, Qx, Qy, Qz, QA, QB, QC, QD, QE, QF, QG, QH, QI, QJ, QK, QL, QM, QN, QO, QP, QQ]
            exact ⟨(i + 1, i + 1, o2), .inl ⟨h, Nat.le_refl _, by simp only; omega, by simp, h5⟩, by simp only; omega, ⟨[some 2], rfl, by simp, by simp [setsA, keepA, SWeak, AWeak, lb], by simp [HWeak, BWeak, SWeak, AWeak]⟩⟩
        · have h6 : (44 : UInt8) ∉ (s.take (i + 1)).drop a := by
            rw [take_snoc h2 h]
            intro hm
            rcases List.mem_append.1 hm with q | q
            · exact h4 q
            · simp only [List.mem_singleton] at q
              exact hc (by rw [← q]; rfl)
          simp (config := { maxSteps := 1000000 }) (disch := ((try simp only [awL]); omega)) only [QR, QS, QT, QU, QV, QW, QX, QY, QZ, Q0, Q1, Q2, ol, hc, ↓awU, awV, awF, Qa, Qb, Qc, Qd, forall_const, ↓reduceIte, ↓reduceDIte, ↓Qe, Qf, Qg, Qh, Qi, Qj, Qk, Ql, Qm, Qn, Qo, Qp, Qq, Qr, Qs, implies_true, Qt, Qu, Qv, Qw, Qx, Qy, Qz, QA, QB, QC, QD, QE, QF, QG, QH, QI, QJ, QK, QL, QM, QN, QO, QP, QQ]
          exact ⟨(i + 1, a, o), .inl ⟨h, by simp only; omega, by simp only; omega, h6, h5⟩, by simp only; omega, ⟨[some 0], rfl, by simp, by simp [setsA, keepA, SWeak, AWeak], by simp [HWeak, BWeak, SWeak, AWeak]⟩⟩
      · obtain rfl : i = s.length := by omega
        rw [List.take_length] at h4 hpart
        have hsp : splL (s.drop a) = [s.drop a] := splL_last h4
        have ex : s.take s.length = s := List.take_length
        rw [hsp] at h5
        simp (config := { maxSteps := 1000000 }) (disch := ((try simp only [awL]); omega)) only [QR, QS, QT, QU, QV, QW, QX, QY, QZ, Q0, Q1, Q2, ol, ex, ↓awU, awV, awF, Qa, Qb, Qc, Qd, forall_const, ↓reduceIte, ↓reduceDIte, ↓Qe, Qf, Qg, Qh, Qi, Qj, Qk, Ql, Qm, Qn, Qo, Qp, Qq, Qr, Qs, implies_true, Qt, Qu, Qv, Qw, Qx, Qy, Qz, QA, QB, QC, QD, QE, QF, QG, QH, QI, QJ, QK, QL, QM, QN, QO, QP, QQ]
        generalize s.drop a = part at *
        refine CallC.of (natural_spec part (by omega)) (by first | rfl | simp [ex]) ?_
        cases hn : natO part with
        | none =>
          have := layO_nat_none (h5.trans (joinO_none (allO_cons_none hn)))
          rw [this] at hr
          obtain ⟨n, e⟩ := natO_none hn
          rw [e]
          simp (config := { maxSteps := 1000000 }) (disch := ((try simp only [awL]); omega)) only [QR, QS, QT, QU, QV, QW, QX, QY, QZ, Q0, Q1, Q2, ↓awU, awV, awF, Qa, Qb, Qc, Qd, forall_const, ↓reduceIte, ↓reduceDIte, ↓Qe, Qf, Qg, Qh, Qi, Qj, Qk, Ql, Qm, Qn, Qo, Qp, Qq, Qr, Qs, implies_true, Qt, Qu, Qv, Qw, Qx, Qy, Qz, QA, QB, QC, QD, QE, QF, QG, QH, QI, QJ, QK, QL, QM, QN, QO, QP, QQ]
          rw [hr]; rfl
        | some n =>
          have sp : nats .i64 o ++ [D.int .i64 (n : Int)] = nats .i64 (o ++ [n]) := by simp [nats]
          have lb : (o ++ [n]).length = o.length + 1 := by simp
          rw [joinO_cons hn] at h5
          generalize hb : o ++ [n] = o2 at *
          have h7 : allO natO (splL s) = some o2 := by rw [h5]; simp [allO, joinO]
          rw [natO_some hn]
          simp (config := { maxSteps := 1000000 }) (disch := ((try simp only [awL]); omega)) only [QR, QS, QT, QU, QV, QW, QX, QY, QZ, Q0, Q1, Q2, ol, sp, ↓awU, awV, awF, Qa, Qb, Qc, Qd, forall_const, ↓reduceIte, ↓reduceDIte, ↓Qe, Qf, Qg, Qh, Qi, Qj, Qk, Ql, Qm, Qn, Qo, Qp, Qq, Qr, Qs, implies_true, Qt, Qu, Qv, Qw, Qx, Qy, Qz, QA, QB, QC, QD, QE, QF, QG, QH, QI, QJ, QK, QL, QM, QN, QO, QP, QQ]
          exact ⟨(s.length + 1, s.length + 1, o2), .inr ⟨rfl, by simp only; omega, Nat.le_refl _, h7⟩, by simp only; omega, ⟨[some 2], rfl, by simp, by simp [setsA, keepA, SWeak, AWeak, lb], by simp [HWeak, BWeak, SWeak, AWeak]⟩⟩
    · simp (config := { maxSteps := 1000000 }) (disch := ((try simp only [awL]); omega)) only [QR, QS, QT, QU, QV, QW, QX, QY, QZ, Q0, Q1, Q2, ol, ↓awU, awV, awF, Qa, Qb, Qc, Qd, forall_const, ↓reduceIte, ↓reduceDIte, ↓Qe, Qf, Qg, Qh, Qi, Qj, Qk, Ql, Qm, Qn, Qo, Qp, Qq, Qr, Qs, implies_true, Qt, Qu, Qv, Qw, Qx, Qy, Qz, QA, QB, QC, QD, QE, QF, QG, QH, QI, QJ, QK, QL, QM, QN, QO, QP, QQ]
      exact ⟨o, ⟨by omega, h4⟩, ⟨[some 0], rfl, by simp, by simp [setsA, keepA, SWeak, AWeak], by simp [HWeak, BWeak, SWeak, AWeak]⟩⟩
  · rintro o ⟨h1, h2⟩
    have e := layO_nat h2
    rw [← hr] at e
    have en : nats .i64 o = ints .i64 (o.map fun n : Nat => (n : Int)) := by simp [nats, ints]
    have ll : (o.map fun n : Nat => (n : Int)).length = o.length := by simp
    rw [en, ← ll]
    rw [← ll] at h1
    generalize (o.map fun n : Nat => (n : Int)) = oi at *
    have oil := @ints_length .i64 oi
    have cu : cut (ints .i64 oi) 0 oi.length = ints .i64 oi := cut_all oil.symm
    simp only [awK, Nat.reduceMod, Nat.reduceDiv, reduceIte]
    simp (config := { maxSteps := 1000000 }) (disch := ((try simp only [awL]); omega)) only [QR, QS, QT, QU, QV, QW, QX, QY, QZ, Q0, Q1, Q2, oil, cu, ↓awU, awV, awF, Qa, Qb, Qc, Qd, forall_const, ↓reduceIte, ↓reduceDIte, ↓Qe, Qf, Qg, Qh, Qi, Qj, Qk, Ql, Qm, Qn, Qo, Qp, Qq, Qr, Qs, implies_true, Qt, Qu, Qv, Qw, Qx, Qy, Qz, QA, QB, QC, QD, QE, QF, QG, QH, QI, QJ, QK, QL, QM, QN, QO, QP, QQ]
    refine CallC.frozenE (rtext_spec hI oi false (by omega)) (by rfl) ?_
    cases ht : textL oi with
    | none =>
      rw [if_neg (by rw [ht]; simp)] at e
      simp (config := { maxSteps := 1000000 }) (disch := ((try simp only [awL]); omega)) only [QR, QS, QT, QU, QV, QW, QX, QY, QZ, Q0, Q1, Q2, textD, oil, cu, ↓awU, awV, awF, Qa, Qb, Qc, Qd, forall_const, ↓reduceIte, ↓reduceDIte, ↓Qe, Qf, Qg, Qh, Qi, Qj, Qk, Ql, Qm, Qn, Qo, Qp, Qq, Qr, Qs, implies_true, Qt, Qu, Qv, Qw, Qx, Qy, Qz, QA, QB, QC, QD, QE, QF, QG, QH, QI, QJ, QK, QL, QM, QN, QO, QP, QQ]
      rw [e]; rfl
    | some t =>
      by_cases hts : t = s
      · subst hts
        rw [if_pos ht] at e
        simp (config := { maxSteps := 1000000 }) (disch := ((try simp only [awL]); omega)) only [QR, QS, QT, QU, QV, QW, QX, QY, QZ, Q0, Q1, Q2, textD, oil, cu, beq_self_eq_true, ↓awU, awV, awF, Qa, Qb, Qc, Qd, forall_const, ↓reduceIte, ↓reduceDIte, ↓Qe, Qf, Qg, Qh, Qi, Qj, Qk, Ql, Qm, Qn, Qo, Qp, Qq, Qr, Qs, implies_true, Qt, Qu, Qv, Qw, Qx, Qy, Qz, QA, QB, QC, QD, QE, QF, QG, QH, QI, QJ, QK, QL, QM, QN, QO, QP, QQ]
        rw [e]; rfl
      · have hne : (t == s) = false := by simpa using hts
        rw [if_neg (by rw [ht]; simpa using hts)] at e
        simp (config := { maxSteps := 1000000 }) (disch := ((try simp only [awL]); omega)) only [QR, QS, QT, QU, QV, QW, QX, QY, QZ, Q0, Q1, Q2, textD, oil, cu, hne, ↓awU, awV, awF, Qa, Qb, Qc, Qd, forall_const, ↓reduceIte, ↓reduceDIte, ↓Qe, Qf, Qg, Qh, Qi, Qj, Qk, Ql, Qm, Qn, Qo, Qp, Qq, Qr, Qs, implies_true, Qt, Qu, Qv, Qw, Qx, Qy, Qz, QA, QB, QC, QD, QE, QF, QG, QH, QI, QJ, QK, QL, QM, QN, QO, QP, QQ]
        rw [e]; rfl
end Go.Proofs.YtacepalmphbnfaaGreatDoor

namespace Go.Proofs.YtacepalmphbnfaaGreatDoor
open Go Go.Proofs Go.Abs
variable {G : Globals}
/-! The dice's layouts and grids. -/
def layGo (t : List Int) : Nat → List Nat → Nat → List Nat × Nat
  | 0, l, k => (l, k)
  | n + 1, l, k => layGo t n (l ++ [l.getD (l.length - 1) 0 + 1 + (pk t k 12).toNat]) (k + 1)
def layM (t : List Int) (k : Nat) : List Nat := (layGo t (pk t k 4).toNat [0] (k + 1)).1
def layK (t : List Int) (k : Nat) : Nat := (layGo t (pk t k 4).toNat [0] (k + 1)).2
def asI (l : List Nat) : List Int := l.map fun n : Nat => (n : Int)
theorem ints_asI {l : List Nat} : ints .i64 (asI l) = nats .i64 l := by simp [ints, nats, asI]
/-- Ascending places, each at most a thousand. -/
def LayI (l : List Nat) : Prop := l ≠ [] ∧ l.getD 0 0 = 0 ∧ l.length ≤ 4 ∧ (∀ i, i < l.length → l.getD i 0 ≤ 12 * i) ∧ ∀ i, i + 1 < l.length → l.getD i 0 < l.getD (i + 1) 0
theorem LayI.step {l : List Nat} (h : LayI l) (hl : l.length < 4) {c : Nat} (hc : c < 12) : LayI (l ++ [l.getD (l.length - 1) 0 + 1 + c]) := by
  obtain ⟨h1, h2, h3, h4, h5⟩ := h
  have lp : 0 < l.length := List.length_pos_iff.2 h1
  have old : ∀ i, i < l.length → (l ++ [l.getD (l.length - 1) 0 + 1 + c]).getD i 0 = l.getD i 0 := fun i hi => by
    rw [List.getD_eq_getElem?_getD, List.getElem?_append_left hi, ← List.getD_eq_getElem?_getD]
  have new : (l ++ [l.getD (l.length - 1) 0 + 1 + c]).getD l.length 0 = l.getD (l.length - 1) 0 + 1 + c := by
    rw [List.getD_eq_getElem?_getD, List.getElem?_append_right (Nat.le_refl _), Nat.sub_self]; rfl
  refine ⟨by simp, by rw [old 0 lp, h2], by rw [List.length_append, List.length_singleton]; omega, fun i hi => ?_, fun i hi => ?_⟩
  · rw [List.length_append, List.length_singleton] at hi
    rcases Nat.lt_or_ge i l.length with h | h
    · rw [old i h]; exact h4 i h
    · obtain rfl : i = l.length := by omega
      rw [new]
      have := h4 (l.length - 1) (by omega)
      omega
  · rw [List.length_append, List.length_singleton] at hi
    rcases Nat.lt_or_ge (i + 1) l.length with h | h
    · rw [old i (by omega), old (i + 1) h]; exact h5 i h
    · have e : i + 1 = l.length := by omega
      rw [e, new, old i (by omega)]
      have : i = l.length - 1 := by omega
      rw [this]; omega
theorem layGo_ok (t : List Int) : ∀ (n : Nat) (l : List Nat) (k : Nat), LayI l → l.length + n ≤ 4 → LayI (layGo t n l k).1
  | 0, l, k, h, _ => h
  | n + 1, l, k, h, hn => by
    obtain ⟨c, hc, hc2⟩ := pk_nat t k 12 (by decide)
    rw [layGo, hc, Int.toNat_natCast]
    exact layGo_ok t n _ _ (h.step (by omega) (by omega)) (by rw [List.length_append, List.length_singleton]; omega)
theorem layI_zero : LayI [0] := ⟨by simp, rfl, by simp, fun i hi => by simp at hi; subst hi; simp, fun i hi => by simp at hi⟩
theorem layM_ok (t : List Int) (k : Nat) : LayI (layM t k) := by
  obtain ⟨c, hc, hc2⟩ := pk_nat t k 4 (by decide)
  unfold layM
  rw [hc, Int.toNat_natCast]
  exact layGo_ok t c _ _ layI_zero (by simp only [List.length_singleton]; omega)
theorem LayI.lay {l : List Nat} (h : LayI l) : Lay l := by
  obtain ⟨h1, h2, h3, h4, h5⟩ := h
  exact ⟨by omega, fun i hi => by have := h4 i hi; omega, fun i hi => Nat.le_of_lt (h5 i hi)⟩
theorem asI_getD {l : List Nat} {i : Nat} : (asI l).getD i 0 = ((l.getD i 0 : Nat) : Int) := by
  simp only [asI, List.getD_eq_getElem?_getD, List.getElem?_map]
  cases l[i]? <;> rfl
theorem LayI.okLay {l : List Nat} (h : LayI l) : okLay (asI l) = true := by
  obtain ⟨h1, h2, h3, h4, h5⟩ := h
  have hl : (asI l).length = l.length := by simp [asI]
  have key : ∀ n i, (asI l).length - i = n → 1 ≤ i → ascF (asI l) i = true := by
    intro n
    induction n with
    | zero => intro i hn _; exact ascF_end (by omega)
    | succ n ih =>
      intro i hn hi
      rw [ascF_more (by omega), ih (i + 1) (by omega) (by omega), Bool.and_true, asI_getD, asI_getD]
      have a := h4 i (by omega)
      have b := h5 (i - 1) (by omega)
      rw [show i - 1 + 1 = i by omega] at b
      exact decide_eq_true ⟨by omega, by omega⟩
  unfold Go.Proofs.YtacepalmphbnfaaGreatDoor.okLay
  rw [key _ 1 rfl (Nat.le_refl _), Bool.and_true, hl, asI_getD, h2]
  have := List.length_pos_iff.2 h1
  exact decide_eq_true ⟨by omega, by omega, rfl⟩
set_option maxHeartbeats 8000000 in
set_option maxRecDepth 100000 in
theorem layout_spec (t : List Int) (k : Nat) (ht : OkM t) : Ctr Tryz.prog G 13 [.ptr 0 0] [DiceM t k] (.d (IsF (asI (layM t k)) false)) [DiceM t (layK t k)] := by
  obtain ⟨r, hr⟩ : ∃ r, r = layM t k := ⟨_, rfl⟩
  obtain ⟨k2, hk⟩ : ∃ k2, k2 = layK t k := ⟨_, rfl⟩
  rw [← hr, ← hk]
  unfold layM at hr
  unfold layK at hk
  refine Ctr.body (M := M0) hmix Tryz.func13 rfl go13 ?_
  obtain ⟨m, hm, hm2⟩ := pk_nat t k 4 (by decide)
  rw [hm, Int.toNat_natCast] at hr hk
  simp (config := { maxSteps := 1000000 }) (disch := ((try simp only [awL]); omega)) only [QR, QS, QT, QU, QV, QW, QX, QY, QZ, Q0, Q1, Q2, Tryz.f13, ↓awU, awV, awF, Qa, Qb, Qc, Qd, forall_const, ↓reduceIte, ↓reduceDIte, ↓Qe, Qf, Qg, Qh, Qi, Qj, Qk, Ql, Qm, Qn, Qo, Qp, Qq, Qr, Qs, implies_true, Qt, Qu, Qv, Qw, Qx, Qy, Qz, QA, QB, QC, QD, QE, QF, QG, QH, QI, QJ, QK, QL, QM, QN, QO, QP, QQ]
  refine CallC.by (pick_spec t k 4 ht (by decide) (by decide)) (by rfl) (by rfl) (Nat.le_refl _) ?_
  rw [hm]
  simp (config := { maxSteps := 1000000 }) (disch := ((try simp only [awL]); omega)) only [QR, QS, QT, QU, QV, QW, QX, QY, QZ, Q0, Q1, Q2, ↓awU, awV, awF, Qa, Qb, Qc, Qd, forall_const, ↓reduceIte, ↓reduceDIte, ↓Qe, Qf, Qg, Qh, Qi, Qj, Qk, Ql, Qm, Qn, Qo, Qp, Qq, Qr, Qs, implies_true, Qt, Qu, Qv, Qw, Qx, Qy, Qz, QA, QB, QC, QD, QE, QF, QG, QH, QI, QJ, QK, QL, QM, QN, QO, QP, QQ]
  refine LoopC.fr 1 (α := Nat × List Nat × Nat) (fun x => x.1) (fun x => [(3, .lsl 1 1 0 x.2.1.length), (4, .d (.int .i64 x.1))]) (fun x => [DiceM t x.2.2, .row false (nats .i64 x.2.1)])
    (fun x => LayI x.2.1 ∧ x.2.1.length + x.1 ≤ 4 ∧ r = (layGo t x.1 x.2.1 x.2.2).1 ∧ k2 = (layGo t x.1 x.2.1 x.2.2).2) (m, [0], k + 1) ⟨layI_zero, by simp only [List.length_singleton]; omega, hr, hk⟩ ?_ ?_
  · exact ⟨[some 0, some 1], rfl, by simp, by simp [setsA, keepA, SWeak, AWeak], by simp [HWeak, BWeak, SWeak, AWeak, nats]⟩
  · rintro ⟨n, l, k1⟩ ⟨h1, h2, h3, h4⟩
    simp only at h1 h2 h3 h4
    have al := @nats_length .i64 l
    have lp : 0 < l.length := List.length_pos_iff.2 h1.1
    simp only [awK, Nat.reduceMod, Nat.reduceDiv, reduceIte]
    match n with
    | 0 =>
      simp only [layGo] at h3 h4
      subst h3 h4
      have cu : cut (nats .i64 r) 0 r.length = nats .i64 r := cut_all al.symm
      have e : IsF (asI r) false = Ns r false := by unfold IsF Ns; rw [ints_asI, show (asI r).length = r.length by simp [asI]]
      rw [e]
      simp (config := { maxSteps := 1000000 }) (disch := ((try simp only [awL]); omega)) only [QR, QS, QT, QU, QV, QW, QX, QY, QZ, Q0, Q1, Q2, ↓awU, awV, awF, Qa, Qb, Qc, Qd, forall_const, ↓reduceIte, ↓reduceDIte, ↓Qe, Qf, Qg, Qh, Qi, Qj, Qk, Ql, Qm, Qn, Qo, Qp, Qq, Qr, Qs, implies_true, Qt, Qu, Qv, Qw, Qx, Qy, Qz, QA, QB, QC, QD, QE, QF, QG, QH, QI, QJ, QK, QL, QM, QN, QO, QP, QQ]
      refine ⟨[some 0], rfl, by simp, by simp [HWeak, BWeak, SWeak, AWeak], .inr ⟨_, rfl, ?_, rfl⟩⟩
      simp (config := { maxSteps := 1000000 }) (disch := ((try simp only [awL]); omega)) only [QR, QS, QT, QU, QV, QW, QX, QY, QZ, Q0, Q1, Q2, cu, ↓awU, awV, awF, Qa, Qb, Qc, Qd, forall_const, ↓reduceIte, ↓reduceDIte, ↓Qe, Qf, Qg, Qh, Qi, Qj, Qk, Ql, Qm, Qn, Qo, Qp, Qq, Qr, Qs, implies_true, Qt, Qu, Qv, Qw, Qx, Qy, Qz, QA, QB, QC, QD, QE, QF, QG, QH, QI, QJ, QK, QL, QM, QN, QO, QP, QQ]
      try rfl
    | n + 1 =>
      obtain ⟨q, hq, hq2⟩ := pk_nat t k1 12 (by omega)
      simp only [layGo, hq, Int.toNat_natCast] at h3 h4
      have st := h1.step (by omega) (show q < 12 by omega)
      have g0 := nats_getD (k := .i64) (d := .nilp) (l := l) (i := l.length - 1) (by omega)
      have eb := h1.2.2.2.1 (l.length - 1) (by omega)
      have ei : ((l.length : Nat) : Int) - 1 = ((l.length - 1 : Nat) : Int) := by omega
      generalize l.getD (l.length - 1) 0 = c at *
      have sp : nats .i64 l ++ [D.int .i64 ((c : Int) + 1 + (q : Int))] = nats .i64 (l ++ [c + 1 + q]) := by simp [nats]
      have tl : (l ++ [c + 1 + q]).length = l.length + 1 := by simp
      generalize hl2 : l ++ [c + 1 + q] = l2 at *
      simp (config := { maxSteps := 1000000 }) (disch := ((try simp only [awL]); omega)) only [QR, QS, QT, QU, QV, QW, QX, QY, QZ, Q0, Q1, Q2, al, ei, g0, ↓awU, awV, awF, Qa, Qb, Qc, Qd, forall_const, ↓reduceIte, ↓reduceDIte, ↓Qe, Qf, Qg, Qh, Qi, Qj, Qk, Ql, Qm, Qn, Qo, Qp, Qq, Qr, Qs, implies_true, Qt, Qu, Qv, Qw, Qx, Qy, Qz, QA, QB, QC, QD, QE, QF, QG, QH, QI, QJ, QK, QL, QM, QN, QO, QP, QQ]
      refine CallC.by (pick_spec t k1 12 ht (by omega) (by omega)) (by rfl) (by rfl) (Nat.le_refl _) ?_
      rw [hq]
      simp (config := { maxSteps := 1000000 }) (disch := ((try simp only [awL]); omega)) only [QR, QS, QT, QU, QV, QW, QX, QY, QZ, Q0, Q1, Q2, al, sp, ↓awU, awV, awF, Qa, Qb, Qc, Qd, forall_const, ↓reduceIte, ↓reduceDIte, ↓Qe, Qf, Qg, Qh, Qi, Qj, Qk, Ql, Qm, Qn, Qo, Qp, Qq, Qr, Qs, implies_true, Qt, Qu, Qv, Qw, Qx, Qy, Qz, QA, QB, QC, QD, QE, QF, QG, QH, QI, QJ, QK, QL, QM, QN, QO, QP, QQ]
      refine ⟨by rfl, ?_⟩
      exact ⟨(n, l2, k1 + 1), ⟨st, by simp only; omega, h3, h4⟩, by simp only; omega, ⟨[some 0, some 3], rfl, by simp, by simp [setsA, keepA, SWeak, AWeak, tl], by simp [HWeak, BWeak, SWeak, AWeak, hl2]⟩⟩
end Go.Proofs.YtacepalmphbnfaaGreatDoor

namespace Go.Proofs.YtacepalmphbnfaaGreatDoor
open Go Go.Proofs Go.Abs
/-! What the dice make is valid and short. -/
theorem valid_ascii : ∀ s : List UInt8, (∀ c ∈ s, c.toNat < 128) → Lib.validD s = true
  | [], _ => rfl
  | c :: r, h => by rw [Lib.validD_cons _ _ (h c (by simp))]; exact valid_ascii r fun x hx => h x (by simp [hx])
def asciiL (s : List UInt8) : Prop := ∀ c ∈ s, c.toNat < 128
theorem ascii_app {a b : List UInt8} (ha : asciiL a) (hb : asciiL b) : asciiL (a ++ b) := fun c hc => by
  rcases List.mem_append.1 hc with h | h
  · exact ha c h
  · exact hb c h
theorem get_all {P : List UInt8 → Prop} {l : List (List UInt8)} (h0 : P []) (h : ∀ s ∈ l, P s) (i : Nat) : P (l.getD i []) := by
  rcases Nat.lt_or_ge i l.length with h1 | h1
  · exact h _ (memD h1)
  · rw [List.getD_eq_getElem?_getD, List.getElem?_eq_none h1]; exact h0
theorem ascii_nil : asciiL [] := fun c h => by cases h
theorem ascii_cons {c : UInt8} {r : List UInt8} (hc : c.toNat < 128) (hr : asciiL r) : asciiL (c :: r) := fun x hx => by
  rcases List.mem_cons.1 hx with rfl | h
  · exact hc
  · exact hr x h
theorem ascii_itoa {n : Nat} (h : n < 100) : asciiL (itoaL n) := by
  unfold itoaL
  split
  · intro c hc; rw [List.mem_singleton.1 hc]; simp; omega
  · intro c hc
    rcases List.mem_cons.1 hc with rfl | hc
    · simp; omega
    · rw [List.mem_singleton.1 hc]; simp; omega
theorem ascii_num (t : List Int) (k : Nat) : asciiL (numM t k) := by
  have h1 : asciiL (num1 t k) := by
    obtain ⟨b, hb, hb2⟩ := pk_nat t (k + 1) 40 (by decide)
    unfold num1
    rw [hb]
    exact ascii_app (get_all ascii_nil (by unfold asciiL; decide) _) (ascii_itoa (by simp; omega))
  have h2 : asciiL (num2 t k) := by
    unfold num2
    split
    · split
      · exact h1
      · exact ascii_cons (by decide) h1
    · exact h1
  unfold numM
  split
  · exact ascii_app h2 (ascii_cons (by decide) (get_all ascii_nil (by unfold asciiL; decide) _))
  · exact h2
theorem ascii_date (t : List Int) (k : Nat) : asciiL (dateM t k) ∧ (dateM t k).length ≤ 10 := by
  have a1 : asciiL (yearsL.getD (pk t k 6).toNat []) := get_all ascii_nil (by unfold asciiL; decide) _
  have a2 : asciiL (monthsL.getD (pk t (k + 1) 5).toNat []) := get_all ascii_nil (by unfold asciiL; decide) _
  have a3 : asciiL (daysL.getD (pk t (k + 2) 5).toNat []) := get_all ascii_nil (by unfold asciiL; decide) _
  have l1 := get_len (l := yearsL) (m := 4) (by decide) (pk t k 6).toNat
  have l2 := get_len (l := monthsL) (m := 2) (by decide) (pk t (k + 1) 5).toNat
  have l3 := get_len (l := daysL) (m := 2) (by decide) (pk t (k + 2) 5).toNat
  have one : ∀ n : UInt8, n.toNat < 128 → asciiL [n] := fun n h => ascii_cons h ascii_nil
  unfold dateM
  simp only
  split
  · exact ⟨ascii_app (ascii_app (ascii_app (ascii_app a1 (one _ (by decide))) a2) (one _ (by decide))) a3, by simp only [List.length_append, List.length_cons, List.length_nil]; omega⟩
  · split
    · exact ⟨ascii_app (ascii_app (ascii_app (ascii_app a1 (one _ (by decide))) a2) (one _ (by decide))) a3, by simp only [List.length_append, List.length_cons, List.length_nil]; omega⟩
    · exact ⟨ascii_app (ascii_app (ascii_app (ascii_app a3 (one _ (by decide))) a2) (one _ (by decide))) a1, by simp only [List.length_append, List.length_cons, List.length_nil]; omega⟩
def okT (s : List UInt8) : Prop := Lib.validD s = true ∧ s.length ≤ 30
instance (s : List UInt8) : Decidable (okT s) := by unfold okT; exact inferInstance
theorem okT_nil : okT [] := by decide
set_option maxRecDepth 100000 in
theorem okT_words : ∀ s ∈ wordsL, okT s := by decide
set_option maxRecDepth 100000 in
theorem okT_bools : ∀ s ∈ boolsL, okT s := by decide
set_option maxRecDepth 100000 in
theorem okT_nulls : ∀ s ∈ nullsL, okT s := by decide
set_option maxRecDepth 100000 in
theorem okT_odds : ∀ s ∈ oddsL, okT s := by decide
theorem fieldM_ok (t : List Int) (k c : Nat) : okT (fieldM t k c) := by
  unfold fieldM
  repeat' split
  · exact get_all okT_nil okT_words _
  · exact ⟨valid_ascii _ (ascii_num t k), by have := (numM_len t k).2; omega⟩
  · exact ⟨valid_ascii _ (ascii_date t k).1, by have := (ascii_date t k).2; omega⟩
  · exact get_all okT_nil okT_bools _
  · have := (numM_len t k).2
    have l2 := get_len (l := unitsL) (m := 4) (by decide) (pk t (numK t k) 7).toNat
    exact ⟨valid_ascii _ (ascii_app (ascii_num t k) (get_all ascii_nil (by unfold asciiL; decide) _)), by rw [List.length_append]; omega⟩
  · exact get_all okT_nil okT_nulls _
  · exact get_all okT_nil okT_odds _
theorem oddRow_ok (t : List Int) : ∀ (n k : Nat), (oddRow t n k).1.length = n ∧ ∀ s ∈ (oddRow t n k).1, okT s
  | 0, _ => ⟨rfl, fun s h => by cases h⟩
  | n + 1, k => by
    obtain ⟨h1, h2⟩ := oddRow_ok t n (fieldK t (k + 1) (pk t k 9).toNat)
    refine ⟨by simp only [oddRow, List.length_cons, h1], fun s hs => ?_⟩
    rcases List.mem_cons.1 hs with rfl | hs
    · exact fieldM_ok _ _ _
    · exact h2 s hs
/-- A grid of the dice. -/
structure OddG (g : List Row) (m n : Nat) : Prop where
  len : g.length ≤ m
  row : ∀ r ∈ g, r ≠ [] ∧ r.length ≤ n
  txt : ∀ r ∈ g, ∀ s ∈ r, okT s
theorem oddRows_ok (t : List Int) (cols : Nat) (hc : 0 < cols) : ∀ (m k : Nat), OddG (oddRows t cols m k).1 m cols
  | 0, _ => ⟨Nat.le_refl _, fun r h => (by cases h), fun r h => (by cases h)⟩
  | m + 1, k => by
    have ih := oddRows_ok t cols hc m (oddRow t (1 + (pk t k cols).toNat) (k + 1)).2
    obtain ⟨h1, h2⟩ := oddRow_ok t (1 + (pk t k cols).toNat) (k + 1)
    have hp := @pk_range t k cols (by omega)
    refine ⟨by simp only [oddRows, List.length_cons]; have := ih.len; omega, fun r hr => ?_, fun r hr => ?_⟩
    · rcases List.mem_cons.1 hr with rfl | hr
      · refine ⟨fun e => ?_, by rw [h1]; omega⟩
        rw [e] at h1; simp at h1; omega
      · exact ih.row r hr
    · rcases List.mem_cons.1 hr with rfl | hr
      · exact h2
      · exact ih.txt r hr
theorem oddG_ok (t : List Int) (k rows cols : Nat) (hc : 0 < cols) : OddG (oddG t k rows cols) rows cols := by
  have h := oddRows_ok t cols hc (pk t k (rows + 1 : Nat)).toNat (k + 1)
  have hp := @pk_range t k (rows + 1 : Nat) (by omega)
  exact ⟨by have := h.len; unfold oddG; omega, h.row, h.txt⟩
theorem OddG.grid {g : List Row} {m n : Nat} (h : OddG g m n) (hm : m ≤ 1000) (hn : n ≤ 1000) : okGrid g :=
  ⟨by have := h.len; omega, fun r hr => ⟨by have := (h.row r hr).2; omega, fun s hs => by have := (h.txt r hr s hs).2; omega⟩⟩
theorem OddG.bad {g : List Row} {m n : Nat} (h : OddG g m n) : g.any badR = false := by
  rw [List.any_eq_false]
  intro r hr
  have : badR r = false := by
    unfold badR
    rw [Bool.or_eq_false_iff]
    refine ⟨decide_eq_false fun e => (h.row r hr).1 (List.eq_nil_of_length_eq_zero e), List.any_eq_false.2 fun s hs => ?_⟩
    unfold badF
    rw [(h.txt r hr s hs).1]; decide
  rw [this]; decide
end Go.Proofs.YtacepalmphbnfaaGreatDoor

namespace Go.Proofs.YtacepalmphbnfaaGreatDoor
open Go Go.Proofs Go.Abs
variable {G : Globals}
/-! The dice's grids for a layout. -/
def OkS (t : List Int) : Prop := ∀ i, 0 ≤ t.getD i 0 ∧ t.getD i 0 ≤ 255
theorem OkS.take {t : List Int} (h : OkS t) : OkM (t.take 300) := by
  refine ⟨by rw [List.length_take]; omega, fun i => ?_⟩
  rcases Nat.lt_or_ge i 300 with h1 | h1
  · have := h i
    rw [List.getD_eq_getElem?_getD, List.getElem?_take, if_pos h1, ← List.getD_eq_getElem?_getD]
    exact this
  · rw [List.getD_eq_getElem?_getD, List.getElem?_take, if_neg (by omega)]; decide
/-- Whether a text has a control sign. -/
def lowS (s : List UInt8) (p : Nat) : Bool := (rnF s p).any fun r => decide (r < 32)
theorem lowS_more {s : List UInt8} {p : Nat} (h : p < s.length) : lowS s p = (decide ((dec s p).1 < 32) || lowS s (p + (dec s p).2)) := by rw [lowS, rnF_more h, List.any_cons]; rfl
theorem lowS_end {s : List UInt8} {p : Nat} (h : ¬ p < s.length) : lowS s p = false := by rw [lowS, rnF_end h]; rfl
/-- The code points that have room. -/
def runF (ly : List Nat) (i : Nat) (s : List UInt8) : List Nat :=
  if i + 1 < ly.length ∧ ly.getD (i + 1) 0 - ly.getD i 0 < (rnF (Lib.trimB s 32) 0).length then (rnF (Lib.trimB s 32) 0).take (ly.getD (i + 1) 0 - ly.getD i 0) else rnF (Lib.trimB s 32) 0
def fitX (ly : List Nat) (i : Nat) (s : List UInt8) : List UInt8 := if lowS (Lib.trimB (encL (runF ly i s)) 32) 0 = true then [] else Lib.trimB (encL (runF ly i s)) 32
def gFld (ly : List Nat) (fit : Bool) (i : Nat) (s : List UInt8) : List UInt8 := if fit = true then fitX ly i s else s
def gRow (t : List Int) (ly : List Nat) (fit : Bool) : Nat → Nat → Nat → Row × Nat
  | 0, _, k => ([], k)
  | m + 1, i, k => (gFld ly fit i (fieldM t (k + 1) (pk t k 7).toNat) :: (gRow t ly fit m (i + 1) (fieldK t (k + 1) (pk t k 7).toNat)).1, (gRow t ly fit m (i + 1) (fieldK t (k + 1) (pk t k 7).toNat)).2)
def gRows (t : List Int) (ly : List Nat) (fit : Bool) : Nat → Nat → List Row × Nat
  | 0, k => ([], k)
  | m + 1, k => ((gRow t ly fit ly.length 0 k).1 :: (gRows t ly fit m (gRow t ly fit ly.length 0 k).2).1, (gRows t ly fit m (gRow t ly fit ly.length 0 k).2).2)
def gridM (t : List Int) (ly : List Nat) (fit : Bool) (k : Nat) : List Row := (gRows t ly fit (pk t k 6).toNat (k + 1)).1
def gridK (t : List Int) (ly : List Nat) (fit : Bool) (k : Nat) : Nat := (gRows t ly fit (pk t k 6).toNat (k + 1)).2
set_option maxHeartbeats 16000000 in
set_option maxRecDepth 100000 in
theorem grid_spec (t : List Int) (k : Nat) (ly : List Nat) (lf fit : Bool) (ht : OkM t) (hly : LayI ly) :
    Ctr Tryz.prog G 15 [.ptr 0 0, .d (Ns ly lf), .d (.bool fit)] [DiceM t k] (.d (.agg [Gr (gridM t ly fit k) false])) [DiceM t (gridK t ly fit k)] := by
  obtain ⟨r, hr⟩ : ∃ r, r = gridM t ly fit k := ⟨_, rfl⟩
  obtain ⟨k2, hk⟩ : ∃ k2, k2 = gridK t ly fit k := ⟨_, rfl⟩
  rw [← hr, ← hk]
  unfold gridM at hr
  unfold gridK at hk
  refine Ctr.body (M := M0) hmix Tryz.func15 rfl go15 ?_
  obtain ⟨m, hm, hm2⟩ := pk_nat t k 6 (by decide)
  rw [hm, Int.toNat_natCast] at hr hk
  have nl := @nats_length .i64 ly
  have hl4 := hly.2.2.1
  simp (config := { maxSteps := 1000000 }) (disch := ((try simp only [awL]); omega)) only [QR, QS, QT, QU, QV, QW, QX, QY, QZ, Q0, Q1, Q2, Tryz.f15, ↓awU, awV, awF, Qa, Qb, Qc, Qd, forall_const, ↓reduceIte, ↓reduceDIte, ↓Qe, Qf, Qg, Qh, Qi, Qj, Qk, Ql, Qm, Qn, Qo, Qp, Qq, Qr, Qs, implies_true, Qt, Qu, Qv, Qw, Qx, Qy, Qz, QA, QB, QC, QD, QE, QF, QG, QH, QI, QJ, QK, QL, QM, QN, QO, QP, QQ]
  refine CallC.by (pick_spec t k 6 ht (by decide) (by decide)) (by rfl) (by rfl) (Nat.le_refl _) ?_
  rw [hm]
  simp (config := { maxSteps := 1000000 }) (disch := ((try simp only [awL]); omega)) only [QR, QS, QT, QU, QV, QW, QX, QY, QZ, Q0, Q1, Q2, ↓awU, awV, awF, Qa, Qb, Qc, Qd, forall_const, ↓reduceIte, ↓reduceDIte, ↓Qe, Qf, Qg, Qh, Qi, Qj, Qk, Ql, Qm, Qn, Qo, Qp, Qq, Qr, Qs, implies_true, Qt, Qu, Qv, Qw, Qx, Qy, Qz, QA, QB, QC, QD, QE, QF, QG, QH, QI, QJ, QK, QL, QM, QN, QO, QP, QQ]
  refine LoopC.fr 199 (α := List Row × Nat × Nat) (fun x => x.2.1) (fun x => [(8, .d (.int .i64 x.2.1))]) (fun x => [DiceM t x.2.2, .box [.d (.sl 0 true [])], .box [.lsl 3 1 0 x.1.length], .row false (rowsD x.1)])
    (fun x => x.1.length + x.2.1 ≤ 500 ∧ r = x.1 ++ (gRows t ly fit x.2.1 x.2.2).1 ∧ k2 = (gRows t ly fit x.2.1 x.2.2).2) ([], m, k + 1) ⟨by simp only [List.length_nil]; omega, hr, hk⟩ ?_ ?_
  · exact ⟨[some 0, some 1, some 2, none], rfl, by simp, by simp [setsA, keepA, SWeak, AWeak], by simp [HWeak, BWeak, SWeak, AWeak, rowsD]⟩
  · rintro ⟨acc, n, k1⟩ ⟨h1, h2, h3⟩
    simp only at h1 h2 h3
    have al := @rowsD_length acc
    simp only [awK, Nat.reduceMod, Nat.reduceDiv, reduceIte]
    match n with
    | 0 =>
      simp only [gRows, List.append_nil] at h2 h3
      subst h2 h3
      have cu : cut (rowsD r) 0 r.length = rowsD r := cut_all al.symm
      simp (config := { maxSteps := 1000000 }) (disch := ((try simp only [awL]); omega)) only [QR, QS, QT, QU, QV, QW, QX, QY, QZ, Q0, Q1, Q2, ↓awU, awV, awF, Qa, Qb, Qc, Qd, forall_const, ↓reduceIte, ↓reduceDIte, ↓Qe, Qf, Qg, Qh, Qi, Qj, Qk, Ql, Qm, Qn, Qo, Qp, Qq, Qr, Qs, implies_true, Qt, Qu, Qv, Qw, Qx, Qy, Qz, QA, QB, QC, QD, QE, QF, QG, QH, QI, QJ, QK, QL, QM, QN, QO, QP, QQ]
      refine ⟨[some 0], rfl, by simp, by simp [HWeak, BWeak, SWeak, AWeak], .inr ⟨_, rfl, ?_, rfl⟩⟩
      simp (config := { maxSteps := 1000000 }) (disch := ((try simp only [awL]); omega)) only [QR, QS, QT, QU, QV, QW, QX, QY, QZ, Q0, Q1, Q2, cu, rowsD_unf, ↓awU, awV, awF, Qa, Qb, Qc, Qd, forall_const, ↓reduceIte, ↓reduceDIte, ↓Qe, Qf, Qg, Qh, Qi, Qj, Qk, Ql, Qm, Qn, Qo, Qp, Qq, Qr, Qs, implies_true, Qt, Qu, Qv, Qw, Qx, Qy, Qz, QA, QB, QC, QD, QE, QF, QG, QH, QI, QJ, QK, QL, QM, QN, QO, QP, QQ]
      try rfl
    | n + 1 =>
      simp only [gRows] at h2 h3
      simp (config := { maxSteps := 1000000 }) (disch := ((try simp only [awL]); omega)) only [QR, QS, QT, QU, QV, QW, QX, QY, QZ, Q0, Q1, Q2, Ns, nl, ↓awU, awV, awF, Qa, Qb, Qc, Qd, forall_const, ↓reduceIte, ↓reduceDIte, ↓Qe, Qf, Qg, Qh, Qi, Qj, Qk, Ql, Qm, Qn, Qo, Qp, Qq, Qr, Qs, implies_true, Qt, Qu, Qv, Qw, Qx, Qy, Qz, QA, QB, QC, QD, QE, QF, QG, QH, QI, QJ, QK, QL, QM, QN, QO, QP, QQ]
      obtain ⟨row0, hrow⟩ : ∃ x, x = gRow t ly fit ly.length 0 k1 := ⟨_, rfl⟩
      rw [← hrow] at h2 h3
      refine LoopC.fr 4194759 (α := Row × Nat × Nat) (fun x => ly.length - x.2.1) (fun x => [(9, .lsl 4 1 0 x.1.length), (23, .d (.int .i64 x.2.1))]) (fun x => [DiceM t x.2.2, .box [.d (.sl 0 true [])], .box [.lsl 3 1 0 acc.length], .row false (rowsD acc), .row false (strs x.1)])
        (fun x => x.2.1 ≤ ly.length ∧ x.1.length = x.2.1 ∧ row0 = (x.1 ++ (gRow t ly fit (ly.length - x.2.1) x.2.1 x.2.2).1, (gRow t ly fit (ly.length - x.2.1) x.2.1 x.2.2).2)) ([], 0, k1) ⟨Nat.zero_le _, rfl, hrow⟩ ?_ ?_
      · exact ⟨[some 0, some 1, some 2, some 3, none], rfl, by simp, by simp [setsA, keepA, SWeak, AWeak], by simp [HWeak, BWeak, SWeak, AWeak, strs]⟩
      · rintro ⟨ro, i, k3⟩ ⟨j0, j1, j2⟩
        simp only at j0 j1 j2
        have sl := @strs_length ro
        simp only [awK, Nat.reduceMod, Nat.reduceDiv, reduceIte]
        rcases Nat.lt_or_ge i ly.length with h | h
        · obtain ⟨c, hc1, hc2⟩ := pk_nat t k3 7 (by omega)
          rw [show ly.length - i = (ly.length - (i + 1)) + 1 by omega] at j2
          simp only [gRow, hc1, Int.toNat_natCast] at j2
          have hfl := (fieldM_ok t (k3 + 1) c).2
          simp (config := { maxSteps := 1000000 }) (disch := ((try simp only [awL]); omega)) only [QR, QS, QT, QU, QV, QW, QX, QY, QZ, Q0, Q1, Q2, ↓awU, awV, awF, Qa, Qb, Qc, Qd, forall_const, ↓reduceIte, ↓reduceDIte, ↓Qe, Qf, Qg, Qh, Qi, Qj, Qk, Ql, Qm, Qn, Qo, Qp, Qq, Qr, Qs, implies_true, Qt, Qu, Qv, Qw, Qx, Qy, Qz, QA, QB, QC, QD, QE, QF, QG, QH, QI, QJ, QK, QL, QM, QN, QO, QP, QQ]
          refine CallC.by (pick_spec t k3 7 ht (by omega) (by omega)) (by rfl) (by rfl) (Nat.le_refl _) ?_
          rw [hc1]
          simp (config := { maxSteps := 1000000 }) (disch := ((try simp only [awL]); omega)) only [QR, QS, QT, QU, QV, QW, QX, QY, QZ, Q0, Q1, Q2, ↓awU, awV, awF, Qa, Qb, Qc, Qd, forall_const, ↓reduceIte, ↓reduceDIte, ↓Qe, Qf, Qg, Qh, Qi, Qj, Qk, Ql, Qm, Qn, Qo, Qp, Qq, Qr, Qs, implies_true, Qt, Qu, Qv, Qw, Qx, Qy, Qz, QA, QB, QC, QD, QE, QF, QG, QH, QI, QJ, QK, QL, QM, QN, QO, QP, QQ]
          refine CallC.by (field_mspec t (k3 + 1) c ht (by omega)) (by rfl) (by rfl) (Nat.le_refl _) ?_
          generalize fieldK t (k3 + 1) c = k4 at *
          generalize fieldM t (k3 + 1) c = fld at *
          cases fit
          · have sp := @strs_push ro fld
            have tl : (ro ++ [fld]).length = ro.length + 1 := by simp
            rw [show gFld ly false i fld = fld from rfl] at j2
            generalize hro : ro ++ [fld] = ro2 at *
            simp (config := { maxSteps := 1000000 }) (disch := ((try simp only [awL]); omega)) only [QR, QS, QT, QU, QV, QW, QX, QY, QZ, Q0, Q1, Q2, sl, sp, ↓awU, awV, awF, Qa, Qb, Qc, Qd, forall_const, ↓reduceIte, ↓reduceDIte, ↓Qe, Qf, Qg, Qh, Qi, Qj, Qk, Ql, Qm, Qn, Qo, Qp, Qq, Qr, Qs, implies_true, Qt, Qu, Qv, Qw, Qx, Qy, Qz, QA, QB, QC, QD, QE, QF, QG, QH, QI, QJ, QK, QL, QM, QN, QO, QP, QQ]
            refine ⟨(ro2, i + 1, k4), ⟨h, by simp only; omega, ?_⟩, by simp only; omega, ⟨[some 0, some 1, some 2, some 3, some 6], rfl, by simp, by simp [setsA, keepA, SWeak, AWeak, tl], by simp [HWeak, BWeak, SWeak, AWeak]⟩⟩
            rw [j2, ← hro]
            simp
          · rw [show gFld ly true i fld = fitX ly i fld from rfl] at j2
            unfold fitX at j2
            simp (config := { maxSteps := 1000000 }) (disch := ((try simp only [awL]); omega)) only [QR, QS, QT, QU, QV, QW, QX, QY, QZ, Q0, Q1, Q2, sl, ↓awU, awV, awF, Qa, Qb, Qc, Qd, forall_const, ↓reduceIte, ↓reduceDIte, ↓Qe, Qf, Qg, Qh, Qi, Qj, Qk, Ql, Qm, Qn, Qo, Qp, Qq, Qr, Qs, implies_true, Qt, Qu, Qv, Qw, Qx, Qy, Qz, QA, QB, QC, QD, QE, QF, QG, QH, QI, QJ, QK, QL, QM, QN, QO, QP, QQ]
            refine CallC.pure (rtrim_spec fld (by omega)) ?_
            have ts := trimB_len fld
            have rd := runesD_bs (Lib.trimB fld 32)
            have rs := runesS_bs (Lib.trimB fld 32)
            have rl := rcL_le (Lib.trimB fld 32)
            rw [rcL_eq] at rl
            unfold runF at j2
            generalize rnF (Lib.trimB fld 32) 0 = rr at *
            have rrl := @nats_length .i32 rr
            have rrb : runesBytes (rr.map fun (n : Nat) => (n : Int)) = bs (encL rr) := runesBytes_bs rr
            have cur : cut (nats .i32 rr) 0 rr.length = nats .i32 rr := cut_all rrl.symm
            rcases Nat.lt_or_ge (i + 1) ly.length with h7 | h7
            · have g0 := nats_getD (k := .i64) (d := .nilp) h
              have g1 := nats_getD (k := .i64) (d := .nilp) h7
              have b0 := hly.2.2.2.1 i h
              have b1 := hly.2.2.2.1 (i + 1) h7
              have b2 := hly.2.2.2.2 i h7
              generalize ly.getD i 0 = u0 at *
              generalize ly.getD (i + 1) 0 = u1 at *
              have eu : (u1 : Int) - (u0 : Int) = ((u1 - u0 : Nat) : Int) := by omega
              rcases Nat.lt_or_ge (u1 - u0) rr.length with h8 | h8
              · rw [if_pos (show i + 1 < ly.length ∧ u1 - u0 < rr.length from ⟨h7, h8⟩)] at j2
                have cut2 : cut (nats .i32 rr) 0 (u1 - u0) = nats .i32 (rr.take (u1 - u0)) := by simp [cut, nats, List.map_take]
                have rf2 := runesOf_nats (rr.take (u1 - u0))
                have rb2 := runesBytes_bs (rr.take (u1 - u0))
                have tkl : (rr.take (u1 - u0)).length = u1 - u0 := by rw [List.length_take]; omega
                simp (config := { maxSteps := 1000000 }) (disch := ((try simp only [awL]); omega)) only [QR, QS, QT, QU, QV, QW, QX, QY, QZ, Q0, Q1, Q2, Ns, nl, g0, g1, eu, rd, rs, rrl, cut2, rf2, rb2, ↓awU, awV, awF, Qa, Qb, Qc, Qd, forall_const, ↓reduceIte, ↓reduceDIte, ↓Qe, Qf, Qg, Qh, Qi, Qj, Qk, Ql, Qm, Qn, Qo, Qp, Qq, Qr, Qs, implies_true, Qt, Qu, Qv, Qw, Qx, Qy, Qz, QA, QB, QC, QD, QE, QF, QG, QH, QI, QJ, QK, QL, QM, QN, QO, QP, QQ]
                refine ⟨by rfl, by rfl, ?_⟩
                have el := encL_len (rr.take (u1 - u0))
                refine CallC.of (rtrim_spec (encL (rr.take (u1 - u0))) (by omega)) (by first | rfl | simp) ?_
                have tz := trimB_len (encL (rr.take (u1 - u0)))
                generalize Lib.trimB (encL (rr.take (u1 - u0))) 32 = z at *
                obtain ⟨y, hy⟩ : ∃ y, y = (if lowS z 0 = true then [] else z) := ⟨_, rfl⟩
                rw [← hy] at j2
                simp (config := { maxSteps := 1000000 }) (disch := ((try simp only [awL]); omega)) only [QR, QS, QT, QU, QV, QW, QX, QY, QZ, Q0, Q1, Q2, ↓awU, awV, awF, Qa, Qb, Qc, Qd, forall_const, ↓reduceIte, ↓reduceDIte, ↓Qe, Qf, Qg, Qh, Qi, Qj, Qk, Ql, Qm, Qn, Qo, Qp, Qq, Qr, Qs, implies_true, Qt, Qu, Qv, Qw, Qx, Qy, Qz, QA, QB, QC, QD, QE, QF, QG, QH, QI, QJ, QK, QL, QM, QN, QO, QP, QQ]
                refine LoopC.fx 2361183241434835190727 (α := Nat) (β := Unit) (fun p => z.length - p) (fun _ => [(11, .d (S z))]) (fun p => [DiceM t k4, .box [.d (.sl 0 true [])], .box [.lsl 3 1 0 acc.length], .row false (rowsD acc), .row false (strs ro), .dead, .iter (bs z) p]) (fun p => p ≤ z.length ∧ lowS z 0 = lowS z p) 12583879 (fun _ => [(11, .d (S y))]) (fun _ => [DiceM t k4, .box [.d (.sl 0 true [])], .box [.lsl 3 1 0 acc.length], .row false (rowsD acc), .row false (strs ro)]) (fun _ => True) 0 ⟨Nat.zero_le _, rfl⟩ ?_ ?_ ?_
                · exact ⟨[some 0, some 1, some 2, some 3, some 4, some 5, some 6], rfl, by simp, by simp [setsA, keepA, SWeak, AWeak], by simp [HWeak, BWeak, SWeak, AWeak]⟩
                · rintro p ⟨p1, p2⟩
                  simp only [awK, Nat.reduceMod, Nat.reduceDiv, reduceIte]
                  rcases Nat.lt_or_ge p z.length with hp | hp
                  · have hd := dec_end z p hp
                    rw [lowS_more hp] at p2
                    rcases Nat.lt_or_ge (dec z p).1 32 with hc | hc
                    · rw [decide_eq_true hc, Bool.true_or] at p2
                      rw [if_pos p2] at hy
                      subst hy
                      simp (config := { maxSteps := 1000000 }) (disch := ((try simp only [awL]); omega)) only [QR, QS, QT, QU, QV, QW, QX, QY, QZ, Q0, Q1, Q2, ↓awU, awV, awF, Qa, Qb, Qc, Qd, forall_const, ↓reduceIte, ↓reduceDIte, ↓Qe, Qf, Qg, Qh, Qi, Qj, Qk, Ql, Qm, Qn, Qo, Qp, Qq, Qr, Qs, implies_true, Qt, Qu, Qv, Qw, Qx, Qy, Qz, QA, QB, QC, QD, QE, QF, QG, QH, QI, QJ, QK, QL, QM, QN, QO, QP, QQ]
                      exact ⟨(), trivial, ⟨[some 0, some 1, some 2, some 3, some 4], rfl, by simp, by simp [setsA, keepA, SWeak, AWeak], by simp [HWeak, BWeak, SWeak, AWeak]⟩⟩
                    · rw [decide_eq_false (by omega), Bool.false_or] at p2
                      simp (config := { maxSteps := 1000000 }) (disch := ((try simp only [awL]); omega)) only [QR, QS, QT, QU, QV, QW, QX, QY, QZ, Q0, Q1, Q2, ↓awU, awV, awF, Qa, Qb, Qc, Qd, forall_const, ↓reduceIte, ↓reduceDIte, ↓Qe, Qf, Qg, Qh, Qi, Qj, Qk, Ql, Qm, Qn, Qo, Qp, Qq, Qr, Qs, implies_true, Qt, Qu, Qv, Qw, Qx, Qy, Qz, QA, QB, QC, QD, QE, QF, QG, QH, QI, QJ, QK, QL, QM, QN, QO, QP, QQ]
                      exact ⟨p + (dec z p).2, ⟨hd.2, p2⟩, by simp only; omega, ⟨[some 0, some 1, some 2, some 3, some 4, some 5, some 6], rfl, by simp, by simp [setsA, keepA, SWeak, AWeak], by simp [HWeak, BWeak, SWeak, AWeak]⟩⟩
                  · rw [lowS_end (p := p) (by omega)] at p2
                    rw [if_neg (by rw [p2]; decide)] at hy
                    subst hy
                    simp (config := { maxSteps := 1000000 }) (disch := ((try simp only [awL]); omega)) only [QR, QS, QT, QU, QV, QW, QX, QY, QZ, Q0, Q1, Q2, ↓awU, awV, awF, Qa, Qb, Qc, Qd, forall_const, ↓reduceIte, ↓reduceDIte, ↓Qe, Qf, Qg, Qh, Qi, Qj, Qk, Ql, Qm, Qn, Qo, Qp, Qq, Qr, Qs, implies_true, Qt, Qu, Qv, Qw, Qx, Qy, Qz, QA, QB, QC, QD, QE, QF, QG, QH, QI, QJ, QK, QL, QM, QN, QO, QP, QQ]
                    exact ⟨(), trivial, ⟨[some 0, some 1, some 2, some 3, some 4], rfl, by simp, by simp [setsA, keepA, SWeak, AWeak], by simp [HWeak, BWeak, SWeak, AWeak]⟩⟩
                · rintro ⟨⟩ -
                  have sp := @strs_push ro y
                  have tl : (ro ++ [y]).length = ro.length + 1 := by simp
                  generalize hro : ro ++ [y] = ro2 at *
                  simp only [awK, Nat.reduceMod, Nat.reduceDiv, reduceIte]
                  simp (config := { maxSteps := 1000000 }) (disch := ((try simp only [awL]); omega)) only [QR, QS, QT, QU, QV, QW, QX, QY, QZ, Q0, Q1, Q2, sl, sp, ↓awU, awV, awF, Qa, Qb, Qc, Qd, forall_const, ↓reduceIte, ↓reduceDIte, ↓Qe, Qf, Qg, Qh, Qi, Qj, Qk, Ql, Qm, Qn, Qo, Qp, Qq, Qr, Qs, implies_true, Qt, Qu, Qv, Qw, Qx, Qy, Qz, QA, QB, QC, QD, QE, QF, QG, QH, QI, QJ, QK, QL, QM, QN, QO, QP, QQ]
                  refine ⟨(ro2, i + 1, k4), ⟨h, by simp only; omega, ?_⟩, by simp only; omega, ⟨[some 0, some 1, some 2, some 3, some 6], rfl, by simp, by simp [setsA, keepA, SWeak, AWeak, tl], by simp [HWeak, BWeak, SWeak, AWeak]⟩⟩
                  rw [j2, ← hro]
                  simp
              · rw [if_neg (show ¬ (i + 1 < ly.length ∧ u1 - u0 < rr.length) by omega)] at j2
                have rf2 := runesOf_nats rr
                simp (config := { maxSteps := 1000000 }) (disch := ((try simp only [awL]); omega)) only [QR, QS, QT, QU, QV, QW, QX, QY, QZ, Q0, Q1, Q2, Ns, nl, g0, g1, eu, rd, rs, rrl, cur, rf2, rrb, ↓awU, awV, awF, Qa, Qb, Qc, Qd, forall_const, ↓reduceIte, ↓reduceDIte, ↓Qe, Qf, Qg, Qh, Qi, Qj, Qk, Ql, Qm, Qn, Qo, Qp, Qq, Qr, Qs, implies_true, Qt, Qu, Qv, Qw, Qx, Qy, Qz, QA, QB, QC, QD, QE, QF, QG, QH, QI, QJ, QK, QL, QM, QN, QO, QP, QQ]
                refine ⟨by rfl, ?_⟩
                have el := encL_len (rr)
                refine CallC.of (rtrim_spec (encL (rr)) (by omega)) (by first | rfl | simp) ?_
                have tz := trimB_len (encL (rr))
                generalize Lib.trimB (encL (rr)) 32 = z at *
                obtain ⟨y, hy⟩ : ∃ y, y = (if lowS z 0 = true then [] else z) := ⟨_, rfl⟩
                rw [← hy] at j2
                simp (config := { maxSteps := 1000000 }) (disch := ((try simp only [awL]); omega)) only [QR, QS, QT, QU, QV, QW, QX, QY, QZ, Q0, Q1, Q2, ↓awU, awV, awF, Qa, Qb, Qc, Qd, forall_const, ↓reduceIte, ↓reduceDIte, ↓Qe, Qf, Qg, Qh, Qi, Qj, Qk, Ql, Qm, Qn, Qo, Qp, Qq, Qr, Qs, implies_true, Qt, Qu, Qv, Qw, Qx, Qy, Qz, QA, QB, QC, QD, QE, QF, QG, QH, QI, QJ, QK, QL, QM, QN, QO, QP, QQ]
                refine LoopC.fx 2361183241434835190727 (α := Nat) (β := Unit) (fun p => z.length - p) (fun _ => [(11, .d (S z))]) (fun p => [DiceM t k4, .box [.d (.sl 0 true [])], .box [.lsl 3 1 0 acc.length], .row false (rowsD acc), .row false (strs ro), .dead, .iter (bs z) p]) (fun p => p ≤ z.length ∧ lowS z 0 = lowS z p) 12583879 (fun _ => [(11, .d (S y))]) (fun _ => [DiceM t k4, .box [.d (.sl 0 true [])], .box [.lsl 3 1 0 acc.length], .row false (rowsD acc), .row false (strs ro)]) (fun _ => True) 0 ⟨Nat.zero_le _, rfl⟩ ?_ ?_ ?_
                · exact ⟨[some 0, some 1, some 2, some 3, some 4, some 5, some 6], rfl, by simp, by simp [setsA, keepA, SWeak, AWeak], by simp [HWeak, BWeak, SWeak, AWeak]⟩
                · rintro p ⟨p1, p2⟩
                  simp only [awK, Nat.reduceMod, Nat.reduceDiv, reduceIte]
                  rcases Nat.lt_or_ge p z.length with hp | hp
                  · have hd := dec_end z p hp
                    rw [lowS_more hp] at p2
                    rcases Nat.lt_or_ge (dec z p).1 32 with hc | hc
                    · rw [decide_eq_true hc, Bool.true_or] at p2
                      rw [if_pos p2] at hy
                      subst hy
                      simp (config := { maxSteps := 1000000 }) (disch := ((try simp only [awL]); omega)) only [QR, QS, QT, QU, QV, QW, QX, QY, QZ, Q0, Q1, Q2, ↓awU, awV, awF, Qa, Qb, Qc, Qd, forall_const, ↓reduceIte, ↓reduceDIte, ↓Qe, Qf, Qg, Qh, Qi, Qj, Qk, Ql, Qm, Qn, Qo, Qp, Qq, Qr, Qs, implies_true, Qt, Qu, Qv, Qw, Qx, Qy, Qz, QA, QB, QC, QD, QE, QF, QG, QH, QI, QJ, QK, QL, QM, QN, QO, QP, QQ]
                      exact ⟨(), trivial, ⟨[some 0, some 1, some 2, some 3, some 4], rfl, by simp, by simp [setsA, keepA, SWeak, AWeak], by simp [HWeak, BWeak, SWeak, AWeak]⟩⟩
                    · rw [decide_eq_false (by omega), Bool.false_or] at p2
                      simp (config := { maxSteps := 1000000 }) (disch := ((try simp only [awL]); omega)) only [QR, QS, QT, QU, QV, QW, QX, QY, QZ, Q0, Q1, Q2, ↓awU, awV, awF, Qa, Qb, Qc, Qd, forall_const, ↓reduceIte, ↓reduceDIte, ↓Qe, Qf, Qg, Qh, Qi, Qj, Qk, Ql, Qm, Qn, Qo, Qp, Qq, Qr, Qs, implies_true, Qt, Qu, Qv, Qw, Qx, Qy, Qz, QA, QB, QC, QD, QE, QF, QG, QH, QI, QJ, QK, QL, QM, QN, QO, QP, QQ]
                      exact ⟨p + (dec z p).2, ⟨hd.2, p2⟩, by simp only; omega, ⟨[some 0, some 1, some 2, some 3, some 4, some 5, some 6], rfl, by simp, by simp [setsA, keepA, SWeak, AWeak], by simp [HWeak, BWeak, SWeak, AWeak]⟩⟩
                  · rw [lowS_end (p := p) (by omega)] at p2
                    rw [if_neg (by rw [p2]; decide)] at hy
                    subst hy
                    simp (config := { maxSteps := 1000000 }) (disch := ((try simp only [awL]); omega)) only [QR, QS, QT, QU, QV, QW, QX, QY, QZ, Q0, Q1, Q2, ↓awU, awV, awF, Qa, Qb, Qc, Qd, forall_const, ↓reduceIte, ↓reduceDIte, ↓Qe, Qf, Qg, Qh, Qi, Qj, Qk, Ql, Qm, Qn, Qo, Qp, Qq, Qr, Qs, implies_true, Qt, Qu, Qv, Qw, Qx, Qy, Qz, QA, QB, QC, QD, QE, QF, QG, QH, QI, QJ, QK, QL, QM, QN, QO, QP, QQ]
                    exact ⟨(), trivial, ⟨[some 0, some 1, some 2, some 3, some 4], rfl, by simp, by simp [setsA, keepA, SWeak, AWeak], by simp [HWeak, BWeak, SWeak, AWeak]⟩⟩
                · rintro ⟨⟩ -
                  have sp := @strs_push ro y
                  have tl : (ro ++ [y]).length = ro.length + 1 := by simp
                  generalize hro : ro ++ [y] = ro2 at *
                  simp only [awK, Nat.reduceMod, Nat.reduceDiv, reduceIte]
                  simp (config := { maxSteps := 1000000 }) (disch := ((try simp only [awL]); omega)) only [QR, QS, QT, QU, QV, QW, QX, QY, QZ, Q0, Q1, Q2, sl, sp, ↓awU, awV, awF, Qa, Qb, Qc, Qd, forall_const, ↓reduceIte, ↓reduceDIte, ↓Qe, Qf, Qg, Qh, Qi, Qj, Qk, Ql, Qm, Qn, Qo, Qp, Qq, Qr, Qs, implies_true, Qt, Qu, Qv, Qw, Qx, Qy, Qz, QA, QB, QC, QD, QE, QF, QG, QH, QI, QJ, QK, QL, QM, QN, QO, QP, QQ]
                  refine ⟨(ro2, i + 1, k4), ⟨h, by simp only; omega, ?_⟩, by simp only; omega, ⟨[some 0, some 1, some 2, some 3, some 6], rfl, by simp, by simp [setsA, keepA, SWeak, AWeak, tl], by simp [HWeak, BWeak, SWeak, AWeak]⟩⟩
                  rw [j2, ← hro]
                  simp
            · rw [if_neg (show ¬ (i + 1 < ly.length ∧ ly.getD (i + 1) 0 - ly.getD i 0 < rr.length) by omega)] at j2
              have rf2 := runesOf_nats rr
              simp (config := { maxSteps := 1000000 }) (disch := ((try simp only [awL]); omega)) only [QR, QS, QT, QU, QV, QW, QX, QY, QZ, Q0, Q1, Q2, Ns, nl, rd, rs, rrl, cur, rf2, rrb, ↓awU, awV, awF, Qa, Qb, Qc, Qd, forall_const, ↓reduceIte, ↓reduceDIte, ↓Qe, Qf, Qg, Qh, Qi, Qj, Qk, Ql, Qm, Qn, Qo, Qp, Qq, Qr, Qs, implies_true, Qt, Qu, Qv, Qw, Qx, Qy, Qz, QA, QB, QC, QD, QE, QF, QG, QH, QI, QJ, QK, QL, QM, QN, QO, QP, QQ]
              refine ⟨by rfl, ?_⟩
              have el := encL_len (rr)
              refine CallC.of (rtrim_spec (encL (rr)) (by omega)) (by first | rfl | simp) ?_
              have tz := trimB_len (encL (rr))
              generalize Lib.trimB (encL (rr)) 32 = z at *
              obtain ⟨y, hy⟩ : ∃ y, y = (if lowS z 0 = true then [] else z) := ⟨_, rfl⟩
              rw [← hy] at j2
              simp (config := { maxSteps := 1000000 }) (disch := ((try simp only [awL]); omega)) only [QR, QS, QT, QU, QV, QW, QX, QY, QZ, Q0, Q1, Q2, ↓awU, awV, awF, Qa, Qb, Qc, Qd, forall_const, ↓reduceIte, ↓reduceDIte, ↓Qe, Qf, Qg, Qh, Qi, Qj, Qk, Ql, Qm, Qn, Qo, Qp, Qq, Qr, Qs, implies_true, Qt, Qu, Qv, Qw, Qx, Qy, Qz, QA, QB, QC, QD, QE, QF, QG, QH, QI, QJ, QK, QL, QM, QN, QO, QP, QQ]
              refine LoopC.fx 2361183241434835190727 (α := Nat) (β := Unit) (fun p => z.length - p) (fun _ => [(11, .d (S z))]) (fun p => [DiceM t k4, .box [.d (.sl 0 true [])], .box [.lsl 3 1 0 acc.length], .row false (rowsD acc), .row false (strs ro), .dead, .iter (bs z) p]) (fun p => p ≤ z.length ∧ lowS z 0 = lowS z p) 12583879 (fun _ => [(11, .d (S y))]) (fun _ => [DiceM t k4, .box [.d (.sl 0 true [])], .box [.lsl 3 1 0 acc.length], .row false (rowsD acc), .row false (strs ro)]) (fun _ => True) 0 ⟨Nat.zero_le _, rfl⟩ ?_ ?_ ?_
              · exact ⟨[some 0, some 1, some 2, some 3, some 4, some 5, some 6], rfl, by simp, by simp [setsA, keepA, SWeak, AWeak], by simp [HWeak, BWeak, SWeak, AWeak]⟩
              · rintro p ⟨p1, p2⟩
                simp only [awK, Nat.reduceMod, Nat.reduceDiv, reduceIte]
                rcases Nat.lt_or_ge p z.length with hp | hp
                · have hd := dec_end z p hp
                  rw [lowS_more hp] at p2
                  rcases Nat.lt_or_ge (dec z p).1 32 with hc | hc
                  · rw [decide_eq_true hc, Bool.true_or] at p2
                    rw [if_pos p2] at hy
                    subst hy
                    simp (config := { maxSteps := 1000000 }) (disch := ((try simp only [awL]); omega)) only [QR, QS, QT, QU, QV, QW, QX, QY, QZ, Q0, Q1, Q2, ↓awU, awV, awF, Qa, Qb, Qc, Qd, forall_const, ↓reduceIte, ↓reduceDIte, ↓Qe, Qf, Qg, Qh, Qi, Qj, Qk, Ql, Qm, Qn, Qo, Qp, Qq, Qr, Qs, implies_true, Qt, Qu, Qv, Qw, Qx, Qy, Qz, QA, QB, QC, QD, QE, QF, QG, QH, QI, QJ, QK, QL, QM, QN, QO, QP, QQ]
                    exact ⟨(), trivial, ⟨[some 0, some 1, some 2, some 3, some 4], rfl, by simp, by simp [setsA, keepA, SWeak, AWeak], by simp [HWeak, BWeak, SWeak, AWeak]⟩⟩
                  · rw [decide_eq_false (by omega), Bool.false_or] at p2
                    simp (config := { maxSteps := 1000000 }) (disch := ((try simp only [awL]); omega)) only [QR, QS, QT, QU, QV, QW, QX, QY, QZ, Q0, Q1, Q2, ↓awU, awV, awF, Qa, Qb, Qc, Qd, forall_const, ↓reduceIte, ↓reduceDIte, ↓Qe, Qf, Qg, Qh, Qi, Qj, Qk, Ql, Qm, Qn, Qo, Qp, Qq, Qr, Qs, implies_true, Qt, Qu, Qv, Qw, Qx, Qy, Qz, QA, QB, QC, QD, QE, QF, QG, QH, QI, QJ, QK, QL, QM, QN, QO, QP, QQ]
                    exact ⟨p + (dec z p).2, ⟨hd.2, p2⟩, by simp only; omega, ⟨[some 0, some 1, some 2, some 3, some 4, some 5, some 6], rfl, by simp, by simp [setsA, keepA, SWeak, AWeak], by simp [HWeak, BWeak, SWeak, AWeak]⟩⟩
                · rw [lowS_end (p := p) (by omega)] at p2
                  rw [if_neg (by rw [p2]; decide)] at hy
                  subst hy
                  simp (config := { maxSteps := 1000000 }) (disch := ((try simp only [awL]); omega)) only [QR, QS, QT, QU, QV, QW, QX, QY, QZ, Q0, Q1, Q2, ↓awU, awV, awF, Qa, Qb, Qc, Qd, forall_const, ↓reduceIte, ↓reduceDIte, ↓Qe, Qf, Qg, Qh, Qi, Qj, Qk, Ql, Qm, Qn, Qo, Qp, Qq, Qr, Qs, implies_true, Qt, Qu, Qv, Qw, Qx, Qy, Qz, QA, QB, QC, QD, QE, QF, QG, QH, QI, QJ, QK, QL, QM, QN, QO, QP, QQ]
                  exact ⟨(), trivial, ⟨[some 0, some 1, some 2, some 3, some 4], rfl, by simp, by simp [setsA, keepA, SWeak, AWeak], by simp [HWeak, BWeak, SWeak, AWeak]⟩⟩
              · rintro ⟨⟩ -
                have sp := @strs_push ro y
                have tl : (ro ++ [y]).length = ro.length + 1 := by simp
                generalize hro : ro ++ [y] = ro2 at *
                simp only [awK, Nat.reduceMod, Nat.reduceDiv, reduceIte]
                simp (config := { maxSteps := 1000000 }) (disch := ((try simp only [awL]); omega)) only [QR, QS, QT, QU, QV, QW, QX, QY, QZ, Q0, Q1, Q2, sl, sp, ↓awU, awV, awF, Qa, Qb, Qc, Qd, forall_const, ↓reduceIte, ↓reduceDIte, ↓Qe, Qf, Qg, Qh, Qi, Qj, Qk, Ql, Qm, Qn, Qo, Qp, Qq, Qr, Qs, implies_true, Qt, Qu, Qv, Qw, Qx, Qy, Qz, QA, QB, QC, QD, QE, QF, QG, QH, QI, QJ, QK, QL, QM, QN, QO, QP, QQ]
                refine ⟨(ro2, i + 1, k4), ⟨h, by simp only; omega, ?_⟩, by simp only; omega, ⟨[some 0, some 1, some 2, some 3, some 6], rfl, by simp, by simp [setsA, keepA, SWeak, AWeak, tl], by simp [HWeak, BWeak, SWeak, AWeak]⟩⟩
                rw [j2, ← hro]
                simp
        · obtain rfl : i = ly.length := by omega
          simp only [Nat.sub_self, gRow, List.append_nil] at j2
          rw [j2] at h2 h3
          simp only at h2 h3
          have cu : cut (strs ro) 0 ro.length = strs ro := cut_all sl.symm
          have sp := @rowsD_push acc ro
          have tl : (acc ++ [ro]).length = acc.length + 1 := by simp
          generalize hacc2 : acc ++ [ro] = acc2 at *
          simp (config := { maxSteps := 1000000 }) (disch := ((try simp only [awL]); omega)) only [QR, QS, QT, QU, QV, QW, QX, QY, QZ, Q0, Q1, Q2, cu, al, sl, sp, ↓awU, awV, awF, Qa, Qb, Qc, Qd, forall_const, ↓reduceIte, ↓reduceDIte, ↓Qe, Qf, Qg, Qh, Qi, Qj, Qk, Ql, Qm, Qn, Qo, Qp, Qq, Qr, Qs, implies_true, Qt, Qu, Qv, Qw, Qx, Qy, Qz, QA, QB, QC, QD, QE, QF, QG, QH, QI, QJ, QK, QL, QM, QN, QO, QP, QQ]
          refine ⟨(acc2, n, k3), ⟨by simp only; omega, ?_, h3⟩, by simp only; omega, ⟨[some 0, some 1, some 2, some 6], rfl, by simp, by simp [setsA, keepA, SWeak, AWeak], by simp [HWeak, BWeak, SWeak, AWeak, tl]⟩⟩
          rw [h2, ← hacc2]
          simp
end Go.Proofs.YtacepalmphbnfaaGreatDoor

namespace Go.Proofs.YtacepalmphbnfaaGreatDoor
open Go Go.Proofs Go.Abs
variable {G : Globals}
/-! The sanity check. -/
def saneT : List UInt8 := [97, 98, 32, 32, 49, 10, 99, 32, 32, 50, 50]
set_option maxRecDepth 100000 in
theorem sane_lines : linesL saneT = [[97, 98, 32, 32, 49], [99, 32, 32, 50, 50]] := by
  unfold saneT linesL
  rw [rawL_more (by decide), rawL_last (by decide) (by decide)]
  decide +kernel
theorem sane_bl : blanksL [[97, 98, 32, 32, 49], [99, 32, 32, 50, 50]] = [false, false, true, false, false] := by
  decide +kernel
theorem sane_infer : inferL saneT 1 = some [0, 3] := by
  unfold inferL layL
  rw [sane_lines, sane_bl]
  decide +kernel
theorem sane_text : textL [0, 3] = some [48, 44, 51] := by decide +kernel
theorem sane_parse : parseF [0, 3] saneT = ([[[97, 98], [49]], [[99], [50, 50]]], 0) := by
  unfold parseF
  rw [sane_lines]
  decide +kernel
set_option maxHeartbeats 4000000 in
set_option maxRecDepth 100000 in
theorem sane_spec (hT : HT G) (hI : HI G) : Ctr Tryz.prog G 11 [] [] (.d (.bool true)) [] := by
  refine Ctr.pure (M := M0) hmix Tryz.func11 rfl go11 ?_
  simp (config := { maxSteps := 1000000 }) (disch := ((try simp only [awL]); omega)) only [QR, QS, QT, QU, QV, QW, QX, QY, QZ, Q0, Q1, Q2, Tryz.f11, ↓awU, awV, awF, Qa, Qb, Qc, Qd, forall_const, ↓reduceIte, ↓reduceDIte, ↓Qe, Qf, Qg, Qh, Qi, Qj, Qk, Ql, Qm, Qn, Qo, Qp, Qq, Qr, Qs, implies_true, Qt, Qu, Qv, Qw, Qx, Qy, Qz, QA, QB, QC, QD, QE, QF, QG, QH, QI, QJ, QK, QL, QM, QN, QO, QP, QQ]
  have i0 := infer_spec hT saneT 1 (by decide)
  rw [sane_infer] at i0
  refine CallC.of i0 (by rfl) ?_
  simp (config := { maxSteps := 1000000 }) (disch := ((try simp only [awL]); omega)) only [QR, QS, QT, QU, QV, QW, QX, QY, QZ, Q0, Q1, Q2, inferD, ↓awU, awV, awF, Qa, Qb, Qc, Qd, forall_const, ↓reduceIte, ↓reduceDIte, ↓Qe, Qf, Qg, Qh, Qi, Qj, Qk, Ql, Qm, Qn, Qo, Qp, Qq, Qr, Qs, implies_true, Qt, Qu, Qv, Qw, Qx, Qy, Qz, QA, QB, QC, QD, QE, QF, QG, QH, QI, QJ, QK, QL, QM, QN, QO, QP, QQ]
  have t0 := ftext_spec hI [0, 3] false (by decide)
  rw [sane_text] at t0
  refine CallC.of t0 (by rfl) ?_
  simp (config := { maxSteps := 1000000 }) (disch := ((try simp only [awL]); omega)) only [QR, QS, QT, QU, QV, QW, QX, QY, QZ, Q0, Q1, Q2, textD, ↓awU, awV, awF, Qa, Qb, Qc, Qd, forall_const, ↓reduceIte, ↓reduceDIte, ↓Qe, Qf, Qg, Qh, Qi, Qj, Qk, Ql, Qm, Qn, Qo, Qp, Qq, Qr, Qs, implies_true, Qt, Qu, Qv, Qw, Qx, Qy, Qz, QA, QB, QC, QD, QE, QF, QG, QH, QI, QJ, QK, QL, QM, QN, QO, QP, QQ]
  have p0 := fparse_spec hT [0, 3] false saneT (by decide) (by decide)
  rw [sane_parse] at p0
  refine CallC.of p0 (by rfl) ?_
  obtain ⟨g, hg⟩ : ∃ g : List Row, g = [[[97, 98], [49]], [[99], [50, 50]]] := ⟨_, rfl⟩
  obtain ⟨r0, hr0⟩ : ∃ r : Row, r = [[97, 98], [49]] := ⟨_, rfl⟩
  obtain ⟨r1, hr1⟩ : ∃ r : Row, r = [[99], [50, 50]] := ⟨_, rfl⟩
  have gl : (rowsD g).length = 2 := by rw [hg]; rfl
  have gl2 : g.length = 2 := by rw [hg]; rfl
  have g0 : (rowsD g).getD 0 .nilp = Ss r0 false := by rw [hg, hr0]; rfl
  have g1 : (rowsD g).getD 1 .nilp = Ss r1 false := by rw [hg, hr1]; rfl
  have l0 : (strs r0).length = 2 := by rw [hr0]; rfl
  have l0' : r0.length = 2 := by rw [hr0]; rfl
  have l1 : (strs r1).length = 2 := by rw [hr1]; rfl
  have l1' : r1.length = 2 := by rw [hr1]; rfl
  have s0 : (strs r0).getD 0 .nilp = S [97, 98] := by rw [hr0]; rfl
  have s1 : (strs r1).getD 1 .nilp = S [50, 50] := by rw [hr1]; rfl
  rw [← hg]
  unfold gridE
  simp (config := { maxSteps := 1000000 }) (disch := ((try simp only [awL]); omega)) only [QR, QS, QT, QU, QV, QW, QX, QY, QZ, Q0, Q1, Q2, gl, gl2, g0, g1, l0, l0', l1, l1', s0, s1, ↓awU, awV, awF, Qa, Qb, Qc, Qd, forall_const, ↓reduceIte, ↓reduceDIte, ↓Qe, Qf, Qg, Qh, Qi, Qj, Qk, Ql, Qm, Qn, Qo, Qp, Qq, Qr, Qs, implies_true, Qt, Qu, Qv, Qw, Qx, Qy, Qz, QA, QB, QC, QD, QE, QF, QG, QH, QI, QJ, QK, QL, QM, QN, QO, QP, QQ]
  try rfl
end Go.Proofs.YtacepalmphbnfaaGreatDoor

namespace Go.Proofs.YtacepalmphbnfaaGreatDoor
open Go Go.Proofs Go.Abs
/-! Code points of joined texts; what trimming leaves. -/
theorem decodeN_ext {n n' b0 b1 b2 b3 c1 c2 c3 : Nat} (h : ¬ ((Lib.decodeN n b0 b1 b2 b3).1 = 65533 ∧ (Lib.decodeN n b0 b1 b2 b3).2 = 1)) (hn : (Lib.decodeN n b0 b1 b2 b3).2 ≤ n')
    (h1 : 1 < (Lib.decodeN n b0 b1 b2 b3).2 → c1 = b1) (h2 : 2 < (Lib.decodeN n b0 b1 b2 b3).2 → c2 = b2) (h3 : 3 < (Lib.decodeN n b0 b1 b2 b3).2 → c3 = b3) : Lib.decodeN n' b0 c1 c2 c3 = Lib.decodeN n b0 b1 b2 b3 := by
  rcases Lib.decodeN_shape n b0 b1 b2 b3 with ⟨a, e⟩ | ⟨a1, a2, a3, a4, e⟩ | ⟨a1, a2, a3, a4, a5, a6, e⟩ | ⟨a1, a2, a3, a4, a5, a6, a7, e⟩ | e
  · rw [e]; unfold Lib.decodeN; rw [if_pos a]
  · rw [e] at hn h1 ⊢
    simp only at hn h1
    obtain rfl := h1 (by decide)
    unfold Lib.decodeN
    rw [if_neg (by omega), if_pos ⟨a1, by omega, a3⟩, if_pos (by omega)]
  · rw [e] at hn h1 h2 ⊢
    simp only at hn h1 h2
    obtain rfl := h1 (by decide)
    obtain rfl := h2 (by decide)
    unfold Lib.decodeN
    rw [if_neg (by omega), if_neg (by omega), if_pos ⟨a1, ⟨by omega, a3⟩, by omega, a4⟩, if_pos (by omega)]
  · rw [e] at hn h1 h2 h3 ⊢
    simp only at hn h1 h2 h3
    obtain rfl := h1 (by decide)
    obtain rfl := h2 (by decide)
    obtain rfl := h3 (by decide)
    unfold Lib.decodeN
    rw [if_neg (by omega), if_neg (by omega), if_neg (by omega), if_pos ⟨a1, ⟨by omega, a3⟩, ⟨by omega, a4⟩, by omega, a5⟩, if_pos (by omega)]
  · rw [e] at h; simp at h
/-- A code point that is read in the text l, and is no fault. -/
def Rd (l : List UInt8) : Prop := l ≠ [] ∧ ¬ ((Lib.decodeL l).1 = 65533 ∧ (Lib.decodeL l).2 = 1)
theorem decodeL_ext {l l' : List UInt8} (h : Rd l) (hl : (Lib.decodeL l).2 ≤ l'.length) (ht : l'.take (Lib.decodeL l).2 = l.take (Lib.decodeL l).2) : Lib.decodeL l' = Lib.decodeL l := by
  have hk := Lib.decodeL_le l h.1
  have hw := Lib.decodeL_width l
  have hg : ∀ j, j < (Lib.decodeL l).2 → l'.getD j 0 = l.getD j 0 := fun j hj => by
    have := congrArg (fun x : List UInt8 => x[j]?) ht
    simp only [List.getElem?_take, if_pos hj] at this
    rw [List.getD_eq_getElem?_getD, List.getD_eq_getElem?_getD, this]
  have hh := h.2
  rw [Lib.decodeL_N l'] 
  rw [Lib.decodeL_N l] at hh hl hg hw ⊢
  rw [hg 0 hw]
  exact decodeN_ext hh hl (fun x => by rw [hg 1 x]) (fun x => by rw [hg 2 x]) (fun x => by rw [hg 3 x])
theorem rnF_drop : ∀ (n : Nat) (l : List UInt8) (p : Nat), l.length - p = n → rnF l p = rnF (l.drop p) 0 := by
  intro n
  induction n using Nat.strongRecOn with
  | _ n ih =>
    intro l p hn
    by_cases h : p < l.length
    · have hd := dec_end l p h
      have e : dec (l.drop p) 0 = dec l p := by rw [dec_drop, dec_drop, List.drop_zero]
      rw [rnF_more h, rnF_more (l := l.drop p) (p := 0) (by rw [List.length_drop]; omega), e, Nat.zero_add, ih _ (by omega) l _ rfl, ih ((l.drop p).length - (dec l p).2) (by rw [List.length_drop]; omega) (l.drop p) _ rfl, List.drop_drop]
    · rw [rnF_end h, rnF_end (by rw [List.length_drop]; omega)]
theorem rnF_step {l : List UInt8} (h : l ≠ []) : rnF l 0 = (Lib.decodeL l).1 :: rnF (l.drop (Lib.decodeL l).2) 0 := by
  rw [rnF_more (List.length_pos_iff.2 h), dec_drop, List.drop_zero, Nat.zero_add, rnF_drop _ l _ rfl]
theorem rnF_nil : rnF [] 0 = [] := rnF_end (by simp)
/-- A code point that stands for its bytes. -/
def Sc (r : Nat) : Prop := ∃ l, Rd l ∧ (Lib.decodeL l).1 = r
theorem sc_dec {r : Nat} (h : Sc r) (t : List UInt8) : Rd (encC r ++ t) ∧ Lib.decodeL (encC r ++ t) = (r, (encC r).length) := by
  obtain ⟨l, hl, rfl⟩ := h
  have he := Lib.encode_decode l hl.1 hl.2
  have hk := Lib.decodeL_le l hl.1
  have hw := Lib.decodeL_width l
  have e : encC (Lib.decodeL l).1 = l.take (Lib.decodeL l).2 := he
  have len : (encC (Lib.decodeL l).1).length = (Lib.decodeL l).2 := by rw [e, List.length_take]; omega
  have ed : Lib.decodeL (encC (Lib.decodeL l).1 ++ t) = Lib.decodeL l := decodeL_ext hl (by rw [List.length_append]; omega) (by
    rw [List.take_append_of_le_length (by omega), List.take_of_length_le (by omega), e])
  refine ⟨⟨fun e2 => ?_, by rw [ed]; exact hl.2⟩, by rw [ed, len]⟩
  have := congrArg List.length e2
  rw [List.length_append, len] at this
  simp at this; omega
theorem rn_sc {r : Nat} (h : Sc r) (t : List UInt8) : rnF (encC r ++ t) 0 = r :: rnF t 0 := by
  obtain ⟨h1, h2⟩ := sc_dec h t
  rw [rnF_step h1.1, h2, List.drop_left]
theorem rn_encL : ∀ (p : List Nat) (t : List UInt8), (∀ r ∈ p, Sc r) → rnF (encL p ++ t) 0 = p ++ rnF t 0
  | [], t, _ => by simp [encL]
  | r :: p, t, h => by
    have e : encL (r :: p) = encC r ++ encL p := by simp [encL]
    rw [e, List.append_assoc, rn_sc (h r (by simp)), rn_encL p t fun x hx => h x (by simp [hx]), List.cons_append]
theorem valid_enc : ∀ (p : List Nat), (∀ r ∈ p, Sc r) → Lib.validD (encL p) = true
  | [], _ => rfl
  | r :: p, h => by
    have e : encL (r :: p) = encC r ++ encL p := by simp [encL]
    obtain ⟨h1, h2⟩ := sc_dec (h r (by simp)) (encL p)
    rw [e, Lib.validD_step _ h1.1, if_neg h1.2, h2, List.drop_left]
    exact valid_enc p fun x hx => h x (by simp [hx])
theorem valid_rd {l : List UInt8} (h : Lib.validD l = true) (hne : l ≠ []) : Rd l ∧ Lib.validD (l.drop (Lib.decodeL l).2) = true := by
  rw [Lib.validD_step l hne] at h
  split at h
  · cases h
  · rename_i hb; exact ⟨⟨hne, hb⟩, h⟩
theorem sc_all : ∀ (n : Nat) (l : List UInt8), l.length = n → Lib.validD l = true → (∀ r ∈ rnF l 0, Sc r) ∧ encL (rnF l 0) = l := by
  intro n
  induction n using Nat.strongRecOn with
  | _ n ih =>
    intro l hn hv
    by_cases hne : l = []
    · subst hne; rw [rnF_nil]; exact ⟨fun r hr => (by cases hr), rfl⟩
    · obtain ⟨h1, h2⟩ := valid_rd hv hne
      have hk := Lib.decodeL_le l hne
      have hw := Lib.decodeL_width l
      obtain ⟨i1, i2⟩ := ih (l.drop (Lib.decodeL l).2).length (by rw [List.length_drop]; omega) _ rfl h2
      rw [rnF_step hne]
      refine ⟨fun r hr => ?_, ?_⟩
      · rcases List.mem_cons.1 hr with rfl | hr
        · exact ⟨l, h1, rfl⟩
        · exact i1 r hr
      · have e : encL ((Lib.decodeL l).1 :: rnF (l.drop (Lib.decodeL l).2) 0) = encC (Lib.decodeL l).1 ++ encL (rnF (l.drop (Lib.decodeL l).2) 0) := by simp [encL]
        rw [e, i2, show encC (Lib.decodeL l).1 = l.take (Lib.decodeL l).2 from Lib.encode_decode l hne h1.2, List.take_append_drop]
theorem sc_of {l : List UInt8} (h : Lib.validD l = true) : ∀ r ∈ rnF l 0, Sc r := (sc_all _ l rfl h).1
theorem enc_rn {l : List UInt8} (h : Lib.validD l = true) : encL (rnF l 0) = l := (sc_all _ l rfl h).2
theorem rn_app {a b : List UInt8} (h : Lib.validD a = true) : rnF (a ++ b) 0 = rnF a 0 ++ rnF b 0 := by
  conv => lhs; rw [← enc_rn h]
  exact rn_encL _ b (sc_of h)
theorem rn_enc {p : List Nat} (h : ∀ r ∈ p, Sc r) : rnF (encL p) 0 = p := by
  have := rn_encL p [] h
  rwa [List.append_nil, rnF_nil, List.append_nil] at this
theorem rn_cons {c : UInt8} (h : c.toNat < 128) (t : List UInt8) : rnF (c :: t) 0 = c.toNat :: rnF t 0 := by
  rw [rnF_step (by simp), Lib.decodeL_ascii c t h]; rfl
/-! Trimming. -/
theorem trimL_split : ∀ l : List UInt8, ∃ m, l = List.replicate m 32 ++ Lib.trimLeftB l 32
  | [] => ⟨0, rfl⟩
  | c :: t => by
    by_cases h : c = 32
    · obtain ⟨m, e⟩ := trimL_split t
      refine ⟨m + 1, ?_⟩
      have e2 : Lib.trimLeftB (c :: t) 32 = Lib.trimLeftB t 32 := by simp [Lib.trimLeftB, h]
      rw [e2, List.replicate_succ, List.cons_append, ← e, h]
    · exact ⟨0, by simp [Lib.trimLeftB, h]⟩
theorem trimR_split (l : List UInt8) : ∃ n, l = Lib.trimRightB l 32 ++ List.replicate n 32 := by
  obtain ⟨m, e⟩ := trimL_split l.reverse
  refine ⟨m, ?_⟩
  have := congrArg List.reverse e
  rw [List.reverse_reverse, List.reverse_append, List.reverse_replicate] at this
  exact this
theorem trim_split (l : List UInt8) : ∃ m n, l = List.replicate m 32 ++ (Lib.trimB l 32 ++ List.replicate n 32) := by
  obtain ⟨n, e⟩ := trimR_split l
  obtain ⟨m, e2⟩ := trimL_split (Lib.trimRightB l 32)
  refine ⟨m, n, ?_⟩
  rw [← List.append_assoc]
  show l = List.replicate m 32 ++ Lib.trimLeftB (Lib.trimRightB l 32) 32 ++ List.replicate n 32
  rw [← e2, ← e]
theorem trimL_head {l : List UInt8} : (Lib.trimLeftB l 32).head? ≠ some 32 := by
  induction l with
  | nil => simp [Lib.trimLeftB]
  | cons c t ih =>
    by_cases h : c = 32
    · have e2 : Lib.trimLeftB (c :: t) 32 = Lib.trimLeftB t 32 := by simp [Lib.trimLeftB, h]
      rw [e2]; exact ih
    · simp [Lib.trimLeftB, h]
theorem trimL_id {l : List UInt8} (h : l.head? ≠ some 32) : Lib.trimLeftB l 32 = l := by
  cases l with
  | nil => rfl
  | cons c t =>
    have : ¬ c = 32 := fun e => h (by rw [e]; rfl)
    simp [Lib.trimLeftB, this]
theorem trimR_id {l : List UInt8} (h : l.getLast? ≠ some 32) : Lib.trimRightB l 32 = l := by
  have := trimL_id (l := l.reverse) (by rw [List.head?_reverse]; exact h)
  show (Lib.trimLeftB l.reverse 32).reverse = l
  rw [this, List.reverse_reverse]
theorem trimR_last (l : List UInt8) : (Lib.trimRightB l 32).getLast? ≠ some 32 := by
  show ((Lib.trimLeftB l.reverse 32).reverse).getLast? ≠ some 32
  rw [List.getLast?_reverse]; exact trimL_head
theorem trim_ends (l : List UInt8) : (Lib.trimB l 32).head? ≠ some 32 ∧ (Lib.trimB l 32).getLast? ≠ some 32 := by
  refine ⟨trimL_head, ?_⟩
  rw [← trim_comm]
  exact trimR_last _
theorem trim_id {l : List UInt8} (h1 : l.head? ≠ some 32) (h2 : l.getLast? ≠ some 32) : Lib.trimB l 32 = l := by
  show Lib.trimLeftB (Lib.trimRightB l 32) 32 = l
  rw [trimR_id h2, trimL_id h1]
theorem trim_idem (l : List UInt8) : Lib.trimB (Lib.trimB l 32) 32 = Lib.trimB l 32 := trim_id (trim_ends l).1 (trim_ends l).2
theorem valid_left : ∀ (m : Nat) {x : List UInt8}, Lib.validD (List.replicate m 32 ++ x) = true → Lib.validD x = true
  | 0, x, h => by simpa using h
  | m + 1, x, h => by
    rw [List.replicate_succ, List.cons_append, Lib.validD_cons _ _ (by decide)] at h
    exact valid_left m h
theorem valid_right : ∀ (n : Nat) {x : List UInt8}, Lib.validD (x ++ List.replicate n 32) = true → Lib.validD x = true
  | 0, x, h => by simpa using h
  | n + 1, x, h => by
    rw [List.replicate_succ] at h
    exact (valid_cutA (by decide) _ x _ rfl h).1
theorem valid_trim {x : List UInt8} (h : Lib.validD x = true) : Lib.validD (Lib.trimB x 32) = true := by
  obtain ⟨m, n, e⟩ := trim_split x
  rw [e] at h
  exact valid_right n (valid_left m h)
theorem rn_spaces : ∀ (m : Nat) (t : List UInt8), rnF (List.replicate m 32 ++ t) 0 = List.replicate m 32 ++ rnF t 0
  | 0, t => by simp
  | m + 1, t => by rw [List.replicate_succ, List.cons_append, rn_cons (by decide), rn_spaces m t]; rfl
theorem trim_runes {x : List UInt8} (h : Lib.validD x = true) : (rnF (Lib.trimB x 32) 0).length ≤ (rnF x 0).length ∧ ∀ r ∈ rnF (Lib.trimB x 32) 0, r ∈ rnF x 0 := by
  obtain ⟨m, n, e⟩ := trim_split x
  have ht := valid_trim h
  generalize Lib.trimB x 32 = y at *
  rw [e, rn_spaces, rn_app ht]
  exact ⟨by simp only [List.length_append]; omega, fun r hr => by simp [hr]⟩
theorem encC_bytes (r : Nat) : ∀ c ∈ encC r, c.toNat < 128 → c.toNat = r := by
  intro c hc hlt
  unfold encC Lib.encodeRune at hc
  by_cases c1 : r < 128
  · rw [Lib.encodeRuneZ_one (by omega) (by omega)] at hc
    simp at hc
    rw [hc]; simp; omega
  · exfalso
    by_cases c2 : r < 2048
    · rw [Lib.encodeRuneZ_two (by omega) (by omega)] at hc
      simp only [List.map_cons, List.map_nil, List.mem_cons, List.not_mem_nil, or_false] at hc
      rcases hc with rfl | rfl <;> · simp [Nat.toUInt8] at hlt; omega
    · by_cases c3 : (r < 55296) ∨ (57343 < r ∧ r ≤ 65535)
      · rw [Lib.encodeRuneZ_three (by omega)] at hc
        simp only [List.map_cons, List.map_nil, List.mem_cons, List.not_mem_nil, or_false] at hc
        rcases hc with rfl | rfl | rfl <;> · simp [Nat.toUInt8] at hlt; omega
      · by_cases c5 : 65536 ≤ r ∧ r ≤ 1114111
        · rw [Lib.encodeRuneZ_four (by omega) (by omega)] at hc
          simp only [List.map_cons, List.map_nil, List.mem_cons, List.not_mem_nil, or_false] at hc
          rcases hc with rfl | rfl | rfl | rfl <;> · simp [Nat.toUInt8] at hlt; omega
        · rw [Lib.encodeRuneZ_bad (by omega)] at hc
          simp only [List.map_cons, List.map_nil, List.mem_cons, List.not_mem_nil, or_false] at hc
          rcases hc with rfl | rfl | rfl <;> revert hlt <;> decide
theorem low_bytes {x : List UInt8} (h : Lib.validD x = true) (hl : lowS x 0 = false) : ∀ c ∈ x, 32 ≤ c.toNat := by
  intro c hc
  rw [← enc_rn h] at hc
  obtain ⟨r, hr, hc2⟩ := List.mem_flatMap.1 hc
  have h1 := List.any_eq_false.1 hl r hr
  simp only [decide_eq_true_eq] at h1
  rcases Nat.lt_or_ge c.toNat 128 with h2 | h2
  · have := encC_bytes r c hc2 h2; omega
  · omega
end Go.Proofs.YtacepalmphbnfaaGreatDoor

namespace Go.Proofs.YtacepalmphbnfaaGreatDoor
open Go Go.Proofs Go.Abs
/-! What was written in a layout is read back. -/
/-- A row that fits a layout. -/
structure GoodR (ly : List Nat) (r : Row) : Prop where
  len : r.length = ly.length
  val : ∀ s ∈ r, Lib.validD s = true ∧ s.length ≤ 200 ∧ Lib.trimB s 32 = s ∧ ∀ c ∈ s, 32 ≤ c.toNat
  wid : ∀ k, k < r.length → k + 1 < ly.length → rcL (r.getD k []) ≤ ly.getD (k + 1) 0 - ly.getD k 0
theorem LayI.mono {l : List Nat} (h : LayI l) : ∀ i, i + 1 < l.length → l.getD i 0 ≤ l.getD (i + 1) 0 := fun i hi => Nat.le_of_lt (h.2.2.2.2 i hi)
/-- What the dice make to fit. -/
theorem sc_take {p : List Nat} (h : ∀ r ∈ p, Sc r) (n : Nat) : ∀ r ∈ p.take n, Sc r := fun r hr => h r (List.mem_of_mem_take hr)
theorem fitX_good {ly : List Nat} {i : Nat} {s : List UInt8} (h : okT s) : (Lib.validD (fitX ly i s) = true ∧ (fitX ly i s).length ≤ 200 ∧ Lib.trimB (fitX ly i s) 32 = fitX ly i s ∧ ∀ c ∈ fitX ly i s, 32 ≤ c.toNat) ∧
    (i + 1 < ly.length → rcL (fitX ly i s) ≤ ly.getD (i + 1) 0 - ly.getD i 0) := by
  have ht := valid_trim h.1
  have hsc := sc_of ht
  have hlen : (rnF (Lib.trimB s 32) 0).length ≤ 30 := by
    have a := rcL_le (Lib.trimB s 32)
    have b := trimB_len s
    have c := h.2
    rw [rcL_eq] at a; omega
  have hr : (∀ r ∈ runF ly i s, Sc r) ∧ (runF ly i s).length ≤ 30 ∧ (i + 1 < ly.length → (runF ly i s).length ≤ ly.getD (i + 1) 0 - ly.getD i 0) := by
    unfold runF
    split
    · rename_i hc
      exact ⟨sc_take hsc _, by rw [List.length_take]; omega, fun _ => by rw [List.length_take]; omega⟩
    · rename_i hc
      exact ⟨hsc, hlen, fun h1 => by
        rcases Nat.lt_or_ge (ly.getD (i + 1) 0 - ly.getD i 0) (rnF (Lib.trimB s 32) 0).length with x | x
        · exact absurd ⟨h1, x⟩ hc
        · exact x⟩
  unfold fitX
  generalize runF ly i s = p at hr
  obtain ⟨h1, h2, h3⟩ := hr
  have v1 := valid_enc p h1
  have v2 := valid_trim v1
  have t1 := (trim_runes v1).1
  rw [rn_enc h1] at t1
  have el := encL_len p
  have tl := trimB_len (encL p)
  have ti := trim_idem (encL p)
  generalize Lib.trimB (encL p) 32 = z at *
  cases hz : lowS z 0
  · rw [if_neg (by decide)]
    exact ⟨⟨v2, by omega, ti, low_bytes v2 hz⟩, fun h => by have := h3 h; rw [rcL_eq]; omega⟩
  · rw [if_pos rfl]
    exact ⟨⟨rfl, by simp, rfl, fun c hc => by cases hc⟩, fun _ => by rw [rcL_eq, rnF_nil]; simp⟩
theorem gRow_good (t : List Int) (ly : List Nat) : ∀ (m i k : Nat), i + m = ly.length → (gRow t ly true m i k).1.length = m ∧ (∀ s ∈ (gRow t ly true m i k).1, Lib.validD s = true ∧ s.length ≤ 200 ∧ Lib.trimB s 32 = s ∧ ∀ c ∈ s, 32 ≤ c.toNat) ∧
    ∀ j, j < m → i + j + 1 < ly.length → rcL ((gRow t ly true m i k).1.getD j []) ≤ ly.getD (i + j + 1) 0 - ly.getD (i + j) 0
  | 0, i, k, _ => ⟨rfl, fun s hs => (by cases hs), fun j hj => absurd hj (Nat.not_lt_zero _)⟩
  | m + 1, i, k, h => by
    obtain ⟨a, b, c⟩ := gRow_good t ly m (i + 1) (fieldK t (k + 1) (pk t k 7).toNat) (by omega)
    obtain ⟨d, e⟩ := fitX_good (ly := ly) (i := i) (fieldM_ok t (k + 1) (pk t k 7).toNat)
    rw [gRow]
    refine ⟨by simp only [List.length_cons, a], fun s hs => ?_, fun j hj hl => ?_⟩
    · rcases List.mem_cons.1 hs with rfl | hs
      · exact d
      · exact b s hs
    · cases j with
      | zero => exact e (by omega)
      | succ j =>
        have := c j (by omega) (by omega)
        rw [show i + (j + 1) = i + 1 + j by omega]
        exact this
theorem gRows_good (t : List Int) (ly : List Nat) : ∀ (m k : Nat), (gRows t ly true m k).1.length = m ∧ ∀ r ∈ (gRows t ly true m k).1, GoodR ly r
  | 0, k => ⟨rfl, fun r hr => by cases hr⟩
  | m + 1, k => by
    obtain ⟨a, b⟩ := gRows_good t ly m (gRow t ly true ly.length 0 k).2
    obtain ⟨c, d, e⟩ := gRow_good t ly ly.length 0 k (by omega)
    rw [gRows]
    refine ⟨by simp only [List.length_cons, a], fun r hr => ?_⟩
    rcases List.mem_cons.1 hr with rfl | hr
    · exact ⟨c, d, fun j hj hl => by
        have := e j (by omega) (by omega)
        rw [Nat.zero_add] at this
        exact this⟩
    · exact b r hr
theorem gridM_good (t : List Int) (ly : List Nat) (k : Nat) : (gridM t ly true k).length ≤ 5 ∧ ∀ r ∈ gridM t ly true k, GoodR ly r := by
  obtain ⟨q, hq, hq2⟩ := pk_nat t k 6 (by decide)
  obtain ⟨a, b⟩ := gRows_good t ly (pk t k 6).toNat (k + 1)
  unfold gridM
  exact ⟨by rw [a, hq]; omega, b⟩
theorem GoodR.grid {ly : List Nat} {g : List Row} (hl : LayI ly) (hg : ∀ r ∈ g, GoodR ly r) (hn : g.length ≤ 100) : okGrid g :=
  ⟨by omega, fun r hr => ⟨by rw [(hg r hr).len]; have := hl.2.2.1; omega, fun s hs => by have := ((hg r hr).val s hs).2.1; omega⟩⟩
end Go.Proofs.YtacepalmphbnfaaGreatDoor

namespace Go.Proofs.YtacepalmphbnfaaGreatDoor
open Go Go.Proofs Go.Abs
variable {G : Globals}
/-! The law FixedBack. -/
theorem natO_le {l : List Nat} : (asI l).length = l.length := by simp [asI]
end Go.Proofs.YtacepalmphbnfaaGreatDoor

namespace Go.Proofs.YtacepalmphbnfaaGreatDoor
open Go Go.Proofs Go.Abs
variable {G : Globals}
/-! The law FixedSteps. -/
set_option maxRecDepth 100000 in
theorem mmod_spec (n m : Int) (hn1 : -9223372036854775808 ≤ n) (hn2 : n ≤ 9223372036854775807) (h0 : 0 < m) (h1 : m < 4611686018427387904) :
    Ctr Tryz.prog G 32 [.d (.int .i64 n), .d (.int .i64 m)] [] (.d (.int .i64 (n % m))) [] := by
  have e := Int.tmod_eq_emod (a := n) (b := m)
  have p1 := Int.emod_nonneg n (show m ≠ 0 by omega)
  have p2 := Int.emod_lt_of_pos n h0
  have c0 : -m < n.tmod m ∧ n.tmod m < m := ⟨Int.lt_tmod_of_pos n h0, Int.tmod_lt_of_pos n h0⟩
  have hh : (n.tmod m < 0 → n.tmod m + m = n % m) ∧ (¬ n.tmod m < 0 → n.tmod m = n % m) := by
    rw [e]
    split
    · exact ⟨fun h => by omega, fun _ => by omega⟩
    · exact ⟨fun h => by omega, fun h => by omega⟩
  clear e
  refine Ctr.pure (M := M0) hmix Tryz.func32 rfl go32 ?_
  simp (config := { maxSteps := 1000000 }) (disch := ((try simp only [awL]); omega)) only [Tryz.f32, ↓awU, awV, awF, Qa, Qb, Qc, Qd, forall_const, ↓reduceIte, ↓reduceDIte, ↓Qe, Qf, Qg, Qh, Qi, Qj, Qk, Ql, Qm, Qn, Qo, Qp, Qq, Qr, Qs, implies_true, Qt, Qu, Qv, Qw, Qx, Qy, Qz, QA, QB, QC, QD, QE, QF, QG, QH, QI, QJ, QK, QL, QM, QN, QO, QP, QQ]
theorem grid_nil : okGrid ([] : List Row) := ⟨by simp, by simp⟩
theorem parseF_ok (lay : List Int) {l : List UInt8} (hl : l.length ≤ 100000000) : okGrid (parseF lay l).1 := by
  unfold parseF
  split
  · exact grid_nil
  · rename_i hok
    have hok2 : okLay lay = true := by cases h : okLay lay <;> simp [h] at hok ⊢
    obtain ⟨k1, k2, _, _⟩ := okLay_ok hok2
    have nl : (natsOf lay).length = lay.length := by simp [natsOf]
    split
    · exact grid_nil
    · split
      · exact grid_nil
      · split
        · exact grid_nil
        · split
          · exact grid_nil
          · rename_i h1
            refine ⟨by simp only [gridF, List.length_map]; omega, fun r hr => ?_⟩
            obtain ⟨p, hp, rfl⟩ := List.mem_map.1 hr
            refine ⟨by rw [fldsL_len]; omega, fun s hs => ?_⟩
            have a := fld_len _ _ s hs
            have b := (linesL_in (s := l)).2 p hp
            omega
theorem formF_len (lay : List Int) (g : List Row) : (formF lay g).1.length ≤ 1048576 := by
  unfold formF
  repeat' split
  all_goals (simp only [List.length_nil]; omega)
def txO (x : Option (List UInt8)) : List UInt8 := x.getD []
theorem textD_eq (x : Option (List UInt8)) : textD x = .tup [S (txO x), .bool x.isSome] := by cases x <;> rfl
theorem textL_len (l : List Int) : (txO (textL l)).length ≤ 2000 := by
  unfold textL
  split
  · rename_i h
    obtain ⟨k1, k2, _, _⟩ := okLay_ok h
    obtain ⟨nl, hle⟩ := okLay_le h
    have := join_len [44] 21 (Nat.le_refl _) (numT (natsOf l)) (fun s hs => by
      obtain ⟨n, hn, rfl⟩ := List.mem_map.1 hs
      exact dec_len (hle n hn))
    have hn : (numT (natsOf l)).length = l.length := by rw [numT, List.length_map, nl]
    show (Lib.join (numT (natsOf l)) [44]).length ≤ 2000
    omega
  · simp [txO]
def ixO (x : Option (List Int)) : List Int := x.getD []
theorem inferD_eq (x : Option (List Int)) : inferD x = .tup [IsF (ixO x) false, .bool x.isSome] := by cases x <;> rfl
theorem layO_len (s : List UInt8) : (ixO (layO s)).length ≤ 64 := by
  cases h : layO s with
  | none => simp [ixO]
  | some l =>
    have := layO_iff.1 h
    unfold textL at this
    split at this
    · rename_i hok; exact (okLay_ok hok).2.1
    · cases this
theorem gRow_any (t : List Int) (ly : List Nat) : ∀ (m i k : Nat), (gRow t ly false m i k).1.length = m ∧ ∀ s ∈ (gRow t ly false m i k).1, s.length ≤ 30
  | 0, i, k => ⟨rfl, fun s hs => by cases hs⟩
  | m + 1, i, k => by
    obtain ⟨a, b⟩ := gRow_any t ly m (i + 1) (fieldK t (k + 1) (pk t k 7).toNat)
    rw [gRow]
    refine ⟨by simp only [List.length_cons, a], fun s hs => ?_⟩
    rcases List.mem_cons.1 hs with rfl | hs
    · exact (fieldM_ok t (k + 1) (pk t k 7).toNat).2
    · exact b s hs
theorem gRows_any (t : List Int) (ly : List Nat) : ∀ (m k : Nat), (gRows t ly false m k).1.length = m ∧ ∀ r ∈ (gRows t ly false m k).1, r.length = ly.length ∧ ∀ s ∈ r, s.length ≤ 30
  | 0, k => ⟨rfl, fun r hr => by cases hr⟩
  | m + 1, k => by
    obtain ⟨a, b⟩ := gRows_any t ly m (gRow t ly false ly.length 0 k).2
    obtain ⟨c, d⟩ := gRow_any t ly ly.length 0 k
    rw [gRows]
    refine ⟨by simp only [List.length_cons, a], fun r hr => ?_⟩
    rcases List.mem_cons.1 hr with rfl | hr
    · exact ⟨c, d⟩
    · exact b r hr
theorem gridM_any (t : List Int) {ly : List Nat} (k : Nat) (hl : LayI ly) : okGrid (gridM t ly false k) := by
  obtain ⟨q, hq, hq2⟩ := pk_nat t k 6 (by decide)
  obtain ⟨a, b⟩ := gRows_any t ly (pk t k 6).toNat (k + 1)
  have := hl.2.2.1
  unfold gridM
  exact ⟨by rw [a, hq]; omega, fun r hr => ⟨by rw [(b r hr).1]; omega, fun s hs => by have := (b r hr).2 s hs; omega⟩⟩
set_option maxHeartbeats 32000000 in
set_option maxRecDepth 100000 in
theorem steps_law (hT : HT G) (hI : HI G) (hE : HE G) (t : List Int) (ht : OkS t) (hl : t.length ≤ 9223372036854775807) (raw : List Int) (rf : Bool) (hraw : raw.length ≤ 9223372036854775807) (da : List UInt8) (hda : da.length ≤ 9223372036854775807) (tx : List UInt8) (htx : tx.length ≤ 9223372036854775807) (n : Int) (n1 : -9223372036854775808 ≤ n) (n2 : n ≤ 9223372036854775807) :
    Ctr Tryz.prog G 5 [.d (.sl t.length false (ints .u8 t)), .d (IsF raw rf), .d (S da), .d (S tx), .d (.int .i64 n)] [] (.d (.bool true)) [] := by
  refine Ctr.pure (M := M0) hmix Tryz.func5 rfl go5 ?_
  have hmm := ht.take
  have il := @ints_length .i64 raw
  simp (config := { maxSteps := 1000000 }) (disch := ((try simp only [awL]); omega)) only [QR, QS, QT, QU, QV, QW, QX, QY, QZ, Q0, Q1, Q2, Tryz.f5, ↓awU, awV, awF, Qa, Qb, Qc, Qd, forall_const, ↓reduceIte, ↓reduceDIte, ↓Qe, Qf, Qg, Qh, Qi, Qj, Qk, Ql, Qm, Qn, Qo, Qp, Qq, Qr, Qs, implies_true, Qt, Qu, Qv, Qw, Qx, Qy, Qz, QA, QB, QC, QD, QE, QF, QG, QH, QI, QJ, QK, QL, QM, QN, QO, QP, QQ]
  refine CallC.pure (sane_spec hT hI) ?_
  by_cases hr : 80 < raw.length
  · simp (config := { maxSteps := 1000000 }) (disch := ((try simp only [awL]); omega)) only [QR, QS, QT, QU, QV, QW, QX, QY, QZ, Q0, Q1, Q2, ↓awU, awV, awF, Qa, Qb, Qc, Qd, forall_const, ↓reduceIte, ↓reduceDIte, ↓Qe, Qf, Qg, Qh, Qi, Qj, Qk, Ql, Qm, Qn, Qo, Qp, Qq, Qr, Qs, implies_true, Qt, Qu, Qv, Qw, Qx, Qy, Qz, QA, QB, QC, QD, QE, QF, QG, QH, QI, QJ, QK, QL, QM, QN, QO, QP, QQ]
  · by_cases hd : 300 < da.length
    · simp (config := { maxSteps := 1000000 }) (disch := ((try simp only [awL]); omega)) only [QR, QS, QT, QU, QV, QW, QX, QY, QZ, Q0, Q1, Q2, ↓awU, awV, awF, Qa, Qb, Qc, Qd, forall_const, ↓reduceIte, ↓reduceDIte, ↓Qe, Qf, Qg, Qh, Qi, Qj, Qk, Ql, Qm, Qn, Qo, Qp, Qq, Qr, Qs, implies_true, Qt, Qu, Qv, Qw, Qx, Qy, Qz, QA, QB, QC, QD, QE, QF, QG, QH, QI, QJ, QK, QL, QM, QN, QO, QP, QQ]
    · by_cases hx : 100 < tx.length
      · simp (config := { maxSteps := 1000000 }) (disch := ((try simp only [awL]); omega)) only [QR, QS, QT, QU, QV, QW, QX, QY, QZ, Q0, Q1, Q2, ↓awU, awV, awF, Qa, Qb, Qc, Qd, forall_const, ↓reduceIte, ↓reduceDIte, ↓Qe, Qf, Qg, Qh, Qi, Qj, Qk, Ql, Qm, Qn, Qo, Qp, Qq, Qr, Qs, implies_true, Qt, Qu, Qv, Qw, Qx, Qy, Qz, QA, QB, QC, QD, QE, QF, QG, QH, QI, QJ, QK, QL, QM, QN, QO, QP, QQ]
      · simp (config := { maxSteps := 1000000 }) (disch := ((try simp only [awL]); omega)) only [QR, QS, QT, QU, QV, QW, QX, QY, QZ, Q0, Q1, Q2, ↓awU, awV, awF, Qa, Qb, Qc, Qd, forall_const, ↓reduceIte, ↓reduceDIte, ↓Qe, Qf, Qg, Qh, Qi, Qj, Qk, Ql, Qm, Qn, Qo, Qp, Qq, Qr, Qs, implies_true, Qt, Qu, Qv, Qw, Qx, Qy, Qz, QA, QB, QC, QD, QE, QF, QG, QH, QI, QJ, QK, QL, QM, QN, QO, QP, QQ]
        refine LoopC.fx 216172782113783839 (α := Nat) (β := Unit) (fun i => raw.length - i) (fun i => [(58, .d (.int .i64 i))]) (fun _ => []) (fun i => i ≤ raw.length) 31 (fun _ => []) (fun _ => []) (fun _ => True) 0 (Nat.zero_le _) ?_ ?_ ?_
        · exact ⟨[], rfl, by simp, by simp [setsA, keepA, SWeak, AWeak], by simp [HWeak, BWeak, SWeak, AWeak]⟩
        · intro i hi
          simp only [awK, Nat.reduceMod, Nat.reduceDiv, reduceIte]
          rcases Nat.lt_or_ge i raw.length with h | h
          · have g0 := ints_getD (k := .i64) (d := .nilp) h
            generalize raw.getD i 0 = c at *
            rcases (by omega : 5000 < c ∨ c ≤ 5000) with hc | hc
            · simp (config := { maxSteps := 1000000 }) (disch := ((try simp only [awL]); omega)) only [QR, QS, QT, QU, QV, QW, QX, QY, QZ, Q0, Q1, Q2, il, g0, ↓awU, awV, awF, Qa, Qb, Qc, Qd, forall_const, ↓reduceIte, ↓reduceDIte, ↓Qe, Qf, Qg, Qh, Qi, Qj, Qk, Ql, Qm, Qn, Qo, Qp, Qq, Qr, Qs, implies_true, Qt, Qu, Qv, Qw, Qx, Qy, Qz, QA, QB, QC, QD, QE, QF, QG, QH, QI, QJ, QK, QL, QM, QN, QO, QP, QQ]
            · simp (config := { maxSteps := 1000000 }) (disch := ((try simp only [awL]); omega)) only [QR, QS, QT, QU, QV, QW, QX, QY, QZ, Q0, Q1, Q2, il, g0, ↓awU, awV, awF, Qa, Qb, Qc, Qd, forall_const, ↓reduceIte, ↓reduceDIte, ↓Qe, Qf, Qg, Qh, Qi, Qj, Qk, Ql, Qm, Qn, Qo, Qp, Qq, Qr, Qs, implies_true, Qt, Qu, Qv, Qw, Qx, Qy, Qz, QA, QB, QC, QD, QE, QF, QG, QH, QI, QJ, QK, QL, QM, QN, QO, QP, QQ]
              exact ⟨i + 1, h, by simp only; omega, ⟨[], rfl, by simp, by simp [setsA, keepA, SWeak, AWeak], by simp [HWeak, BWeak, SWeak, AWeak]⟩⟩
          · simp (config := { maxSteps := 1000000 }) (disch := ((try simp only [awL]); omega)) only [QR, QS, QT, QU, QV, QW, QX, QY, QZ, Q0, Q1, Q2, il, ↓awU, awV, awF, Qa, Qb, Qc, Qd, forall_const, ↓reduceIte, ↓reduceDIte, ↓Qe, Qf, Qg, Qh, Qi, Qj, Qk, Ql, Qm, Qn, Qo, Qp, Qq, Qr, Qs, implies_true, Qt, Qu, Qv, Qw, Qx, Qy, Qz, QA, QB, QC, QD, QE, QF, QG, QH, QI, QJ, QK, QL, QM, QN, QO, QP, QQ]
            exact ⟨(), trivial, ⟨[], rfl, by simp, by simp [setsA, keepA, SWeak, AWeak], by simp [HWeak, BWeak, SWeak, AWeak]⟩⟩
        · rintro ⟨⟩ -
          simp only [awK, Nat.reduceMod, Nat.reduceDiv, reduceIte]
          simp (config := { maxSteps := 1000000 }) (disch := ((try simp only [awL]); omega)) only [QR, QS, QT, QU, QV, QW, QX, QY, QZ, Q0, Q1, Q2, ↓awU, awV, awF, Qa, Qb, Qc, Qd, forall_const, ↓reduceIte, ↓reduceDIte, ↓Qe, Qf, Qg, Qh, Qi, Qj, Qk, Ql, Qm, Qn, Qo, Qp, Qq, Qr, Qs, implies_true, Qt, Qu, Qv, Qw, Qx, Qy, Qz, QA, QB, QC, QD, QE, QF, QG, QH, QI, QJ, QK, QL, QM, QN, QO, QP, QQ]
          refine CallC.by (new_spec t hl) (by rfl) (by rfl) (Nat.zero_le _) ?_
          generalize t.take 300 = s at *
          simp (config := { maxSteps := 1000000 }) (disch := ((try simp only [awL]); omega)) only [QR, QS, QT, QU, QV, QW, QX, QY, QZ, Q0, Q1, Q2, ↓awU, awV, awF, Qa, Qb, Qc, Qd, forall_const, ↓reduceIte, ↓reduceDIte, ↓Qe, Qf, Qg, Qh, Qi, Qj, Qk, Ql, Qm, Qn, Qo, Qp, Qq, Qr, Qs, implies_true, Qt, Qu, Qv, Qw, Qx, Qy, Qz, QA, QB, QC, QD, QE, QF, QG, QH, QI, QJ, QK, QL, QM, QN, QO, QP, QQ]
          refine CallC.by (layout_spec s 0 hmm) (by rfl) (by rfl) (Nat.le_refl _) ?_
          have hly := layM_ok s 0
          generalize layM s 0 = ly at *
          generalize layK s 0 = k at *
          have l4 := hly.2.2.1
          have eN : IsF (asI ly) false = Ns ly false := by unfold IsF Ns; rw [ints_asI, natO_le]
          simp (config := { maxSteps := 1000000 }) (disch := ((try simp only [awL]); omega)) only [QR, QS, QT, QU, QV, QW, QX, QY, QZ, Q0, Q1, Q2, ↓awU, awV, awF, Qa, Qb, Qc, Qd, forall_const, ↓reduceIte, ↓reduceDIte, ↓Qe, Qf, Qg, Qh, Qi, Qj, Qk, Ql, Qm, Qn, Qo, Qp, Qq, Qr, Qs, implies_true, Qt, Qu, Qv, Qw, Qx, Qy, Qz, QA, QB, QC, QD, QE, QF, QG, QH, QI, QJ, QK, QL, QM, QN, QO, QP, QQ]
          refine CallC.by (grid_spec s k ly false true hmm hly) (by rw [show D.sl (asI ly).length false (ints .i64 (asI ly)) = Ns ly false from eN]) (by rfl) (Nat.le_refl _) ?_
          obtain ⟨gn, gg⟩ := gridM_good s ly k
          generalize gridM s ly true k = g at *
          generalize gridK s ly true k = k2 at *
          have gok := GoodR.grid hly gg (by omega)
          simp (config := { maxSteps := 1000000 }) (disch := ((try simp only [awL]); omega)) only [QR, QS, QT, QU, QV, QW, QX, QY, QZ, Q0, Q1, Q2, ↓awU, awV, awF, Qa, Qb, Qc, Qd, forall_const, ↓reduceIte, ↓reduceDIte, ↓Qe, Qf, Qg, Qh, Qi, Qj, Qk, Ql, Qm, Qn, Qo, Qp, Qq, Qr, Qs, implies_true, Qt, Qu, Qv, Qw, Qx, Qy, Qz, QA, QB, QC, QD, QE, QF, QG, QH, QI, QJ, QK, QL, QM, QN, QO, QP, QQ]
          refine CallC.by (grid_spec s k2 ly false false hmm hly) (by rw [show D.sl (asI ly).length false (ints .i64 (asI ly)) = Ns ly false from eN]) (by rfl) (Nat.le_refl _) ?_
          have hok := gridM_any s k2 hly
          generalize gridM s ly false k2 = h at *
          generalize gridK s ly false k2 = k3 at *
          simp (config := { maxSteps := 1000000 }) (disch := ((try simp only [awL]); omega)) only [QR, QS, QT, QU, QV, QW, QX, QY, QZ, Q0, Q1, Q2, ↓awU, awV, awF, Qa, Qb, Qc, Qd, forall_const, ↓reduceIte, ↓reduceDIte, ↓Qe, Qf, Qg, Qh, Qi, Qj, Qk, Ql, Qm, Qn, Qo, Qp, Qq, Qr, Qs, implies_true, Qt, Qu, Qv, Qw, Qx, Qy, Qz, QA, QB, QC, QD, QE, QF, QG, QH, QI, QJ, QK, QL, QM, QN, QO, QP, QQ]
          generalize hL : [D.sl (asI ly).length false (ints .i64 (asI ly)), D.sl raw.length false (ints .i64 raw), D.sl 1 false [.int .i64 0], D.sl 2 false (cut [.int .i64 1, .int .i64 2] 0 2), D.sl 0 false []] = L
          have hLl : L.length = 5 := by rw [← hL]; rfl
          have hLx : ∀ i, i < 5 → ∃ l : List Int, L.getD i .nilp = IsF l false ∧ l.length ≤ 80 := by
            intro i hi
            rw [← hL]
            rcases (by omega : i = 0 ∨ i = 1 ∨ i = 2 ∨ i = 3 ∨ i = 4) with rfl | rfl | rfl | rfl | rfl
            · exact ⟨asI ly, rfl, by rw [natO_le]; omega⟩
            · exact ⟨raw, rfl, by omega⟩
            · exact ⟨[0], rfl, by decide⟩
            · exact ⟨[1, 2], rfl, by decide⟩
            · exact ⟨[], rfl, by decide⟩
          clear hL
          refine LoopC.fr 1813388729421943762165788 (α := Nat × Nat) (fun x => 5 - x.1) (fun x => [(81, .d (.int .i64 x.1))]) (fun x => [DiceM s x.2, .box [.d (Gr g false)], .box [.d (Gr h false)], .dead, .dead, .row false L]) (fun x => x.1 ≤ 5) (0, k3) (Nat.zero_le _) ?_ ?_
          · exact ⟨[some 0, some 1, some 2, some 3, some 4, some 5], rfl, by simp, by simp [setsA, keepA, SWeak, AWeak], by simp [HWeak, BWeak, SWeak, AWeak]⟩
          · rintro ⟨i, k4⟩ hi
            simp only at hi
            simp only [awK, Nat.reduceMod, Nat.reduceDiv, reduceIte]
            rcases Nat.lt_or_ge i 5 with h5 | h5
            · obtain ⟨x, gx, xl⟩ := hLx i h5
              have b80 := textL_len x
              simp (config := { maxSteps := 1000000 }) (disch := ((try simp only [awL]); omega)) only [QR, QS, QT, QU, QV, QW, QX, QY, QZ, Q0, Q1, Q2, hLl, gx, ↓awU, awV, awF, Qa, Qb, Qc, Qd, forall_const, ↓reduceIte, ↓reduceDIte, ↓Qe, Qf, Qg, Qh, Qi, Qj, Qk, Ql, Qm, Qn, Qo, Qp, Qq, Qr, Qs, implies_true, Qt, Qu, Qv, Qw, Qx, Qy, Qz, QA, QB, QC, QD, QE, QF, QG, QH, QI, QJ, QK, QL, QM, QN, QO, QP, QQ]
              refine CallC.of (ftext_spec hI x false (by omega)) (by rfl) ?_
              rw [textD_eq]
              simp (config := { maxSteps := 1000000 }) (disch := ((try simp only [awL]); omega)) only [QR, QS, QT, QU, QV, QW, QX, QY, QZ, Q0, Q1, Q2, ↓awU, awV, awF, Qa, Qb, Qc, Qd, forall_const, ↓reduceIte, ↓reduceDIte, ↓Qe, Qf, Qg, Qh, Qi, Qj, Qk, Ql, Qm, Qn, Qo, Qp, Qq, Qr, Qs, implies_true, Qt, Qu, Qv, Qw, Qx, Qy, Qz, QA, QB, QC, QD, QE, QF, QG, QH, QI, QJ, QK, QL, QM, QN, QO, QP, QQ]
              refine CallC.of (rtext_spec hI x false (by omega)) (by rfl) ?_
              rw [textD_eq]
              generalize (textL x).isSome = bb
              generalize txO (textL x) = b at *
              simp (config := { maxSteps := 1000000 }) (disch := ((try simp only [awL]); omega)) only [QR, QS, QT, QU, QV, QW, QX, QY, QZ, Q0, Q1, Q2, ↓awU, awV, awF, Qa, Qb, Qc, Qd, forall_const, ↓reduceIte, ↓reduceDIte, ↓Qe, Qf, Qg, Qh, Qi, Qj, Qk, Ql, Qm, Qn, Qo, Qp, Qq, Qr, Qs, implies_true, Qt, Qu, Qv, Qw, Qx, Qy, Qz, QA, QB, QC, QD, QE, QF, QG, QH, QI, QJ, QK, QL, QM, QN, QO, QP, QQ]
              refine CallC.of (fvalid_spec x false (by omega)) (by rfl) ?_
              generalize hv : okLay x = v
              simp (config := { maxSteps := 1000000 }) (disch := ((try simp only [awL]); omega)) only [QR, QS, QT, QU, QV, QW, QX, QY, QZ, Q0, Q1, Q2, ↓awU, awV, awF, Qa, Qb, Qc, Qd, forall_const, ↓reduceIte, ↓reduceDIte, ↓Qe, Qf, Qg, Qh, Qi, Qj, Qk, Ql, Qm, Qn, Qo, Qp, Qq, Qr, Qs, implies_true, Qt, Qu, Qv, Qw, Qx, Qy, Qz, QA, QB, QC, QD, QE, QF, QG, QH, QI, QJ, QK, QL, QM, QN, QO, QP, QQ]
              refine CallC.of (rfvalid_spec x false (by omega)) (by rfl) ?_
              rw [hv]
              simp (config := { maxSteps := 1000000 }) (disch := ((try simp only [awL]); omega)) only [QR, QS, QT, QU, QV, QW, QX, QY, QZ, Q0, Q1, Q2, ↓awU, awV, awF, Qa, Qb, Qc, Qd, forall_const, ↓reduceIte, ↓reduceDIte, ↓Qe, Qf, Qg, Qh, Qi, Qj, Qk, Ql, Qm, Qn, Qo, Qp, Qq, Qr, Qs, implies_true, Qt, Qu, Qv, Qw, Qx, Qy, Qz, QA, QB, QC, QD, QE, QF, QG, QH, QI, QJ, QK, QL, QM, QN, QO, QP, QQ]
              refine CallC.by (odd_spec s k4 3 3 hmm (by decide) (by decide) (by decide)) (by rfl) (by rfl) (Nat.le_refl _) ?_
              have og := (oddG_ok s k4 3 3 (by decide)).grid (by decide) (by decide)
              generalize oddG s k4 3 3 = o at *
              generalize oddK s k4 3 3 = k5 at *
              simp (config := { maxSteps := 1000000 }) (disch := ((try simp only [awL]); omega)) only [QR, QS, QT, QU, QV, QW, QX, QY, QZ, Q0, Q1, Q2, ↓awU, awV, awF, Qa, Qb, Qc, Qd, forall_const, ↓reduceIte, ↓reduceDIte, ↓Qe, Qf, Qg, Qh, Qi, Qj, Qk, Ql, Qm, Qn, Qo, Qp, Qq, Qr, Qs, implies_true, Qt, Qu, Qv, Qw, Qx, Qy, Qz, QA, QB, QC, QD, QE, QF, QG, QH, QI, QJ, QK, QL, QM, QN, QO, QP, QQ]
              generalize hL2 : [D.sl g.length false (rowsD g), D.sl h.length false (rowsD h), D.sl o.length false (rowsD o)] = L2
              have hL2l : L2.length = 3 := by rw [← hL2]; rfl
              have hL2x : ∀ i, i < 3 → ∃ y : List Row, (L2.drop i).take 1 = [Gr y false] ∧ okGrid y := by
                intro i hi
                rw [← hL2]
                rcases (by omega : i = 0 ∨ i = 1 ∨ i = 2) with rfl | rfl | rfl
                · exact ⟨g, rfl, gok⟩
                · exact ⟨h, rfl, hok⟩
                · exact ⟨o, rfl, og⟩
              clear hL2
              refine ⟨by rfl, ?_⟩
              refine LoopC.fx 62307562306649171911017158064578588 (α := Nat) (β := Unit) (fun j => 3 - j) (fun j => [(116, .d (.int .i64 j))]) (fun _ => [DiceM s k5, .box [.d (Gr g false)], .box [.d (Gr h false)], .dead, .dead, .row false L, .row false L2]) (fun j => j ≤ 3) 4231240368651202113675292 (fun _ => []) (fun _ => [DiceM s k5, .box [.d (Gr g false)], .box [.d (Gr h false)], .dead, .dead, .row false L]) (fun _ => True) 0 (Nat.zero_le _) ?_ ?_ ?_
              · exact ⟨[some 0, some 1, some 2, some 3, some 4, some 5, some 6], rfl, by simp, by simp [setsA, keepA, SWeak, AWeak], by simp [HWeak, BWeak, SWeak, AWeak]⟩
              · intro j hj
                simp only [awK, Nat.reduceMod, Nat.reduceDiv, reduceIte]
                rcases Nat.lt_or_ge j 3 with h3 | h3
                · obtain ⟨y, gy, yok⟩ := hL2x j h3
                  have fb := formF_len x y
                  have f1 := fformat_spec hT x false y false (by omega) yok
                  have f2 := rfformat_spec hT x false y false (by omega) yok
                  generalize formF x y = bf at *
                  obtain ⟨tt, e⟩ := bf
                  simp only at fb
                  simp (config := { maxSteps := 1000000 }) (disch := ((try simp only [awL]); omega)) only [QR, QS, QT, QU, QV, QW, QX, QY, QZ, Q0, Q1, Q2, hL2l, gy, ↓awU, awV, awF, Qa, Qb, Qc, Qd, forall_const, ↓reduceIte, ↓reduceDIte, ↓Qe, Qf, Qg, Qh, Qi, Qj, Qk, Ql, Qm, Qn, Qo, Qp, Qq, Qr, Qs, implies_true, Qt, Qu, Qv, Qw, Qx, Qy, Qz, QA, QB, QC, QD, QE, QF, QG, QH, QI, QJ, QK, QL, QM, QN, QO, QP, QQ]
                  refine CallC.of f1 (by rfl) ?_
                  unfold fmtE
                  simp (config := { maxSteps := 1000000 }) (disch := ((try simp only [awL]); omega)) only [QR, QS, QT, QU, QV, QW, QX, QY, QZ, Q0, Q1, Q2, ↓awU, awV, awF, Qa, Qb, Qc, Qd, forall_const, ↓reduceIte, ↓reduceDIte, ↓Qe, Qf, Qg, Qh, Qi, Qj, Qk, Ql, Qm, Qn, Qo, Qp, Qq, Qr, Qs, implies_true, Qt, Qu, Qv, Qw, Qx, Qy, Qz, QA, QB, QC, QD, QE, QF, QG, QH, QI, QJ, QK, QL, QM, QN, QO, QP, QQ]
                  refine CallC.of f2 (by rfl) ?_
                  unfold fmtE
                  simp (config := { maxSteps := 1000000 }) (disch := ((try simp only [awL]); omega)) only [QR, QS, QT, QU, QV, QW, QX, QY, QZ, Q0, Q1, Q2, ↓awU, awV, awF, Qa, Qb, Qc, Qd, forall_const, ↓reduceIte, ↓reduceDIte, ↓Qe, Qf, Qg, Qh, Qi, Qj, Qk, Ql, Qm, Qn, Qo, Qp, Qq, Qr, Qs, implies_true, Qt, Qu, Qv, Qw, Qx, Qy, Qz, QA, QB, QC, QD, QE, QF, QG, QH, QI, QJ, QK, QL, QM, QN, QO, QP, QQ]
                  generalize hts : [tt, da, tt ++ da] = ts at *
                  have tsl : ts.length = 3 := by rw [← hts]; rfl
                  have tz : ∀ i, i < 3 → (ts.getD i []).length ≤ 2000000 := by
                    intro i hi
                    rw [← hts]
                    rcases (by omega : i = 0 ∨ i = 1 ∨ i = 2) with rfl | rfl | rfl
                    · show tt.length ≤ _; omega
                    · show da.length ≤ _; omega
                    · show (tt ++ da).length ≤ _; rw [List.length_append]; omega
                  have row : [S tt, S da, S (tt ++ da)] = strs ts := by rw [← hts]; rfl
                  have tsD := @strs_length ts
                  rw [row]
                  refine LoopC.fr 133804471336568050892420723603395268367982620 (α := Nat) (fun q => 3 - q) (fun q => [(147, .d (.int .i64 q))]) (fun _ => [DiceM s k5, .box [.d (Gr g false)], .box [.d (Gr h false)], .dead, .dead, .row false L, .row false L2, .dead, .row false (strs ts)]) (fun q => q ≤ 3) 0 (Nat.zero_le _) ?_ ?_
                  · exact ⟨[some 0, some 1, some 2, some 3, some 4, some 5, some 6, some 7, some 8], rfl, by simp, by simp [setsA, keepA, SWeak, AWeak], by simp [HWeak, BWeak, SWeak, AWeak]⟩
                  · intro q hq
                    simp only [awK, Nat.reduceMod, Nat.reduceDiv, reduceIte]
                    rcases Nat.lt_or_ge q 3 with hq2 | hq2
                    · have sg := strs_getD (l := ts) (i := q) (by omega)
                      have sz := tz q hq2
                      generalize ts.getD q [] = tq at *
                      have p1 := fparse_spec hT x false tq (by omega) (by omega)
                      have p2 := rfparse_spec hT x false tq (by omega) (by omega)
                      have po := parseF_ok x (l := tq) (by omega)
                      generalize parseF x tq = pr at *
                      obtain ⟨pg, pe⟩ := pr
                      simp (config := { maxSteps := 1000000 }) (disch := ((try simp only [awL]); omega)) only [QR, QS, QT, QU, QV, QW, QX, QY, QZ, Q0, Q1, Q2, tsD, tsl, sg, ↓awU, awV, awF, Qa, Qb, Qc, Qd, forall_const, ↓reduceIte, ↓reduceDIte, ↓Qe, Qf, Qg, Qh, Qi, Qj, Qk, Ql, Qm, Qn, Qo, Qp, Qq, Qr, Qs, implies_true, Qt, Qu, Qv, Qw, Qx, Qy, Qz, QA, QB, QC, QD, QE, QF, QG, QH, QI, QJ, QK, QL, QM, QN, QO, QP, QQ]
                      refine CallC.of p1 (by rfl) ?_
                      unfold gridE
                      simp (config := { maxSteps := 1000000 }) (disch := ((try simp only [awL]); omega)) only [QR, QS, QT, QU, QV, QW, QX, QY, QZ, Q0, Q1, Q2, ↓awU, awV, awF, Qa, Qb, Qc, Qd, forall_const, ↓reduceIte, ↓reduceDIte, ↓Qe, Qf, Qg, Qh, Qi, Qj, Qk, Ql, Qm, Qn, Qo, Qp, Qq, Qr, Qs, implies_true, Qt, Qu, Qv, Qw, Qx, Qy, Qz, QA, QB, QC, QD, QE, QF, QG, QH, QI, QJ, QK, QL, QM, QN, QO, QP, QQ]
                      refine CallC.of p2 (by rfl) ?_
                      unfold gridE
                      simp (config := { maxSteps := 1000000 }) (disch := ((try simp only [awL]); omega)) only [QR, QS, QT, QU, QV, QW, QX, QY, QZ, Q0, Q1, Q2, ↓awU, awV, awF, Qa, Qb, Qc, Qd, forall_const, ↓reduceIte, ↓reduceDIte, ↓Qe, Qf, Qg, Qh, Qi, Qj, Qk, Ql, Qm, Qn, Qo, Qp, Qq, Qr, Qs, implies_true, Qt, Qu, Qv, Qw, Qx, Qy, Qz, QA, QB, QC, QD, QE, QF, QG, QH, QI, QJ, QK, QL, QM, QN, QO, QP, QQ]
                      refine CallC.of (sameG_spec pg pg false false po po) (by rfl) ?_
                      rw [decide_eq_true rfl]
                      simp (config := { maxSteps := 1000000 }) (disch := ((try simp only [awL]); omega)) only [QR, QS, QT, QU, QV, QW, QX, QY, QZ, Q0, Q1, Q2, ↓awU, awV, awF, Qa, Qb, Qc, Qd, forall_const, ↓reduceIte, ↓reduceDIte, ↓Qe, Qf, Qg, Qh, Qi, Qj, Qk, Ql, Qm, Qn, Qo, Qp, Qq, Qr, Qs, implies_true, Qt, Qu, Qv, Qw, Qx, Qy, Qz, QA, QB, QC, QD, QE, QF, QG, QH, QI, QJ, QK, QL, QM, QN, QO, QP, QQ]
                      first
                      | exact ⟨q + 1, hq2, by simp only; omega, ⟨[some 0, some 1, some 2, some 3, some 4, some 5, some 6, some 7, some 8], rfl, by simp, by simp [setsA, keepA, SWeak, AWeak], by simp [HWeak, BWeak, SWeak, AWeak]⟩⟩
                      | exact ⟨by rfl, q + 1, hq2, by simp only; omega, ⟨[some 0, some 1, some 2, some 3, some 4, some 5, some 6, some 7, some 8], rfl, by simp, by simp [setsA, keepA, SWeak, AWeak], by simp [HWeak, BWeak, SWeak, AWeak]⟩⟩
                    · obtain rfl : q = 3 := by omega
                      simp (config := { maxSteps := 1000000 }) (disch := ((try simp only [awL]); omega)) only [QR, QS, QT, QU, QV, QW, QX, QY, QZ, Q0, Q1, Q2, tsD, tsl, ↓awU, awV, awF, Qa, Qb, Qc, Qd, forall_const, ↓reduceIte, ↓reduceDIte, ↓Qe, Qf, Qg, Qh, Qi, Qj, Qk, Ql, Qm, Qn, Qo, Qp, Qq, Qr, Qs, implies_true, Qt, Qu, Qv, Qw, Qx, Qy, Qz, QA, QB, QC, QD, QE, QF, QG, QH, QI, QJ, QK, QL, QM, QN, QO, QP, QQ]
                      exact ⟨j + 1, h3, by simp only; omega, ⟨[some 0, some 1, some 2, some 3, some 4, some 5, some 6], rfl, by simp, by simp [setsA, keepA, SWeak, AWeak], by simp [HWeak, BWeak, SWeak, AWeak]⟩⟩
                · obtain rfl : j = 3 := by omega
                  simp (config := { maxSteps := 1000000 }) (disch := ((try simp only [awL]); omega)) only [QR, QS, QT, QU, QV, QW, QX, QY, QZ, Q0, Q1, Q2, hL2l, ↓awU, awV, awF, Qa, Qb, Qc, Qd, forall_const, ↓reduceIte, ↓reduceDIte, ↓Qe, Qf, Qg, Qh, Qi, Qj, Qk, Ql, Qm, Qn, Qo, Qp, Qq, Qr, Qs, implies_true, Qt, Qu, Qv, Qw, Qx, Qy, Qz, QA, QB, QC, QD, QE, QF, QG, QH, QI, QJ, QK, QL, QM, QN, QO, QP, QQ]
                  exact ⟨(), trivial, ⟨[some 0, some 1, some 2, some 3, some 4, some 5], rfl, by simp, by simp [setsA, keepA, SWeak, AWeak], by simp [HWeak, BWeak, SWeak, AWeak]⟩⟩
              · rintro ⟨⟩ -
                simp only [awK, Nat.reduceMod, Nat.reduceDiv, reduceIte]
                simp (config := { maxSteps := 1000000 }) (disch := ((try simp only [awL]); omega)) only [QR, QS, QT, QU, QV, QW, QX, QY, QZ, Q0, Q1, Q2, ↓awU, awV, awF, Qa, Qb, Qc, Qd, forall_const, ↓reduceIte, ↓reduceDIte, ↓Qe, Qf, Qg, Qh, Qi, Qj, Qk, Ql, Qm, Qn, Qo, Qp, Qq, Qr, Qs, implies_true, Qt, Qu, Qv, Qw, Qx, Qy, Qz, QA, QB, QC, QD, QE, QF, QG, QH, QI, QJ, QK, QL, QM, QN, QO, QP, QQ]
                have bl1 : (((b.length : Nat) : Int) + 1) = ((b.length + 1 : Nat) : Int) := by omega
                have em1 := Int.emod_nonneg n (show ((b.length + 1 : Nat) : Int) ≠ 0 by omega)
                have em2 := Int.emod_lt_of_pos n (show (0 : Int) < ((b.length + 1 : Nat) : Int) by omega)
                obtain ⟨m, hm, hm2⟩ : ∃ m : Nat, n % ((b.length + 1 : Nat) : Int) = m ∧ m ≤ b.length := ⟨(n % ((b.length + 1 : Nat) : Int)).toNat, by omega, by omega⟩
                refine CallC.of (mmod_spec n ((b.length + 1 : Nat) : Int) n1 n2 (by omega) (by omega)) (by first | rfl | simp) ?_
                rw [hm]
                simp (config := { maxSteps := 1000000 }) (disch := ((try simp only [awL]); omega)) only [QR, QS, QT, QU, QV, QW, QX, QY, QZ, Q0, Q1, Q2, ↓awU, awV, awF, Qa, Qb, Qc, Qd, forall_const, ↓reduceIte, ↓reduceDIte, ↓Qe, Qf, Qg, Qh, Qi, Qj, Qk, Ql, Qm, Qn, Qo, Qp, Qq, Qr, Qs, implies_true, Qt, Qu, Qv, Qw, Qx, Qy, Qz, QA, QB, QC, QD, QE, QF, QG, QH, QI, QJ, QK, QL, QM, QN, QO, QP, QQ]
                generalize hts : [b, tx, b ++ [44], 48 :: b, b.take m] = ts at *
                have tsl : ts.length = 5 := by rw [← hts]; rfl
                have tz : ∀ i, i < 5 → (ts.getD i []).length ≤ 10000 := by
                  intro i hi
                  rw [← hts]
                  rcases (by omega : i = 0 ∨ i = 1 ∨ i = 2 ∨ i = 3 ∨ i = 4) with rfl | rfl | rfl | rfl | rfl
                  · show b.length ≤ _; omega
                  · show tx.length ≤ _; omega
                  · show (b ++ [44]).length ≤ _; rw [List.length_append, List.length_singleton]; omega
                  · show (48 :: b).length ≤ _; rw [List.length_cons]; omega
                  · show (b.take m).length ≤ _; rw [List.length_take]; omega
                have row : [S b, S tx, S (b ++ [44]), S (48 :: b), S (b.take m)] = strs ts := by rw [← hts]; rfl
                have tsD := @strs_length ts
                rw [show [D.str (bs b), D.str (bs tx), D.str (bs (b ++ [44])), D.str (bs (48 :: b)), D.str (bs (b.take m))] = strs ts from row]
                refine LoopC.fr 588478287692501321609605258425722957749964474120614813724 (α := Nat) (fun q => 5 - q) (fun q => [(189, .d (.int .i64 q))]) (fun _ => [DiceM s k5, .box [.d (Gr g false)], .box [.d (Gr h false)], .dead, .dead, .row false L, .row false (strs ts)]) (fun q => q ≤ 5) 0 (Nat.zero_le _) ?_ ?_
                · exact ⟨[some 0, some 1, some 2, some 3, some 4, some 5, some 6], rfl, by simp, by simp [setsA, keepA, SWeak, AWeak], by simp [HWeak, BWeak, SWeak, AWeak]⟩
                · intro q hq
                  simp only [awK, Nat.reduceMod, Nat.reduceDiv, reduceIte]
                  rcases Nat.lt_or_ge q 5 with hq2 | hq2
                  · have sg := strs_getD (l := ts) (i := q) (by omega)
                    have sz := tz q hq2
                    generalize ts.getD q [] = tq at *
                    have p1 := flayout_spec hI hE tq (by omega)
                    have p2 := rlayout_spec hI tq (by omega)
                    have ll := layO_len tq
                    rw [inferD_eq] at p1 p2
                    generalize ixO (layO tq) = lx at *
                    generalize (layO tq).isSome = lb at *
                    simp (config := { maxSteps := 1000000 }) (disch := ((try simp only [awL]); omega)) only [QR, QS, QT, QU, QV, QW, QX, QY, QZ, Q0, Q1, Q2, tsD, tsl, sg, ↓awU, awV, awF, Qa, Qb, Qc, Qd, forall_const, ↓reduceIte, ↓reduceDIte, ↓Qe, Qf, Qg, Qh, Qi, Qj, Qk, Ql, Qm, Qn, Qo, Qp, Qq, Qr, Qs, implies_true, Qt, Qu, Qv, Qw, Qx, Qy, Qz, QA, QB, QC, QD, QE, QF, QG, QH, QI, QJ, QK, QL, QM, QN, QO, QP, QQ]
                    refine CallC.of p1 (by rfl) ?_
                    simp (config := { maxSteps := 1000000 }) (disch := ((try simp only [awL]); omega)) only [QR, QS, QT, QU, QV, QW, QX, QY, QZ, Q0, Q1, Q2, ↓awU, awV, awF, Qa, Qb, Qc, Qd, forall_const, ↓reduceIte, ↓reduceDIte, ↓Qe, Qf, Qg, Qh, Qi, Qj, Qk, Ql, Qm, Qn, Qo, Qp, Qq, Qr, Qs, implies_true, Qt, Qu, Qv, Qw, Qx, Qy, Qz, QA, QB, QC, QD, QE, QF, QG, QH, QI, QJ, QK, QL, QM, QN, QO, QP, QQ]
                    refine CallC.of p2 (by rfl) ?_
                    simp (config := { maxSteps := 1000000 }) (disch := ((try simp only [awL]); omega)) only [QR, QS, QT, QU, QV, QW, QX, QY, QZ, Q0, Q1, Q2, ↓awU, awV, awF, Qa, Qb, Qc, Qd, forall_const, ↓reduceIte, ↓reduceDIte, ↓Qe, Qf, Qg, Qh, Qi, Qj, Qk, Ql, Qm, Qn, Qo, Qp, Qq, Qr, Qs, implies_true, Qt, Qu, Qv, Qw, Qx, Qy, Qz, QA, QB, QC, QD, QE, QF, QG, QH, QI, QJ, QK, QL, QM, QN, QO, QP, QQ]
                    refine CallC.of (intsR_spec lx lx false false (by omega) (by omega)) (by rfl) ?_
                    rw [decide_eq_true rfl]
                    simp (config := { maxSteps := 1000000 }) (disch := ((try simp only [awL]); omega)) only [QR, QS, QT, QU, QV, QW, QX, QY, QZ, Q0, Q1, Q2, ↓awU, awV, awF, Qa, Qb, Qc, Qd, forall_const, ↓reduceIte, ↓reduceDIte, ↓Qe, Qf, Qg, Qh, Qi, Qj, Qk, Ql, Qm, Qn, Qo, Qp, Qq, Qr, Qs, implies_true, Qt, Qu, Qv, Qw, Qx, Qy, Qz, QA, QB, QC, QD, QE, QF, QG, QH, QI, QJ, QK, QL, QM, QN, QO, QP, QQ]
                    exact ⟨q + 1, hq2, by simp only; omega, ⟨[some 0, some 1, some 2, some 3, some 4, some 5, some 6], rfl, by simp, by simp [setsA, keepA, SWeak, AWeak], by simp [HWeak, BWeak, SWeak, AWeak]⟩⟩
                  · obtain rfl : q = 5 := by omega
                    simp (config := { maxSteps := 1000000 }) (disch := ((try simp only [awL]); omega)) only [QR, QS, QT, QU, QV, QW, QX, QY, QZ, Q0, Q1, Q2, tsD, tsl, ↓awU, awV, awF, Qa, Qb, Qc, Qd, forall_const, ↓reduceIte, ↓reduceDIte, ↓Qe, Qf, Qg, Qh, Qi, Qj, Qk, Ql, Qm, Qn, Qo, Qp, Qq, Qr, Qs, implies_true, Qt, Qu, Qv, Qw, Qx, Qy, Qz, QA, QB, QC, QD, QE, QF, QG, QH, QI, QJ, QK, QL, QM, QN, QO, QP, QQ]
                    exact ⟨(i + 1, k5), h5, by simp only; omega, ⟨[some 0, some 1, some 2, some 3, some 4, some 5], rfl, by simp, by simp [setsA, keepA, SWeak, AWeak], by simp [HWeak, BWeak, SWeak, AWeak]⟩⟩
            · obtain rfl : i = 5 := by omega
              simp (config := { maxSteps := 1000000 }) (disch := ((try simp only [awL]); omega)) only [QR, QS, QT, QU, QV, QW, QX, QY, QZ, Q0, Q1, Q2, ↓awU, awV, awF, Qa, Qb, Qc, Qd, forall_const, ↓reduceIte, ↓reduceDIte, ↓Qe, Qf, Qg, Qh, Qi, Qj, Qk, Ql, Qm, Qn, Qo, Qp, Qq, Qr, Qs, implies_true, Qt, Qu, Qv, Qw, Qx, Qy, Qz, QA, QB, QC, QD, QE, QF, QG, QH, QI, QJ, QK, QL, QM, QN, QO, QP, QQ]
end Go.Proofs.YtacepalmphbnfaaGreatDoor
