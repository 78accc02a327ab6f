/-
  A world that lays the variables of fixedInfers.
-/
import Derived.Test.YtacepalmphbnfaaGreatDoorMb2
set_option linter.all false
open Go.Abs renaming ofVal → Qa, ofVal0 → Qb, isShift → Qc, aggK → Qd, purePost → Qe, combine → Qf, idsA → Qg, cellsA → Qh, numsOf → Qi, srcA → Qj, calleeA → Qk, refsA → Ql, isScalar → Qm, scalarD → Qn, scalar0 → Qo, putL → Qr, unfA → Qs, sidsB → QJ, keyKD → QL, isIntK → QM, aggD → QN, aggL → QO, eqKs → QP, boxRow → QQ, nextC_more → QT, nextC_over → QU, bs_size → QV, bs_extract → QW, bs_toList → QX, bs_append → QY, byteAt_bs → QZ, bs_cells → Q0, nums_length → Q1, nums_getD → Q2
open Go.Abs.AV renaming one → Qp
open Go.Abs.D renaming one → Qq
open Go.IntKind renaming signed → Qt
open Nat renaming reduceAdd → Qu, reduceSub → Qv, reduceMul → Qw, reducePow → Qx, reduceDiv → Qy, reduceMod → Qz, reduceEqDiff → QI, reduceBEq → QK
open Int renaming reduceAdd → QA, reduceSub → QB, reduceMul → QC, reducePow → QD, reduceNeg → QE, reduceToNat → QF, reduceLT → QG, reduceLE → QH
open Option renaming toList_some → QR, toList_none → QS

namespace Go.Proofs.YtacepalmphbnfaaGreatDoor
open Go Go.Proofs Go.Abs Go.RowKit Go.ChangeShapes Go.WideShapes Go.ChangeAt
noncomputable def laidWorld_fixedInfers (os : Os) : World :=
  { World.holding Tryz.prog os ⟨#[], #[], []⟩ with heap := ((((((World.holding Tryz.prog os ⟨#[], #[], []⟩).heap.modify 6 fun
      | .cells _ t frozen => .cells #[.int .u8 0, .int .u8 1, .int .u8 28, .int .u8 2, .int .u8 29, .int .u8 14, .int .u8 24, .int .u8 3, .int .u8 30, .int .u8 22, .int .u8 20, .int .u8 15, .int .u8 25, .int .u8 17, .int .u8 4, .int .u8 8, .int .u8 31, .int .u8 27, .int .u8 13, .int .u8 23, .int .u8 21, .int .u8 19, .int .u8 16, .int .u8 7, .int .u8 26, .int .u8 12, .int .u8 18, .int .u8 6, .int .u8 11, .int .u8 5, .int .u8 10, .int .u8 9] t frozen
      | o => o).modify 7 fun
      | .cells _ t frozen => .cells #[.int .u8 0, .int .u8 1, .int .u8 56, .int .u8 2, .int .u8 57, .int .u8 49, .int .u8 28, .int .u8 3, .int .u8 61, .int .u8 58, .int .u8 42, .int .u8 50, .int .u8 38, .int .u8 29, .int .u8 17, .int .u8 4, .int .u8 62, .int .u8 47, .int .u8 59, .int .u8 36, .int .u8 45, .int .u8 43, .int .u8 51, .int .u8 22, .int .u8 53, .int .u8 39, .int .u8 33, .int .u8 30, .int .u8 24, .int .u8 18, .int .u8 12, .int .u8 5, .int .u8 63, .int .u8 55, .int .u8 48, .int .u8 27, .int .u8 60, .int .u8 41, .int .u8 37, .int .u8 16, .int .u8 46, .int .u8 35, .int .u8 44, .int .u8 21, .int .u8 52, .int .u8 32, .int .u8 23, .int .u8 11, .int .u8 54, .int .u8 26, .int .u8 40, .int .u8 15, .int .u8 34, .int .u8 20, .int .u8 31, .int .u8 10, .int .u8 25, .int .u8 14, .int .u8 19, .int .u8 9, .int .u8 13, .int .u8 8, .int .u8 7, .int .u8 6] t frozen
      | o => o).modify 5 fun
      | .cells _ t frozen => .cells #[.int .u64 1, .int .u64 10, .int .u64 100, .int .u64 1000, .int .u64 10000, .int .u64 100000, .int .u64 1000000, .int .u64 10000000, .int .u64 100000000, .int .u64 1000000000, .int .u64 10000000000, .int .u64 100000000000, .int .u64 1000000000000, .int .u64 10000000000000, .int .u64 100000000000000, .int .u64 1000000000000000, .int .u64 10000000000000000, .int .u64 100000000000000000, .int .u64 1000000000000000000, .int .u64 10000000000000000000] t frozen
      | o => o).modify 1 fun
      | .cells _ t frozen => .cells #[.int .u8 128, .int .u8 191, .int .u8 160, .int .u8 191, .int .u8 128, .int .u8 159, .int .u8 144, .int .u8 191, .int .u8 128, .int .u8 143, .int .u8 0, .int .u8 0, .int .u8 0, .int .u8 0, .int .u8 0, .int .u8 0, .int .u8 0, .int .u8 0, .int .u8 0, .int .u8 0, .int .u8 0, .int .u8 0, .int .u8 0, .int .u8 0, .int .u8 0, .int .u8 0, .int .u8 0, .int .u8 0, .int .u8 0, .int .u8 0, .int .u8 0, .int .u8 0] t frozen
      | o => o).modify 0 fun
      | .cells _ t frozen => .cells (Go.Pinned.utf8FirstZ.map fun (n : Nat) => Value.int .u8 (n : Int)).toArray t frozen
      | o => o) }
set_option maxRecDepth 100000 in
theorem laid_met_fixedInfers (os : Os) (args : Array Value) : laidMet Tryz.prog [("math/bits.deBruijn32tab", Rows.laid_math_bits_deBruijn32tab), ("math/bits.deBruijn64tab", Rows.laid_math_bits_deBruijn64tab), ("internal/strconv.uint64pow10", Rows.laid_internal_strconv_uint64pow10), ("unicode/utf8.acceptRanges", Rows.laid_unicode_utf8_acceptRanges), ("unicode/utf8.first", Rows.laid_unicode_utf8_first)] ((laidWorld_fixedInfers os).forCall (fun _ _ => 0) ⟨#[], args, []⟩).memory :=
  laidMet_of_run' 8 (by kernel_rfl) (by kernel_rfl)
end Go.Proofs.YtacepalmphbnfaaGreatDoor

namespace Go.Proofs.YtacepalmphbnfaaGreatDoor
open Go Go.Proofs Go.Abs
variable {G : Globals}
/-! Writing a file in a layout. -/
/-- A row's text, from the i-th field on, where p places are written. -/
def wrF (lay : List Nat) : Nat → Nat → Row → List UInt8
  | _, _, [] => []
  | i, p, s :: r => if s = [] then wrF lay (i + 1) p r else List.replicate (lay.getD i 0 - p) 32 ++ s ++ wrF lay (i + 1) (lay.getD i 0 + rcL s) r
def txtF (lay : List Nat) : List Row → List UInt8
  | [] => []
  | r :: g => wrF lay 0 0 r ++ [10] ++ txtF lay g
def formF (lay : List Int) (g : List Row) : List UInt8 × Nat :=
  if okLay lay = false then ([], 1) else if checkL (natsOf lay) g ≠ 0 then ([], checkL (natsOf lay) g) else
    if 1048576 < (txtF (natsOf lay) g).length then ([], 3) else (txtF (natsOf lay) g, 0)
def fmtE (x : List UInt8 × Nat) : D := .tup [S x.1, .int .i64 x.2]
theorem check_ok {lay : List Nat} {g : List Row} (h : checkL lay g = 0) :
    g.length ≤ 4096 ∧ ∀ r ∈ g, r.length = lay.length ∧ (∀ s ∈ r, Lib.validD s = true ∧ s.length ≤ 1024) ∧ ∀ i, i < r.length → badX lay i (r.getD i []) = false := by
  unfold checkL at h
  split at h
  · cases h
  · rename_i h1
    split at h
    · cases h
    · rename_i h2
      split at h
      · cases h
      · rename_i h3
        simp only [Bool.or_eq_true, decide_eq_true_eq, not_or] at h2
        refine ⟨by omega, fun r hr => ?_⟩
        have e1 : oddRw lay r = false := by
          cases hx : oddRw lay r with
          | false => rfl
          | true => exact absurd (List.any_eq_true.2 ⟨r, hr, hx⟩) h1
        have e2 : r.any bigF = false := by
          cases hx : r.any bigF with
          | false => rfl
          | true => exact absurd (List.any_eq_true.2 ⟨r, hr, hx⟩) h2.2
        have e3 : badRow lay r = false := by
          cases hx : badRow lay r with
          | false => rfl
          | true => exact absurd (List.any_eq_true.2 ⟨r, hr, hx⟩) h3
        unfold oddRw at e1
        simp only [Bool.or_eq_false_iff, decide_eq_false_iff_not, Decidable.not_not] at e1
        refine ⟨e1.1, fun s hs => ⟨?_, ?_⟩, fun i hi => ?_⟩
        · have := List.any_eq_false.1 e1.2 s hs
          simpa using this
        · have := List.any_eq_false.1 e2 s hs
          simp [bigF] at this; omega
        · unfold badRow badTo at e3
          have := List.any_eq_false.1 e3 i (List.mem_range.2 hi)
          simpa using this
theorem wr_len (lay : List Nat) (h1 : ∀ i, lay.getD i 0 ≤ 1048576) : ∀ (r : Row) (i p : Nat), (∀ s ∈ r, s.length ≤ 1024) → (wrF lay i p r).length ≤ 1049600 * r.length
  | [], _, _, _ => by simp [wrF]
  | s :: r, i, p, h => by
    have h2 := h s (by simp)
    have h3 := h1 i
    have a := wr_len lay h1 r (i + 1) p fun x hx => h x (by simp [hx])
    have b := wr_len lay h1 r (i + 1) (lay.getD i 0 + rcL s) fun x hx => h x (by simp [hx])
    rw [wrF]
    split
    · simp only [List.length_cons]; omega
    · simp only [List.length_append, List.length_cons, List.length_replicate]; omega
theorem txt_len (lay : List Nat) (h1 : ∀ i, lay.getD i 0 ≤ 1048576) : ∀ (g : List Row), (∀ r ∈ g, r.length ≤ 64 ∧ ∀ s ∈ r, s.length ≤ 1024) → (txtF lay g).length ≤ 67174401 * g.length
  | [], _ => by simp [txtF]
  | r :: g, h => by
    obtain ⟨h2, h3⟩ := h r (by simp)
    have a := wr_len lay h1 r 0 0 h3
    have b := txt_len lay h1 g fun x hx => h x (by simp [hx])
    simp only [txtF, List.length_append, List.length_cons, List.length_nil]
    omega
theorem wr_step (lay : List Nat) {r : Row} {j p : Nat} (h : j < r.length) :
    wrF lay j p (r.drop j) = if r.getD j [] = [] then wrF lay (j + 1) p (r.drop (j + 1)) else List.replicate (lay.getD j 0 - p) 32 ++ r.getD j [] ++ wrF lay (j + 1) (lay.getD j 0 + rcL (r.getD j [])) (r.drop (j + 1)) := by
  rw [List.drop_eq_getElem_cons h, List.getD_eq_getElem?_getD, List.getElem?_eq_getElem h]; rfl
theorem txt_step (lay : List Nat) {g : List Row} {i : Nat} (h : i < g.length) : txtF lay (g.drop i) = wrF lay 0 0 (g.getD i []) ++ [10] ++ txtF lay (g.drop (i + 1)) := by
  rw [List.drop_eq_getElem_cons h, List.getD_eq_getElem?_getD, List.getElem?_eq_getElem h]; rfl
theorem getD_le {l : List Nat} {m : Nat} (h : ∀ i, i < l.length → l.getD i 0 ≤ m) (i : Nat) : l.getD i 0 ≤ m := by
  rcases Nat.lt_or_ge i l.length with h1 | h1
  · exact h i h1
  · rw [List.getD_eq_getElem?_getD, List.getElem?_eq_none h1]; exact Nat.zero_le _
theorem natsOf_le {l : List Int} (h : ∀ c ∈ l, 0 ≤ c ∧ c ≤ 1048576) (i : Nat) : (natsOf l).getD i 0 ≤ 1048576 :=
  getD_le (fun i hi => by
    have := List.mem_map.1 (memD (d := 0) hi)
    obtain ⟨c, hc, e⟩ := this
    have := h c hc
    show (List.map Int.toNat l).getD i 0 ≤ 1048576
    rw [← e]; omega) i
theorem bad_room {lay : List Nat} {i : Nat} {s : List UInt8} (h : badX lay i s = false) (hi : i + 1 < lay.length) : rcL s ≤ lay.getD (i + 1) 0 - lay.getD i 0 := by
  unfold badX at h
  simp only [Bool.or_eq_false_iff, decide_eq_false_iff_not] at h
  have := h.2
  rw [roomW, if_pos hi] at this
  omega
end Go.Proofs.YtacepalmphbnfaaGreatDoor

namespace Go.Proofs.YtacepalmphbnfaaGreatDoor
open Go Go.Proofs Go.Abs
variable {G : Globals}
/-! The reference: writing a file in a layout. -/
abbrev BtF (l : List UInt8) : List D := ints .u8 (nums l)
theorem BtF_length {l : List UInt8} : (BtF l).length = l.length := by rw [ints_length, nums_length]
theorem BtF_push {a : List UInt8} {c : UInt8} : BtF a ++ [.int .u8 c.toNat] = BtF (a ++ [c]) := by simp [BtF, ints, nums]
theorem BtF_app {a b : List UInt8} : BtF a ++ BtF b = BtF (a ++ b) := by simp [BtF, ints, nums]
/-- The width of a column, -1 for the last one. -/
def widW (lay : List Nat) (i : Nat) : Int := if i + 1 < lay.length then ((lay.getD (i + 1) 0 - lay.getD i 0 : Nat) : Int) else -1
def badY (lay : List Nat) (i : Nat) (s : List UInt8) : Bool := oddS s (widW lay i)
def badYTo (lay : List Nat) (r : Row) (n : Nat) : Bool := (List.range n).any fun i => badY lay i (r.getD i [])
def badYRow (lay : List Nat) (r : Row) : Bool := badYTo lay r r.length
theorem badY_eq {lay : List Nat} {i : Nat} {s : List UInt8} (h : s.length ≤ 1024) : badY lay i s = badX lay i s := by
  have rl := rcL_le s
  unfold badY oddS badX widW roomW
  generalize (!(Lib.trimB s 32 == s)) = a
  generalize hasNl s = b
  split
  · generalize lay.getD (i + 1) 0 - lay.getD i 0 = n
    rw [show decide (0 ≤ ((n : Nat) : Int) ∧ ((n : Nat) : Int) < (rcL s : Int)) = decide (n < rcL s) from by congr 1; apply propext; omega]
    cases a <;> cases b <;> simp
  · rw [show decide (0 ≤ (-1 : Int) ∧ (-1 : Int) < (rcL s : Int)) = false from by simp, show decide (1048576 < rcL s) = false from decide_eq_false (by omega)]
    cases a <;> cases b <;> rfl
theorem badYTo_step {lay : List Nat} {r : Row} {j : Nat} : badYTo lay r (j + 1) = (badYTo lay r j || badY lay j (r.getD j [])) := by
  rw [badYTo, badYTo, List.range_succ, List.any_append]; simp
theorem any_eq {α : Type} {p q : α → Bool} : ∀ {l : List α}, (∀ x ∈ l, p x = q x) → l.any p = l.any q
  | [], _ => rfl
  | x :: t, h => by rw [List.any_cons, List.any_cons, h x (by simp), any_eq fun y hy => h y (by simp [hy])]
theorem badYRow_eq {lay : List Nat} {r : Row} (h : r.any bigF = false) : badYRow lay r = badRow lay r := by
  refine any_eq fun i hi => badY_eq ?_
  have hi' := List.mem_range.1 hi
  have := List.any_eq_false.1 h _ (memD (d := []) hi')
  unfold bigF at this
  rw [decide_eq_true_eq] at this
  omega
theorem badYAll_eq {lay : List Nat} {g : List Row} (h : g.any (fun r => r.any bigF) = false) : g.any (badYRow lay) = g.any (badRow lay) :=
  any_eq fun r hr => badYRow_eq (by have := List.any_eq_false.1 h r hr; simpa using this)
set_option maxHeartbeats 16000000 in
set_option maxRecDepth 100000 in
theorem rfformat_spec (hT : HT G) (lay : List Int) (lf : Bool) (g : List Row) (full : Bool) (hlay : lay.length ≤ 1000000) (hg : okGrid g) :
    Ctr Tryz.prog G 14 [.d (IsF lay lf), .d (.agg [Gr g full])] [] (.d (fmtE (formF lay g))) [] := by
  refine Ctr.pure (M := M0) hmix Tryz.func14 rfl go14 ?_
  obtain ⟨r, hr⟩ : ∃ r, r = formF lay g := ⟨_, rfl⟩
  rw [← hr]
  unfold formF at hr
  have gl := @rowsD_length g
  obtain ⟨g1, g2⟩ := hg
  simp (config := { maxSteps := 1000000 }) (disch := ((try simp only [awL]); omega)) only [QR, QS, QT, QU, QV, QW, QX, QY, QZ, Q0, Q1, Q2, Tryz.f14, ↓awU, awV, awF, Qa, Qb, Qc, Qd, forall_const, ↓reduceIte, ↓reduceDIte, ↓Qe, Qf, Qg, Qh, Qi, Qj, Qk, Ql, Qm, Qn, Qo, Qp, Qq, Qr, Qs, implies_true, Qt, Qu, Qv, Qw, Qx, Qy, Qz, QA, QB, QC, QD, QE, QF, QG, QH, QI, QJ, QK, QL, QM, QN, QO, QP, QQ]
  refine CallC.of (rfvalid_spec lay false (by omega)) (by rfl) ?_
  cases hv : okLay lay
  · rw [if_pos hv] at hr
    simp (config := { maxSteps := 1000000 }) (disch := ((try simp only [awL]); omega)) only [QR, QS, QT, QU, QV, QW, QX, QY, QZ, Q0, Q1, Q2, ↓awU, awV, awF, Qa, Qb, Qc, Qd, forall_const, ↓reduceIte, ↓reduceDIte, ↓Qe, Qf, Qg, Qh, Qi, Qj, Qk, Ql, Qm, Qn, Qo, Qp, Qq, Qr, Qs, implies_true, Qt, Qu, Qv, Qw, Qx, Qy, Qz, QA, QB, QC, QD, QE, QF, QG, QH, QI, QJ, QK, QL, QM, QN, QO, QP, QQ]
    rw [hr]; rfl
  · rw [if_neg (by rw [hv]; decide)] at hr
    obtain ⟨k1, k2, k3, k4⟩ := okLay_ok hv
    have nl : (natsOf lay).length = lay.length := by simp [natsOf]
    have nle := natsOf_le k4
    rw [show IsF lay lf = Ns (natsOf lay) lf by unfold IsF Ns; rw [nats_of k4, nl]]
    generalize natsOf lay = ly at *
    have al := @nats_length .i64 ly
    obtain ⟨lim0, hlim⟩ : ∃ b, b = decide (4096 < g.length) := ⟨_, rfl⟩
    have hl0 : decide ((4096 : Int) < (g.length : Nat)) = lim0 := by rw [hlim]; simp; omega
    simp (config := { maxSteps := 1000000 }) (disch := ((try simp only [awL]); omega)) only [QR, QS, QT, QU, QV, QW, QX, QY, QZ, Q0, Q1, Q2, gl, hl0, ↓awU, awV, awF, Qa, Qb, Qc, Qd, forall_const, ↓reduceIte, ↓reduceDIte, ↓Qe, Qf, Qg, Qh, Qi, Qj, Qk, Ql, Qm, Qn, Qo, Qp, Qq, Qr, Qs, implies_true, Qt, Qu, Qv, Qw, Qx, Qy, Qz, QA, QB, QC, QD, QE, QF, QG, QH, QI, QJ, QK, QL, QM, QN, QO, QP, QQ]
    refine LoopC.fx 25769803785 (α := Nat) (β := Unit) (fun i => g.length - i) (fun i => [(6, .d (.bool (lim0 || (g.take i).any (fun r => r.any bigF)))), (7, .d (.bool ((g.take i).any (badYRow ly)))), (35, .d (.int .i64 i))]) (fun _ => [.box [.d (Gr g full)]])
      (fun i => i ≤ g.length ∧ (g.take i).any (oddRw ly) = false) 9 (fun _ => [(6, .d (.bool (lim0 || g.any (fun r => r.any bigF)))), (7, .d (.bool (g.any (badYRow ly))))]) (fun _ => [.box [.d (Gr g full)]]) (fun _ => g.any (oddRw ly) = false) 0 ⟨Nat.zero_le _, rfl⟩ ?_ ?_ ?_
    · simp only [List.take_zero, List.any_nil, Bool.or_false]
      exact ⟨[some 0], rfl, by simp, by simp [setsA, keepA, SWeak, AWeak], by simp [HWeak, BWeak, SWeak, AWeak]⟩
    · rintro i ⟨h1, h2⟩
      simp only [awK, Nat.reduceMod, Nat.reduceDiv, reduceIte]
      rcases Nat.lt_or_ge i g.length with h | h
      · have gg := rowsD_getD (g := g) (i := i) h
        have ge := getD_some (d := ([] : Row)) h
        have hm := memD (d := ([] : Row)) h
        have sLim := any_snoc (p := fun r : Row => r.any bigF) h ge
        have sBad := any_snoc (p := badYRow ly) h ge
        have sOdd := any_snoc (p := oddRw ly) h ge
        obtain ⟨r1, r2⟩ := g2 _ hm
        have hodd : oddRw ly (g.getD i []) = true → checkL ly g = 1 := fun e => by
          unfold checkL; rw [if_pos (List.any_eq_true.2 ⟨_, hm, e⟩)]
        generalize g.getD i [] = row at *
        have rn := @strs_length row
        by_cases hlen : row.length = ly.length
        · simp (config := { maxSteps := 1000000 }) (disch := ((try simp only [awL]); omega)) only [QR, QS, QT, QU, QV, QW, QX, QY, QZ, Q0, Q1, Q2, Ns, gl, al, gg, rn, hlen, ↓awU, awV, awF, Qa, Qb, Qc, Qd, forall_const, ↓reduceIte, ↓reduceDIte, ↓Qe, Qf, Qg, Qh, Qi, Qj, Qk, Ql, Qm, Qn, Qo, Qp, Qq, Qr, Qs, implies_true, Qt, Qu, Qv, Qw, Qx, Qy, Qz, QA, QB, QC, QD, QE, QF, QG, QH, QI, QJ, QK, QL, QM, QN, QO, QP, QQ]
          obtain ⟨L0, hL0⟩ : ∃ b, b = (lim0 || (g.take i).any (fun r => r.any bigF)) := ⟨_, rfl⟩
          obtain ⟨F0, hF0⟩ : ∃ b, b = (g.take i).any (badYRow ly) := ⟨_, rfl⟩
          rw [← hL0, ← hF0]
          have w1 : (lim0 || (g.take (i + 1)).any (fun r => r.any bigF)) = (L0 || row.any bigF) := by rw [sLim, ← Bool.or_assoc, ← hL0]
          have w2 : (g.take (i + 1)).any (badYRow ly) = (F0 || badYRow ly row) := by rw [sBad, ← hF0]
          refine LoopC.fx 52836687675401 (α := Nat) (β := Unit) (fun j => row.length - j) (fun j => [(6, .d (.bool (L0 || (row.take j).any bigF))), (7, .d (.bool (F0 || badYTo ly row j))), (46, .d (.int .i64 j))]) (fun _ => [.box [.d (Gr g full)]])
            (fun j => j ≤ row.length ∧ (row.take j).any (fun s => !Lib.validD s) = false) 60129542153 (fun _ => [(6, .d (.bool (L0 || row.any bigF))), (7, .d (.bool (F0 || badYRow ly row)))]) (fun _ => [.box [.d (Gr g full)]]) (fun _ => row.any (fun s => !Lib.validD s) = false) 0 ⟨Nat.zero_le _, rfl⟩ ?_ ?_ ?_
          · have e0 : badYTo ly row 0 = false := rfl
            simp only [List.take_zero, List.any_nil, Bool.or_false, e0]
            exact ⟨[some 0], rfl, by simp, by simp [setsA, keepA, SWeak, AWeak], by simp [HWeak, BWeak, SWeak, AWeak]⟩
          · rintro j ⟨h5, h6⟩
            simp only [awK, Nat.reduceMod, Nat.reduceDiv, reduceIte]
            rcases Nat.lt_or_ge j row.length with h7 | h7
            · have gs := strs_getD h7
              have hs := r2 _ (memD (d := []) h7)
              have hmv := memD (d := ([] : List UInt8)) h7
              have tL := any_snoc (p := bigF) h7 (getD_some (d := []) h7)
              have tV := any_snoc (p := fun s => !Lib.validD s) h7 (getD_some (d := []) h7)
              have tB := badYTo_step (lay := ly) (r := row) (j := j)
              generalize row.getD j [] = x at *
              simp (config := { maxSteps := 1000000 }) (disch := ((try simp only [awL]); omega)) only [QR, QS, QT, QU, QV, QW, QX, QY, QZ, Q0, Q1, Q2, rn, hlen, gs, ↓awU, awV, awF, Qa, Qb, Qc, Qd, forall_const, ↓reduceIte, ↓reduceDIte, ↓Qe, Qf, Qg, Qh, Qi, Qj, Qk, Ql, Qm, Qn, Qo, Qp, Qq, Qr, Qs, implies_true, Qt, Qu, Qv, Qw, Qx, Qy, Qz, QA, QB, QC, QD, QE, QF, QG, QH, QI, QJ, QK, QL, QM, QN, QO, QP, QQ]
              refine CallC.pure (rvalidS_spec hT x (by omega)) ?_
              cases hv : Lib.validD x
              · have e1 := hodd (by rw [oddRw, Bool.or_eq_true]; exact .inr (List.any_eq_true.2 ⟨x, hmv, by rw [hv]; rfl⟩))
                rw [e1, if_pos (by decide)] at hr
                simp (config := { maxSteps := 1000000 }) (disch := ((try simp only [awL]); omega)) only [QR, QS, QT, QU, QV, QW, QX, QY, QZ, Q0, Q1, Q2, ↓awU, awV, awF, Qa, Qb, Qc, Qd, forall_const, ↓reduceIte, ↓reduceDIte, ↓Qe, Qf, Qg, Qh, Qi, Qj, Qk, Ql, Qm, Qn, Qo, Qp, Qq, Qr, Qs, implies_true, Qt, Qu, Qv, Qw, Qx, Qy, Qz, QA, QB, QC, QD, QE, QF, QG, QH, QI, QJ, QK, QL, QM, QN, QO, QP, QQ]
                rw [hr]; rfl
              · obtain ⟨L, hL⟩ : ∃ b, b = (L0 || (row.take j).any bigF) := ⟨_, rfl⟩
                obtain ⟨F, hF⟩ : ∃ b, b = (F0 || badYTo ly row j) := ⟨_, rfl⟩
                rw [← hL, ← hF]
                have v1 : (L0 || (row.take (j + 1)).any bigF) = (L || bigF x) := by rw [tL, ← Bool.or_assoc, ← hL]
                have v2 : (F0 || badYTo ly row (j + 1)) = (F || badY ly j x) := by rw [tB, ← Bool.or_assoc, ← hF]
                have v3 : (row.take (j + 1)).any (fun s => !Lib.validD s) = false := by rw [tV, h6, hv]; rfl
                have v5 : decide ((1024 : Int) < (x.length : Nat)) = bigF x := by simp only [bigF]; congr 1; apply propext; omega
                have lj := nle j
                have lj1 := nle (j + 1)
                have mono := k3.2.2 j
                have gj := nats_getD (k := .i64) (d := .nilp) (l := ly) (i := j) (by omega)
                unfold badY at v2
                rcases Nat.lt_or_ge (j + 1) ly.length with h8 | h8
                · have gj1 := nats_getD (k := .i64) (d := .nilp) (l := ly) (i := j + 1) h8
                  have m1 := mono h8
                  have ew : ((ly.getD (j + 1) 0 : Nat) : Int) - (ly.getD j 0 : Nat) = ((ly.getD (j + 1) 0 - ly.getD j 0 : Nat) : Int) := by omega
                  have ww : widW ly j = ((ly.getD (j + 1) 0 - ly.getD j 0 : Nat) : Int) := by rw [widW, if_pos h8]
                  rw [ww] at v2
                  cases L
                  · cases F
                    · simp (config := { maxSteps := 1000000 }) (disch := ((try simp only [awL]); omega)) only [QR, QS, QT, QU, QV, QW, QX, QY, QZ, Q0, Q1, Q2, Ns, rn, al, gj, gj1, ew, v5, hlen, ↓awU, awV, awF, Qa, Qb, Qc, Qd, forall_const, ↓reduceIte, ↓reduceDIte, ↓Qe, Qf, Qg, Qh, Qi, Qj, Qk, Ql, Qm, Qn, Qo, Qp, Qq, Qr, Qs, implies_true, Qt, Qu, Qv, Qw, Qx, Qy, Qz, QA, QB, QC, QD, QE, QF, QG, QH, QI, QJ, QK, QL, QM, QN, QO, QP, QQ]
                      refine ⟨by rfl, ?_⟩
                      refine CallC.pure (oddS_spec x _ (by omega)) ?_
                      simp (config := { maxSteps := 1000000 }) (disch := ((try simp only [awL]); omega)) only [QR, QS, QT, QU, QV, QW, QX, QY, QZ, Q0, Q1, Q2, ↓awU, awV, awF, Qa, Qb, Qc, Qd, forall_const, ↓reduceIte, ↓reduceDIte, ↓Qe, Qf, Qg, Qh, Qi, Qj, Qk, Ql, Qm, Qn, Qo, Qp, Qq, Qr, Qs, implies_true, Qt, Qu, Qv, Qw, Qx, Qy, Qz, QA, QB, QC, QD, QE, QF, QG, QH, QI, QJ, QK, QL, QM, QN, QO, QP, QQ]
                      refine ⟨j + 1, ⟨(by omega), v3⟩, by simp only; omega, ?_⟩
                      simp only [v1, v2, Bool.false_or, Bool.true_or, Bool.or_false, Bool.or_true]
                      exact ⟨[some 0], rfl, by simp, by simp [setsA, keepA, SWeak, AWeak], by simp [HWeak, BWeak, SWeak, AWeak]⟩
                    · simp (config := { maxSteps := 1000000 }) (disch := ((try simp only [awL]); omega)) only [QR, QS, QT, QU, QV, QW, QX, QY, QZ, Q0, Q1, Q2, Ns, rn, al, gj, gj1, ew, v5, hlen, ↓awU, awV, awF, Qa, Qb, Qc, Qd, forall_const, ↓reduceIte, ↓reduceDIte, ↓Qe, Qf, Qg, Qh, Qi, Qj, Qk, Ql, Qm, Qn, Qo, Qp, Qq, Qr, Qs, implies_true, Qt, Qu, Qv, Qw, Qx, Qy, Qz, QA, QB, QC, QD, QE, QF, QG, QH, QI, QJ, QK, QL, QM, QN, QO, QP, QQ]
                      refine ⟨by rfl, ?_⟩
                      refine ⟨j + 1, ⟨(by omega), v3⟩, by simp only; omega, ?_⟩
                      simp only [v1, v2, Bool.false_or, Bool.true_or, Bool.or_false, Bool.or_true]
                      exact ⟨[some 0], rfl, by simp, by simp [setsA, keepA, SWeak, AWeak], by simp [HWeak, BWeak, SWeak, AWeak]⟩
                  · cases F
                    · simp (config := { maxSteps := 1000000 }) (disch := ((try simp only [awL]); omega)) only [QR, QS, QT, QU, QV, QW, QX, QY, QZ, Q0, Q1, Q2, Ns, rn, al, gj, gj1, ew, v5, hlen, ↓awU, awV, awF, Qa, Qb, Qc, Qd, forall_const, ↓reduceIte, ↓reduceDIte, ↓Qe, Qf, Qg, Qh, Qi, Qj, Qk, Ql, Qm, Qn, Qo, Qp, Qq, Qr, Qs, implies_true, Qt, Qu, Qv, Qw, Qx, Qy, Qz, QA, QB, QC, QD, QE, QF, QG, QH, QI, QJ, QK, QL, QM, QN, QO, QP, QQ]
                      refine ⟨by rfl, ?_⟩
                      refine CallC.pure (oddS_spec x _ (by omega)) ?_
                      simp (config := { maxSteps := 1000000 }) (disch := ((try simp only [awL]); omega)) only [QR, QS, QT, QU, QV, QW, QX, QY, QZ, Q0, Q1, Q2, ↓awU, awV, awF, Qa, Qb, Qc, Qd, forall_const, ↓reduceIte, ↓reduceDIte, ↓Qe, Qf, Qg, Qh, Qi, Qj, Qk, Ql, Qm, Qn, Qo, Qp, Qq, Qr, Qs, implies_true, Qt, Qu, Qv, Qw, Qx, Qy, Qz, QA, QB, QC, QD, QE, QF, QG, QH, QI, QJ, QK, QL, QM, QN, QO, QP, QQ]
                      refine ⟨j + 1, ⟨(by omega), v3⟩, by simp only; omega, ?_⟩
                      simp only [v1, v2, Bool.false_or, Bool.true_or, Bool.or_false, Bool.or_true]
                      exact ⟨[some 0], rfl, by simp, by simp [setsA, keepA, SWeak, AWeak], by simp [HWeak, BWeak, SWeak, AWeak]⟩
                    · simp (config := { maxSteps := 1000000 }) (disch := ((try simp only [awL]); omega)) only [QR, QS, QT, QU, QV, QW, QX, QY, QZ, Q0, Q1, Q2, Ns, rn, al, gj, gj1, ew, v5, hlen, ↓awU, awV, awF, Qa, Qb, Qc, Qd, forall_const, ↓reduceIte, ↓reduceDIte, ↓Qe, Qf, Qg, Qh, Qi, Qj, Qk, Ql, Qm, Qn, Qo, Qp, Qq, Qr, Qs, implies_true, Qt, Qu, Qv, Qw, Qx, Qy, Qz, QA, QB, QC, QD, QE, QF, QG, QH, QI, QJ, QK, QL, QM, QN, QO, QP, QQ]
                      refine ⟨by rfl, ?_⟩
                      refine ⟨j + 1, ⟨(by omega), v3⟩, by simp only; omega, ?_⟩
                      simp only [v1, v2, Bool.false_or, Bool.true_or, Bool.or_false, Bool.or_true]
                      exact ⟨[some 0], rfl, by simp, by simp [setsA, keepA, SWeak, AWeak], by simp [HWeak, BWeak, SWeak, AWeak]⟩
                · have ww : widW ly j = -1 := by rw [widW, if_neg (by omega)]
                  rw [ww] at v2
                  cases L
                  · cases F
                    · simp (config := { maxSteps := 1000000 }) (disch := ((try simp only [awL]); omega)) only [QR, QS, QT, QU, QV, QW, QX, QY, QZ, Q0, Q1, Q2, Ns, rn, al, v5, hlen, ↓awU, awV, awF, Qa, Qb, Qc, Qd, forall_const, ↓reduceIte, ↓reduceDIte, ↓Qe, Qf, Qg, Qh, Qi, Qj, Qk, Ql, Qm, Qn, Qo, Qp, Qq, Qr, Qs, implies_true, Qt, Qu, Qv, Qw, Qx, Qy, Qz, QA, QB, QC, QD, QE, QF, QG, QH, QI, QJ, QK, QL, QM, QN, QO, QP, QQ]
                      refine CallC.pure (oddS_spec x _ (by omega)) ?_
                      simp (config := { maxSteps := 1000000 }) (disch := ((try simp only [awL]); omega)) only [QR, QS, QT, QU, QV, QW, QX, QY, QZ, Q0, Q1, Q2, ↓awU, awV, awF, Qa, Qb, Qc, Qd, forall_const, ↓reduceIte, ↓reduceDIte, ↓Qe, Qf, Qg, Qh, Qi, Qj, Qk, Ql, Qm, Qn, Qo, Qp, Qq, Qr, Qs, implies_true, Qt, Qu, Qv, Qw, Qx, Qy, Qz, QA, QB, QC, QD, QE, QF, QG, QH, QI, QJ, QK, QL, QM, QN, QO, QP, QQ]
                      refine ⟨j + 1, ⟨(by omega), v3⟩, by simp only; omega, ?_⟩
                      simp only [v1, v2, Bool.false_or, Bool.true_or, Bool.or_false, Bool.or_true]
                      exact ⟨[some 0], rfl, by simp, by simp [setsA, keepA, SWeak, AWeak], by simp [HWeak, BWeak, SWeak, AWeak]⟩
                    · simp (config := { maxSteps := 1000000 }) (disch := ((try simp only [awL]); omega)) only [QR, QS, QT, QU, QV, QW, QX, QY, QZ, Q0, Q1, Q2, Ns, rn, al, v5, hlen, ↓awU, awV, awF, Qa, Qb, Qc, Qd, forall_const, ↓reduceIte, ↓reduceDIte, ↓Qe, Qf, Qg, Qh, Qi, Qj, Qk, Ql, Qm, Qn, Qo, Qp, Qq, Qr, Qs, implies_true, Qt, Qu, Qv, Qw, Qx, Qy, Qz, QA, QB, QC, QD, QE, QF, QG, QH, QI, QJ, QK, QL, QM, QN, QO, QP, QQ]
                      refine ⟨j + 1, ⟨(by omega), v3⟩, by simp only; omega, ?_⟩
                      simp only [v1, v2, Bool.false_or, Bool.true_or, Bool.or_false, Bool.or_true]
                      exact ⟨[some 0], rfl, by simp, by simp [setsA, keepA, SWeak, AWeak], by simp [HWeak, BWeak, SWeak, AWeak]⟩
                  · cases F
                    · simp (config := { maxSteps := 1000000 }) (disch := ((try simp only [awL]); omega)) only [QR, QS, QT, QU, QV, QW, QX, QY, QZ, Q0, Q1, Q2, Ns, rn, al, v5, hlen, ↓awU, awV, awF, Qa, Qb, Qc, Qd, forall_const, ↓reduceIte, ↓reduceDIte, ↓Qe, Qf, Qg, Qh, Qi, Qj, Qk, Ql, Qm, Qn, Qo, Qp, Qq, Qr, Qs, implies_true, Qt, Qu, Qv, Qw, Qx, Qy, Qz, QA, QB, QC, QD, QE, QF, QG, QH, QI, QJ, QK, QL, QM, QN, QO, QP, QQ]
                      refine CallC.pure (oddS_spec x _ (by omega)) ?_
                      simp (config := { maxSteps := 1000000 }) (disch := ((try simp only [awL]); omega)) only [QR, QS, QT, QU, QV, QW, QX, QY, QZ, Q0, Q1, Q2, ↓awU, awV, awF, Qa, Qb, Qc, Qd, forall_const, ↓reduceIte, ↓reduceDIte, ↓Qe, Qf, Qg, Qh, Qi, Qj, Qk, Ql, Qm, Qn, Qo, Qp, Qq, Qr, Qs, implies_true, Qt, Qu, Qv, Qw, Qx, Qy, Qz, QA, QB, QC, QD, QE, QF, QG, QH, QI, QJ, QK, QL, QM, QN, QO, QP, QQ]
                      refine ⟨j + 1, ⟨(by omega), v3⟩, by simp only; omega, ?_⟩
                      simp only [v1, v2, Bool.false_or, Bool.true_or, Bool.or_false, Bool.or_true]
                      exact ⟨[some 0], rfl, by simp, by simp [setsA, keepA, SWeak, AWeak], by simp [HWeak, BWeak, SWeak, AWeak]⟩
                    · simp (config := { maxSteps := 1000000 }) (disch := ((try simp only [awL]); omega)) only [QR, QS, QT, QU, QV, QW, QX, QY, QZ, Q0, Q1, Q2, Ns, rn, al, v5, hlen, ↓awU, awV, awF, Qa, Qb, Qc, Qd, forall_const, ↓reduceIte, ↓reduceDIte, ↓Qe, Qf, Qg, Qh, Qi, Qj, Qk, Ql, Qm, Qn, Qo, Qp, Qq, Qr, Qs, implies_true, Qt, Qu, Qv, Qw, Qx, Qy, Qz, QA, QB, QC, QD, QE, QF, QG, QH, QI, QJ, QK, QL, QM, QN, QO, QP, QQ]
                      refine ⟨j + 1, ⟨(by omega), v3⟩, by simp only; omega, ?_⟩
                      simp only [v1, v2, Bool.false_or, Bool.true_or, Bool.or_false, Bool.or_true]
                      exact ⟨[some 0], rfl, by simp, by simp [setsA, keepA, SWeak, AWeak], by simp [HWeak, BWeak, SWeak, AWeak]⟩
            · rw [List.take_of_length_le h7] at h6 ⊢
              have e0 : badYTo ly row j = badYRow ly row := by rw [badYRow, show row.length = j by omega]
              rw [e0]
              simp (config := { maxSteps := 1000000 }) (disch := ((try simp only [awL]); omega)) only [QR, QS, QT, QU, QV, QW, QX, QY, QZ, Q0, Q1, Q2, rn, hlen, ↓awU, awV, awF, Qa, Qb, Qc, Qd, forall_const, ↓reduceIte, ↓reduceDIte, ↓Qe, Qf, Qg, Qh, Qi, Qj, Qk, Ql, Qm, Qn, Qo, Qp, Qq, Qr, Qs, implies_true, Qt, Qu, Qv, Qw, Qx, Qy, Qz, QA, QB, QC, QD, QE, QF, QG, QH, QI, QJ, QK, QL, QM, QN, QO, QP, QQ]
              exact ⟨(), h6, ⟨[some 0], rfl, by simp, by simp [setsA, keepA, SWeak, AWeak], by simp [HWeak, BWeak, SWeak, AWeak]⟩⟩
          · rintro ⟨⟩ h5
            simp only [awK, Nat.reduceMod, Nat.reduceDiv, reduceIte]
            simp (config := { maxSteps := 1000000 }) (disch := ((try simp only [awL]); omega)) only [QR, QS, QT, QU, QV, QW, QX, QY, QZ, Q0, Q1, Q2, ↓awU, awV, awF, Qa, Qb, Qc, Qd, forall_const, ↓reduceIte, ↓reduceDIte, ↓Qe, Qf, Qg, Qh, Qi, Qj, Qk, Ql, Qm, Qn, Qo, Qp, Qq, Qr, Qs, implies_true, Qt, Qu, Qv, Qw, Qx, Qy, Qz, QA, QB, QC, QD, QE, QF, QG, QH, QI, QJ, QK, QL, QM, QN, QO, QP, QQ]
            rw [← w1, ← w2]
            exact ⟨i + 1, ⟨h, by rw [sOdd, h2]; simp [oddRw, hlen, h5]⟩, by simp only; omega, ⟨[some 0], rfl, by simp, by simp [setsA, keepA, SWeak, AWeak], by simp [HWeak, BWeak, SWeak, AWeak]⟩⟩
        · have e1 := hodd (by simp [oddRw, hlen])
          rw [e1, if_pos (by decide)] at hr
          simp (config := { maxSteps := 1000000 }) (disch := ((try simp only [awL]); omega)) only [QR, QS, QT, QU, QV, QW, QX, QY, QZ, Q0, Q1, Q2, Ns, gl, al, gg, rn, hlen, ↓awU, awV, awF, Qa, Qb, Qc, Qd, forall_const, ↓reduceIte, ↓reduceDIte, ↓Qe, Qf, Qg, Qh, Qi, Qj, Qk, Ql, Qm, Qn, Qo, Qp, Qq, Qr, Qs, implies_true, Qt, Qu, Qv, Qw, Qx, Qy, Qz, QA, QB, QC, QD, QE, QF, QG, QH, QI, QJ, QK, QL, QM, QN, QO, QP, QQ]
          rw [hr]; rfl
      · rw [List.take_of_length_le h] at h2 ⊢
        simp (config := { maxSteps := 1000000 }) (disch := ((try simp only [awL]); omega)) only [QR, QS, QT, QU, QV, QW, QX, QY, QZ, Q0, Q1, Q2, gl, ↓awU, awV, awF, Qa, Qb, Qc, Qd, forall_const, ↓reduceIte, ↓reduceDIte, ↓Qe, Qf, Qg, Qh, Qi, Qj, Qk, Ql, Qm, Qn, Qo, Qp, Qq, Qr, Qs, implies_true, Qt, Qu, Qv, Qw, Qx, Qy, Qz, QA, QB, QC, QD, QE, QF, QG, QH, QI, QJ, QK, QL, QM, QN, QO, QP, QQ]
        exact ⟨(), h2, ⟨[some 0], rfl, by simp, by simp [setsA, keepA, SWeak, AWeak], by simp [HWeak, BWeak, SWeak, AWeak]⟩⟩
    · rintro ⟨⟩ h2
      simp only [awK, Nat.reduceMod, Nat.reduceDiv, reduceIte]
      have ck : checkL ly g = if lim0 || g.any (fun r => r.any bigF) then 3 else if g.any (badRow ly) then 4 else 0 := by
        unfold checkL; rw [if_neg (by rw [h2]; decide), ← hlim]
      cases hL : (lim0 || g.any (fun r => r.any bigF))
      · rw [hL, if_neg (by decide)] at ck
        rw [badYAll_eq (Bool.or_eq_false_iff.1 hL).2]
        cases hF : g.any (badRow ly)
        · rw [hF, if_neg (by decide)] at ck
          rw [if_neg (by rw [ck]; decide)] at hr
          obtain ⟨c1, c2⟩ := check_ok ck
          have tl := txt_len ly nle g fun r hr => ⟨by rw [(c2 r hr).1, nl]; exact k2, fun s hs => ((c2 r hr).2.1 s hs).2⟩
          simp (config := { maxSteps := 1000000 }) (disch := ((try simp only [awL]); omega)) only [QR, QS, QT, QU, QV, QW, QX, QY, QZ, Q0, Q1, Q2, gl, ↓awU, awV, awF, Qa, Qb, Qc, Qd, forall_const, ↓reduceIte, ↓reduceDIte, ↓Qe, Qf, Qg, Qh, Qi, Qj, Qk, Ql, Qm, Qn, Qo, Qp, Qq, Qr, Qs, implies_true, Qt, Qu, Qv, Qw, Qx, Qy, Qz, QA, QB, QC, QD, QE, QF, QG, QH, QI, QJ, QK, QL, QM, QN, QO, QP, QQ]
          refine LoopC.fx 232113757366008801543585801 (α := Nat × Nat) (β := Unit) (fun x => g.length - x.1) (fun x => [(13, .d (.int .i64 x.2)), (88, .d (.int .i64 x.1))]) (fun _ => [.box [.d (Gr g full)]])
            (fun x => x.1 ≤ g.length ∧ x.2 + (txtF ly (g.drop x.1)).length = (txtF ly g).length ∧ x.2 ≤ 1048576) 9 (fun _ => []) (fun _ => [.box [.d (Gr g full)]]) (fun _ => (txtF ly g).length ≤ 1048576) (0, 0) ⟨Nat.zero_le _, by simp, Nat.zero_le _⟩ ?_ ?_ ?_
          · exact ⟨[some 0], rfl, by simp, by simp [setsA, keepA, SWeak, AWeak], by simp [HWeak, BWeak, SWeak, AWeak]⟩
          · rintro ⟨i, sz⟩ ⟨b1, b2, b3⟩
            simp only at b1 b2 b3
            simp only [awK, Nat.reduceMod, Nat.reduceDiv, reduceIte]
            rcases Nat.lt_or_ge i g.length with h | h
            · have gg := rowsD_getD h
              rw [txt_step ly h] at b2
              have mem := c2 _ (memD (d := []) h)
              generalize g.getD i [] = row at *
              obtain ⟨r1, r2, r3⟩ := mem
              have sl := @strs_length row
              simp only [List.length_append, List.length_cons, List.length_nil] at b2
              simp (config := { maxSteps := 1000000 }) (disch := ((try simp only [awL]); omega)) only [QR, QS, QT, QU, QV, QW, QX, QY, QZ, Q0, Q1, Q2, gl, gg, ↓awU, awV, awF, Qa, Qb, Qc, Qd, forall_const, ↓reduceIte, ↓reduceDIte, ↓Qe, Qf, Qg, Qh, Qi, Qj, Qk, Ql, Qm, Qn, Qo, Qp, Qq, Qr, Qs, implies_true, Qt, Qu, Qv, Qw, Qx, Qy, Qz, QA, QB, QC, QD, QE, QF, QG, QH, QI, QJ, QK, QL, QM, QN, QO, QP, QQ]
              refine LoopC.fx 15396879238611917169057857545 (α := Nat × Nat × Nat) (β := Nat × Nat) (fun x => row.length - x.1) (fun x => [(13, .d (.int .i64 x.2.2)), (16, .d (.int .i64 x.2.1)), (94, .d (.int .i64 x.1))]) (fun _ => [.box [.d (Gr g full)]])
                (fun x => x.1 ≤ row.length ∧ (x.1 < row.length → x.2.1 ≤ ly.getD x.1 0) ∧ x.2.2 + x.2.1 + (wrF ly x.1 x.2.1 (row.drop x.1)).length + 1 + (txtF ly (g.drop (i + 1))).length = (txtF ly g).length) 541598767187353870268366857 (fun y => [(13, .d (.int .i64 y.2)), (16, .d (.int .i64 y.1))]) (fun _ => [.box [.d (Gr g full)]])
                (fun y => y.2 + y.1 + 1 + (txtF ly (g.drop (i + 1))).length = (txtF ly g).length) (0, 0, sz) ⟨Nat.zero_le _, fun _ => Nat.zero_le _, by simp only [List.drop_zero]; omega⟩ ?_ ?_ ?_
              · exact ⟨[some 0], rfl, by simp, by simp [setsA, keepA, SWeak, AWeak], by simp [HWeak, BWeak, SWeak, AWeak]⟩
              · rintro ⟨j, p, z⟩ ⟨d1, d2, d3⟩
                simp only at d1 d2 d3
                simp only [awK, Nat.reduceMod, Nat.reduceDiv, reduceIte]
                rcases Nat.lt_or_ge j row.length with hj | hj
                · have sg2 := strs_getD hj
                  have mem2 := r2 _ (memD (d := []) hj)
                  have bad := r3 j hj
                  have hp := d2 hj
                  have lj := nle j
                  have gj := nats_getD (k := .i64) (d := .nilp) (l := ly) (i := j) (by omega)
                  have mono := k3.2.2 j
                  have room := @bad_room ly j _ bad
                  rw [wr_step ly hj] at d3
                  generalize row.getD j [] = fld at *
                  by_cases he : fld = []
                  · subst he
                    rw [if_pos rfl] at d3
                    simp (config := { maxSteps := 1000000 }) (disch := ((try simp only [awL]); omega)) only [QR, QS, QT, QU, QV, QW, QX, QY, QZ, Q0, Q1, Q2, sl, sg2, ↓awU, awV, awF, Qa, Qb, Qc, Qd, forall_const, ↓reduceIte, ↓reduceDIte, ↓Qe, Qf, Qg, Qh, Qi, Qj, Qk, Ql, Qm, Qn, Qo, Qp, Qq, Qr, Qs, implies_true, Qt, Qu, Qv, Qw, Qx, Qy, Qz, QA, QB, QC, QD, QE, QF, QG, QH, QI, QJ, QK, QL, QM, QN, QO, QP, QQ]
                    exact ⟨(j + 1, p, z), ⟨hj, fun hj2 => Nat.le_trans hp (mono (by simp only at hj2; omega)), d3⟩, by simp only; omega, ⟨[some 0], rfl, by simp, by simp [setsA, keepA, SWeak, AWeak], by simp [HWeak, BWeak, SWeak, AWeak]⟩⟩
                  · rw [if_neg he] at d3
                    have hne : (fld == []) = false := by simpa using he
                    have rd := runesD_bs fld
                    have rs := runesS_bs fld
                    have nlr := @nats_length .i32 (rnF fld 0)
                    have rc := rcL_eq fld
                    have rl := rcL_le fld
                    have e1 : (p : Int) + (((ly.getD j 0 : Nat) : Int) - (p : Nat)) = ((ly.getD j 0 : Nat) : Int) := by omega
                    have e2 : ((fld.length : Nat) : Int) - ((rcL fld : Nat) : Int) = ((fld.length - rcL fld : Nat) : Int) := by omega
                    simp only [List.length_append, List.length_replicate] at d3
                    rw [← rc] at nlr
                    simp (config := { maxSteps := 1000000 }) (disch := ((try simp only [awL]); omega)) only [QR, QS, QT, QU, QV, QW, QX, QY, QZ, Q0, Q1, Q2, Ns, al, gj, hne, e1, e2, rd, rs, nlr, rc.symm, sl, sg2, ↓awU, awV, awF, Qa, Qb, Qc, Qd, forall_const, ↓reduceIte, ↓reduceDIte, ↓Qe, Qf, Qg, Qh, Qi, Qj, Qk, Ql, Qm, Qn, Qo, Qp, Qq, Qr, Qs, implies_true, Qt, Qu, Qv, Qw, Qx, Qy, Qz, QA, QB, QC, QD, QE, QF, QG, QH, QI, QJ, QK, QL, QM, QN, QO, QP, QQ]
                    exact ⟨(j + 1, ly.getD j 0 + rcL fld, z + (fld.length - rcL fld)), ⟨hj, fun hj2 => by have := room (by simp only at hj2; omega); have := mono (by simp only at hj2; omega); simp only; omega, by simp only; omega⟩, by simp only; omega, ⟨[some 0], rfl, by simp, by simp [setsA, keepA, SWeak, AWeak], by simp [HWeak, BWeak, SWeak, AWeak]⟩⟩
                · obtain rfl : j = row.length := by omega
                  rw [List.drop_length] at d3
                  simp only [wrF, List.length_nil] at d3
                  simp (config := { maxSteps := 1000000 }) (disch := ((try simp only [awL]); omega)) only [QR, QS, QT, QU, QV, QW, QX, QY, QZ, Q0, Q1, Q2, sl, ↓awU, awV, awF, Qa, Qb, Qc, Qd, forall_const, ↓reduceIte, ↓reduceDIte, ↓Qe, Qf, Qg, Qh, Qi, Qj, Qk, Ql, Qm, Qn, Qo, Qp, Qq, Qr, Qs, implies_true, Qt, Qu, Qv, Qw, Qx, Qy, Qz, QA, QB, QC, QD, QE, QF, QG, QH, QI, QJ, QK, QL, QM, QN, QO, QP, QQ]
                  exact ⟨(p, z), by simp only; omega, ⟨[some 0], rfl, by simp, by simp [setsA, keepA, SWeak, AWeak], by simp [HWeak, BWeak, SWeak, AWeak]⟩⟩
              · rintro ⟨p, z⟩ d3
                simp only at d3
                simp only [awK, Nat.reduceMod, Nat.reduceDiv, reduceIte]
                rcases Nat.lt_or_ge 1048576 (z + (p + 1)) with h4 | h4
                · rw [if_pos (by omega)] at hr
                  simp (config := { maxSteps := 1000000 }) (disch := ((try simp only [awL]); omega)) only [QR, QS, QT, QU, QV, QW, QX, QY, QZ, Q0, Q1, Q2, ↓awU, awV, awF, Qa, Qb, Qc, Qd, forall_const, ↓reduceIte, ↓reduceDIte, ↓Qe, Qf, Qg, Qh, Qi, Qj, Qk, Ql, Qm, Qn, Qo, Qp, Qq, Qr, Qs, implies_true, Qt, Qu, Qv, Qw, Qx, Qy, Qz, QA, QB, QC, QD, QE, QF, QG, QH, QI, QJ, QK, QL, QM, QN, QO, QP, QQ]
                  rw [hr]; rfl
                · simp (config := { maxSteps := 1000000 }) (disch := ((try simp only [awL]); omega)) only [QR, QS, QT, QU, QV, QW, QX, QY, QZ, Q0, Q1, Q2, ↓awU, awV, awF, Qa, Qb, Qc, Qd, forall_const, ↓reduceIte, ↓reduceDIte, ↓Qe, Qf, Qg, Qh, Qi, Qj, Qk, Ql, Qm, Qn, Qo, Qp, Qq, Qr, Qs, implies_true, Qt, Qu, Qv, Qw, Qx, Qy, Qz, QA, QB, QC, QD, QE, QF, QG, QH, QI, QJ, QK, QL, QM, QN, QO, QP, QQ]
                  exact ⟨(i + 1, z + (p + 1)), ⟨h, by simp only; omega, h4⟩, by simp only; omega, ⟨[some 0], rfl, by simp, by simp [setsA, keepA, SWeak, AWeak], by simp [HWeak, BWeak, SWeak, AWeak]⟩⟩
            · obtain rfl : i = g.length := by omega
              rw [List.drop_length] at b2
              simp only [txtF, List.length_nil] at b2
              simp (config := { maxSteps := 1000000 }) (disch := ((try simp only [awL]); omega)) only [QR, QS, QT, QU, QV, QW, QX, QY, QZ, Q0, Q1, Q2, gl, ↓awU, awV, awF, Qa, Qb, Qc, Qd, forall_const, ↓reduceIte, ↓reduceDIte, ↓Qe, Qf, Qg, Qh, Qi, Qj, Qk, Ql, Qm, Qn, Qo, Qp, Qq, Qr, Qs, implies_true, Qt, Qu, Qv, Qw, Qx, Qy, Qz, QA, QB, QC, QD, QE, QF, QG, QH, QI, QJ, QK, QL, QM, QN, QO, QP, QQ]
              exact ⟨(), by trivial, ⟨[some 0], rfl, by simp, by simp [setsA, keepA, SWeak, AWeak], by simp [HWeak, BWeak, SWeak, AWeak]⟩⟩
          · rintro ⟨⟩ htl
            rw [if_neg (by omega)] at hr
            simp only [awK, Nat.reduceMod, Nat.reduceDiv, reduceIte]
            simp (config := { maxSteps := 1000000 }) (disch := ((try simp only [awL]); omega)) only [QR, QS, QT, QU, QV, QW, QX, QY, QZ, Q0, Q1, Q2, gl, ↓awU, awV, awF, Qa, Qb, Qc, Qd, forall_const, ↓reduceIte, ↓reduceDIte, ↓Qe, Qf, Qg, Qh, Qi, Qj, Qk, Ql, Qm, Qn, Qo, Qp, Qq, Qr, Qs, implies_true, Qt, Qu, Qv, Qw, Qx, Qy, Qz, QA, QB, QC, QD, QE, QF, QG, QH, QI, QJ, QK, QL, QM, QN, QO, QP, QQ]
            refine LoopC.fr 8166776806102523123120990578362437074945 (α := Nat × List UInt8) (fun x => g.length - x.1) (fun x => [(19, .lsl 1 1 0 x.2.length), (133, .d (.int .i64 x.1))]) (fun x => [.dead, .row false (BtF x.2)])
              (fun x => x.1 ≤ g.length ∧ x.2 ++ txtF ly (g.drop x.1) = txtF ly g) (0, []) ⟨Nat.zero_le _, by simp⟩ ?_ ?_
            · exact ⟨[some 0, none], rfl, by simp, by simp [setsA, keepA, SWeak, AWeak], by simp [HWeak, BWeak, SWeak, AWeak, ints, nums]⟩
            · rintro ⟨i, out⟩ ⟨b1, b2⟩
              simp only at b1 b2
              have bl := @BtF_length out
              simp only [awK, Nat.reduceMod, Nat.reduceDiv, reduceIte]
              rcases Nat.lt_or_ge i g.length with h | h
              · have gg := rowsD_getD h
                rw [txt_step ly h] at b2
                have mem := c2 _ (memD (d := []) h)
                generalize g.getD i [] = row at *
                obtain ⟨r1, r2, r3⟩ := mem
                have sl := @strs_length row
                simp (config := { maxSteps := 1000000 }) (disch := ((try simp only [awL]); omega)) only [QR, QS, QT, QU, QV, QW, QX, QY, QZ, Q0, Q1, Q2, gl, gg, ↓awU, awV, awF, Qa, Qb, Qc, Qd, forall_const, ↓reduceIte, ↓reduceDIte, ↓Qe, Qf, Qg, Qh, Qi, Qj, Qk, Ql, Qm, Qn, Qo, Qp, Qq, Qr, Qs, implies_true, Qt, Qu, Qv, Qw, Qx, Qy, Qz, QA, QB, QC, QD, QE, QF, QG, QH, QI, QJ, QK, QL, QM, QN, QO, QP, QQ]
                refine LoopC.fr 541729528138134033833692375031374992637953 (α := Nat × Nat × List UInt8) (fun x => row.length - x.1) (fun x => [(19, .lsl 1 1 0 x.2.2.length), (22, .d (.int .i64 x.2.1)), (139, .d (.int .i64 x.1))]) (fun x => [.dead, .row false (BtF x.2.2)])
                  (fun x => x.1 ≤ row.length ∧ (x.1 < row.length → x.2.1 ≤ ly.getD x.1 0) ∧ x.2.2 ++ wrF ly x.1 x.2.1 (row.drop x.1) ++ [10] ++ txtF ly (g.drop (i + 1)) = txtF ly g) (0, 0, out) ⟨Nat.zero_le _, fun _ => Nat.zero_le _, by simp only [List.drop_zero, List.append_assoc] at b2 ⊢; exact b2⟩ ?_ ?_
                · exact ⟨[some 0, some 1], rfl, by simp, by simp [setsA, keepA, SWeak, AWeak], by simp [HWeak, BWeak, SWeak, AWeak]⟩
                · rintro ⟨j, p, out2⟩ ⟨d1, d2, d3⟩
                  simp only at d1 d2 d3
                  have ol2 : out2.length ≤ (txtF ly g).length := by rw [← d3]; simp only [List.length_append]; omega
                  have bl2 := @BtF_length out2
                  simp only [awK, Nat.reduceMod, Nat.reduceDiv, reduceIte]
                  rcases Nat.lt_or_ge j row.length with hj | hj
                  · have sg2 := strs_getD hj
                    have mem2 := r2 _ (memD (d := []) hj)
                    have bad := r3 j hj
                    have hp := d2 hj
                    have lj := nle j
                    have gj := nats_getD (k := .i64) (d := .nilp) (l := ly) (i := j) (by omega)
                    have mono := k3.2.2 j
                    have room := @bad_room ly j _ bad
                    rw [wr_step ly hj] at d3
                    generalize row.getD j [] = fld at *
                    by_cases he : fld = []
                    · subst he
                      rw [if_pos rfl] at d3
                      simp (config := { maxSteps := 1000000 }) (disch := ((try simp only [awL]); omega)) only [QR, QS, QT, QU, QV, QW, QX, QY, QZ, Q0, Q1, Q2, sl, sg2, ↓awU, awV, awF, Qa, Qb, Qc, Qd, forall_const, ↓reduceIte, ↓reduceDIte, ↓Qe, Qf, Qg, Qh, Qi, Qj, Qk, Ql, Qm, Qn, Qo, Qp, Qq, Qr, Qs, implies_true, Qt, Qu, Qv, Qw, Qx, Qy, Qz, QA, QB, QC, QD, QE, QF, QG, QH, QI, QJ, QK, QL, QM, QN, QO, QP, QQ]
                      exact ⟨(j + 1, p, out2), ⟨hj, fun hj2 => Nat.le_trans hp (mono (by simp only at hj2; omega)), d3⟩, by simp only; omega, ⟨[some 0, some 1], rfl, by simp, by simp [setsA, keepA, SWeak, AWeak], by simp [HWeak, BWeak, SWeak, AWeak]⟩⟩
                    · rw [if_neg he] at d3
                      have hne : (fld == []) = false := by simpa using he
                      simp (config := { maxSteps := 1000000 }) (disch := ((try simp only [awL]); omega)) only [QR, QS, QT, QU, QV, QW, QX, QY, QZ, Q0, Q1, Q2, hne, sl, sg2, ↓awU, awV, awF, Qa, Qb, Qc, Qd, forall_const, ↓reduceIte, ↓reduceDIte, ↓Qe, Qf, Qg, Qh, Qi, Qj, Qk, Ql, Qm, Qn, Qo, Qp, Qq, Qr, Qs, implies_true, Qt, Qu, Qv, Qw, Qx, Qy, Qz, QA, QB, QC, QD, QE, QF, QG, QH, QI, QJ, QK, QL, QM, QN, QO, QP, QQ]
                      refine LoopC.fx 1238627815592216007006683571051636314865665 (α := Nat × List UInt8) (β := List UInt8) (fun x => ly.getD j 0 - x.1) (fun x => [(19, .lsl 1 1 0 x.2.length), (22, .d (.int .i64 x.1))]) (fun x => [.dead, .row false (BtF x.2)])
                        (fun x => x.1 ≤ ly.getD j 0 ∧ x.2 ++ List.replicate (ly.getD j 0 - x.1) 32 = out2 ++ List.replicate (ly.getD j 0 - p) 32) 1238627815592216007006683571051636314865665 (fun y => [(19, .lsl 1 1 0 y.length), (22, .d (.int .i64 (ly.getD j 0)))]) (fun y => [.dead, .row false (BtF y)])
                        (fun y => y = out2 ++ List.replicate (ly.getD j 0 - p) 32) (p, out2) ⟨hp, rfl⟩ ?_ ?_ ?_
                      · exact ⟨[some 0, some 1], rfl, by simp, by simp [setsA, keepA, SWeak, AWeak], by simp [HWeak, BWeak, SWeak, AWeak]⟩
                      · rintro ⟨n, out3⟩ ⟨f1, f2⟩
                        simp only at f1 f2
                        have bl3 := @BtF_length out3
                        have f3 := congrArg List.length f2
                        simp only [List.length_append, List.length_replicate] at f3
                        simp only [awK, Nat.reduceMod, Nat.reduceDiv, reduceIte]
                        rcases Nat.lt_or_ge n (ly.getD j 0) with hn | hn
                        · have sp : BtF out3 ++ [.int .u8 32] = BtF (out3 ++ [32]) := @BtF_push out3 32
                          have lb : (out3 ++ [(32 : UInt8)]).length = out3.length + 1 := by simp
                          have f4 : (out3 ++ [32]) ++ List.replicate (ly.getD j 0 - (n + 1)) 32 = out2 ++ List.replicate (ly.getD j 0 - p) 32 := by
                            rw [← f2, List.append_assoc, show ly.getD j 0 - n = (ly.getD j 0 - (n + 1)) + 1 by omega, List.replicate_succ]; rfl
                          generalize hb : out3 ++ [32] = out4 at *
                          simp (config := { maxSteps := 1000000 }) (disch := ((try simp only [awL]); omega)) only [QR, QS, QT, QU, QV, QW, QX, QY, QZ, Q0, Q1, Q2, Ns, al, gj, bl3, sp, ↓awU, awV, awF, Qa, Qb, Qc, Qd, forall_const, ↓reduceIte, ↓reduceDIte, ↓Qe, Qf, Qg, Qh, Qi, Qj, Qk, Ql, Qm, Qn, Qo, Qp, Qq, Qr, Qs, implies_true, Qt, Qu, Qv, Qw, Qx, Qy, Qz, QA, QB, QC, QD, QE, QF, QG, QH, QI, QJ, QK, QL, QM, QN, QO, QP, QQ]
                          exact ⟨(n + 1, out4), ⟨hn, f4⟩, by simp only; omega, ⟨[some 0, some 3], rfl, by simp, by simp [setsA, keepA, SWeak, AWeak, lb], by simp [HWeak, BWeak, SWeak, AWeak]⟩⟩
                        · obtain rfl : n = ly.getD j 0 := by omega
                          simp (config := { maxSteps := 1000000 }) (disch := ((try simp only [awL]); omega)) only [QR, QS, QT, QU, QV, QW, QX, QY, QZ, Q0, Q1, Q2, Ns, al, gj, ↓awU, awV, awF, Qa, Qb, Qc, Qd, forall_const, ↓reduceIte, ↓reduceDIte, ↓Qe, Qf, Qg, Qh, Qi, Qj, Qk, Ql, Qm, Qn, Qo, Qp, Qq, Qr, Qs, implies_true, Qt, Qu, Qv, Qw, Qx, Qy, Qz, QA, QB, QC, QD, QE, QF, QG, QH, QI, QJ, QK, QL, QM, QN, QO, QP, QQ]
                          exact ⟨out3, by simpa using f2, ⟨[some 0, some 1], rfl, by simp, by simp [setsA, keepA, SWeak, AWeak], by simp [HWeak, BWeak, SWeak, AWeak]⟩⟩
                      · rintro out3 f1
                        have f3 := congrArg List.length f1
                        simp only [List.length_append, List.length_replicate] at f3
                        have bl3 := @BtF_length out3
                        have sp2 := @BtF_app out3 fld
                        have lb2 : (out3 ++ fld).length = out3.length + fld.length := by simp
                        have lf := @BtF_length fld
                        have sm : (fld.map fun b => D.int .u8 b.toNat) = BtF fld := by simp [BtF, ints, nums]
                        have rd := runesD_bs fld
                        have rs := runesS_bs fld
                        have nlr := @nats_length .i32 (rnF fld 0)
                        have rc := rcL_eq fld
                        have rl := rcL_le fld
                        rw [← rc] at nlr
                        have d4 : (out3 ++ fld) ++ wrF ly (j + 1) (ly.getD j 0 + rcL fld) (row.drop (j + 1)) ++ [10] ++ txtF ly (g.drop (i + 1)) = txtF ly g := by
                          rw [f1, ← d3]; simp only [List.append_assoc]
                        generalize hb2 : out3 ++ fld = out5 at *
                        simp only [awK, Nat.reduceMod, Nat.reduceDiv, reduceIte]
                        simp (config := { maxSteps := 1000000 }) (disch := ((try simp only [awL]); omega)) only [QR, QS, QT, QU, QV, QW, QX, QY, QZ, Q0, Q1, Q2, bl3, sp2, lf, sm, rd, rs, nlr, rc.symm, ↓awU, awV, awF, Qa, Qb, Qc, Qd, forall_const, ↓reduceIte, ↓reduceDIte, ↓Qe, Qf, Qg, Qh, Qi, Qj, Qk, Ql, Qm, Qn, Qo, Qp, Qq, Qr, Qs, implies_true, Qt, Qu, Qv, Qw, Qx, Qy, Qz, QA, QB, QC, QD, QE, QF, QG, QH, QI, QJ, QK, QL, QM, QN, QO, QP, QQ]
                        exact ⟨(j + 1, ly.getD j 0 + rcL fld, out5), ⟨hj, fun hj2 => by have := room (by simp only at hj2; omega); have := mono (by simp only at hj2; omega); simp only; omega, d4⟩, by simp only; omega, ⟨[some 0, some 2], rfl, by simp, by simp [setsA, keepA, SWeak, AWeak, lb2], by simp [HWeak, BWeak, SWeak, AWeak]⟩⟩
                  · obtain rfl : j = row.length := by omega
                    rw [List.drop_length] at d3
                    simp only [wrF, List.append_nil] at d3
                    have sp : BtF out2 ++ [.int .u8 10] = BtF (out2 ++ [10]) := @BtF_push out2 10
                    have lb : (out2 ++ [(10 : UInt8)]).length = out2.length + 1 := by simp
                    generalize hb : out2 ++ [10] = out4 at *
                    simp (config := { maxSteps := 1000000 }) (disch := ((try simp only [awL]); omega)) only [QR, QS, QT, QU, QV, QW, QX, QY, QZ, Q0, Q1, Q2, sl, bl2, sp, ↓awU, awV, awF, Qa, Qb, Qc, Qd, forall_const, ↓reduceIte, ↓reduceDIte, ↓Qe, Qf, Qg, Qh, Qi, Qj, Qk, Ql, Qm, Qn, Qo, Qp, Qq, Qr, Qs, implies_true, Qt, Qu, Qv, Qw, Qx, Qy, Qz, QA, QB, QC, QD, QE, QF, QG, QH, QI, QJ, QK, QL, QM, QN, QO, QP, QQ]
                    exact ⟨(i + 1, out4), ⟨h, d3⟩, by simp only; omega, ⟨[some 0, some 3], rfl, by simp, by simp [setsA, keepA, SWeak, AWeak, lb], by simp [HWeak, BWeak, SWeak, AWeak]⟩⟩
              · obtain rfl : i = g.length := by omega
                rw [List.drop_length] at b2
                simp only [txtF, List.append_nil] at b2
                rw [← b2] at hr
                have cu : cut (BtF out) 0 out.length = BtF out := cut_all bl.symm
                simp (config := { maxSteps := 1000000 }) (disch := ((try simp only [awL]); omega)) only [QR, QS, QT, QU, QV, QW, QX, QY, QZ, Q0, Q1, Q2, gl, bl, cu, numsOf_ints, strOfNums_nums, ↓awU, awV, awF, Qa, Qb, Qc, Qd, forall_const, ↓reduceIte, ↓reduceDIte, ↓Qe, Qf, Qg, Qh, Qi, Qj, Qk, Ql, Qm, Qn, Qo, Qp, Qq, Qr, Qs, implies_true, Qt, Qu, Qv, Qw, Qx, Qy, Qz, QA, QB, QC, QD, QE, QF, QG, QH, QI, QJ, QK, QL, QM, QN, QO, QP, QQ]
                rw [hr]; rfl
        · rw [hF, if_pos rfl] at ck
          rw [ck, if_pos (by decide)] at hr
          simp (config := { maxSteps := 1000000 }) (disch := ((try simp only [awL]); omega)) only [QR, QS, QT, QU, QV, QW, QX, QY, QZ, Q0, Q1, Q2, ↓awU, awV, awF, Qa, Qb, Qc, Qd, forall_const, ↓reduceIte, ↓reduceDIte, ↓Qe, Qf, Qg, Qh, Qi, Qj, Qk, Ql, Qm, Qn, Qo, Qp, Qq, Qr, Qs, implies_true, Qt, Qu, Qv, Qw, Qx, Qy, Qz, QA, QB, QC, QD, QE, QF, QG, QH, QI, QJ, QK, QL, QM, QN, QO, QP, QQ]
          rw [hr]; rfl
      · rw [hL, if_pos rfl] at ck
        rw [ck, if_pos (by decide)] at hr
        generalize g.any (badYRow ly) = F
        simp (config := { maxSteps := 1000000 }) (disch := ((try simp only [awL]); omega)) only [QR, QS, QT, QU, QV, QW, QX, QY, QZ, Q0, Q1, Q2, ↓awU, awV, awF, Qa, Qb, Qc, Qd, forall_const, ↓reduceIte, ↓reduceDIte, ↓Qe, Qf, Qg, Qh, Qi, Qj, Qk, Ql, Qm, Qn, Qo, Qp, Qq, Qr, Qs, implies_true, Qt, Qu, Qv, Qw, Qx, Qy, Qz, QA, QB, QC, QD, QE, QF, QG, QH, QI, QJ, QK, QL, QM, QN, QO, QP, QQ]
        rw [hr]; rfl
end Go.Proofs.YtacepalmphbnfaaGreatDoor

namespace Go.Proofs.YtacepalmphbnfaaGreatDoor
open Go Go.Proofs Go.Abs
variable {G : Globals}
/-! The reference's Infer. -/
def mrgR : List Bool → Nat → List Nat → List Bool
  | q, _, [] => q
  | q, k, r :: t => mrgR (stepB q k r) (k + 1) t
theorem mrgF_runes : ∀ (n : Nat) (l : List UInt8) (p k : Nat) (o : List Bool), l.length - p = n → mrgF l p k o = mrgR o k (rnF l p) := by
  intro n
  induction n using Nat.strongRecOn with
  | _ n ih =>
    intro l p k o hn
    by_cases h : p < l.length
    · have := dec_end l p h
      rw [mrgF_more h, rnF_more h, mrgR]
      exact ih _ (by omega) l _ _ _ rfl
    · rw [mrgF_end h, rnF_end h]; rfl
theorem scanF_in : ∀ (n : Nat) (bl : List Bool) (gap : Int) (i run : Nat) (lead : Bool), bl.length - i = n →
    (scanF bl gap i run lead).Pairwise (· < ·) ∧ ∀ x ∈ scanF bl gap i run lead, ((if lead = true then i + 1 else i : Nat) : Int) ≤ x ∧ x < bl.length := by
  intro n
  induction n with
  | zero => intro bl gap i run lead hn; rw [scanF_end (by omega)]; simp
  | succ n ih =>
    intro bl gap i run lead hn
    have h : i < bl.length := by omega
    cases hb : bl.getD i false
    · rw [scanF_ink h hb]
      obtain ⟨a, b⟩ := ih bl gap (i + 1) 0 false (by omega)
      simp only [Bool.false_eq_true, if_false] at b
      by_cases hc : gap ≤ run ∧ lead = false
      · rw [if_pos hc]
        refine ⟨?_, fun x hx => ?_⟩
        · rw [List.singleton_append, List.pairwise_cons]
          exact ⟨fun x hx => by have := (b x hx).1; omega, a⟩
        · rw [hc.2]
          simp only [Bool.false_eq_true, if_false]
          rcases List.mem_append.1 hx with h1 | h1
          · simp only [List.mem_singleton] at h1; omega
          · have := b x h1; omega
      · rw [if_neg hc, List.nil_append]
        refine ⟨a, fun x hx => ?_⟩
        have := b x hx
        split <;> omega
    · rw [scanF_blank h hb]
      obtain ⟨a, b⟩ := ih bl gap (i + 1) (run + 1) lead (by omega)
      refine ⟨a, fun x hx => ?_⟩
      have := b x hx
      split <;> rename_i h5 <;> simp only [h5, if_true, if_false, Bool.false_eq_true] at this <;> omega
theorem ascF_pair {l : List Int} (h1 : l.Pairwise (· < ·)) (h2 : ∀ x ∈ l, x ≤ 1048576) : ∀ (n i : Nat), l.length - i = n → 1 ≤ i → ascF l i = true := by
  intro n
  induction n with
  | zero => intro i hn _; exact ascF_end (by omega)
  | succ n ih =>
    intro i hn hi
    have h : i < l.length := by omega
    have h0 : i - 1 < l.length := by omega
    rw [ascF_more h, ih (i + 1) (by omega) (by omega), Bool.and_true]
    have e1 : l.getD (i - 1) 0 = l[i - 1] := by rw [List.getD_eq_getElem?_getD, List.getElem?_eq_getElem h0]; rfl
    have e2 : l.getD i 0 = l[i] := by rw [List.getD_eq_getElem?_getD, List.getElem?_eq_getElem h]; rfl
    rw [e1, e2]
    exact decide_eq_true ⟨List.pairwise_iff_getElem.1 h1 (i - 1) i h0 h (by omega), h2 _ (List.getElem_mem _)⟩
theorem layL_asc {d : List UInt8} {gap : Int} (h : (blanksL (linesL d)).length ≤ 1048576) : (layL d gap).Pairwise (· < ·) ∧ ∀ x ∈ layL d gap, 0 ≤ x ∧ x ≤ 1048576 := by
  obtain ⟨a, b⟩ := scanF_in _ (blanksL (linesL d)) gap 0 0 true rfl
  simp only [if_true] at b
  unfold layL
  refine ⟨List.pairwise_cons.2 ⟨fun x hx => by have := (b x hx).1; omega, a⟩, fun x hx => ?_⟩
  rcases List.mem_cons.1 hx with rfl | hx
  · decide
  · have := b x hx; omega
theorem okLay_layL {d : List UInt8} {gap : Int} (h : (blanksL (linesL d)).length ≤ 1048576) : okLay (layL d gap) = decide ((layL d gap).length ≤ 64) := by
  obtain ⟨a, b⟩ := layL_asc (gap := gap) h
  have hl : (layL d gap).length ≠ 0 := by simp [layL]
  unfold okLay
  rw [ascF_pair a (fun x hx => (b x hx).2) _ 1 rfl (Nat.le_refl _), Bool.and_true]
  congr 1
  apply propext
  exact ⟨fun h => h.2.1, fun h => ⟨hl, h, rfl⟩⟩
theorem dropN {l : List Nat} {i : Nat} (h : i < l.length) : l.drop i = l.getD i 0 :: l.drop (i + 1) := by
  rw [List.drop_eq_getElem_cons h, List.getD_eq_getElem?_getD, List.getElem?_eq_getElem h]; rfl
def nots (q : List Bool) : List Bool := q.map not
theorem nots_len {q : List Bool} : (nots q).length = q.length := by simp [nots]
theorem nots_getD {q : List Bool} {i : Nat} (h : i < q.length) : (nots q).getD i false = !(q.getD i false) := by
  simp [nots, List.getD_eq_getElem?_getD, h]
theorem nots_set {q : List Bool} {i : Nat} {b : Bool} : (nots q).set i (!b) = nots (q.set i b) := by simp [nots, List.map_set]
theorem nots_push {q : List Bool} {b : Bool} : nots q ++ [!b] = nots (q ++ [b]) := by simp [nots]
set_option maxHeartbeats 16000000 in
set_option maxRecDepth 100000 in
theorem rinfer_spec (hT : HT G) (l : List UInt8) (gap : Int) (hl : l.length ≤ 100000000) :
    Ctr Tryz.prog G 17 [.d (S l), .d (.int .i64 gap)] [] (.d (inferD (inferL l gap))) [] := by
  obtain ⟨r, hr⟩ : ∃ r, r = inferL l gap := ⟨_, rfl⟩
  rw [← hr]
  refine Ctr.pure (M := M0) hmix Tryz.func17 rfl go17 ?_
  unfold inferL at hr
  simp (config := { maxSteps := 1000000 }) (disch := ((try simp only [awL]); omega)) only [QR, QS, QT, QU, QV, QW, QX, QY, QZ, Q0, Q1, Q2, Tryz.f17, ↓awU, awV, awF, Qa, Qb, Qc, Qd, forall_const, ↓reduceIte, ↓reduceDIte, ↓Qe, Qf, Qg, Qh, Qi, Qj, Qk, Ql, Qm, Qn, Qo, Qp, Qq, Qr, Qs, implies_true, Qt, Qu, Qv, Qw, Qx, Qy, Qz, QA, QB, QC, QD, QE, QF, QG, QH, QI, QJ, QK, QL, QM, QN, QO, QP, QQ]
  refine CallC.pure (rvalidS_spec hT l (by omega)) ?_
  cases hv : Lib.validD l
  · rw [if_pos (.inl hv)] at hr
    simp (config := { maxSteps := 1000000 }) (disch := ((try simp only [awL]); omega)) only [QR, QS, QT, QU, QV, QW, QX, QY, QZ, Q0, Q1, Q2, ↓awU, awV, awF, Qa, Qb, Qc, Qd, forall_const, ↓reduceIte, ↓reduceDIte, ↓Qe, Qf, Qg, Qh, Qi, Qj, Qk, Ql, Qm, Qn, Qo, Qp, Qq, Qr, Qs, implies_true, Qt, Qu, Qv, Qw, Qx, Qy, Qz, QA, QB, QC, QD, QE, QF, QG, QH, QI, QJ, QK, QL, QM, QN, QO, QP, QQ]
    rw [hr]; rfl
  · by_cases h1 : 1048576 < l.length
    · rw [if_pos (.inr (.inl h1))] at hr
      simp (config := { maxSteps := 1000000 }) (disch := ((try simp only [awL]); omega)) only [QR, QS, QT, QU, QV, QW, QX, QY, QZ, Q0, Q1, Q2, ↓awU, awV, awF, Qa, Qb, Qc, Qd, forall_const, ↓reduceIte, ↓reduceDIte, ↓Qe, Qf, Qg, Qh, Qi, Qj, Qk, Ql, Qm, Qn, Qo, Qp, Qq, Qr, Qs, implies_true, Qt, Qu, Qv, Qw, Qx, Qy, Qz, QA, QB, QC, QD, QE, QF, QG, QH, QI, QJ, QK, QL, QM, QN, QO, QP, QQ]
      rw [hr]; rfl
    · by_cases h2 : gap < 1
      · rw [if_pos (.inr (.inr h2))] at hr
        simp (config := { maxSteps := 1000000 }) (disch := ((try simp only [awL]); omega)) only [QR, QS, QT, QU, QV, QW, QX, QY, QZ, Q0, Q1, Q2, ↓awU, awV, awF, Qa, Qb, Qc, Qd, forall_const, ↓reduceIte, ↓reduceDIte, ↓Qe, Qf, Qg, Qh, Qi, Qj, Qk, Ql, Qm, Qn, Qo, Qp, Qq, Qr, Qs, implies_true, Qt, Qu, Qv, Qw, Qx, Qy, Qz, QA, QB, QC, QD, QE, QF, QG, QH, QI, QJ, QK, QL, QM, QN, QO, QP, QQ]
        rw [hr]; rfl
      · rw [if_neg (by rintro (x | x | x); · rw [hv] at x; cases x
                       · exact h1 x
                       · exact h2 x)] at hr
        simp (config := { maxSteps := 1000000 }) (disch := ((try simp only [awL]); omega)) only [QR, QS, QT, QU, QV, QW, QX, QY, QZ, Q0, Q1, Q2, ↓awU, awV, awF, Qa, Qb, Qc, Qd, forall_const, ↓reduceIte, ↓reduceDIte, ↓Qe, Qf, Qg, Qh, Qi, Qj, Qk, Ql, Qm, Qn, Qo, Qp, Qq, Qr, Qs, implies_true, Qt, Qu, Qv, Qw, Qx, Qy, Qz, QA, QB, QC, QD, QE, QF, QG, QH, QI, QJ, QK, QL, QM, QN, QO, QP, QQ]
        refine CallC.pure (rlines_spec l (by omega)) ?_
        obtain ⟨j1, j2⟩ := linesL_in (s := l)
        have hbl0 : (blanksL (linesL l)).length ≤ l.length := blanksL_len (linesL l) [] j2 (Nat.zero_le _)
        rw [okLay_layL (by omega)] at hr
        unfold layL at hr
        generalize linesL l = ls at *
        have sl := @strs_length ls
        rcases Nat.eq_zero_or_pos ls.length with h3 | h3
        · rw [if_pos (List.length_eq_zero_iff.1 h3)] at hr
          simp (config := { maxSteps := 1000000 }) (disch := ((try simp only [awL]); omega)) only [QR, QS, QT, QU, QV, QW, QX, QY, QZ, Q0, Q1, Q2, sl, h3, ↓awU, awV, awF, Qa, Qb, Qc, Qd, forall_const, ↓reduceIte, ↓reduceDIte, ↓Qe, Qf, Qg, Qh, Qi, Qj, Qk, Ql, Qm, Qn, Qo, Qp, Qq, Qr, Qs, implies_true, Qt, Qu, Qv, Qw, Qx, Qy, Qz, QA, QB, QC, QD, QE, QF, QG, QH, QI, QJ, QK, QL, QM, QN, QO, QP, QQ]
          rw [hr]; rfl
        · rw [if_neg (by intro e; rw [e] at h3; cases h3)] at hr
          simp (config := { maxSteps := 1000000 }) (disch := ((try simp only [awL]); omega)) only [QR, QS, QT, QU, QV, QW, QX, QY, QZ, Q0, Q1, Q2, sl, ↓awU, awV, awF, Qa, Qb, Qc, Qd, forall_const, ↓reduceIte, ↓reduceDIte, ↓Qe, Qf, Qg, Qh, Qi, Qj, Qk, Ql, Qm, Qn, Qo, Qp, Qq, Qr, Qs, implies_true, Qt, Qu, Qv, Qw, Qx, Qy, Qz, QA, QB, QC, QD, QE, QF, QG, QH, QI, QJ, QK, QL, QM, QN, QO, QP, QQ]
          refine LoopC.fx 12884901890 (α := Nat × List Bool) (β := List Bool) (fun x => ls.length - x.1) (fun x => [(7, .lsl 0 1 0 x.2.length), (34, .d (.int .i64 x.1))]) (fun x => [.row false (bools (nots x.2))])
            (fun x => x.1 ≤ ls.length ∧ x.2.length ≤ 1048576 ∧ blanksL ls = (ls.drop x.1).foldl (fun o l => mrgF l 0 0 o) x.2) 2 (fun y => [(7, .lsl 0 1 0 y.length)]) (fun y => [.row false (bools (nots y))]) (fun y => y = blanksL ls) (0, []) ⟨Nat.zero_le _, Nat.zero_le _, rfl⟩ ?_ ?_ ?_
          · exact ⟨[none], rfl, by simp, by simp [setsA, keepA, SWeak, AWeak], by simp [HWeak, BWeak, SWeak, AWeak, bools, nots]⟩
          · rintro ⟨i, o⟩ ⟨i3, i4, i5⟩
            simp only at i3 i4 i5
            simp only [awK, Nat.reduceMod, Nat.reduceDiv, reduceIte]
            rcases Nat.lt_or_ge i ls.length with h | h
            · have g := strs_getD h
              have hl2 := j2 _ (memD (d := []) h)
              rw [List.drop_eq_getElem_cons h, List.foldl_cons, show ls[i] = ls.getD i [] by rw [List.getD_eq_getElem?_getD, List.getElem?_eq_getElem h]; rfl] at i5
              have hml := mrgF_len _ (ls.getD i []) 0 0 o rfl (Nat.le_refl _) (Nat.zero_le _)
              generalize ls.getD i [] = x at *
              have rd := runesD_bs x
              have rs := runesS_bs x
              have rx := rcL_le x
              rw [rcL_eq] at rx
              have nlr := @nats_length .i32 (rnF x 0)
              have em := mrgF_runes _ x 0 0 o rfl
              generalize rnF x 0 = rr at *
              simp (config := { maxSteps := 1000000 }) (disch := ((try simp only [awL]); omega)) only [QR, QS, QT, QU, QV, QW, QX, QY, QZ, Q0, Q1, Q2, sl, g, rd, rs, nlr, ↓awU, awV, awF, Qa, Qb, Qc, Qd, forall_const, ↓reduceIte, ↓reduceDIte, ↓Qe, Qf, Qg, Qh, Qi, Qj, Qk, Ql, Qm, Qn, Qo, Qp, Qq, Qr, Qs, implies_true, Qt, Qu, Qv, Qw, Qx, Qy, Qz, QA, QB, QC, QD, QE, QF, QG, QH, QI, QJ, QK, QL, QM, QN, QO, QP, QQ]
              refine LoopC.fx 1679332212738 (α := Nat × List Bool) (β := List Bool) (fun x => rr.length - x.1) (fun x => [(7, .lsl 0 1 0 x.2.length), (41, .d (.int .i64 x.1))]) (fun x => [.row false (bools (nots x.2)), .row false (nats .i32 rr)])
                (fun x => x.1 ≤ rr.length ∧ x.1 ≤ x.2.length ∧ x.2.length ≤ max o.length x.1 ∧ mrgR o 0 rr = mrgR x.2 x.1 (rr.drop x.1)) 30064771074 (fun y => [(7, .lsl 0 1 0 y.length)]) (fun y => [.row false (bools (nots y))]) (fun y => y = mrgR o 0 rr) (0, o) ⟨Nat.zero_le _, Nat.zero_le _, by simp, rfl⟩ ?_ ?_ ?_
              · exact ⟨[some 0, some 1], rfl, by simp, by simp [setsA, keepA, SWeak, AWeak], by simp [HWeak, BWeak, SWeak, AWeak]⟩
              · rintro ⟨k, q⟩ ⟨k1, k2, k3, k4⟩
                simp only at k1 k2 k3 k4
                have ql : (bools (nots q)).length = q.length := by rw [bools_length, nots_len]
                simp only [awK, Nat.reduceMod, Nat.reduceDiv, reduceIte]
                rcases Nat.lt_or_ge k rr.length with h7 | h7
                · have gr := nats_getD (k := .i32) (d := .nilp) h7
                  rw [dropN h7, mrgR] at k4
                  generalize rr.getD k 0 = c at *
                  have sb := stepB_len (o := q) (k := k) (r := c) k2
                  have hc : decide (¬ ((c : Int) = 32)) = !decide (c = 32) := by
                    rw [← decide_not]; congr 1; apply propext; omega
                  rcases Nat.lt_or_ge k q.length with h8 | h8
                  · have gb := bools_getD (l := nots q) (d := .nilp) (i := k) (by rw [nots_len]; exact h8)
                    rw [nots_getD h8] at gb
                    have es : stepB q k c = q.set k (q.getD k false && decide (c = 32)) := by rw [stepB, if_neg (by omega)]
                    rw [es] at k4 sb
                    obtain ⟨v, hv⟩ : ∃ v, v = q.getD k false := ⟨_, rfl⟩
                    rw [← hv] at gb k4 sb
                    cases v
                    · rw [Bool.false_and] at k4 sb
                      have st : (bools (nots q)).set k (D.bool true) = bools (nots (q.set k false)) := by rw [bools_set, ← nots_set]; rfl
                      rw [Bool.not_false] at gb
                      simp (config := { maxSteps := 1000000 }) (disch := ((try simp only [awL]); omega)) only [QR, QS, QT, QU, QV, QW, QX, QY, QZ, Q0, Q1, Q2, ql, nlr, gr, gb, st, ↓awU, awV, awF, Qa, Qb, Qc, Qd, forall_const, ↓reduceIte, ↓reduceDIte, ↓Qe, Qf, Qg, Qh, Qi, Qj, Qk, Ql, Qm, Qn, Qo, Qp, Qq, Qr, Qs, implies_true, Qt, Qu, Qv, Qw, Qx, Qy, Qz, QA, QB, QC, QD, QE, QF, QG, QH, QI, QJ, QK, QL, QM, QN, QO, QP, QQ]
                      exact ⟨(k + 1, q.set k false), ⟨h7, sb.1, by have := sb.2; simp only; omega, k4⟩, by simp only; omega, ⟨[some 0, some 1], rfl, by simp, by simp [setsA, keepA, SWeak, AWeak], by simp [HWeak, BWeak, SWeak, AWeak]⟩⟩
                    · rw [Bool.true_and] at k4 sb
                      have st : (bools (nots q)).set k (D.bool (!decide (c = 32))) = bools (nots (q.set k (decide (c = 32)))) := by rw [bools_set, ← nots_set]
                      rw [Bool.not_true] at gb
                      simp (config := { maxSteps := 1000000 }) (disch := ((try simp only [awL]); omega)) only [QR, QS, QT, QU, QV, QW, QX, QY, QZ, Q0, Q1, Q2, ql, nlr, gr, gb, hc, st, ↓awU, awV, awF, Qa, Qb, Qc, Qd, forall_const, ↓reduceIte, ↓reduceDIte, ↓Qe, Qf, Qg, Qh, Qi, Qj, Qk, Ql, Qm, Qn, Qo, Qp, Qq, Qr, Qs, implies_true, Qt, Qu, Qv, Qw, Qx, Qy, Qz, QA, QB, QC, QD, QE, QF, QG, QH, QI, QJ, QK, QL, QM, QN, QO, QP, QQ]
                      exact ⟨(k + 1, q.set k (decide (c = 32))), ⟨h7, sb.1, by have := sb.2; simp only; omega, k4⟩, by simp only; omega, ⟨[some 0, some 1], rfl, by simp, by simp [setsA, keepA, SWeak, AWeak], by simp [HWeak, BWeak, SWeak, AWeak, st]⟩⟩
                  · obtain rfl : k = q.length := by omega
                    have es : stepB q q.length c = (q ++ [true]).set q.length (decide (c = 32)) := by
                      rw [stepB, if_pos rfl]; simp
                    rw [es] at k4 sb
                    have sp : bools (nots q) ++ [D.bool false] = bools (nots (q ++ [true])) := by rw [bools_push, ← nots_push]; rfl
                    have gb : (bools (nots (q ++ [true]))).getD q.length .nilp = .bool false := by rw [bools_getD (by rw [nots_len]; simp), nots_getD (by simp)]; simp
                    have ql2 : (bools (nots (q ++ [true]))).length = q.length + 1 := by rw [bools_length, nots_len]; simp
                    have st : (bools (nots (q ++ [true]))).set q.length (D.bool (!decide (c = 32))) = bools (nots ((q ++ [true]).set q.length (decide (c = 32)))) := by rw [bools_set, ← nots_set]
                    have st2 : (bools (nots (q ++ [true]))).set q.length (D.bool (!decide (c = 32))) = bools (nots (q ++ [decide (c = 32)])) := by rw [st]; simp
                    simp (config := { maxSteps := 1000000 }) (disch := ((try simp only [awL]); omega)) only [QR, QS, QT, QU, QV, QW, QX, QY, QZ, Q0, Q1, Q2, ql, ql2, nlr, gr, gb, hc, sp, st, ↓awU, awV, awF, Qa, Qb, Qc, Qd, forall_const, ↓reduceIte, ↓reduceDIte, ↓Qe, Qf, Qg, Qh, Qi, Qj, Qk, Ql, Qm, Qn, Qo, Qp, Qq, Qr, Qs, implies_true, Qt, Qu, Qv, Qw, Qx, Qy, Qz, QA, QB, QC, QD, QE, QF, QG, QH, QI, QJ, QK, QL, QM, QN, QO, QP, QQ]
                    exact ⟨(q.length + 1, (q ++ [true]).set q.length (decide (c = 32))), ⟨h7, sb.1, by have := sb.2; simp only; omega, k4⟩, by simp only; omega, ⟨[some 3, some 1], rfl, by simp, by simp [setsA, keepA, SWeak, AWeak], by simp [HWeak, BWeak, SWeak, AWeak, st2]⟩⟩
                · rw [List.drop_eq_nil_of_le h7, mrgR] at k4
                  simp (config := { maxSteps := 1000000 }) (disch := ((try simp only [awL]); omega)) only [QR, QS, QT, QU, QV, QW, QX, QY, QZ, Q0, Q1, Q2, nlr, ↓awU, awV, awF, Qa, Qb, Qc, Qd, forall_const, ↓reduceIte, ↓reduceDIte, ↓Qe, Qf, Qg, Qh, Qi, Qj, Qk, Ql, Qm, Qn, Qo, Qp, Qq, Qr, Qs, implies_true, Qt, Qu, Qv, Qw, Qx, Qy, Qz, QA, QB, QC, QD, QE, QF, QG, QH, QI, QJ, QK, QL, QM, QN, QO, QP, QQ]
                  exact ⟨q, k4.symm, ⟨[some 0], rfl, by simp, by simp [setsA, keepA, SWeak, AWeak], by simp [HWeak, BWeak, SWeak, AWeak]⟩⟩
              · rintro y ky
                simp only [awK, Nat.reduceMod, Nat.reduceDiv, reduceIte]
                simp (config := { maxSteps := 1000000 }) (disch := ((try simp only [awL]); omega)) only [QR, QS, QT, QU, QV, QW, QX, QY, QZ, Q0, Q1, Q2, ↓awU, awV, awF, Qa, Qb, Qc, Qd, forall_const, ↓reduceIte, ↓reduceDIte, ↓Qe, Qf, Qg, Qh, Qi, Qj, Qk, Ql, Qm, Qn, Qo, Qp, Qq, Qr, Qs, implies_true, Qt, Qu, Qv, Qw, Qx, Qy, Qz, QA, QB, QC, QD, QE, QF, QG, QH, QI, QJ, QK, QL, QM, QN, QO, QP, QQ]
                exact ⟨(i + 1, y), ⟨h, by rw [ky, ← em]; simp only; omega, by rw [i5, ky, em]⟩, by simp only; omega, ⟨[some 0], rfl, by simp, by simp [setsA, keepA, SWeak, AWeak], by simp [HWeak, BWeak, SWeak, AWeak]⟩⟩
            · rw [List.drop_eq_nil_of_le h, List.foldl_nil] at i5
              simp (config := { maxSteps := 1000000 }) (disch := ((try simp only [awL]); omega)) only [QR, QS, QT, QU, QV, QW, QX, QY, QZ, Q0, Q1, Q2, sl, ↓awU, awV, awF, Qa, Qb, Qc, Qd, forall_const, ↓reduceIte, ↓reduceDIte, ↓Qe, Qf, Qg, Qh, Qi, Qj, Qk, Ql, Qm, Qn, Qo, Qp, Qq, Qr, Qs, implies_true, Qt, Qu, Qv, Qw, Qx, Qy, Qz, QA, QB, QC, QD, QE, QF, QG, QH, QI, QJ, QK, QL, QM, QN, QO, QP, QQ]
              exact ⟨o, i5.symm, ⟨[some 0], rfl, by simp, by simp [setsA, keepA, SWeak, AWeak], by simp [HWeak, BWeak, SWeak, AWeak]⟩⟩
          · rintro bl hbe
            rw [← hbe] at hr hbl0
            have bll : (bools (nots bl)).length = bl.length := by rw [bools_length, nots_len]
            simp only [awK, Nat.reduceMod, Nat.reduceDiv, reduceIte]
            simp (config := { maxSteps := 1000000 }) (disch := ((try simp only [awL]); omega)) only [QR, QS, QT, QU, QV, QW, QX, QY, QZ, Q0, Q1, Q2, bll, ↓awU, awV, awF, Qa, Qb, Qc, Qd, forall_const, ↓reduceIte, ↓reduceDIte, ↓Qe, Qf, Qg, Qh, Qi, Qj, Qk, Ql, Qm, Qn, Qo, Qp, Qq, Qr, Qs, implies_true, Qt, Qu, Qv, Qw, Qx, Qy, Qz, QA, QB, QC, QD, QE, QF, QG, QH, QI, QJ, QK, QL, QM, QN, QO, QP, QQ]
            refine LoopC.fx 295147905179352825986 (α := Nat × Nat × Bool × List Int) (β := List Int) (fun x => bl.length - x.1) (fun x => [(12, .lsl 1 1 0 x.2.2.2.length), (13, .d (.int .i64 x.2.1)), (69, .d (.int .i64 x.1))]) (fun x => [.row false (bools (nots bl)), .row false (ints .i64 x.2.2.2)])
              (fun x => x.1 ≤ bl.length ∧ x.2.1 ≤ x.1 ∧ x.2.2.2.length ≤ x.1 + 1 ∧ (x.2.2.1 = true ↔ x.2.1 = x.1) ∧ 0 :: scanF bl gap 0 0 true = x.2.2.2 ++ scanF bl gap x.1 x.2.1 x.2.2.1) 0 (fun y => [(12, .lsl 1 1 0 y.length)]) (fun y => [.dead, .row false (ints .i64 y)]) (fun y => y.length ≤ bl.length + 1 ∧ y = 0 :: scanF bl gap 0 0 true) (0, 0, true, [0]) ⟨Nat.zero_le _, Nat.le_refl _, Nat.le_refl _, by simp, rfl⟩ ?_ ?_ ?_
            · exact ⟨[some 0, some 1], rfl, by simp, by simp [setsA, keepA, SWeak, AWeak], by simp [HWeak, BWeak, SWeak, AWeak, ints]⟩
            · rintro ⟨i, run, lead, o⟩ ⟨k1, k2, k3, k5, k4⟩
              simp only at k1 k2 k3 k4 k5
              have ol := @ints_length .i64 o
              simp only [awK, Nat.reduceMod, Nat.reduceDiv, reduceIte]
              rcases Nat.lt_or_ge i bl.length with h | h
              · have gb := bools_getD (l := nots bl) (d := .nilp) (i := i) (by rw [nots_len]; exact h)
                rw [nots_getD h] at gb
                cases hb : bl.getD i false
                · rw [hb, Bool.not_false] at gb
                  rw [scanF_ink h hb] at k4
                  by_cases h5 : gap ≤ run
                  · cases lead
                    · rw [if_pos ⟨h5, rfl⟩, ← List.append_assoc] at k4
                      have h6 : run < i := by
                        rcases Nat.lt_or_ge run i with x | x
                        · exact x
                        · exact absurd (k5.2 (by omega)) (by decide)
                      simp (config := { maxSteps := 1000000 }) (disch := ((try simp only [awL]); omega)) only [QR, QS, QT, QU, QV, QW, QX, QY, QZ, Q0, Q1, Q2, bll, gb, ol, ints_snoc, ↓awU, awV, awF, Qa, Qb, Qc, Qd, forall_const, ↓reduceIte, ↓reduceDIte, ↓Qe, Qf, Qg, Qh, Qi, Qj, Qk, Ql, Qm, Qn, Qo, Qp, Qq, Qr, Qs, implies_true, Qt, Qu, Qv, Qw, Qx, Qy, Qz, QA, QB, QC, QD, QE, QF, QG, QH, QI, QJ, QK, QL, QM, QN, QO, QP, QQ]
                      exact ⟨(i + 1, 0, false, o ++ [(i : Int)]), ⟨h, Nat.zero_le _, by simp; omega, by simp, k4⟩, by simp only; omega, ⟨[some 0, some 3], rfl, by simp, by simp [setsA, keepA, SWeak, AWeak], by simp [HWeak, BWeak, SWeak, AWeak]⟩⟩
                    · rw [if_neg (by rintro ⟨_, x⟩; cases x), List.nil_append] at k4
                      have h6 : run = i := k5.1 rfl
                      simp (config := { maxSteps := 1000000 }) (disch := ((try simp only [awL]); omega)) only [QR, QS, QT, QU, QV, QW, QX, QY, QZ, Q0, Q1, Q2, bll, gb, ↓awU, awV, awF, Qa, Qb, Qc, Qd, forall_const, ↓reduceIte, ↓reduceDIte, ↓Qe, Qf, Qg, Qh, Qi, Qj, Qk, Ql, Qm, Qn, Qo, Qp, Qq, Qr, Qs, implies_true, Qt, Qu, Qv, Qw, Qx, Qy, Qz, QA, QB, QC, QD, QE, QF, QG, QH, QI, QJ, QK, QL, QM, QN, QO, QP, QQ]
                      exact ⟨(i + 1, 0, false, o), ⟨h, Nat.zero_le _, by simp only; omega, by simp, k4⟩, by simp only; omega, ⟨[some 0, some 1], rfl, by simp, by simp [setsA, keepA, SWeak, AWeak], by simp [HWeak, BWeak, SWeak, AWeak]⟩⟩
                  · rw [if_neg (fun x => h5 x.1), List.nil_append] at k4
                    simp (config := { maxSteps := 1000000 }) (disch := ((try simp only [awL]); omega)) only [QR, QS, QT, QU, QV, QW, QX, QY, QZ, Q0, Q1, Q2, bll, gb, ↓awU, awV, awF, Qa, Qb, Qc, Qd, forall_const, ↓reduceIte, ↓reduceDIte, ↓Qe, Qf, Qg, Qh, Qi, Qj, Qk, Ql, Qm, Qn, Qo, Qp, Qq, Qr, Qs, implies_true, Qt, Qu, Qv, Qw, Qx, Qy, Qz, QA, QB, QC, QD, QE, QF, QG, QH, QI, QJ, QK, QL, QM, QN, QO, QP, QQ]
                    exact ⟨(i + 1, 0, false, o), ⟨h, Nat.zero_le _, by simp only; omega, by simp, k4⟩, by simp only; omega, ⟨[some 0, some 1], rfl, by simp, by simp [setsA, keepA, SWeak, AWeak], by simp [HWeak, BWeak, SWeak, AWeak]⟩⟩
                · rw [hb, Bool.not_true] at gb
                  rw [scanF_blank h hb] at k4
                  simp (config := { maxSteps := 1000000 }) (disch := ((try simp only [awL]); omega)) only [QR, QS, QT, QU, QV, QW, QX, QY, QZ, Q0, Q1, Q2, bll, gb, ↓awU, awV, awF, Qa, Qb, Qc, Qd, forall_const, ↓reduceIte, ↓reduceDIte, ↓Qe, Qf, Qg, Qh, Qi, Qj, Qk, Ql, Qm, Qn, Qo, Qp, Qq, Qr, Qs, implies_true, Qt, Qu, Qv, Qw, Qx, Qy, Qz, QA, QB, QC, QD, QE, QF, QG, QH, QI, QJ, QK, QL, QM, QN, QO, QP, QQ]
                  exact ⟨(i + 1, run + 1, lead, o), ⟨h, by simp only; omega, by simp only; omega, by simp only; rw [k5]; omega, k4⟩, by simp only; omega, ⟨[some 0, some 1], rfl, by simp, by simp [setsA, keepA, SWeak, AWeak], by simp [HWeak, BWeak, SWeak, AWeak]⟩⟩
              · rw [scanF_end (i := i) (by omega), List.append_nil] at k4
                simp (config := { maxSteps := 1000000 }) (disch := ((try simp only [awL]); omega)) only [QR, QS, QT, QU, QV, QW, QX, QY, QZ, Q0, Q1, Q2, bll, ↓awU, awV, awF, Qa, Qb, Qc, Qd, forall_const, ↓reduceIte, ↓reduceDIte, ↓Qe, Qf, Qg, Qh, Qi, Qj, Qk, Ql, Qm, Qn, Qo, Qp, Qq, Qr, Qs, implies_true, Qt, Qu, Qv, Qw, Qx, Qy, Qz, QA, QB, QC, QD, QE, QF, QG, QH, QI, QJ, QK, QL, QM, QN, QO, QP, QQ]
                exact ⟨o, ⟨by omega, k4.symm⟩, ⟨[some 0, some 1], rfl, by simp, by simp [setsA, keepA, SWeak, AWeak], by simp [HWeak, BWeak, SWeak, AWeak]⟩⟩
            · rintro y ⟨k1, k2⟩
              rw [← k2] at hr
              have yl := @ints_length .i64 y
              have cu : cut (ints .i64 y) 0 y.length = ints .i64 y := cut_all yl.symm
              simp only [awK, Nat.reduceMod, Nat.reduceDiv, reduceIte]
              rcases Nat.lt_or_ge 64 y.length with h6 | h6
              · rw [if_neg (by simp; omega)] at hr
                simp (config := { maxSteps := 1000000 }) (disch := ((try simp only [awL]); omega)) only [QR, QS, QT, QU, QV, QW, QX, QY, QZ, Q0, Q1, Q2, yl, cu, ↓awU, awV, awF, Qa, Qb, Qc, Qd, forall_const, ↓reduceIte, ↓reduceDIte, ↓Qe, Qf, Qg, Qh, Qi, Qj, Qk, Ql, Qm, Qn, Qo, Qp, Qq, Qr, Qs, implies_true, Qt, Qu, Qv, Qw, Qx, Qy, Qz, QA, QB, QC, QD, QE, QF, QG, QH, QI, QJ, QK, QL, QM, QN, QO, QP, QQ]
                rw [hr]; rfl
              · rw [if_pos (by simp; omega)] at hr
                simp (config := { maxSteps := 1000000 }) (disch := ((try simp only [awL]); omega)) only [QR, QS, QT, QU, QV, QW, QX, QY, QZ, Q0, Q1, Q2, yl, cu, ↓awU, awV, awF, Qa, Qb, Qc, Qd, forall_const, ↓reduceIte, ↓reduceDIte, ↓Qe, Qf, Qg, Qh, Qi, Qj, Qk, Ql, Qm, Qn, Qo, Qp, Qq, Qr, Qs, implies_true, Qt, Qu, Qv, Qw, Qx, Qy, Qz, QA, QB, QC, QD, QE, QF, QG, QH, QI, QJ, QK, QL, QM, QN, QO, QP, QQ]
                rw [hr]; rfl
end Go.Proofs.YtacepalmphbnfaaGreatDoor

namespace Go.Proofs.YtacepalmphbnfaaGreatDoor
open Go Go.Proofs Go.Abs
variable {G : Globals}
/-! The layout with a text: what is parsed. -/
end Go.Proofs.YtacepalmphbnfaaGreatDoor

namespace Go.Proofs.YtacepalmphbnfaaGreatDoor
open Go Go.Proofs Go.Abs
variable {G : Globals}
/-! The layout with a text: fixed.Layout. -/
end Go.Proofs.YtacepalmphbnfaaGreatDoor

namespace Go.Proofs.YtacepalmphbnfaaGreatDoor
open Go Go.Proofs Go.Abs
variable {G : Globals}
/-! The layout with a text: the reference's Layout. -/
end Go.Proofs.YtacepalmphbnfaaGreatDoor

namespace Go.Proofs.YtacepalmphbnfaaGreatDoor
open Go Go.Proofs Go.Abs
variable {G : Globals}
/-! The dice's layouts and grids. -/
def layGo (t : List Int) : Nat → List Nat → Nat → List Nat × Nat
  | 0, l, k => (l, k)
  | n + 1, l, k => layGo t n (l ++ [l.getD (l.length - 1) 0 + 1 + (pk t k 12).toNat]) (k + 1)
def layM (t : List Int) (k : Nat) : List Nat := (layGo t (pk t k 4).toNat [0] (k + 1)).1
def layK (t : List Int) (k : Nat) : Nat := (layGo t (pk t k 4).toNat [0] (k + 1)).2
def asI (l : List Nat) : List Int := l.map fun n : Nat => (n : Int)
theorem ints_asI {l : List Nat} : ints .i64 (asI l) = nats .i64 l := by simp [ints, nats, asI]
/-- Ascending places, each at most a thousand. -/
def LayI (l : List Nat) : Prop := l ≠ [] ∧ l.getD 0 0 = 0 ∧ l.length ≤ 4 ∧ (∀ i, i < l.length → l.getD i 0 ≤ 12 * i) ∧ ∀ i, i + 1 < l.length → l.getD i 0 < l.getD (i + 1) 0
theorem LayI.step {l : List Nat} (h : LayI l) (hl : l.length < 4) {c : Nat} (hc : c < 12) : LayI (l ++ [l.getD (l.length - 1) 0 + 1 + c]) := by
  obtain ⟨h1, h2, h3, h4, h5⟩ := h
  have lp : 0 < l.length := List.length_pos_iff.2 h1
  have old : ∀ i, i < l.length → (l ++ [l.getD (l.length - 1) 0 + 1 + c]).getD i 0 = l.getD i 0 := fun i hi => by
    rw [List.getD_eq_getElem?_getD, List.getElem?_append_left hi, ← List.getD_eq_getElem?_getD]
  have new : (l ++ [l.getD (l.length - 1) 0 + 1 + c]).getD l.length 0 = l.getD (l.length - 1) 0 + 1 + c := by
    rw [List.getD_eq_getElem?_getD, List.getElem?_append_right (Nat.le_refl _), Nat.sub_self]; rfl
  refine ⟨by simp, by rw [old 0 lp, h2], by rw [List.length_append, List.length_singleton]; omega, fun i hi => ?_, fun i hi => ?_⟩
  · rw [List.length_append, List.length_singleton] at hi
    rcases Nat.lt_or_ge i l.length with h | h
    · rw [old i h]; exact h4 i h
    · obtain rfl : i = l.length := by omega
      rw [new]
      have := h4 (l.length - 1) (by omega)
      omega
  · rw [List.length_append, List.length_singleton] at hi
    rcases Nat.lt_or_ge (i + 1) l.length with h | h
    · rw [old i (by omega), old (i + 1) h]; exact h5 i h
    · have e : i + 1 = l.length := by omega
      rw [e, new, old i (by omega)]
      have : i = l.length - 1 := by omega
      rw [this]; omega
theorem layGo_ok (t : List Int) : ∀ (n : Nat) (l : List Nat) (k : Nat), LayI l → l.length + n ≤ 4 → LayI (layGo t n l k).1
  | 0, l, k, h, _ => h
  | n + 1, l, k, h, hn => by
    obtain ⟨c, hc, hc2⟩ := pk_nat t k 12 (by decide)
    rw [layGo, hc, Int.toNat_natCast]
    exact layGo_ok t n _ _ (h.step (by omega) (by omega)) (by rw [List.length_append, List.length_singleton]; omega)
theorem layI_zero : LayI [0] := ⟨by simp, rfl, by simp, fun i hi => by simp at hi; subst hi; simp, fun i hi => by simp at hi⟩
theorem layM_ok (t : List Int) (k : Nat) : LayI (layM t k) := by
  obtain ⟨c, hc, hc2⟩ := pk_nat t k 4 (by decide)
  unfold layM
  rw [hc, Int.toNat_natCast]
  exact layGo_ok t c _ _ layI_zero (by simp only [List.length_singleton]; omega)
theorem LayI.lay {l : List Nat} (h : LayI l) : Lay l := by
  obtain ⟨h1, h2, h3, h4, h5⟩ := h
  exact ⟨by omega, fun i hi => by have := h4 i hi; omega, fun i hi => Nat.le_of_lt (h5 i hi)⟩
theorem asI_getD {l : List Nat} {i : Nat} : (asI l).getD i 0 = ((l.getD i 0 : Nat) : Int) := by
  simp only [asI, List.getD_eq_getElem?_getD, List.getElem?_map]
  cases l[i]? <;> rfl
theorem LayI.okLay {l : List Nat} (h : LayI l) : okLay (asI l) = true := by
  obtain ⟨h1, h2, h3, h4, h5⟩ := h
  have hl : (asI l).length = l.length := by simp [asI]
  have key : ∀ n i, (asI l).length - i = n → 1 ≤ i → ascF (asI l) i = true := by
    intro n
    induction n with
    | zero => intro i hn _; exact ascF_end (by omega)
    | succ n ih =>
      intro i hn hi
      rw [ascF_more (by omega), ih (i + 1) (by omega) (by omega), Bool.and_true, asI_getD, asI_getD]
      have a := h4 i (by omega)
      have b := h5 (i - 1) (by omega)
      rw [show i - 1 + 1 = i by omega] at b
      exact decide_eq_true ⟨by omega, by omega⟩
  unfold Go.Proofs.YtacepalmphbnfaaGreatDoor.okLay
  rw [key _ 1 rfl (Nat.le_refl _), Bool.and_true, hl, asI_getD, h2]
  have := List.length_pos_iff.2 h1
  exact decide_eq_true ⟨by omega, by omega, rfl⟩
set_option maxHeartbeats 8000000 in
set_option maxRecDepth 100000 in
theorem layout_spec (t : List Int) (k : Nat) (ht : OkM t) : Ctr Tryz.prog G 13 [.ptr 0 0] [DiceM t k] (.d (IsF (asI (layM t k)) false)) [DiceM t (layK t k)] := by
  obtain ⟨r, hr⟩ : ∃ r, r = layM t k := ⟨_, rfl⟩
  obtain ⟨k2, hk⟩ : ∃ k2, k2 = layK t k := ⟨_, rfl⟩
  rw [← hr, ← hk]
  unfold layM at hr
  unfold layK at hk
  refine Ctr.body (M := M0) hmix Tryz.func13 rfl go13 ?_
  obtain ⟨m, hm, hm2⟩ := pk_nat t k 4 (by decide)
  rw [hm, Int.toNat_natCast] at hr hk
  simp (config := { maxSteps := 1000000 }) (disch := ((try simp only [awL]); omega)) only [QR, QS, QT, QU, QV, QW, QX, QY, QZ, Q0, Q1, Q2, Tryz.f13, ↓awU, awV, awF, Qa, Qb, Qc, Qd, forall_const, ↓reduceIte, ↓reduceDIte, ↓Qe, Qf, Qg, Qh, Qi, Qj, Qk, Ql, Qm, Qn, Qo, Qp, Qq, Qr, Qs, implies_true, Qt, Qu, Qv, Qw, Qx, Qy, Qz, QA, QB, QC, QD, QE, QF, QG, QH, QI, QJ, QK, QL, QM, QN, QO, QP, QQ]
  refine CallC.by (pick_spec t k 4 ht (by decide) (by decide)) (by rfl) (by rfl) (Nat.le_refl _) ?_
  rw [hm]
  simp (config := { maxSteps := 1000000 }) (disch := ((try simp only [awL]); omega)) only [QR, QS, QT, QU, QV, QW, QX, QY, QZ, Q0, Q1, Q2, ↓awU, awV, awF, Qa, Qb, Qc, Qd, forall_const, ↓reduceIte, ↓reduceDIte, ↓Qe, Qf, Qg, Qh, Qi, Qj, Qk, Ql, Qm, Qn, Qo, Qp, Qq, Qr, Qs, implies_true, Qt, Qu, Qv, Qw, Qx, Qy, Qz, QA, QB, QC, QD, QE, QF, QG, QH, QI, QJ, QK, QL, QM, QN, QO, QP, QQ]
  refine LoopC.fr 1 (α := Nat × List Nat × Nat) (fun x => x.1) (fun x => [(3, .lsl 1 1 0 x.2.1.length), (4, .d (.int .i64 x.1))]) (fun x => [DiceM t x.2.2, .row false (nats .i64 x.2.1)])
    (fun x => LayI x.2.1 ∧ x.2.1.length + x.1 ≤ 4 ∧ r = (layGo t x.1 x.2.1 x.2.2).1 ∧ k2 = (layGo t x.1 x.2.1 x.2.2).2) (m, [0], k + 1) ⟨layI_zero, by simp only [List.length_singleton]; omega, hr, hk⟩ ?_ ?_
  · exact ⟨[some 0, some 1], rfl, by simp, by simp [setsA, keepA, SWeak, AWeak], by simp [HWeak, BWeak, SWeak, AWeak, nats]⟩
  · rintro ⟨n, l, k1⟩ ⟨h1, h2, h3, h4⟩
    simp only at h1 h2 h3 h4
    have al := @nats_length .i64 l
    have lp : 0 < l.length := List.length_pos_iff.2 h1.1
    simp only [awK, Nat.reduceMod, Nat.reduceDiv, reduceIte]
    match n with
    | 0 =>
      simp only [layGo] at h3 h4
      subst h3 h4
      have cu : cut (nats .i64 r) 0 r.length = nats .i64 r := cut_all al.symm
      have e : IsF (asI r) false = Ns r false := by unfold IsF Ns; rw [ints_asI, show (asI r).length = r.length by simp [asI]]
      rw [e]
      simp (config := { maxSteps := 1000000 }) (disch := ((try simp only [awL]); omega)) only [QR, QS, QT, QU, QV, QW, QX, QY, QZ, Q0, Q1, Q2, ↓awU, awV, awF, Qa, Qb, Qc, Qd, forall_const, ↓reduceIte, ↓reduceDIte, ↓Qe, Qf, Qg, Qh, Qi, Qj, Qk, Ql, Qm, Qn, Qo, Qp, Qq, Qr, Qs, implies_true, Qt, Qu, Qv, Qw, Qx, Qy, Qz, QA, QB, QC, QD, QE, QF, QG, QH, QI, QJ, QK, QL, QM, QN, QO, QP, QQ]
      refine ⟨[some 0], rfl, by simp, by simp [HWeak, BWeak, SWeak, AWeak], .inr ⟨_, rfl, ?_, rfl⟩⟩
      simp (config := { maxSteps := 1000000 }) (disch := ((try simp only [awL]); omega)) only [QR, QS, QT, QU, QV, QW, QX, QY, QZ, Q0, Q1, Q2, cu, ↓awU, awV, awF, Qa, Qb, Qc, Qd, forall_const, ↓reduceIte, ↓reduceDIte, ↓Qe, Qf, Qg, Qh, Qi, Qj, Qk, Ql, Qm, Qn, Qo, Qp, Qq, Qr, Qs, implies_true, Qt, Qu, Qv, Qw, Qx, Qy, Qz, QA, QB, QC, QD, QE, QF, QG, QH, QI, QJ, QK, QL, QM, QN, QO, QP, QQ]
      try rfl
    | n + 1 =>
      obtain ⟨q, hq, hq2⟩ := pk_nat t k1 12 (by omega)
      simp only [layGo, hq, Int.toNat_natCast] at h3 h4
      have st := h1.step (by omega) (show q < 12 by omega)
      have g0 := nats_getD (k := .i64) (d := .nilp) (l := l) (i := l.length - 1) (by omega)
      have eb := h1.2.2.2.1 (l.length - 1) (by omega)
      have ei : ((l.length : Nat) : Int) - 1 = ((l.length - 1 : Nat) : Int) := by omega
      generalize l.getD (l.length - 1) 0 = c at *
      have sp : nats .i64 l ++ [D.int .i64 ((c : Int) + 1 + (q : Int))] = nats .i64 (l ++ [c + 1 + q]) := by simp [nats]
      have tl : (l ++ [c + 1 + q]).length = l.length + 1 := by simp
      generalize hl2 : l ++ [c + 1 + q] = l2 at *
      simp (config := { maxSteps := 1000000 }) (disch := ((try simp only [awL]); omega)) only [QR, QS, QT, QU, QV, QW, QX, QY, QZ, Q0, Q1, Q2, al, ei, g0, ↓awU, awV, awF, Qa, Qb, Qc, Qd, forall_const, ↓reduceIte, ↓reduceDIte, ↓Qe, Qf, Qg, Qh, Qi, Qj, Qk, Ql, Qm, Qn, Qo, Qp, Qq, Qr, Qs, implies_true, Qt, Qu, Qv, Qw, Qx, Qy, Qz, QA, QB, QC, QD, QE, QF, QG, QH, QI, QJ, QK, QL, QM, QN, QO, QP, QQ]
      refine CallC.by (pick_spec t k1 12 ht (by omega) (by omega)) (by rfl) (by rfl) (Nat.le_refl _) ?_
      rw [hq]
      simp (config := { maxSteps := 1000000 }) (disch := ((try simp only [awL]); omega)) only [QR, QS, QT, QU, QV, QW, QX, QY, QZ, Q0, Q1, Q2, al, sp, ↓awU, awV, awF, Qa, Qb, Qc, Qd, forall_const, ↓reduceIte, ↓reduceDIte, ↓Qe, Qf, Qg, Qh, Qi, Qj, Qk, Ql, Qm, Qn, Qo, Qp, Qq, Qr, Qs, implies_true, Qt, Qu, Qv, Qw, Qx, Qy, Qz, QA, QB, QC, QD, QE, QF, QG, QH, QI, QJ, QK, QL, QM, QN, QO, QP, QQ]
      refine ⟨by rfl, ?_⟩
      exact ⟨(n, l2, k1 + 1), ⟨st, by simp only; omega, h3, h4⟩, by simp only; omega, ⟨[some 0, some 3], rfl, by simp, by simp [setsA, keepA, SWeak, AWeak, tl], by simp [HWeak, BWeak, SWeak, AWeak, hl2]⟩⟩
end Go.Proofs.YtacepalmphbnfaaGreatDoor

namespace Go.Proofs.YtacepalmphbnfaaGreatDoor
open Go Go.Proofs Go.Abs
/-! What the dice make is valid and short. -/
theorem valid_ascii : ∀ s : List UInt8, (∀ c ∈ s, c.toNat < 128) → Lib.validD s = true
  | [], _ => rfl
  | c :: r, h => by rw [Lib.validD_cons _ _ (h c (by simp))]; exact valid_ascii r fun x hx => h x (by simp [hx])
def asciiL (s : List UInt8) : Prop := ∀ c ∈ s, c.toNat < 128
theorem ascii_app {a b : List UInt8} (ha : asciiL a) (hb : asciiL b) : asciiL (a ++ b) := fun c hc => by
  rcases List.mem_append.1 hc with h | h
  · exact ha c h
  · exact hb c h
theorem get_all {P : List UInt8 → Prop} {l : List (List UInt8)} (h0 : P []) (h : ∀ s ∈ l, P s) (i : Nat) : P (l.getD i []) := by
  rcases Nat.lt_or_ge i l.length with h1 | h1
  · exact h _ (memD h1)
  · rw [List.getD_eq_getElem?_getD, List.getElem?_eq_none h1]; exact h0
theorem ascii_nil : asciiL [] := fun c h => by cases h
theorem ascii_cons {c : UInt8} {r : List UInt8} (hc : c.toNat < 128) (hr : asciiL r) : asciiL (c :: r) := fun x hx => by
  rcases List.mem_cons.1 hx with rfl | h
  · exact hc
  · exact hr x h
theorem ascii_itoa {n : Nat} (h : n < 100) : asciiL (itoaL n) := by
  unfold itoaL
  split
  · intro c hc; rw [List.mem_singleton.1 hc]; simp; omega
  · intro c hc
    rcases List.mem_cons.1 hc with rfl | hc
    · simp; omega
    · rw [List.mem_singleton.1 hc]; simp; omega
theorem ascii_num (t : List Int) (k : Nat) : asciiL (numM t k) := by
  have h1 : asciiL (num1 t k) := by
    obtain ⟨b, hb, hb2⟩ := pk_nat t (k + 1) 40 (by decide)
    unfold num1
    rw [hb]
    exact ascii_app (get_all ascii_nil (by unfold asciiL; decide) _) (ascii_itoa (by simp; omega))
  have h2 : asciiL (num2 t k) := by
    unfold num2
    split
    · split
      · exact h1
      · exact ascii_cons (by decide) h1
    · exact h1
  unfold numM
  split
  · exact ascii_app h2 (ascii_cons (by decide) (get_all ascii_nil (by unfold asciiL; decide) _))
  · exact h2
theorem ascii_date (t : List Int) (k : Nat) : asciiL (dateM t k) ∧ (dateM t k).length ≤ 10 := by
  have a1 : asciiL (yearsL.getD (pk t k 6).toNat []) := get_all ascii_nil (by unfold asciiL; decide) _
  have a2 : asciiL (monthsL.getD (pk t (k + 1) 5).toNat []) := get_all ascii_nil (by unfold asciiL; decide) _
  have a3 : asciiL (daysL.getD (pk t (k + 2) 5).toNat []) := get_all ascii_nil (by unfold asciiL; decide) _
  have l1 := get_len (l := yearsL) (m := 4) (by decide) (pk t k 6).toNat
  have l2 := get_len (l := monthsL) (m := 2) (by decide) (pk t (k + 1) 5).toNat
  have l3 := get_len (l := daysL) (m := 2) (by decide) (pk t (k + 2) 5).toNat
  have one : ∀ n : UInt8, n.toNat < 128 → asciiL [n] := fun n h => ascii_cons h ascii_nil
  unfold dateM
  simp only
  split
  · exact ⟨ascii_app (ascii_app (ascii_app (ascii_app a1 (one _ (by decide))) a2) (one _ (by decide))) a3, by simp only [List.length_append, List.length_cons, List.length_nil]; omega⟩
  · split
    · exact ⟨ascii_app (ascii_app (ascii_app (ascii_app a1 (one _ (by decide))) a2) (one _ (by decide))) a3, by simp only [List.length_append, List.length_cons, List.length_nil]; omega⟩
    · exact ⟨ascii_app (ascii_app (ascii_app (ascii_app a3 (one _ (by decide))) a2) (one _ (by decide))) a1, by simp only [List.length_append, List.length_cons, List.length_nil]; omega⟩
def okT (s : List UInt8) : Prop := Lib.validD s = true ∧ s.length ≤ 30
instance (s : List UInt8) : Decidable (okT s) := by unfold okT; exact inferInstance
theorem okT_nil : okT [] := by decide
set_option maxRecDepth 100000 in
theorem okT_words : ∀ s ∈ wordsL, okT s := by decide
set_option maxRecDepth 100000 in
theorem okT_bools : ∀ s ∈ boolsL, okT s := by decide
set_option maxRecDepth 100000 in
theorem okT_nulls : ∀ s ∈ nullsL, okT s := by decide
set_option maxRecDepth 100000 in
theorem okT_odds : ∀ s ∈ oddsL, okT s := by decide
theorem fieldM_ok (t : List Int) (k c : Nat) : okT (fieldM t k c) := by
  unfold fieldM
  repeat' split
  · exact get_all okT_nil okT_words _
  · exact ⟨valid_ascii _ (ascii_num t k), by have := (numM_len t k).2; omega⟩
  · exact ⟨valid_ascii _ (ascii_date t k).1, by have := (ascii_date t k).2; omega⟩
  · exact get_all okT_nil okT_bools _
  · have := (numM_len t k).2
    have l2 := get_len (l := unitsL) (m := 4) (by decide) (pk t (numK t k) 7).toNat
    exact ⟨valid_ascii _ (ascii_app (ascii_num t k) (get_all ascii_nil (by unfold asciiL; decide) _)), by rw [List.length_append]; omega⟩
  · exact get_all okT_nil okT_nulls _
  · exact get_all okT_nil okT_odds _
/-- A grid of the dice. -/
structure OddG (g : List Row) (m n : Nat) : Prop where
  len : g.length ≤ m
  row : ∀ r ∈ g, r ≠ [] ∧ r.length ≤ n
  txt : ∀ r ∈ g, ∀ s ∈ r, okT s
theorem OddG.grid {g : List Row} {m n : Nat} (h : OddG g m n) (hm : m ≤ 1000) (hn : n ≤ 1000) : okGrid g :=
  ⟨by have := h.len; omega, fun r hr => ⟨by have := (h.row r hr).2; omega, fun s hs => by have := (h.txt r hr s hs).2; omega⟩⟩
theorem OddG.bad {g : List Row} {m n : Nat} (h : OddG g m n) : g.any badR = false := by
  rw [List.any_eq_false]
  intro r hr
  have : badR r = false := by
    unfold badR
    rw [Bool.or_eq_false_iff]
    refine ⟨decide_eq_false fun e => (h.row r hr).1 (List.eq_nil_of_length_eq_zero e), List.any_eq_false.2 fun s hs => ?_⟩
    unfold badF
    rw [(h.txt r hr s hs).1]; decide
  rw [this]; decide
end Go.Proofs.YtacepalmphbnfaaGreatDoor

namespace Go.Proofs.YtacepalmphbnfaaGreatDoor
open Go Go.Proofs Go.Abs
variable {G : Globals}
/-! The dice's grids for a layout. -/
def OkS (t : List Int) : Prop := ∀ i, 0 ≤ t.getD i 0 ∧ t.getD i 0 ≤ 255
theorem OkS.take {t : List Int} (h : OkS t) : OkM (t.take 300) := by
  refine ⟨by rw [List.length_take]; omega, fun i => ?_⟩
  rcases Nat.lt_or_ge i 300 with h1 | h1
  · have := h i
    rw [List.getD_eq_getElem?_getD, List.getElem?_take, if_pos h1, ← List.getD_eq_getElem?_getD]
    exact this
  · rw [List.getD_eq_getElem?_getD, List.getElem?_take, if_neg (by omega)]; decide
/-- Whether a text has a control sign. -/
def lowS (s : List UInt8) (p : Nat) : Bool := (rnF s p).any fun r => decide (r < 32)
theorem lowS_more {s : List UInt8} {p : Nat} (h : p < s.length) : lowS s p = (decide ((dec s p).1 < 32) || lowS s (p + (dec s p).2)) := by rw [lowS, rnF_more h, List.any_cons]; rfl
theorem lowS_end {s : List UInt8} {p : Nat} (h : ¬ p < s.length) : lowS s p = false := by rw [lowS, rnF_end h]; rfl
/-- The code points that have room. -/
def runF (ly : List Nat) (i : Nat) (s : List UInt8) : List Nat :=
  if i + 1 < ly.length ∧ ly.getD (i + 1) 0 - ly.getD i 0 < (rnF (Lib.trimB s 32) 0).length then (rnF (Lib.trimB s 32) 0).take (ly.getD (i + 1) 0 - ly.getD i 0) else rnF (Lib.trimB s 32) 0
def fitX (ly : List Nat) (i : Nat) (s : List UInt8) : List UInt8 := if lowS (Lib.trimB (encL (runF ly i s)) 32) 0 = true then [] else Lib.trimB (encL (runF ly i s)) 32
def gFld (ly : List Nat) (fit : Bool) (i : Nat) (s : List UInt8) : List UInt8 := if fit = true then fitX ly i s else s
def gRow (t : List Int) (ly : List Nat) (fit : Bool) : Nat → Nat → Nat → Row × Nat
  | 0, _, k => ([], k)
  | m + 1, i, k => (gFld ly fit i (fieldM t (k + 1) (pk t k 7).toNat) :: (gRow t ly fit m (i + 1) (fieldK t (k + 1) (pk t k 7).toNat)).1, (gRow t ly fit m (i + 1) (fieldK t (k + 1) (pk t k 7).toNat)).2)
def gRows (t : List Int) (ly : List Nat) (fit : Bool) : Nat → Nat → List Row × Nat
  | 0, k => ([], k)
  | m + 1, k => ((gRow t ly fit ly.length 0 k).1 :: (gRows t ly fit m (gRow t ly fit ly.length 0 k).2).1, (gRows t ly fit m (gRow t ly fit ly.length 0 k).2).2)
def gridM (t : List Int) (ly : List Nat) (fit : Bool) (k : Nat) : List Row := (gRows t ly fit (pk t k 6).toNat (k + 1)).1
def gridK (t : List Int) (ly : List Nat) (fit : Bool) (k : Nat) : Nat := (gRows t ly fit (pk t k 6).toNat (k + 1)).2
set_option maxHeartbeats 16000000 in
set_option maxRecDepth 100000 in
theorem grid_spec (t : List Int) (k : Nat) (ly : List Nat) (lf fit : Bool) (ht : OkM t) (hly : LayI ly) :
    Ctr Tryz.prog G 15 [.ptr 0 0, .d (Ns ly lf), .d (.bool fit)] [DiceM t k] (.d (.agg [Gr (gridM t ly fit k) false])) [DiceM t (gridK t ly fit k)] := by
  obtain ⟨r, hr⟩ : ∃ r, r = gridM t ly fit k := ⟨_, rfl⟩
  obtain ⟨k2, hk⟩ : ∃ k2, k2 = gridK t ly fit k := ⟨_, rfl⟩
  rw [← hr, ← hk]
  unfold gridM at hr
  unfold gridK at hk
  refine Ctr.body (M := M0) hmix Tryz.func15 rfl go15 ?_
  obtain ⟨m, hm, hm2⟩ := pk_nat t k 6 (by decide)
  rw [hm, Int.toNat_natCast] at hr hk
  have nl := @nats_length .i64 ly
  have hl4 := hly.2.2.1
  simp (config := { maxSteps := 1000000 }) (disch := ((try simp only [awL]); omega)) only [QR, QS, QT, QU, QV, QW, QX, QY, QZ, Q0, Q1, Q2, Tryz.f15, ↓awU, awV, awF, Qa, Qb, Qc, Qd, forall_const, ↓reduceIte, ↓reduceDIte, ↓Qe, Qf, Qg, Qh, Qi, Qj, Qk, Ql, Qm, Qn, Qo, Qp, Qq, Qr, Qs, implies_true, Qt, Qu, Qv, Qw, Qx, Qy, Qz, QA, QB, QC, QD, QE, QF, QG, QH, QI, QJ, QK, QL, QM, QN, QO, QP, QQ]
  refine CallC.by (pick_spec t k 6 ht (by decide) (by decide)) (by rfl) (by rfl) (Nat.le_refl _) ?_
  rw [hm]
  simp (config := { maxSteps := 1000000 }) (disch := ((try simp only [awL]); omega)) only [QR, QS, QT, QU, QV, QW, QX, QY, QZ, Q0, Q1, Q2, ↓awU, awV, awF, Qa, Qb, Qc, Qd, forall_const, ↓reduceIte, ↓reduceDIte, ↓Qe, Qf, Qg, Qh, Qi, Qj, Qk, Ql, Qm, Qn, Qo, Qp, Qq, Qr, Qs, implies_true, Qt, Qu, Qv, Qw, Qx, Qy, Qz, QA, QB, QC, QD, QE, QF, QG, QH, QI, QJ, QK, QL, QM, QN, QO, QP, QQ]
  refine LoopC.fr 199 (α := List Row × Nat × Nat) (fun x => x.2.1) (fun x => [(8, .d (.int .i64 x.2.1))]) (fun x => [DiceM t x.2.2, .box [.d (.sl 0 true [])], .box [.lsl 3 1 0 x.1.length], .row false (rowsD x.1)])
    (fun x => x.1.length + x.2.1 ≤ 500 ∧ r = x.1 ++ (gRows t ly fit x.2.1 x.2.2).1 ∧ k2 = (gRows t ly fit x.2.1 x.2.2).2) ([], m, k + 1) ⟨by simp only [List.length_nil]; omega, hr, hk⟩ ?_ ?_
  · exact ⟨[some 0, some 1, some 2, none], rfl, by simp, by simp [setsA, keepA, SWeak, AWeak], by simp [HWeak, BWeak, SWeak, AWeak, rowsD]⟩
  · rintro ⟨acc, n, k1⟩ ⟨h1, h2, h3⟩
    simp only at h1 h2 h3
    have al := @rowsD_length acc
    simp only [awK, Nat.reduceMod, Nat.reduceDiv, reduceIte]
    match n with
    | 0 =>
      simp only [gRows, List.append_nil] at h2 h3
      subst h2 h3
      have cu : cut (rowsD r) 0 r.length = rowsD r := cut_all al.symm
      simp (config := { maxSteps := 1000000 }) (disch := ((try simp only [awL]); omega)) only [QR, QS, QT, QU, QV, QW, QX, QY, QZ, Q0, Q1, Q2, ↓awU, awV, awF, Qa, Qb, Qc, Qd, forall_const, ↓reduceIte, ↓reduceDIte, ↓Qe, Qf, Qg, Qh, Qi, Qj, Qk, Ql, Qm, Qn, Qo, Qp, Qq, Qr, Qs, implies_true, Qt, Qu, Qv, Qw, Qx, Qy, Qz, QA, QB, QC, QD, QE, QF, QG, QH, QI, QJ, QK, QL, QM, QN, QO, QP, QQ]
      refine ⟨[some 0], rfl, by simp, by simp [HWeak, BWeak, SWeak, AWeak], .inr ⟨_, rfl, ?_, rfl⟩⟩
      simp (config := { maxSteps := 1000000 }) (disch := ((try simp only [awL]); omega)) only [QR, QS, QT, QU, QV, QW, QX, QY, QZ, Q0, Q1, Q2, cu, rowsD_unf, ↓awU, awV, awF, Qa, Qb, Qc, Qd, forall_const, ↓reduceIte, ↓reduceDIte, ↓Qe, Qf, Qg, Qh, Qi, Qj, Qk, Ql, Qm, Qn, Qo, Qp, Qq, Qr, Qs, implies_true, Qt, Qu, Qv, Qw, Qx, Qy, Qz, QA, QB, QC, QD, QE, QF, QG, QH, QI, QJ, QK, QL, QM, QN, QO, QP, QQ]
      try rfl
    | n + 1 =>
      simp only [gRows] at h2 h3
      simp (config := { maxSteps := 1000000 }) (disch := ((try simp only [awL]); omega)) only [QR, QS, QT, QU, QV, QW, QX, QY, QZ, Q0, Q1, Q2, Ns, nl, ↓awU, awV, awF, Qa, Qb, Qc, Qd, forall_const, ↓reduceIte, ↓reduceDIte, ↓Qe, Qf, Qg, Qh, Qi, Qj, Qk, Ql, Qm, Qn, Qo, Qp, Qq, Qr, Qs, implies_true, Qt, Qu, Qv, Qw, Qx, Qy, Qz, QA, QB, QC, QD, QE, QF, QG, QH, QI, QJ, QK, QL, QM, QN, QO, QP, QQ]
      obtain ⟨row0, hrow⟩ : ∃ x, x = gRow t ly fit ly.length 0 k1 := ⟨_, rfl⟩
      rw [← hrow] at h2 h3
      refine LoopC.fr 4194759 (α := Row × Nat × Nat) (fun x => ly.length - x.2.1) (fun x => [(9, .lsl 4 1 0 x.1.length), (23, .d (.int .i64 x.2.1))]) (fun x => [DiceM t x.2.2, .box [.d (.sl 0 true [])], .box [.lsl 3 1 0 acc.length], .row false (rowsD acc), .row false (strs x.1)])
        (fun x => x.2.1 ≤ ly.length ∧ x.1.length = x.2.1 ∧ row0 = (x.1 ++ (gRow t ly fit (ly.length - x.2.1) x.2.1 x.2.2).1, (gRow t ly fit (ly.length - x.2.1) x.2.1 x.2.2).2)) ([], 0, k1) ⟨Nat.zero_le _, rfl, hrow⟩ ?_ ?_
      · exact ⟨[some 0, some 1, some 2, some 3, none], rfl, by simp, by simp [setsA, keepA, SWeak, AWeak], by simp [HWeak, BWeak, SWeak, AWeak, strs]⟩
      · rintro ⟨ro, i, k3⟩ ⟨j0, j1, j2⟩
        simp only at j0 j1 j2
        have sl := @strs_length ro
        simp only [awK, Nat.reduceMod, Nat.reduceDiv, reduceIte]
        rcases Nat.lt_or_ge i ly.length with h | h
        · obtain ⟨c, hc1, hc2⟩ := pk_nat t k3 7 (by omega)
          rw [show ly.length - i = (ly.length - (i + 1)) + 1 by omega] at j2
          simp only [gRow, hc1, Int.toNat_natCast] at j2
          have hfl := (fieldM_ok t (k3 + 1) c).2
          simp (config := { maxSteps := 1000000 }) (disch := ((try simp only [awL]); omega)) only [QR, QS, QT, QU, QV, QW, QX, QY, QZ, Q0, Q1, Q2, ↓awU, awV, awF, Qa, Qb, Qc, Qd, forall_const, ↓reduceIte, ↓reduceDIte, ↓Qe, Qf, Qg, Qh, Qi, Qj, Qk, Ql, Qm, Qn, Qo, Qp, Qq, Qr, Qs, implies_true, Qt, Qu, Qv, Qw, Qx, Qy, Qz, QA, QB, QC, QD, QE, QF, QG, QH, QI, QJ, QK, QL, QM, QN, QO, QP, QQ]
          refine CallC.by (pick_spec t k3 7 ht (by omega) (by omega)) (by rfl) (by rfl) (Nat.le_refl _) ?_
          rw [hc1]
          simp (config := { maxSteps := 1000000 }) (disch := ((try simp only [awL]); omega)) only [QR, QS, QT, QU, QV, QW, QX, QY, QZ, Q0, Q1, Q2, ↓awU, awV, awF, Qa, Qb, Qc, Qd, forall_const, ↓reduceIte, ↓reduceDIte, ↓Qe, Qf, Qg, Qh, Qi, Qj, Qk, Ql, Qm, Qn, Qo, Qp, Qq, Qr, Qs, implies_true, Qt, Qu, Qv, Qw, Qx, Qy, Qz, QA, QB, QC, QD, QE, QF, QG, QH, QI, QJ, QK, QL, QM, QN, QO, QP, QQ]
          refine CallC.by (field_mspec t (k3 + 1) c ht (by omega)) (by rfl) (by rfl) (Nat.le_refl _) ?_
          generalize fieldK t (k3 + 1) c = k4 at *
          generalize fieldM t (k3 + 1) c = fld at *
          cases fit
          · have sp := @strs_push ro fld
            have tl : (ro ++ [fld]).length = ro.length + 1 := by simp
            rw [show gFld ly false i fld = fld from rfl] at j2
            generalize hro : ro ++ [fld] = ro2 at *
            simp (config := { maxSteps := 1000000 }) (disch := ((try simp only [awL]); omega)) only [QR, QS, QT, QU, QV, QW, QX, QY, QZ, Q0, Q1, Q2, sl, sp, ↓awU, awV, awF, Qa, Qb, Qc, Qd, forall_const, ↓reduceIte, ↓reduceDIte, ↓Qe, Qf, Qg, Qh, Qi, Qj, Qk, Ql, Qm, Qn, Qo, Qp, Qq, Qr, Qs, implies_true, Qt, Qu, Qv, Qw, Qx, Qy, Qz, QA, QB, QC, QD, QE, QF, QG, QH, QI, QJ, QK, QL, QM, QN, QO, QP, QQ]
            refine ⟨(ro2, i + 1, k4), ⟨h, by simp only; omega, ?_⟩, by simp only; omega, ⟨[some 0, some 1, some 2, some 3, some 6], rfl, by simp, by simp [setsA, keepA, SWeak, AWeak, tl], by simp [HWeak, BWeak, SWeak, AWeak]⟩⟩
            rw [j2, ← hro]
            simp
          · rw [show gFld ly true i fld = fitX ly i fld from rfl] at j2
            unfold fitX at j2
            simp (config := { maxSteps := 1000000 }) (disch := ((try simp only [awL]); omega)) only [QR, QS, QT, QU, QV, QW, QX, QY, QZ, Q0, Q1, Q2, sl, ↓awU, awV, awF, Qa, Qb, Qc, Qd, forall_const, ↓reduceIte, ↓reduceDIte, ↓Qe, Qf, Qg, Qh, Qi, Qj, Qk, Ql, Qm, Qn, Qo, Qp, Qq, Qr, Qs, implies_true, Qt, Qu, Qv, Qw, Qx, Qy, Qz, QA, QB, QC, QD, QE, QF, QG, QH, QI, QJ, QK, QL, QM, QN, QO, QP, QQ]
            refine CallC.pure (rtrim_spec fld (by omega)) ?_
            have ts := trimB_len fld
            have rd := runesD_bs (Lib.trimB fld 32)
            have rs := runesS_bs (Lib.trimB fld 32)
            have rl := rcL_le (Lib.trimB fld 32)
            rw [rcL_eq] at rl
            unfold runF at j2
            generalize rnF (Lib.trimB fld 32) 0 = rr at *
            have rrl := @nats_length .i32 rr
            have rrb : runesBytes (rr.map fun (n : Nat) => (n : Int)) = bs (encL rr) := runesBytes_bs rr
            have cur : cut (nats .i32 rr) 0 rr.length = nats .i32 rr := cut_all rrl.symm
            rcases Nat.lt_or_ge (i + 1) ly.length with h7 | h7
            · have g0 := nats_getD (k := .i64) (d := .nilp) h
              have g1 := nats_getD (k := .i64) (d := .nilp) h7
              have b0 := hly.2.2.2.1 i h
              have b1 := hly.2.2.2.1 (i + 1) h7
              have b2 := hly.2.2.2.2 i h7
              generalize ly.getD i 0 = u0 at *
              generalize ly.getD (i + 1) 0 = u1 at *
              have eu : (u1 : Int) - (u0 : Int) = ((u1 - u0 : Nat) : Int) := by omega
              rcases Nat.lt_or_ge (u1 - u0) rr.length with h8 | h8
              · rw [if_pos (show i + 1 < ly.length ∧ u1 - u0 < rr.length from ⟨h7, h8⟩)] at j2
                have cut2 : cut (nats .i32 rr) 0 (u1 - u0) = nats .i32 (rr.take (u1 - u0)) := by simp [cut, nats, List.map_take]
                have rf2 := runesOf_nats (rr.take (u1 - u0))
                have rb2 := runesBytes_bs (rr.take (u1 - u0))
                have tkl : (rr.take (u1 - u0)).length = u1 - u0 := by rw [List.length_take]; omega
                simp (config := { maxSteps := 1000000 }) (disch := ((try simp only [awL]); omega)) only [QR, QS, QT, QU, QV, QW, QX, QY, QZ, Q0, Q1, Q2, Ns, nl, g0, g1, eu, rd, rs, rrl, cut2, rf2, rb2, ↓awU, awV, awF, Qa, Qb, Qc, Qd, forall_const, ↓reduceIte, ↓reduceDIte, ↓Qe, Qf, Qg, Qh, Qi, Qj, Qk, Ql, Qm, Qn, Qo, Qp, Qq, Qr, Qs, implies_true, Qt, Qu, Qv, Qw, Qx, Qy, Qz, QA, QB, QC, QD, QE, QF, QG, QH, QI, QJ, QK, QL, QM, QN, QO, QP, QQ]
                refine ⟨by rfl, by rfl, ?_⟩
                have el := encL_len (rr.take (u1 - u0))
                refine CallC.of (rtrim_spec (encL (rr.take (u1 - u0))) (by omega)) (by first | rfl | simp) ?_
                have tz := trimB_len (encL (rr.take (u1 - u0)))
                generalize Lib.trimB (encL (rr.take (u1 - u0))) 32 = z at *
                obtain ⟨y, hy⟩ : ∃ y, y = (if lowS z 0 = true then [] else z) := ⟨_, rfl⟩
                rw [← hy] at j2
                simp (config := { maxSteps := 1000000 }) (disch := ((try simp only [awL]); omega)) only [QR, QS, QT, QU, QV, QW, QX, QY, QZ, Q0, Q1, Q2, ↓awU, awV, awF, Qa, Qb, Qc, Qd, forall_const, ↓reduceIte, ↓reduceDIte, ↓Qe, Qf, Qg, Qh, Qi, Qj, Qk, Ql, Qm, Qn, Qo, Qp, Qq, Qr, Qs, implies_true, Qt, Qu, Qv, Qw, Qx, Qy, Qz, QA, QB, QC, QD, QE, QF, QG, QH, QI, QJ, QK, QL, QM, QN, QO, QP, QQ]
                refine LoopC.fx 2361183241434835190727 (α := Nat) (β := Unit) (fun p => z.length - p) (fun _ => [(11, .d (S z))]) (fun p => [DiceM t k4, .box [.d (.sl 0 true [])], .box [.lsl 3 1 0 acc.length], .row false (rowsD acc), .row false (strs ro), .dead, .iter (bs z) p]) (fun p => p ≤ z.length ∧ lowS z 0 = lowS z p) 12583879 (fun _ => [(11, .d (S y))]) (fun _ => [DiceM t k4, .box [.d (.sl 0 true [])], .box [.lsl 3 1 0 acc.length], .row false (rowsD acc), .row false (strs ro)]) (fun _ => True) 0 ⟨Nat.zero_le _, rfl⟩ ?_ ?_ ?_
                · exact ⟨[some 0, some 1, some 2, some 3, some 4, some 5, some 6], rfl, by simp, by simp [setsA, keepA, SWeak, AWeak], by simp [HWeak, BWeak, SWeak, AWeak]⟩
                · rintro p ⟨p1, p2⟩
                  simp only [awK, Nat.reduceMod, Nat.reduceDiv, reduceIte]
                  rcases Nat.lt_or_ge p z.length with hp | hp
                  · have hd := dec_end z p hp
                    rw [lowS_more hp] at p2
                    rcases Nat.lt_or_ge (dec z p).1 32 with hc | hc
                    · rw [decide_eq_true hc, Bool.true_or] at p2
                      rw [if_pos p2] at hy
                      subst hy
                      simp (config := { maxSteps := 1000000 }) (disch := ((try simp only [awL]); omega)) only [QR, QS, QT, QU, QV, QW, QX, QY, QZ, Q0, Q1, Q2, ↓awU, awV, awF, Qa, Qb, Qc, Qd, forall_const, ↓reduceIte, ↓reduceDIte, ↓Qe, Qf, Qg, Qh, Qi, Qj, Qk, Ql, Qm, Qn, Qo, Qp, Qq, Qr, Qs, implies_true, Qt, Qu, Qv, Qw, Qx, Qy, Qz, QA, QB, QC, QD, QE, QF, QG, QH, QI, QJ, QK, QL, QM, QN, QO, QP, QQ]
                      exact ⟨(), trivial, ⟨[some 0, some 1, some 2, some 3, some 4], rfl, by simp, by simp [setsA, keepA, SWeak, AWeak], by simp [HWeak, BWeak, SWeak, AWeak]⟩⟩
                    · rw [decide_eq_false (by omega), Bool.false_or] at p2
                      simp (config := { maxSteps := 1000000 }) (disch := ((try simp only [awL]); omega)) only [QR, QS, QT, QU, QV, QW, QX, QY, QZ, Q0, Q1, Q2, ↓awU, awV, awF, Qa, Qb, Qc, Qd, forall_const, ↓reduceIte, ↓reduceDIte, ↓Qe, Qf, Qg, Qh, Qi, Qj, Qk, Ql, Qm, Qn, Qo, Qp, Qq, Qr, Qs, implies_true, Qt, Qu, Qv, Qw, Qx, Qy, Qz, QA, QB, QC, QD, QE, QF, QG, QH, QI, QJ, QK, QL, QM, QN, QO, QP, QQ]
                      exact ⟨p + (dec z p).2, ⟨hd.2, p2⟩, by simp only; omega, ⟨[some 0, some 1, some 2, some 3, some 4, some 5, some 6], rfl, by simp, by simp [setsA, keepA, SWeak, AWeak], by simp [HWeak, BWeak, SWeak, AWeak]⟩⟩
                  · rw [lowS_end (p := p) (by omega)] at p2
                    rw [if_neg (by rw [p2]; decide)] at hy
                    subst hy
                    simp (config := { maxSteps := 1000000 }) (disch := ((try simp only [awL]); omega)) only [QR, QS, QT, QU, QV, QW, QX, QY, QZ, Q0, Q1, Q2, ↓awU, awV, awF, Qa, Qb, Qc, Qd, forall_const, ↓reduceIte, ↓reduceDIte, ↓Qe, Qf, Qg, Qh, Qi, Qj, Qk, Ql, Qm, Qn, Qo, Qp, Qq, Qr, Qs, implies_true, Qt, Qu, Qv, Qw, Qx, Qy, Qz, QA, QB, QC, QD, QE, QF, QG, QH, QI, QJ, QK, QL, QM, QN, QO, QP, QQ]
                    exact ⟨(), trivial, ⟨[some 0, some 1, some 2, some 3, some 4], rfl, by simp, by simp [setsA, keepA, SWeak, AWeak], by simp [HWeak, BWeak, SWeak, AWeak]⟩⟩
                · rintro ⟨⟩ -
                  have sp := @strs_push ro y
                  have tl : (ro ++ [y]).length = ro.length + 1 := by simp
                  generalize hro : ro ++ [y] = ro2 at *
                  simp only [awK, Nat.reduceMod, Nat.reduceDiv, reduceIte]
                  simp (config := { maxSteps := 1000000 }) (disch := ((try simp only [awL]); omega)) only [QR, QS, QT, QU, QV, QW, QX, QY, QZ, Q0, Q1, Q2, sl, sp, ↓awU, awV, awF, Qa, Qb, Qc, Qd, forall_const, ↓reduceIte, ↓reduceDIte, ↓Qe, Qf, Qg, Qh, Qi, Qj, Qk, Ql, Qm, Qn, Qo, Qp, Qq, Qr, Qs, implies_true, Qt, Qu, Qv, Qw, Qx, Qy, Qz, QA, QB, QC, QD, QE, QF, QG, QH, QI, QJ, QK, QL, QM, QN, QO, QP, QQ]
                  refine ⟨(ro2, i + 1, k4), ⟨h, by simp only; omega, ?_⟩, by simp only; omega, ⟨[some 0, some 1, some 2, some 3, some 6], rfl, by simp, by simp [setsA, keepA, SWeak, AWeak, tl], by simp [HWeak, BWeak, SWeak, AWeak]⟩⟩
                  rw [j2, ← hro]
                  simp
              · rw [if_neg (show ¬ (i + 1 < ly.length ∧ u1 - u0 < rr.length) by omega)] at j2
                have rf2 := runesOf_nats rr
                simp (config := { maxSteps := 1000000 }) (disch := ((try simp only [awL]); omega)) only [QR, QS, QT, QU, QV, QW, QX, QY, QZ, Q0, Q1, Q2, Ns, nl, g0, g1, eu, rd, rs, rrl, cur, rf2, rrb, ↓awU, awV, awF, Qa, Qb, Qc, Qd, forall_const, ↓reduceIte, ↓reduceDIte, ↓Qe, Qf, Qg, Qh, Qi, Qj, Qk, Ql, Qm, Qn, Qo, Qp, Qq, Qr, Qs, implies_true, Qt, Qu, Qv, Qw, Qx, Qy, Qz, QA, QB, QC, QD, QE, QF, QG, QH, QI, QJ, QK, QL, QM, QN, QO, QP, QQ]
                refine ⟨by rfl, ?_⟩
                have el := encL_len (rr)
                refine CallC.of (rtrim_spec (encL (rr)) (by omega)) (by first | rfl | simp) ?_
                have tz := trimB_len (encL (rr))
                generalize Lib.trimB (encL (rr)) 32 = z at *
                obtain ⟨y, hy⟩ : ∃ y, y = (if lowS z 0 = true then [] else z) := ⟨_, rfl⟩
                rw [← hy] at j2
                simp (config := { maxSteps := 1000000 }) (disch := ((try simp only [awL]); omega)) only [QR, QS, QT, QU, QV, QW, QX, QY, QZ, Q0, Q1, Q2, ↓awU, awV, awF, Qa, Qb, Qc, Qd, forall_const, ↓reduceIte, ↓reduceDIte, ↓Qe, Qf, Qg, Qh, Qi, Qj, Qk, Ql, Qm, Qn, Qo, Qp, Qq, Qr, Qs, implies_true, Qt, Qu, Qv, Qw, Qx, Qy, Qz, QA, QB, QC, QD, QE, QF, QG, QH, QI, QJ, QK, QL, QM, QN, QO, QP, QQ]
                refine LoopC.fx 2361183241434835190727 (α := Nat) (β := Unit) (fun p => z.length - p) (fun _ => [(11, .d (S z))]) (fun p => [DiceM t k4, .box [.d (.sl 0 true [])], .box [.lsl 3 1 0 acc.length], .row false (rowsD acc), .row false (strs ro), .dead, .iter (bs z) p]) (fun p => p ≤ z.length ∧ lowS z 0 = lowS z p) 12583879 (fun _ => [(11, .d (S y))]) (fun _ => [DiceM t k4, .box [.d (.sl 0 true [])], .box [.lsl 3 1 0 acc.length], .row false (rowsD acc), .row false (strs ro)]) (fun _ => True) 0 ⟨Nat.zero_le _, rfl⟩ ?_ ?_ ?_
                · exact ⟨[some 0, some 1, some 2, some 3, some 4, some 5, some 6], rfl, by simp, by simp [setsA, keepA, SWeak, AWeak], by simp [HWeak, BWeak, SWeak, AWeak]⟩
                · rintro p ⟨p1, p2⟩
                  simp only [awK, Nat.reduceMod, Nat.reduceDiv, reduceIte]
                  rcases Nat.lt_or_ge p z.length with hp | hp
                  · have hd := dec_end z p hp
                    rw [lowS_more hp] at p2
                    rcases Nat.lt_or_ge (dec z p).1 32 with hc | hc
                    · rw [decide_eq_true hc, Bool.true_or] at p2
                      rw [if_pos p2] at hy
                      subst hy
                      simp (config := { maxSteps := 1000000 }) (disch := ((try simp only [awL]); omega)) only [QR, QS, QT, QU, QV, QW, QX, QY, QZ, Q0, Q1, Q2, ↓awU, awV, awF, Qa, Qb, Qc, Qd, forall_const, ↓reduceIte, ↓reduceDIte, ↓Qe, Qf, Qg, Qh, Qi, Qj, Qk, Ql, Qm, Qn, Qo, Qp, Qq, Qr, Qs, implies_true, Qt, Qu, Qv, Qw, Qx, Qy, Qz, QA, QB, QC, QD, QE, QF, QG, QH, QI, QJ, QK, QL, QM, QN, QO, QP, QQ]
                      exact ⟨(), trivial, ⟨[some 0, some 1, some 2, some 3, some 4], rfl, by simp, by simp [setsA, keepA, SWeak, AWeak], by simp [HWeak, BWeak, SWeak, AWeak]⟩⟩
                    · rw [decide_eq_false (by omega), Bool.false_or] at p2
                      simp (config := { maxSteps := 1000000 }) (disch := ((try simp only [awL]); omega)) only [QR, QS, QT, QU, QV, QW, QX, QY, QZ, Q0, Q1, Q2, ↓awU, awV, awF, Qa, Qb, Qc, Qd, forall_const, ↓reduceIte, ↓reduceDIte, ↓Qe, Qf, Qg, Qh, Qi, Qj, Qk, Ql, Qm, Qn, Qo, Qp, Qq, Qr, Qs, implies_true, Qt, Qu, Qv, Qw, Qx, Qy, Qz, QA, QB, QC, QD, QE, QF, QG, QH, QI, QJ, QK, QL, QM, QN, QO, QP, QQ]
                      exact ⟨p + (dec z p).2, ⟨hd.2, p2⟩, by simp only; omega, ⟨[some 0, some 1, some 2, some 3, some 4, some 5, some 6], rfl, by simp, by simp [setsA, keepA, SWeak, AWeak], by simp [HWeak, BWeak, SWeak, AWeak]⟩⟩
                  · rw [lowS_end (p := p) (by omega)] at p2
                    rw [if_neg (by rw [p2]; decide)] at hy
                    subst hy
                    simp (config := { maxSteps := 1000000 }) (disch := ((try simp only [awL]); omega)) only [QR, QS, QT, QU, QV, QW, QX, QY, QZ, Q0, Q1, Q2, ↓awU, awV, awF, Qa, Qb, Qc, Qd, forall_const, ↓reduceIte, ↓reduceDIte, ↓Qe, Qf, Qg, Qh, Qi, Qj, Qk, Ql, Qm, Qn, Qo, Qp, Qq, Qr, Qs, implies_true, Qt, Qu, Qv, Qw, Qx, Qy, Qz, QA, QB, QC, QD, QE, QF, QG, QH, QI, QJ, QK, QL, QM, QN, QO, QP, QQ]
                    exact ⟨(), trivial, ⟨[some 0, some 1, some 2, some 3, some 4], rfl, by simp, by simp [setsA, keepA, SWeak, AWeak], by simp [HWeak, BWeak, SWeak, AWeak]⟩⟩
                · rintro ⟨⟩ -
                  have sp := @strs_push ro y
                  have tl : (ro ++ [y]).length = ro.length + 1 := by simp
                  generalize hro : ro ++ [y] = ro2 at *
                  simp only [awK, Nat.reduceMod, Nat.reduceDiv, reduceIte]
                  simp (config := { maxSteps := 1000000 }) (disch := ((try simp only [awL]); omega)) only [QR, QS, QT, QU, QV, QW, QX, QY, QZ, Q0, Q1, Q2, sl, sp, ↓awU, awV, awF, Qa, Qb, Qc, Qd, forall_const, ↓reduceIte, ↓reduceDIte, ↓Qe, Qf, Qg, Qh, Qi, Qj, Qk, Ql, Qm, Qn, Qo, Qp, Qq, Qr, Qs, implies_true, Qt, Qu, Qv, Qw, Qx, Qy, Qz, QA, QB, QC, QD, QE, QF, QG, QH, QI, QJ, QK, QL, QM, QN, QO, QP, QQ]
                  refine ⟨(ro2, i + 1, k4), ⟨h, by simp only; omega, ?_⟩, by simp only; omega, ⟨[some 0, some 1, some 2, some 3, some 6], rfl, by simp, by simp [setsA, keepA, SWeak, AWeak, tl], by simp [HWeak, BWeak, SWeak, AWeak]⟩⟩
                  rw [j2, ← hro]
                  simp
            · rw [if_neg (show ¬ (i + 1 < ly.length ∧ ly.getD (i + 1) 0 - ly.getD i 0 < rr.length) by omega)] at j2
              have rf2 := runesOf_nats rr
              simp (config := { maxSteps := 1000000 }) (disch := ((try simp only [awL]); omega)) only [QR, QS, QT, QU, QV, QW, QX, QY, QZ, Q0, Q1, Q2, Ns, nl, rd, rs, rrl, cur, rf2, rrb, ↓awU, awV, awF, Qa, Qb, Qc, Qd, forall_const, ↓reduceIte, ↓reduceDIte, ↓Qe, Qf, Qg, Qh, Qi, Qj, Qk, Ql, Qm, Qn, Qo, Qp, Qq, Qr, Qs, implies_true, Qt, Qu, Qv, Qw, Qx, Qy, Qz, QA, QB, QC, QD, QE, QF, QG, QH, QI, QJ, QK, QL, QM, QN, QO, QP, QQ]
              refine ⟨by rfl, ?_⟩
              have el := encL_len (rr)
              refine CallC.of (rtrim_spec (encL (rr)) (by omega)) (by first | rfl | simp) ?_
              have tz := trimB_len (encL (rr))
              generalize Lib.trimB (encL (rr)) 32 = z at *
              obtain ⟨y, hy⟩ : ∃ y, y = (if lowS z 0 = true then [] else z) := ⟨_, rfl⟩
              rw [← hy] at j2
              simp (config := { maxSteps := 1000000 }) (disch := ((try simp only [awL]); omega)) only [QR, QS, QT, QU, QV, QW, QX, QY, QZ, Q0, Q1, Q2, ↓awU, awV, awF, Qa, Qb, Qc, Qd, forall_const, ↓reduceIte, ↓reduceDIte, ↓Qe, Qf, Qg, Qh, Qi, Qj, Qk, Ql, Qm, Qn, Qo, Qp, Qq, Qr, Qs, implies_true, Qt, Qu, Qv, Qw, Qx, Qy, Qz, QA, QB, QC, QD, QE, QF, QG, QH, QI, QJ, QK, QL, QM, QN, QO, QP, QQ]
              refine LoopC.fx 2361183241434835190727 (α := Nat) (β := Unit) (fun p => z.length - p) (fun _ => [(11, .d (S z))]) (fun p => [DiceM t k4, .box [.d (.sl 0 true [])], .box [.lsl 3 1 0 acc.length], .row false (rowsD acc), .row false (strs ro), .dead, .iter (bs z) p]) (fun p => p ≤ z.length ∧ lowS z 0 = lowS z p) 12583879 (fun _ => [(11, .d (S y))]) (fun _ => [DiceM t k4, .box [.d (.sl 0 true [])], .box [.lsl 3 1 0 acc.length], .row false (rowsD acc), .row false (strs ro)]) (fun _ => True) 0 ⟨Nat.zero_le _, rfl⟩ ?_ ?_ ?_
              · exact ⟨[some 0, some 1, some 2, some 3, some 4, some 5, some 6], rfl, by simp, by simp [setsA, keepA, SWeak, AWeak], by simp [HWeak, BWeak, SWeak, AWeak]⟩
              · rintro p ⟨p1, p2⟩
                simp only [awK, Nat.reduceMod, Nat.reduceDiv, reduceIte]
                rcases Nat.lt_or_ge p z.length with hp | hp
                · have hd := dec_end z p hp
                  rw [lowS_more hp] at p2
                  rcases Nat.lt_or_ge (dec z p).1 32 with hc | hc
                  · rw [decide_eq_true hc, Bool.true_or] at p2
                    rw [if_pos p2] at hy
                    subst hy
                    simp (config := { maxSteps := 1000000 }) (disch := ((try simp only [awL]); omega)) only [QR, QS, QT, QU, QV, QW, QX, QY, QZ, Q0, Q1, Q2, ↓awU, awV, awF, Qa, Qb, Qc, Qd, forall_const, ↓reduceIte, ↓reduceDIte, ↓Qe, Qf, Qg, Qh, Qi, Qj, Qk, Ql, Qm, Qn, Qo, Qp, Qq, Qr, Qs, implies_true, Qt, Qu, Qv, Qw, Qx, Qy, Qz, QA, QB, QC, QD, QE, QF, QG, QH, QI, QJ, QK, QL, QM, QN, QO, QP, QQ]
                    exact ⟨(), trivial, ⟨[some 0, some 1, some 2, some 3, some 4], rfl, by simp, by simp [setsA, keepA, SWeak, AWeak], by simp [HWeak, BWeak, SWeak, AWeak]⟩⟩
                  · rw [decide_eq_false (by omega), Bool.false_or] at p2
                    simp (config := { maxSteps := 1000000 }) (disch := ((try simp only [awL]); omega)) only [QR, QS, QT, QU, QV, QW, QX, QY, QZ, Q0, Q1, Q2, ↓awU, awV, awF, Qa, Qb, Qc, Qd, forall_const, ↓reduceIte, ↓reduceDIte, ↓Qe, Qf, Qg, Qh, Qi, Qj, Qk, Ql, Qm, Qn, Qo, Qp, Qq, Qr, Qs, implies_true, Qt, Qu, Qv, Qw, Qx, Qy, Qz, QA, QB, QC, QD, QE, QF, QG, QH, QI, QJ, QK, QL, QM, QN, QO, QP, QQ]
                    exact ⟨p + (dec z p).2, ⟨hd.2, p2⟩, by simp only; omega, ⟨[some 0, some 1, some 2, some 3, some 4, some 5, some 6], rfl, by simp, by simp [setsA, keepA, SWeak, AWeak], by simp [HWeak, BWeak, SWeak, AWeak]⟩⟩
                · rw [lowS_end (p := p) (by omega)] at p2
                  rw [if_neg (by rw [p2]; decide)] at hy
                  subst hy
                  simp (config := { maxSteps := 1000000 }) (disch := ((try simp only [awL]); omega)) only [QR, QS, QT, QU, QV, QW, QX, QY, QZ, Q0, Q1, Q2, ↓awU, awV, awF, Qa, Qb, Qc, Qd, forall_const, ↓reduceIte, ↓reduceDIte, ↓Qe, Qf, Qg, Qh, Qi, Qj, Qk, Ql, Qm, Qn, Qo, Qp, Qq, Qr, Qs, implies_true, Qt, Qu, Qv, Qw, Qx, Qy, Qz, QA, QB, QC, QD, QE, QF, QG, QH, QI, QJ, QK, QL, QM, QN, QO, QP, QQ]
                  exact ⟨(), trivial, ⟨[some 0, some 1, some 2, some 3, some 4], rfl, by simp, by simp [setsA, keepA, SWeak, AWeak], by simp [HWeak, BWeak, SWeak, AWeak]⟩⟩
              · rintro ⟨⟩ -
                have sp := @strs_push ro y
                have tl : (ro ++ [y]).length = ro.length + 1 := by simp
                generalize hro : ro ++ [y] = ro2 at *
                simp only [awK, Nat.reduceMod, Nat.reduceDiv, reduceIte]
                simp (config := { maxSteps := 1000000 }) (disch := ((try simp only [awL]); omega)) only [QR, QS, QT, QU, QV, QW, QX, QY, QZ, Q0, Q1, Q2, sl, sp, ↓awU, awV, awF, Qa, Qb, Qc, Qd, forall_const, ↓reduceIte, ↓reduceDIte, ↓Qe, Qf, Qg, Qh, Qi, Qj, Qk, Ql, Qm, Qn, Qo, Qp, Qq, Qr, Qs, implies_true, Qt, Qu, Qv, Qw, Qx, Qy, Qz, QA, QB, QC, QD, QE, QF, QG, QH, QI, QJ, QK, QL, QM, QN, QO, QP, QQ]
                refine ⟨(ro2, i + 1, k4), ⟨h, by simp only; omega, ?_⟩, by simp only; omega, ⟨[some 0, some 1, some 2, some 3, some 6], rfl, by simp, by simp [setsA, keepA, SWeak, AWeak, tl], by simp [HWeak, BWeak, SWeak, AWeak]⟩⟩
                rw [j2, ← hro]
                simp
        · obtain rfl : i = ly.length := by omega
          simp only [Nat.sub_self, gRow, List.append_nil] at j2
          rw [j2] at h2 h3
          simp only at h2 h3
          have cu : cut (strs ro) 0 ro.length = strs ro := cut_all sl.symm
          have sp := @rowsD_push acc ro
          have tl : (acc ++ [ro]).length = acc.length + 1 := by simp
          generalize hacc2 : acc ++ [ro] = acc2 at *
          simp (config := { maxSteps := 1000000 }) (disch := ((try simp only [awL]); omega)) only [QR, QS, QT, QU, QV, QW, QX, QY, QZ, Q0, Q1, Q2, cu, al, sl, sp, ↓awU, awV, awF, Qa, Qb, Qc, Qd, forall_const, ↓reduceIte, ↓reduceDIte, ↓Qe, Qf, Qg, Qh, Qi, Qj, Qk, Ql, Qm, Qn, Qo, Qp, Qq, Qr, Qs, implies_true, Qt, Qu, Qv, Qw, Qx, Qy, Qz, QA, QB, QC, QD, QE, QF, QG, QH, QI, QJ, QK, QL, QM, QN, QO, QP, QQ]
          refine ⟨(acc2, n, k3), ⟨by simp only; omega, ?_, h3⟩, by simp only; omega, ⟨[some 0, some 1, some 2, some 6], rfl, by simp, by simp [setsA, keepA, SWeak, AWeak], by simp [HWeak, BWeak, SWeak, AWeak, tl]⟩⟩
          rw [h2, ← hacc2]
          simp
end Go.Proofs.YtacepalmphbnfaaGreatDoor

namespace Go.Proofs.YtacepalmphbnfaaGreatDoor
open Go Go.Proofs Go.Abs
variable {G : Globals}
/-! The sanity check. -/
def saneT : List UInt8 := [97, 98, 32, 32, 49, 10, 99, 32, 32, 50, 50]
set_option maxRecDepth 100000 in
theorem sane_lines : linesL saneT = [[97, 98, 32, 32, 49], [99, 32, 32, 50, 50]] := by
  unfold saneT linesL
  rw [rawL_more (by decide), rawL_last (by decide) (by decide)]
  decide +kernel
theorem sane_bl : blanksL [[97, 98, 32, 32, 49], [99, 32, 32, 50, 50]] = [false, false, true, false, false] := by
  decide +kernel
theorem sane_infer : inferL saneT 1 = some [0, 3] := by
  unfold inferL layL
  rw [sane_lines, sane_bl]
  decide +kernel
theorem sane_text : textL [0, 3] = some [48, 44, 51] := by decide +kernel
theorem sane_parse : parseF [0, 3] saneT = ([[[97, 98], [49]], [[99], [50, 50]]], 0) := by
  unfold parseF
  rw [sane_lines]
  decide +kernel
set_option maxHeartbeats 4000000 in
set_option maxRecDepth 100000 in
theorem sane_spec (hT : HT G) (hI : HI G) : Ctr Tryz.prog G 11 [] [] (.d (.bool true)) [] := by
  refine Ctr.pure (M := M0) hmix Tryz.func11 rfl go11 ?_
  simp (config := { maxSteps := 1000000 }) (disch := ((try simp only [awL]); omega)) only [QR, QS, QT, QU, QV, QW, QX, QY, QZ, Q0, Q1, Q2, Tryz.f11, ↓awU, awV, awF, Qa, Qb, Qc, Qd, forall_const, ↓reduceIte, ↓reduceDIte, ↓Qe, Qf, Qg, Qh, Qi, Qj, Qk, Ql, Qm, Qn, Qo, Qp, Qq, Qr, Qs, implies_true, Qt, Qu, Qv, Qw, Qx, Qy, Qz, QA, QB, QC, QD, QE, QF, QG, QH, QI, QJ, QK, QL, QM, QN, QO, QP, QQ]
  have i0 := infer_spec hT saneT 1 (by decide)
  rw [sane_infer] at i0
  refine CallC.of i0 (by rfl) ?_
  simp (config := { maxSteps := 1000000 }) (disch := ((try simp only [awL]); omega)) only [QR, QS, QT, QU, QV, QW, QX, QY, QZ, Q0, Q1, Q2, inferD, ↓awU, awV, awF, Qa, Qb, Qc, Qd, forall_const, ↓reduceIte, ↓reduceDIte, ↓Qe, Qf, Qg, Qh, Qi, Qj, Qk, Ql, Qm, Qn, Qo, Qp, Qq, Qr, Qs, implies_true, Qt, Qu, Qv, Qw, Qx, Qy, Qz, QA, QB, QC, QD, QE, QF, QG, QH, QI, QJ, QK, QL, QM, QN, QO, QP, QQ]
  have t0 := ftext_spec hI [0, 3] false (by decide)
  rw [sane_text] at t0
  refine CallC.of t0 (by rfl) ?_
  simp (config := { maxSteps := 1000000 }) (disch := ((try simp only [awL]); omega)) only [QR, QS, QT, QU, QV, QW, QX, QY, QZ, Q0, Q1, Q2, textD, ↓awU, awV, awF, Qa, Qb, Qc, Qd, forall_const, ↓reduceIte, ↓reduceDIte, ↓Qe, Qf, Qg, Qh, Qi, Qj, Qk, Ql, Qm, Qn, Qo, Qp, Qq, Qr, Qs, implies_true, Qt, Qu, Qv, Qw, Qx, Qy, Qz, QA, QB, QC, QD, QE, QF, QG, QH, QI, QJ, QK, QL, QM, QN, QO, QP, QQ]
  have p0 := fparse_spec hT [0, 3] false saneT (by decide) (by decide)
  rw [sane_parse] at p0
  refine CallC.of p0 (by rfl) ?_
  obtain ⟨g, hg⟩ : ∃ g : List Row, g = [[[97, 98], [49]], [[99], [50, 50]]] := ⟨_, rfl⟩
  obtain ⟨r0, hr0⟩ : ∃ r : Row, r = [[97, 98], [49]] := ⟨_, rfl⟩
  obtain ⟨r1, hr1⟩ : ∃ r : Row, r = [[99], [50, 50]] := ⟨_, rfl⟩
  have gl : (rowsD g).length = 2 := by rw [hg]; rfl
  have gl2 : g.length = 2 := by rw [hg]; rfl
  have g0 : (rowsD g).getD 0 .nilp = Ss r0 false := by rw [hg, hr0]; rfl
  have g1 : (rowsD g).getD 1 .nilp = Ss r1 false := by rw [hg, hr1]; rfl
  have l0 : (strs r0).length = 2 := by rw [hr0]; rfl
  have l0' : r0.length = 2 := by rw [hr0]; rfl
  have l1 : (strs r1).length = 2 := by rw [hr1]; rfl
  have l1' : r1.length = 2 := by rw [hr1]; rfl
  have s0 : (strs r0).getD 0 .nilp = S [97, 98] := by rw [hr0]; rfl
  have s1 : (strs r1).getD 1 .nilp = S [50, 50] := by rw [hr1]; rfl
  rw [← hg]
  unfold gridE
  simp (config := { maxSteps := 1000000 }) (disch := ((try simp only [awL]); omega)) only [QR, QS, QT, QU, QV, QW, QX, QY, QZ, Q0, Q1, Q2, gl, gl2, g0, g1, l0, l0', l1, l1', s0, s1, ↓awU, awV, awF, Qa, Qb, Qc, Qd, forall_const, ↓reduceIte, ↓reduceDIte, ↓Qe, Qf, Qg, Qh, Qi, Qj, Qk, Ql, Qm, Qn, Qo, Qp, Qq, Qr, Qs, implies_true, Qt, Qu, Qv, Qw, Qx, Qy, Qz, QA, QB, QC, QD, QE, QF, QG, QH, QI, QJ, QK, QL, QM, QN, QO, QP, QQ]
  try rfl
end Go.Proofs.YtacepalmphbnfaaGreatDoor

namespace Go.Proofs.YtacepalmphbnfaaGreatDoor
open Go Go.Proofs Go.Abs
/-! Code points of joined texts; what trimming leaves. -/
theorem decodeN_ext {n n' b0 b1 b2 b3 c1 c2 c3 : Nat} (h : ¬ ((Lib.decodeN n b0 b1 b2 b3).1 = 65533 ∧ (Lib.decodeN n b0 b1 b2 b3).2 = 1)) (hn : (Lib.decodeN n b0 b1 b2 b3).2 ≤ n')
    (h1 : 1 < (Lib.decodeN n b0 b1 b2 b3).2 → c1 = b1) (h2 : 2 < (Lib.decodeN n b0 b1 b2 b3).2 → c2 = b2) (h3 : 3 < (Lib.decodeN n b0 b1 b2 b3).2 → c3 = b3) : Lib.decodeN n' b0 c1 c2 c3 = Lib.decodeN n b0 b1 b2 b3 := by
  rcases Lib.decodeN_shape n b0 b1 b2 b3 with ⟨a, e⟩ | ⟨a1, a2, a3, a4, e⟩ | ⟨a1, a2, a3, a4, a5, a6, e⟩ | ⟨a1, a2, a3, a4, a5, a6, a7, e⟩ | e
  · rw [e]; unfold Lib.decodeN; rw [if_pos a]
  · rw [e] at hn h1 ⊢
    simp only at hn h1
    obtain rfl := h1 (by decide)
    unfold Lib.decodeN
    rw [if_neg (by omega), if_pos ⟨a1, by omega, a3⟩, if_pos (by omega)]
  · rw [e] at hn h1 h2 ⊢
    simp only at hn h1 h2
    obtain rfl := h1 (by decide)
    obtain rfl := h2 (by decide)
    unfold Lib.decodeN
    rw [if_neg (by omega), if_neg (by omega), if_pos ⟨a1, ⟨by omega, a3⟩, by omega, a4⟩, if_pos (by omega)]
  · rw [e] at hn h1 h2 h3 ⊢
    simp only at hn h1 h2 h3
    obtain rfl := h1 (by decide)
    obtain rfl := h2 (by decide)
    obtain rfl := h3 (by decide)
    unfold Lib.decodeN
    rw [if_neg (by omega), if_neg (by omega), if_neg (by omega), if_pos ⟨a1, ⟨by omega, a3⟩, ⟨by omega, a4⟩, by omega, a5⟩, if_pos (by omega)]
  · rw [e] at h; simp at h
/-- A code point that is read in the text l, and is no fault. -/
def Rd (l : List UInt8) : Prop := l ≠ [] ∧ ¬ ((Lib.decodeL l).1 = 65533 ∧ (Lib.decodeL l).2 = 1)
theorem decodeL_ext {l l' : List UInt8} (h : Rd l) (hl : (Lib.decodeL l).2 ≤ l'.length) (ht : l'.take (Lib.decodeL l).2 = l.take (Lib.decodeL l).2) : Lib.decodeL l' = Lib.decodeL l := by
  have hk := Lib.decodeL_le l h.1
  have hw := Lib.decodeL_width l
  have hg : ∀ j, j < (Lib.decodeL l).2 → l'.getD j 0 = l.getD j 0 := fun j hj => by
    have := congrArg (fun x : List UInt8 => x[j]?) ht
    simp only [List.getElem?_take, if_pos hj] at this
    rw [List.getD_eq_getElem?_getD, List.getD_eq_getElem?_getD, this]
  have hh := h.2
  rw [Lib.decodeL_N l'] 
  rw [Lib.decodeL_N l] at hh hl hg hw ⊢
  rw [hg 0 hw]
  exact decodeN_ext hh hl (fun x => by rw [hg 1 x]) (fun x => by rw [hg 2 x]) (fun x => by rw [hg 3 x])
theorem rnF_drop : ∀ (n : Nat) (l : List UInt8) (p : Nat), l.length - p = n → rnF l p = rnF (l.drop p) 0 := by
  intro n
  induction n using Nat.strongRecOn with
  | _ n ih =>
    intro l p hn
    by_cases h : p < l.length
    · have hd := dec_end l p h
      have e : dec (l.drop p) 0 = dec l p := by rw [dec_drop, dec_drop, List.drop_zero]
      rw [rnF_more h, rnF_more (l := l.drop p) (p := 0) (by rw [List.length_drop]; omega), e, Nat.zero_add, ih _ (by omega) l _ rfl, ih ((l.drop p).length - (dec l p).2) (by rw [List.length_drop]; omega) (l.drop p) _ rfl, List.drop_drop]
    · rw [rnF_end h, rnF_end (by rw [List.length_drop]; omega)]
theorem rnF_step {l : List UInt8} (h : l ≠ []) : rnF l 0 = (Lib.decodeL l).1 :: rnF (l.drop (Lib.decodeL l).2) 0 := by
  rw [rnF_more (List.length_pos_iff.2 h), dec_drop, List.drop_zero, Nat.zero_add, rnF_drop _ l _ rfl]
theorem rnF_nil : rnF [] 0 = [] := rnF_end (by simp)
/-- A code point that stands for its bytes. -/
def Sc (r : Nat) : Prop := ∃ l, Rd l ∧ (Lib.decodeL l).1 = r
theorem sc_dec {r : Nat} (h : Sc r) (t : List UInt8) : Rd (encC r ++ t) ∧ Lib.decodeL (encC r ++ t) = (r, (encC r).length) := by
  obtain ⟨l, hl, rfl⟩ := h
  have he := Lib.encode_decode l hl.1 hl.2
  have hk := Lib.decodeL_le l hl.1
  have hw := Lib.decodeL_width l
  have e : encC (Lib.decodeL l).1 = l.take (Lib.decodeL l).2 := he
  have len : (encC (Lib.decodeL l).1).length = (Lib.decodeL l).2 := by rw [e, List.length_take]; omega
  have ed : Lib.decodeL (encC (Lib.decodeL l).1 ++ t) = Lib.decodeL l := decodeL_ext hl (by rw [List.length_append]; omega) (by
    rw [List.take_append_of_le_length (by omega), List.take_of_length_le (by omega), e])
  refine ⟨⟨fun e2 => ?_, by rw [ed]; exact hl.2⟩, by rw [ed, len]⟩
  have := congrArg List.length e2
  rw [List.length_append, len] at this
  simp at this; omega
theorem rn_sc {r : Nat} (h : Sc r) (t : List UInt8) : rnF (encC r ++ t) 0 = r :: rnF t 0 := by
  obtain ⟨h1, h2⟩ := sc_dec h t
  rw [rnF_step h1.1, h2, List.drop_left]
theorem rn_encL : ∀ (p : List Nat) (t : List UInt8), (∀ r ∈ p, Sc r) → rnF (encL p ++ t) 0 = p ++ rnF t 0
  | [], t, _ => by simp [encL]
  | r :: p, t, h => by
    have e : encL (r :: p) = encC r ++ encL p := by simp [encL]
    rw [e, List.append_assoc, rn_sc (h r (by simp)), rn_encL p t fun x hx => h x (by simp [hx]), List.cons_append]
theorem valid_enc : ∀ (p : List Nat), (∀ r ∈ p, Sc r) → Lib.validD (encL p) = true
  | [], _ => rfl
  | r :: p, h => by
    have e : encL (r :: p) = encC r ++ encL p := by simp [encL]
    obtain ⟨h1, h2⟩ := sc_dec (h r (by simp)) (encL p)
    rw [e, Lib.validD_step _ h1.1, if_neg h1.2, h2, List.drop_left]
    exact valid_enc p fun x hx => h x (by simp [hx])
theorem valid_rd {l : List UInt8} (h : Lib.validD l = true) (hne : l ≠ []) : Rd l ∧ Lib.validD (l.drop (Lib.decodeL l).2) = true := by
  rw [Lib.validD_step l hne] at h
  split at h
  · cases h
  · rename_i hb; exact ⟨⟨hne, hb⟩, h⟩
theorem sc_all : ∀ (n : Nat) (l : List UInt8), l.length = n → Lib.validD l = true → (∀ r ∈ rnF l 0, Sc r) ∧ encL (rnF l 0) = l := by
  intro n
  induction n using Nat.strongRecOn with
  | _ n ih =>
    intro l hn hv
    by_cases hne : l = []
    · subst hne; rw [rnF_nil]; exact ⟨fun r hr => (by cases hr), rfl⟩
    · obtain ⟨h1, h2⟩ := valid_rd hv hne
      have hk := Lib.decodeL_le l hne
      have hw := Lib.decodeL_width l
      obtain ⟨i1, i2⟩ := ih (l.drop (Lib.decodeL l).2).length (by rw [List.length_drop]; omega) _ rfl h2
      rw [rnF_step hne]
      refine ⟨fun r hr => ?_, ?_⟩
      · rcases List.mem_cons.1 hr with rfl | hr
        · exact ⟨l, h1, rfl⟩
        · exact i1 r hr
      · have e : encL ((Lib.decodeL l).1 :: rnF (l.drop (Lib.decodeL l).2) 0) = encC (Lib.decodeL l).1 ++ encL (rnF (l.drop (Lib.decodeL l).2) 0) := by simp [encL]
        rw [e, i2, show encC (Lib.decodeL l).1 = l.take (Lib.decodeL l).2 from Lib.encode_decode l hne h1.2, List.take_append_drop]
theorem sc_of {l : List UInt8} (h : Lib.validD l = true) : ∀ r ∈ rnF l 0, Sc r := (sc_all _ l rfl h).1
theorem enc_rn {l : List UInt8} (h : Lib.validD l = true) : encL (rnF l 0) = l := (sc_all _ l rfl h).2
theorem rn_app {a b : List UInt8} (h : Lib.validD a = true) : rnF (a ++ b) 0 = rnF a 0 ++ rnF b 0 := by
  conv => lhs; rw [← enc_rn h]
  exact rn_encL _ b (sc_of h)
theorem rn_enc {p : List Nat} (h : ∀ r ∈ p, Sc r) : rnF (encL p) 0 = p := by
  have := rn_encL p [] h
  rwa [List.append_nil, rnF_nil, List.append_nil] at this
theorem rn_cons {c : UInt8} (h : c.toNat < 128) (t : List UInt8) : rnF (c :: t) 0 = c.toNat :: rnF t 0 := by
  rw [rnF_step (by simp), Lib.decodeL_ascii c t h]; rfl
/-! Trimming. -/
theorem trimL_split : ∀ l : List UInt8, ∃ m, l = List.replicate m 32 ++ Lib.trimLeftB l 32
  | [] => ⟨0, rfl⟩
  | c :: t => by
    by_cases h : c = 32
    · obtain ⟨m, e⟩ := trimL_split t
      refine ⟨m + 1, ?_⟩
      have e2 : Lib.trimLeftB (c :: t) 32 = Lib.trimLeftB t 32 := by simp [Lib.trimLeftB, h]
      rw [e2, List.replicate_succ, List.cons_append, ← e, h]
    · exact ⟨0, by simp [Lib.trimLeftB, h]⟩
theorem trimR_split (l : List UInt8) : ∃ n, l = Lib.trimRightB l 32 ++ List.replicate n 32 := by
  obtain ⟨m, e⟩ := trimL_split l.reverse
  refine ⟨m, ?_⟩
  have := congrArg List.reverse e
  rw [List.reverse_reverse, List.reverse_append, List.reverse_replicate] at this
  exact this
theorem trim_split (l : List UInt8) : ∃ m n, l = List.replicate m 32 ++ (Lib.trimB l 32 ++ List.replicate n 32) := by
  obtain ⟨n, e⟩ := trimR_split l
  obtain ⟨m, e2⟩ := trimL_split (Lib.trimRightB l 32)
  refine ⟨m, n, ?_⟩
  rw [← List.append_assoc]
  show l = List.replicate m 32 ++ Lib.trimLeftB (Lib.trimRightB l 32) 32 ++ List.replicate n 32
  rw [← e2, ← e]
theorem trimL_head {l : List UInt8} : (Lib.trimLeftB l 32).head? ≠ some 32 := by
  induction l with
  | nil => simp [Lib.trimLeftB]
  | cons c t ih =>
    by_cases h : c = 32
    · have e2 : Lib.trimLeftB (c :: t) 32 = Lib.trimLeftB t 32 := by simp [Lib.trimLeftB, h]
      rw [e2]; exact ih
    · simp [Lib.trimLeftB, h]
theorem trimL_id {l : List UInt8} (h : l.head? ≠ some 32) : Lib.trimLeftB l 32 = l := by
  cases l with
  | nil => rfl
  | cons c t =>
    have : ¬ c = 32 := fun e => h (by rw [e]; rfl)
    simp [Lib.trimLeftB, this]
theorem trimR_id {l : List UInt8} (h : l.getLast? ≠ some 32) : Lib.trimRightB l 32 = l := by
  have := trimL_id (l := l.reverse) (by rw [List.head?_reverse]; exact h)
  show (Lib.trimLeftB l.reverse 32).reverse = l
  rw [this, List.reverse_reverse]
theorem trimR_last (l : List UInt8) : (Lib.trimRightB l 32).getLast? ≠ some 32 := by
  show ((Lib.trimLeftB l.reverse 32).reverse).getLast? ≠ some 32
  rw [List.getLast?_reverse]; exact trimL_head
theorem trim_ends (l : List UInt8) : (Lib.trimB l 32).head? ≠ some 32 ∧ (Lib.trimB l 32).getLast? ≠ some 32 := by
  refine ⟨trimL_head, ?_⟩
  rw [← trim_comm]
  exact trimR_last _
theorem trim_id {l : List UInt8} (h1 : l.head? ≠ some 32) (h2 : l.getLast? ≠ some 32) : Lib.trimB l 32 = l := by
  show Lib.trimLeftB (Lib.trimRightB l 32) 32 = l
  rw [trimR_id h2, trimL_id h1]
theorem trim_idem (l : List UInt8) : Lib.trimB (Lib.trimB l 32) 32 = Lib.trimB l 32 := trim_id (trim_ends l).1 (trim_ends l).2
theorem valid_left : ∀ (m : Nat) {x : List UInt8}, Lib.validD (List.replicate m 32 ++ x) = true → Lib.validD x = true
  | 0, x, h => by simpa using h
  | m + 1, x, h => by
    rw [List.replicate_succ, List.cons_append, Lib.validD_cons _ _ (by decide)] at h
    exact valid_left m h
theorem valid_right : ∀ (n : Nat) {x : List UInt8}, Lib.validD (x ++ List.replicate n 32) = true → Lib.validD x = true
  | 0, x, h => by simpa using h
  | n + 1, x, h => by
    rw [List.replicate_succ] at h
    exact (valid_cutA (by decide) _ x _ rfl h).1
theorem valid_trim {x : List UInt8} (h : Lib.validD x = true) : Lib.validD (Lib.trimB x 32) = true := by
  obtain ⟨m, n, e⟩ := trim_split x
  rw [e] at h
  exact valid_right n (valid_left m h)
theorem rn_spaces : ∀ (m : Nat) (t : List UInt8), rnF (List.replicate m 32 ++ t) 0 = List.replicate m 32 ++ rnF t 0
  | 0, t => by simp
  | m + 1, t => by rw [List.replicate_succ, List.cons_append, rn_cons (by decide), rn_spaces m t]; rfl
theorem trim_runes {x : List UInt8} (h : Lib.validD x = true) : (rnF (Lib.trimB x 32) 0).length ≤ (rnF x 0).length ∧ ∀ r ∈ rnF (Lib.trimB x 32) 0, r ∈ rnF x 0 := by
  obtain ⟨m, n, e⟩ := trim_split x
  have ht := valid_trim h
  generalize Lib.trimB x 32 = y at *
  rw [e, rn_spaces, rn_app ht]
  exact ⟨by simp only [List.length_append]; omega, fun r hr => by simp [hr]⟩
theorem encC_bytes (r : Nat) : ∀ c ∈ encC r, c.toNat < 128 → c.toNat = r := by
  intro c hc hlt
  unfold encC Lib.encodeRune at hc
  by_cases c1 : r < 128
  · rw [Lib.encodeRuneZ_one (by omega) (by omega)] at hc
    simp at hc
    rw [hc]; simp; omega
  · exfalso
    by_cases c2 : r < 2048
    · rw [Lib.encodeRuneZ_two (by omega) (by omega)] at hc
      simp only [List.map_cons, List.map_nil, List.mem_cons, List.not_mem_nil, or_false] at hc
      rcases hc with rfl | rfl <;> · simp [Nat.toUInt8] at hlt; omega
    · by_cases c3 : (r < 55296) ∨ (57343 < r ∧ r ≤ 65535)
      · rw [Lib.encodeRuneZ_three (by omega)] at hc
        simp only [List.map_cons, List.map_nil, List.mem_cons, List.not_mem_nil, or_false] at hc
        rcases hc with rfl | rfl | rfl <;> · simp [Nat.toUInt8] at hlt; omega
      · by_cases c5 : 65536 ≤ r ∧ r ≤ 1114111
        · rw [Lib.encodeRuneZ_four (by omega) (by omega)] at hc
          simp only [List.map_cons, List.map_nil, List.mem_cons, List.not_mem_nil, or_false] at hc
          rcases hc with rfl | rfl | rfl | rfl <;> · simp [Nat.toUInt8] at hlt; omega
        · rw [Lib.encodeRuneZ_bad (by omega)] at hc
          simp only [List.map_cons, List.map_nil, List.mem_cons, List.not_mem_nil, or_false] at hc
          rcases hc with rfl | rfl | rfl <;> revert hlt <;> decide
theorem low_bytes {x : List UInt8} (h : Lib.validD x = true) (hl : lowS x 0 = false) : ∀ c ∈ x, 32 ≤ c.toNat := by
  intro c hc
  rw [← enc_rn h] at hc
  obtain ⟨r, hr, hc2⟩ := List.mem_flatMap.1 hc
  have h1 := List.any_eq_false.1 hl r hr
  simp only [decide_eq_true_eq] at h1
  rcases Nat.lt_or_ge c.toNat 128 with h2 | h2
  · have := encC_bytes r c hc2 h2; omega
  · omega
end Go.Proofs.YtacepalmphbnfaaGreatDoor

namespace Go.Proofs.YtacepalmphbnfaaGreatDoor
open Go Go.Proofs Go.Abs
/-! What was written in a layout is read back. -/
/-- A row that fits a layout. -/
structure GoodR (ly : List Nat) (r : Row) : Prop where
  len : r.length = ly.length
  val : ∀ s ∈ r, Lib.validD s = true ∧ s.length ≤ 200 ∧ Lib.trimB s 32 = s ∧ ∀ c ∈ s, 32 ≤ c.toNat
  wid : ∀ k, k < r.length → k + 1 < ly.length → rcL (r.getD k []) ≤ ly.getD (k + 1) 0 - ly.getD k 0
theorem LayI.mono {l : List Nat} (h : LayI l) : ∀ i, i + 1 < l.length → l.getD i 0 ≤ l.getD (i + 1) 0 := fun i hi => Nat.le_of_lt (h.2.2.2.2 i hi)
theorem LayI.le {l : List Nat} (h : LayI l) (i : Nat) : l.getD i 0 ≤ 48 := getD_le (fun i hi => by have := h.2.2.2.1 i hi; have := h.2.2.1; omega) i
theorem LayI.pos {l : List Nat} (h : LayI l) : 0 < l.length := List.length_pos_iff.2 h.1
/-- What the dice make to fit. -/
theorem sc_take {p : List Nat} (h : ∀ r ∈ p, Sc r) (n : Nat) : ∀ r ∈ p.take n, Sc r := fun r hr => h r (List.mem_of_mem_take hr)
theorem fitX_good {ly : List Nat} {i : Nat} {s : List UInt8} (h : okT s) : (Lib.validD (fitX ly i s) = true ∧ (fitX ly i s).length ≤ 200 ∧ Lib.trimB (fitX ly i s) 32 = fitX ly i s ∧ ∀ c ∈ fitX ly i s, 32 ≤ c.toNat) ∧
    (i + 1 < ly.length → rcL (fitX ly i s) ≤ ly.getD (i + 1) 0 - ly.getD i 0) := by
  have ht := valid_trim h.1
  have hsc := sc_of ht
  have hlen : (rnF (Lib.trimB s 32) 0).length ≤ 30 := by
    have a := rcL_le (Lib.trimB s 32)
    have b := trimB_len s
    have c := h.2
    rw [rcL_eq] at a; omega
  have hr : (∀ r ∈ runF ly i s, Sc r) ∧ (runF ly i s).length ≤ 30 ∧ (i + 1 < ly.length → (runF ly i s).length ≤ ly.getD (i + 1) 0 - ly.getD i 0) := by
    unfold runF
    split
    · rename_i hc
      exact ⟨sc_take hsc _, by rw [List.length_take]; omega, fun _ => by rw [List.length_take]; omega⟩
    · rename_i hc
      exact ⟨hsc, hlen, fun h1 => by
        rcases Nat.lt_or_ge (ly.getD (i + 1) 0 - ly.getD i 0) (rnF (Lib.trimB s 32) 0).length with x | x
        · exact absurd ⟨h1, x⟩ hc
        · exact x⟩
  unfold fitX
  generalize runF ly i s = p at hr
  obtain ⟨h1, h2, h3⟩ := hr
  have v1 := valid_enc p h1
  have v2 := valid_trim v1
  have t1 := (trim_runes v1).1
  rw [rn_enc h1] at t1
  have el := encL_len p
  have tl := trimB_len (encL p)
  have ti := trim_idem (encL p)
  generalize Lib.trimB (encL p) 32 = z at *
  cases hz : lowS z 0
  · rw [if_neg (by decide)]
    exact ⟨⟨v2, by omega, ti, low_bytes v2 hz⟩, fun h => by have := h3 h; rw [rcL_eq]; omega⟩
  · rw [if_pos rfl]
    exact ⟨⟨rfl, by simp, rfl, fun c hc => by cases hc⟩, fun _ => by rw [rcL_eq, rnF_nil]; simp⟩
theorem gRow_good (t : List Int) (ly : List Nat) : ∀ (m i k : Nat), i + m = ly.length → (gRow t ly true m i k).1.length = m ∧ (∀ s ∈ (gRow t ly true m i k).1, Lib.validD s = true ∧ s.length ≤ 200 ∧ Lib.trimB s 32 = s ∧ ∀ c ∈ s, 32 ≤ c.toNat) ∧
    ∀ j, j < m → i + j + 1 < ly.length → rcL ((gRow t ly true m i k).1.getD j []) ≤ ly.getD (i + j + 1) 0 - ly.getD (i + j) 0
  | 0, i, k, _ => ⟨rfl, fun s hs => (by cases hs), fun j hj => absurd hj (Nat.not_lt_zero _)⟩
  | m + 1, i, k, h => by
    obtain ⟨a, b, c⟩ := gRow_good t ly m (i + 1) (fieldK t (k + 1) (pk t k 7).toNat) (by omega)
    obtain ⟨d, e⟩ := fitX_good (ly := ly) (i := i) (fieldM_ok t (k + 1) (pk t k 7).toNat)
    rw [gRow]
    refine ⟨by simp only [List.length_cons, a], fun s hs => ?_, fun j hj hl => ?_⟩
    · rcases List.mem_cons.1 hs with rfl | hs
      · exact d
      · exact b s hs
    · cases j with
      | zero => exact e (by omega)
      | succ j =>
        have := c j (by omega) (by omega)
        rw [show i + (j + 1) = i + 1 + j by omega]
        exact this
theorem gRows_good (t : List Int) (ly : List Nat) : ∀ (m k : Nat), (gRows t ly true m k).1.length = m ∧ ∀ r ∈ (gRows t ly true m k).1, GoodR ly r
  | 0, k => ⟨rfl, fun r hr => by cases hr⟩
  | m + 1, k => by
    obtain ⟨a, b⟩ := gRows_good t ly m (gRow t ly true ly.length 0 k).2
    obtain ⟨c, d, e⟩ := gRow_good t ly ly.length 0 k (by omega)
    rw [gRows]
    refine ⟨by simp only [List.length_cons, a], fun r hr => ?_⟩
    rcases List.mem_cons.1 hr with rfl | hr
    · exact ⟨c, d, fun j hj hl => by
        have := e j (by omega) (by omega)
        rw [Nat.zero_add] at this
        exact this⟩
    · exact b r hr
theorem gridM_good (t : List Int) (ly : List Nat) (k : Nat) : (gridM t ly true k).length ≤ 5 ∧ ∀ r ∈ gridM t ly true k, GoodR ly r := by
  obtain ⟨q, hq, hq2⟩ := pk_nat t k 6 (by decide)
  obtain ⟨a, b⟩ := gRows_good t ly (pk t k 6).toNat (k + 1)
  unfold gridM
  exact ⟨by rw [a, hq]; omega, b⟩
theorem GoodR.grid {ly : List Nat} {g : List Row} (hl : LayI ly) (hg : ∀ r ∈ g, GoodR ly r) (hn : g.length ≤ 100) : okGrid g :=
  ⟨by omega, fun r hr => ⟨by rw [(hg r hr).len]; have := hl.2.2.1; omega, fun s hs => by have := ((hg r hr).val s hs).2.1; omega⟩⟩
end Go.Proofs.YtacepalmphbnfaaGreatDoor

namespace Go.Proofs.YtacepalmphbnfaaGreatDoor
open Go Go.Proofs Go.Abs
variable {G : Globals}
/-! The law FixedBack. -/
theorem natO_le {l : List Nat} : (asI l).length = l.length := by simp [asI]
end Go.Proofs.YtacepalmphbnfaaGreatDoor

namespace Go.Proofs.YtacepalmphbnfaaGreatDoor
open Go Go.Proofs Go.Abs
variable {G : Globals}
/-! The law FixedSteps. -/
theorem formF_len (lay : List Int) (g : List Row) : (formF lay g).1.length ≤ 1048576 := by
  unfold formF
  repeat' split
  all_goals (simp only [List.length_nil]; omega)
def txO (x : Option (List UInt8)) : List UInt8 := x.getD []
theorem textD_eq (x : Option (List UInt8)) : textD x = .tup [S (txO x), .bool x.isSome] := by cases x <;> rfl
theorem textL_len (l : List Int) : (txO (textL l)).length ≤ 2000 := by
  unfold textL
  split
  · rename_i h
    obtain ⟨k1, k2, _, _⟩ := okLay_ok h
    obtain ⟨nl, hle⟩ := okLay_le h
    have := join_len [44] 21 (Nat.le_refl _) (numT (natsOf l)) (fun s hs => by
      obtain ⟨n, hn, rfl⟩ := List.mem_map.1 hs
      exact dec_len (hle n hn))
    have hn : (numT (natsOf l)).length = l.length := by rw [numT, List.length_map, nl]
    show (Lib.join (numT (natsOf l)) [44]).length ≤ 2000
    omega
  · simp [txO]
def ixO (x : Option (List Int)) : List Int := x.getD []
theorem inferD_eq (x : Option (List Int)) : inferD x = .tup [IsF (ixO x) false, .bool x.isSome] := by cases x <;> rfl
end Go.Proofs.YtacepalmphbnfaaGreatDoor

namespace Go.Proofs.YtacepalmphbnfaaGreatDoor
open Go Go.Proofs Go.Abs
variable {G : Globals}
/-! The options: their order. -/
def cmpI (x y : Int) : Int := if x < y then -1 else if y < x then 1 else 0
theorem isNaN_spec (x : Int) : Ctr Tryz.prog G 106 [.d (.int .i64 x)] [] (.d (.bool false)) [] := by
  refine Ctr.pure (M := M0) hmix Tryz.func106 rfl go106 ?_
  simp (config := { maxSteps := 1000000 }) (disch := ((try simp only [awL]); omega)) only [QR, QS, QT, QU, QV, QW, QX, QY, QZ, Q0, Q1, Q2, Tryz.f106, ↓awU, awV, awF, Qa, Qb, Qc, Qd, forall_const, ↓reduceIte, ↓reduceDIte, ↓Qe, Qf, Qg, Qh, Qi, Qj, Qk, Ql, Qm, Qn, Qo, Qp, Qq, Qr, Qs, implies_true, Qt, Qu, Qv, Qw, Qx, Qy, Qz, QA, QB, QC, QD, QE, QF, QG, QH, QI, QJ, QK, QL, QM, QN, QO, QP, QQ]
  try rfl
theorem compare_spec (x y : Int) : Ctr Tryz.prog G 65 [.d (.int .i64 x), .d (.int .i64 y)] [] (.d (.int .i64 (cmpI x y))) [] := by
  refine Ctr.pure (M := M0) hmix Tryz.func65 rfl go65 ?_
  obtain ⟨r, hr⟩ : ∃ r, r = cmpI x y := ⟨_, rfl⟩
  rw [← hr]
  unfold cmpI at hr
  simp (config := { maxSteps := 1000000 }) (disch := ((try simp only [awL]); omega)) only [QR, QS, QT, QU, QV, QW, QX, QY, QZ, Q0, Q1, Q2, Tryz.f65, ↓awU, awV, awF, Qa, Qb, Qc, Qd, forall_const, ↓reduceIte, ↓reduceDIte, ↓Qe, Qf, Qg, Qh, Qi, Qj, Qk, Ql, Qm, Qn, Qo, Qp, Qq, Qr, Qs, implies_true, Qt, Qu, Qv, Qw, Qx, Qy, Qz, QA, QB, QC, QD, QE, QF, QG, QH, QI, QJ, QK, QL, QM, QN, QO, QP, QQ]
  refine CallC.pure (isNaN_spec x) ?_
  simp (config := { maxSteps := 1000000 }) (disch := ((try simp only [awL]); omega)) only [QR, QS, QT, QU, QV, QW, QX, QY, QZ, Q0, Q1, Q2, ↓awU, awV, awF, Qa, Qb, Qc, Qd, forall_const, ↓reduceIte, ↓reduceDIte, ↓Qe, Qf, Qg, Qh, Qi, Qj, Qk, Ql, Qm, Qn, Qo, Qp, Qq, Qr, Qs, implies_true, Qt, Qu, Qv, Qw, Qx, Qy, Qz, QA, QB, QC, QD, QE, QF, QG, QH, QI, QJ, QK, QL, QM, QN, QO, QP, QQ]
  refine CallC.pure (isNaN_spec y) ?_
  rcases (by omega : x < y ∨ y < x ∨ (¬ x < y ∧ ¬ y < x)) with h | h | ⟨h1, h2⟩
  · rw [if_pos h] at hr
    simp (config := { maxSteps := 1000000 }) (disch := ((try simp only [awL]); omega)) only [QR, QS, QT, QU, QV, QW, QX, QY, QZ, Q0, Q1, Q2, ↓awU, awV, awF, Qa, Qb, Qc, Qd, forall_const, ↓reduceIte, ↓reduceDIte, ↓Qe, Qf, Qg, Qh, Qi, Qj, Qk, Ql, Qm, Qn, Qo, Qp, Qq, Qr, Qs, implies_true, Qt, Qu, Qv, Qw, Qx, Qy, Qz, QA, QB, QC, QD, QE, QF, QG, QH, QI, QJ, QK, QL, QM, QN, QO, QP, QQ]
    all_goals rw [hr]
  · rw [if_neg (by omega), if_pos h] at hr
    simp (config := { maxSteps := 1000000 }) (disch := ((try simp only [awL]); omega)) only [QR, QS, QT, QU, QV, QW, QX, QY, QZ, Q0, Q1, Q2, ↓awU, awV, awF, Qa, Qb, Qc, Qd, forall_const, ↓reduceIte, ↓reduceDIte, ↓Qe, Qf, Qg, Qh, Qi, Qj, Qk, Ql, Qm, Qn, Qo, Qp, Qq, Qr, Qs, implies_true, Qt, Qu, Qv, Qw, Qx, Qy, Qz, QA, QB, QC, QD, QE, QF, QG, QH, QI, QJ, QK, QL, QM, QN, QO, QP, QQ]
    all_goals rw [hr]
  · rw [if_neg h1, if_neg h2] at hr
    simp (config := { maxSteps := 1000000 }) (disch := ((try simp only [awL]); omega)) only [QR, QS, QT, QU, QV, QW, QX, QY, QZ, Q0, Q1, Q2, ↓awU, awV, awF, Qa, Qb, Qc, Qd, forall_const, ↓reduceIte, ↓reduceDIte, ↓Qe, Qf, Qg, Qh, Qi, Qj, Qk, Ql, Qm, Qn, Qo, Qp, Qq, Qr, Qs, implies_true, Qt, Qu, Qv, Qw, Qx, Qy, Qz, QA, QB, QC, QD, QE, QF, QG, QH, QI, QJ, QK, QL, QM, QN, QO, QP, QQ]
    all_goals rw [hr]
def orInv (x y : Int) (i : Nat) : Prop := i ≤ 2 ∧ (0 < i → x = 0) ∧ (1 < i → y = 0)
theorem or_spec (x y : Int) (full : Bool) : Ctr Tryz.prog G 64 [.d (.sl 2 full [.int .i64 x, .int .i64 y])] [] (.d (.int .i64 (if x ≠ 0 then x else y))) [] := by
  refine Ctr.pure (M := M0) hmix Tryz.func64 rfl go64 ?_
  obtain ⟨r, hr⟩ : ∃ r, r = if x ≠ 0 then x else y := ⟨_, rfl⟩
  rw [← hr]
  have il : ([D.int .i64 x, D.int .i64 y]).length = 2 := rfl
  have g0 : ([D.int .i64 x, D.int .i64 y]).getD 0 .nilp = D.int .i64 x := rfl
  have g1 : ([D.int .i64 x, D.int .i64 y]).getD 1 .nilp = D.int .i64 y := rfl
  generalize [D.int .i64 x, D.int .i64 y] = L at *
  simp (config := { maxSteps := 1000000 }) (disch := ((try simp only [awL]); omega)) only [QR, QS, QT, QU, QV, QW, QX, QY, QZ, Q0, Q1, Q2, il, Tryz.f64, ↓awU, awV, awF, Qa, Qb, Qc, Qd, forall_const, ↓reduceIte, ↓reduceDIte, ↓Qe, Qf, Qg, Qh, Qi, Qj, Qk, Ql, Qm, Qn, Qo, Qp, Qq, Qr, Qs, implies_true, Qt, Qu, Qv, Qw, Qx, Qy, Qz, QA, QB, QC, QD, QE, QF, QG, QH, QI, QJ, QK, QL, QM, QN, QO, QP, QQ]
  refine LoopC.fr 200 (α := Nat) (fun i => 2 - i) (fun i => [(8, .d (.int .i64 i))]) (fun _ => []) (orInv x y) 0 ⟨Nat.zero_le _, fun h => absurd h (Nat.lt_irrefl _), fun h => absurd h (by omega)⟩ ?_ ?_
  · exact ⟨[], rfl, by simp, by simp [setsA, keepA, SWeak, AWeak], by simp [HWeak, BWeak, SWeak, AWeak]⟩
  · rintro i ⟨h1, h2, h3⟩
    simp only [awK, Nat.reduceMod, Nat.reduceDiv, reduceIte]
    rcases (by omega : i = 0 ∨ i = 1 ∨ i = 2) with rfl | rfl | rfl
    · by_cases hx : x = 0
      · simp (config := { maxSteps := 1000000 }) (disch := ((try simp only [awL]); omega)) only [QR, QS, QT, QU, QV, QW, QX, QY, QZ, Q0, Q1, Q2, il, g0, hx, ↓awU, awV, awF, Qa, Qb, Qc, Qd, forall_const, ↓reduceIte, ↓reduceDIte, ↓Qe, Qf, Qg, Qh, Qi, Qj, Qk, Ql, Qm, Qn, Qo, Qp, Qq, Qr, Qs, implies_true, Qt, Qu, Qv, Qw, Qx, Qy, Qz, QA, QB, QC, QD, QE, QF, QG, QH, QI, QJ, QK, QL, QM, QN, QO, QP, QQ]
        exact ⟨1, ⟨by decide, fun _ => by first | exact hx | rfl, fun h => absurd h (by decide)⟩, by decide, ⟨[], rfl, by simp, by simp [setsA, keepA, SWeak, AWeak], by simp [HWeak, BWeak, SWeak, AWeak]⟩⟩
      · rw [if_pos hx] at hr
        simp (config := { maxSteps := 1000000 }) (disch := ((try simp only [awL]); omega)) only [QR, QS, QT, QU, QV, QW, QX, QY, QZ, Q0, Q1, Q2, il, g0, ↓awU, awV, awF, Qa, Qb, Qc, Qd, forall_const, ↓reduceIte, ↓reduceDIte, ↓Qe, Qf, Qg, Qh, Qi, Qj, Qk, Ql, Qm, Qn, Qo, Qp, Qq, Qr, Qs, implies_true, Qt, Qu, Qv, Qw, Qx, Qy, Qz, QA, QB, QC, QD, QE, QF, QG, QH, QI, QJ, QK, QL, QM, QN, QO, QP, QQ]
        all_goals rw [hr]
    · have hx := h2 (by omega)
      rw [if_neg (by simpa using hx)] at hr
      by_cases hy : y = 0
      · simp (config := { maxSteps := 1000000 }) (disch := ((try simp only [awL]); omega)) only [QR, QS, QT, QU, QV, QW, QX, QY, QZ, Q0, Q1, Q2, il, g1, hy, ↓awU, awV, awF, Qa, Qb, Qc, Qd, forall_const, ↓reduceIte, ↓reduceDIte, ↓Qe, Qf, Qg, Qh, Qi, Qj, Qk, Ql, Qm, Qn, Qo, Qp, Qq, Qr, Qs, implies_true, Qt, Qu, Qv, Qw, Qx, Qy, Qz, QA, QB, QC, QD, QE, QF, QG, QH, QI, QJ, QK, QL, QM, QN, QO, QP, QQ]
        exact ⟨2, ⟨by decide, fun _ => by first | exact hx | rfl, fun _ => by first | exact hy | rfl⟩, by decide, ⟨[], rfl, by simp, by simp [setsA, keepA, SWeak, AWeak], by simp [HWeak, BWeak, SWeak, AWeak]⟩⟩
      · simp (config := { maxSteps := 1000000 }) (disch := ((try simp only [awL]); omega)) only [QR, QS, QT, QU, QV, QW, QX, QY, QZ, Q0, Q1, Q2, il, g1, ↓awU, awV, awF, Qa, Qb, Qc, Qd, forall_const, ↓reduceIte, ↓reduceDIte, ↓Qe, Qf, Qg, Qh, Qi, Qj, Qk, Ql, Qm, Qn, Qo, Qp, Qq, Qr, Qs, implies_true, Qt, Qu, Qv, Qw, Qx, Qy, Qz, QA, QB, QC, QD, QE, QF, QG, QH, QI, QJ, QK, QL, QM, QN, QO, QP, QQ]
        all_goals rw [hr]
    · have hx := h2 (by omega)
      have hy := h3 (by omega)
      rw [if_neg (by simpa using hx), hy] at hr
      simp (config := { maxSteps := 1000000 }) (disch := ((try simp only [awL]); omega)) only [QR, QS, QT, QU, QV, QW, QX, QY, QZ, Q0, Q1, Q2, il, ↓awU, awV, awF, Qa, Qb, Qc, Qd, forall_const, ↓reduceIte, ↓reduceDIte, ↓Qe, Qf, Qg, Qh, Qi, Qj, Qk, Ql, Qm, Qn, Qo, Qp, Qq, Qr, Qs, implies_true, Qt, Qu, Qv, Qw, Qx, Qy, Qz, QA, QB, QC, QD, QE, QF, QG, QH, QI, QJ, QK, QL, QM, QN, QO, QP, QQ]
      all_goals rw [hr]
structure Opt where
  txt : List UInt8
  fr : Nat
  ag : Nat
  wd : Nat
abbrev Opt.cells (o : Opt) : List D := [S o.txt, .int .i64 o.fr, .int .i64 o.ag]
def optC (l : List Opt) : List D := l.flatMap Opt.cells
/-- Which of two options comes first. -/
def cmpO (a b : Opt) : Int := if cmpI b.fr a.fr ≠ 0 then cmpI b.fr a.fr else cmpI b.wd a.wd
def bef (a b : Opt) : Bool := decide (b.fr < a.fr ∨ (a.fr = b.fr ∧ b.wd < a.wd))
theorem cmpO_bef (a b : Opt) : decide (cmpO a b < 0) = bef a b := by
  unfold cmpO cmpI bef
  congr 1
  apply propext
  repeat' split
  all_goals omega
set_option maxHeartbeats 4000000 in
set_option maxRecDepth 100000 in
theorem cmpO_spec (a b : Opt) (m : List (D × D)) (hk : keysOK Tryz.prog 9 m = true) (ha : lookV (.int .i64 0) m (S a.txt) false = .int .i64 a.wd) (hb : lookV (.int .i64 0) m (S b.txt) false = .int .i64 b.wd) :
    Ctr Tryz.prog G 63 [.d (.agg a.cells), .d (.agg b.cells), .ptr 0 0] [.box [.mp 1], .map m] (.d (.int .i64 (cmpO a b))) [.box [.mp 1], .map m] := by
  refine Ctr.body (M := M0) hmix Tryz.func63 rfl go63 ?_
  simp (config := { maxSteps := 1000000 }) (disch := ((try simp only [awL]); omega)) only [QR, QS, QT, QU, QV, QW, QX, QY, QZ, Q0, Q1, Q2, Tryz.f63, ↓awU, awV, awF, Qa, Qb, Qc, Qd, forall_const, ↓reduceIte, ↓reduceDIte, ↓Qe, Qf, Qg, Qh, Qi, Qj, Qk, Ql, Qm, Qn, Qo, Qp, Qq, Qr, Qs, implies_true, Qt, Qu, Qv, Qw, Qx, Qy, Qz, QA, QB, QC, QD, QE, QF, QG, QH, QI, QJ, QK, QL, QM, QN, QO, QP, QQ]
  refine CallC.pure (compare_spec b.fr a.fr) ?_
  simp (config := { maxSteps := 1000000 }) (disch := ((try simp only [awL]); omega)) only [QR, QS, QT, QU, QV, QW, QX, QY, QZ, Q0, Q1, Q2, hk, ha, hb, ↓awU, awV, awF, Qa, Qb, Qc, Qd, forall_const, ↓reduceIte, ↓reduceDIte, ↓Qe, Qf, Qg, Qh, Qi, Qj, Qk, Ql, Qm, Qn, Qo, Qp, Qq, Qr, Qs, implies_true, Qt, Qu, Qv, Qw, Qx, Qy, Qz, QA, QB, QC, QD, QE, QF, QG, QH, QI, QJ, QK, QL, QM, QN, QO, QP, QQ]
  refine CallC.pure (compare_spec b.wd a.wd) ?_
  simp (config := { maxSteps := 1000000 }) (disch := ((try simp only [awL]); omega)) only [QR, QS, QT, QU, QV, QW, QX, QY, QZ, Q0, Q1, Q2, hk, ha, hb, ↓awU, awV, awF, Qa, Qb, Qc, Qd, forall_const, ↓reduceIte, ↓reduceDIte, ↓Qe, Qf, Qg, Qh, Qi, Qj, Qk, Ql, Qm, Qn, Qo, Qp, Qq, Qr, Qs, implies_true, Qt, Qu, Qv, Qw, Qx, Qy, Qz, QA, QB, QC, QD, QE, QF, QG, QH, QI, QJ, QK, QL, QM, QN, QO, QP, QQ]
  refine CallC.frozenE (or_spec (cmpI b.fr a.fr) (cmpI b.wd a.wd) false) (by rfl) ?_
  have e : (if cmpI b.fr a.fr ≠ 0 then cmpI b.fr a.fr else cmpI b.wd a.wd) = cmpO a b := rfl
  rw [e]
  simp (config := { maxSteps := 1000000 }) (disch := ((try simp only [awL]); omega)) only [QR, QS, QT, QU, QV, QW, QX, QY, QZ, Q0, Q1, Q2, ↓awU, awV, awF, Qa, Qb, Qc, Qd, forall_const, ↓reduceIte, ↓reduceDIte, ↓Qe, Qf, Qg, Qh, Qi, Qj, Qk, Ql, Qm, Qn, Qo, Qp, Qq, Qr, Qs, implies_true, Qt, Qu, Qv, Qw, Qx, Qy, Qz, QA, QB, QC, QD, QE, QF, QG, QH, QI, QJ, QK, QL, QM, QN, QO, QP, QQ]
  first | exact ⟨[some 0, some 1], rfl, by simp, by simp [HWeak, BWeak, SWeak, AWeak], .inl (by simp [AWeak, SWeak])⟩ | exact ⟨by rfl, ⟨[some 0, some 1], rfl, by simp, by simp [HWeak, BWeak, SWeak, AWeak], .inl (by simp [AWeak, SWeak])⟩⟩
end Go.Proofs.YtacepalmphbnfaaGreatDoor

namespace Go.Proofs.YtacepalmphbnfaaGreatDoor
open Go Go.Proofs Go.Abs
variable {G : Globals}
/-! The options: sorting a few of them. -/
def noO : Opt := ⟨[], 0, 0, 0⟩
theorem optC_length : ∀ l : List Opt, (optC l).length = 3 * l.length
  | [] => rfl
  | o :: l => by
    have ih := optC_length l
    simp only [optC, List.flatMap_cons, List.length_append, List.length_cons, List.length_nil] at ih ⊢
    omega
theorem optC_get : ∀ {l : List Opt} {k : Nat}, k < l.length → ((optC l).drop (k * 3)).take 3 = (l.getD k noO).cells
  | [], k, h => absurd h (Nat.not_lt_zero _)
  | o :: l, 0, _ => by simp [optC]
  | o :: l, k + 1, h => by
    have ih := optC_get (l := l) (k := k) (by simpa using h)
    have e : (k + 1) * 3 = k * 3 + 3 := by omega
    have e2 : optC (o :: l) = S o.txt :: .int .i64 o.fr :: .int .i64 o.ag :: optC l := rfl
    rw [e, e2]
    simpa using ih
theorem optC_app (a b : List Opt) : optC (a ++ b) = optC a ++ optC b := by simp [optC]
theorem optC_take (l : List Opt) (k : Nat) : (optC l).take (k * 3) = optC (l.take k) := by
  rcases Nat.lt_or_ge k l.length with h | h
  · conv => lhs; rw [← List.take_append_drop k l, optC_app]
    rw [List.take_append_of_le_length (by rw [optC_length, List.length_take]; omega), List.take_of_length_le (by rw [optC_length, List.length_take]; omega)]
  · rw [List.take_of_length_le (by rw [optC_length]; omega), List.take_of_length_le h]
theorem optC_drop (l : List Opt) (k : Nat) : (optC l).drop (k * 3) = optC (l.drop k) := by
  rcases Nat.lt_or_ge k l.length with h | h
  · conv => lhs; rw [← List.take_append_drop k l, optC_app]
    rw [List.drop_append_of_le_length (by rw [optC_length, List.length_take]; omega), List.drop_of_length_le (by rw [optC_length, List.length_take]; omega), List.nil_append]
  · rw [List.drop_of_length_le (by rw [optC_length]; omega), List.drop_of_length_le h]; rfl
theorem optC_set {l : List Opt} {k : Nat} (x : Opt) (h : k < l.length) : (optC l).take (k * 3) ++ x.cells ++ (optC l).drop (k * 3 + 3) = optC (l.set k x) := by
  rw [List.set_eq_take_append_cons_drop, if_pos h, optC_app, optC_take, show k * 3 + 3 = (k + 1) * 3 by omega, optC_drop, List.append_assoc]
  rfl
def posO (o : Opt) (s : List Opt) : Nat → Nat
  | 0 => 0
  | j + 1 => if bef o (s.getD j noO) = true then posO o s j else j + 1
def insO (o : Opt) (s : List Opt) : List Opt := s.take (posO o s s.length) ++ o :: s.drop (posO o s s.length)
def sortO (l : List Opt) : List Opt := l.foldl (fun s o => insO o s) []
theorem insO_len (o : Opt) (s : List Opt) : (insO o s).length = s.length + 1 := by
  unfold insO
  rw [List.length_append, List.length_cons, List.length_take, List.length_drop]; omega
theorem sortO_snoc (l : List Opt) (o : Opt) : sortO (l ++ [o]) = insO o (sortO l) := by simp [sortO, List.foldl_append]
theorem sortO_take {l : List Opt} {i : Nat} (h : i < l.length) : sortO (l.take (i + 1)) = insO (l.getD i noO) (sortO (l.take i)) := by
  rw [List.take_add_one, getD_some (d := noO) h]
  exact sortO_snoc _ _
theorem sortO_len (l : List Opt) : (sortO l).length = l.length := by
  have : ∀ (l : List Opt) (s : List Opt), (l.foldl (fun s o => insO o s) s).length = s.length + l.length := by
    intro l
    induction l with
    | nil => intro s; simp
    | cons o l ih => intro s; rw [List.foldl_cons, ih, insO_len, List.length_cons]; omega
  rw [sortO, this]; simp
theorem insO_mem {o x : Opt} {s : List Opt} (h : x ∈ insO o s) : x = o ∨ x ∈ s := by
  unfold insO at h
  rcases List.mem_append.1 h with h | h
  · exact .inr (List.mem_of_mem_take h)
  · rcases List.mem_cons.1 h with h | h
    · exact .inl h
    · exact .inr (List.mem_of_mem_drop h)
theorem sortO_mem : ∀ {l : List Opt} {x : Opt}, x ∈ sortO l → x ∈ l := by
  have : ∀ (l s : List Opt) (x : Opt), x ∈ l.foldl (fun s o => insO o s) s → x ∈ s ∨ x ∈ l := by
    intro l
    induction l with
    | nil => intro s x h; exact .inl h
    | cons o l ih =>
      intro s x h
      rw [List.foldl_cons] at h
      rcases ih _ _ h with h | h
      · rcases insO_mem h with rfl | h
        · exact .inr (by simp)
        · exact .inl h
      · exact .inr (by simp [h])
  intro l x h
  rcases this l [] x h with h | h
  · cases h
  · exact h
abbrev CmA : AV := .fn (.func 63) [] [.ptr 0 0]
set_option maxHeartbeats 8000000 in
set_option maxRecDepth 100000 in
theorem insSort_spec (l : List Opt) (m : List (D × D)) (hn : l.length ≤ 1000) (hk : keysOK Tryz.prog 9 m = true) (hl : ∀ o ∈ l, lookV (.int .i64 0) m (S o.txt) false = .int .i64 o.wd) :
    Ctr Tryz.prog G 132 [.lsl 1 3 0 l.length, .d (.int .i64 0), .d (.int .i64 l.length), CmA] [.box [.mp 2], .row false (optC l), .map m] .undef [.box [.mp 2], .row false (optC (sortO l)), .map m] := by
  refine Ctr.body (M := M0) hmix Tryz.func132 rfl go132 ?_
  simp (config := { maxSteps := 1000000 }) (disch := ((try simp only [awL]); omega)) only [QR, QS, QT, QU, QV, QW, QX, QY, QZ, Q0, Q1, Q2, Tryz.f132, ↓awU, awV, awF, Qa, Qb, Qc, Qd, forall_const, ↓reduceIte, ↓reduceDIte, ↓Qe, Qf, Qg, Qh, Qi, Qj, Qk, Ql, Qm, Qn, Qo, Qp, Qq, Qr, Qs, implies_true, Qt, Qu, Qv, Qw, Qx, Qy, Qz, QA, QB, QC, QD, QE, QF, QG, QH, QI, QJ, QK, QL, QM, QN, QO, QP, QQ]
  refine LoopC.fr 15 (α := Nat × List Opt) (fun x => l.length - x.1) (fun x => [(8, .d (.int .i64 x.1))]) (fun x => [.box [.mp 2], .row false (optC x.2), .map m])
    (fun x => 1 ≤ x.1 ∧ x.2.length = l.length ∧ x.2 = sortO (l.take x.1) ++ l.drop x.1) (1, l) ⟨Nat.le_refl _, rfl, by cases l <;> simp [sortO, insO, posO]⟩ ?_ ?_
  · exact ⟨[some 0, some 1, some 2], rfl, by simp, by simp [setsA, keepA, SWeak, AWeak], by simp [HWeak, BWeak, SWeak, AWeak]⟩
  · rintro ⟨i, d⟩ ⟨i1, i2, i3⟩
    simp only at i1 i2 i3
    simp only [awK, Nat.reduceMod, Nat.reduceDiv, reduceIte]
    rcases Nat.lt_or_ge i l.length with h | h
    · have hS : (sortO (l.take i)).length = i := by rw [sortO_len, List.length_take]; omega
      have hst := sortO_take h
      have ho := hl _ (memD (d := noO) h)
      have hSm : ∀ x ∈ sortO (l.take i), lookV (.int .i64 0) m (S x.txt) false = .int .i64 x.wd := fun x hx => hl x (List.mem_of_mem_take (sortO_mem hx))
      have ed : l.drop i = l.getD i noO :: l.drop (i + 1) := by
        rw [List.drop_eq_getElem_cons h, List.getD_eq_getElem?_getD, List.getElem?_eq_getElem h]; rfl
      rw [ed] at i3
      clear ed
      have hr : (l.drop (i + 1)).length = l.length - (i + 1) := List.length_drop ..
      obtain ⟨rest, hrest⟩ : ∃ rest, rest = l.drop (i + 1) := ⟨_, rfl⟩
      rw [← hrest] at hr i3
      generalize l.getD i noO = o at *
      generalize sortO (l.take i) = st at *
      simp (config := { maxSteps := 1000000 }) (disch := ((try simp only [awL]); omega)) only [QR, QS, QT, QU, QV, QW, QX, QY, QZ, Q0, Q1, Q2, ↓awU, awV, awF, Qa, Qb, Qc, Qd, forall_const, ↓reduceIte, ↓reduceDIte, ↓Qe, Qf, Qg, Qh, Qi, Qj, Qk, Ql, Qm, Qn, Qo, Qp, Qq, Qr, Qs, implies_true, Qt, Qu, Qv, Qw, Qx, Qy, Qz, QA, QB, QC, QD, QE, QF, QG, QH, QI, QJ, QK, QL, QM, QN, QO, QP, QQ]
      refine LoopC.fr 271 (α := Nat × List Opt) (fun x => x.1) (fun x => [(9, .d (.int .i64 x.1))]) (fun x => [.box [.mp 2], .row false (optC x.2), .map m])
        (fun x => x.1 ≤ i ∧ x.2 = st.take x.1 ++ o :: (st.drop x.1 ++ rest) ∧ posO o st st.length = posO o st x.1) (i, d) ⟨Nat.le_refl _, by rw [i3, ← hS, List.take_length, List.drop_length]; rfl, by rw [hS]⟩ ?_ ?_
      · exact ⟨[some 0, some 1, some 2], rfl, by simp, by simp [setsA, keepA, SWeak, AWeak], by simp [HWeak, BWeak, SWeak, AWeak]⟩
      · rintro ⟨j, e⟩ ⟨j1, j2, j3⟩
        simp only at j1 j2 j3
        simp only [awK, Nat.reduceMod, Nat.reduceDiv, reduceIte]
        rcases Nat.eq_zero_or_pos j with h0 | h0
        · subst h0
          rw [show posO o st 0 = 0 from rfl] at j3
          have fin : e = sortO (l.take (i + 1)) ++ rest := by
            rw [j2, hst, insO, j3]; simp
          simp (config := { maxSteps := 1000000 }) (disch := ((try simp only [awL]); omega)) only [QR, QS, QT, QU, QV, QW, QX, QY, QZ, Q0, Q1, Q2, ↓awU, awV, awF, Qa, Qb, Qc, Qd, forall_const, ↓reduceIte, ↓reduceDIte, ↓Qe, Qf, Qg, Qh, Qi, Qj, Qk, Ql, Qm, Qn, Qo, Qp, Qq, Qr, Qs, implies_true, Qt, Qu, Qv, Qw, Qx, Qy, Qz, QA, QB, QC, QD, QE, QF, QG, QH, QI, QJ, QK, QL, QM, QN, QO, QP, QQ]
          exact ⟨by rfl, (i + 1, e), ⟨by simp only; omega, by rw [fin, hst, List.length_append, insO_len, hr]; omega, by rw [fin, hrest]⟩, by simp only; omega, ⟨[some 0, some 1, some 2], rfl, by simp, by simp [setsA, keepA, SWeak, AWeak], by simp [HWeak, BWeak, SWeak, AWeak]⟩⟩
        · obtain ⟨q, rfl⟩ : ∃ q, j = q + 1 := ⟨j - 1, by omega⟩
          have oel := optC_length e
          have el : e.length = l.length := by rw [j2]; simp; omega
          have gj := optC_get (l := e) (k := q + 1) (by omega)
          have gq := optC_get (l := e) (k := q) (by omega)
          have e1 : e.getD (q + 1) noO = o := by
            rw [j2, List.getD_eq_getElem?_getD, List.getElem?_append_right (by rw [List.length_take]; omega), List.length_take, show q + 1 - min (q + 1) st.length = 0 by omega]; rfl
          have e2 : e.getD q noO = st.getD q noO := by
            rw [j2, List.getD_eq_getElem?_getD, List.getElem?_append_left (by rw [List.length_take]; omega), List.getElem?_take, if_pos (by omega), List.getD_eq_getElem?_getD]
          rw [e1] at gj
          rw [e2] at gq
          have hp := hSm _ (memD (d := noO) (l := st) (i := q) (by omega))
          rw [show posO o st (q + 1) = if bef o (st.getD q noO) = true then posO o st q else q + 1 from rfl] at j3
          obtain ⟨pp, hpp⟩ : ∃ pp, pp = st.getD q noO := ⟨_, rfl⟩
          rw [← hpp] at gq hp j3 e2
          have eq1 : (((q + 1 : Nat) : Int) - 1) = (q : Int) := by omega
          have eq2 : (((q + 1 : Nat) : Int) - 1).toNat = q := by omega
          simp (config := { maxSteps := 1000000 }) (disch := ((try simp only [awL]); omega)) only [QR, QS, QT, QU, QV, QW, QX, QY, QZ, Q0, Q1, Q2, oel, gj, gq, eq2, ↓awU, awV, awF, Qa, Qb, Qc, Qd, forall_const, ↓reduceIte, ↓reduceDIte, ↓Qe, Qf, Qg, Qh, Qi, Qj, Qk, Ql, Qm, Qn, Qo, Qp, Qq, Qr, Qs, implies_true, Qt, Qu, Qv, Qw, Qx, Qy, Qz, QA, QB, QC, QD, QE, QF, QG, QH, QI, QJ, QK, QL, QM, QN, QO, QP, QQ]
          refine CallC.by (cmpO_spec o pp m hk ho hp) (by rfl) (by rfl) (by simp) ?_
          have hb := cmpO_bef o pp
          generalize cmpO o pp = c at *
          cases hbb : bef o pp
          · rw [hbb] at hb j3
            have hc := of_decide_eq_false hb
            have fin : e = sortO (l.take (i + 1)) ++ rest := by
              rw [if_neg (by decide)] at j3
              rw [j2, hst, insO, j3]; simp
            simp (config := { maxSteps := 1000000 }) (disch := ((try simp only [awL]); omega)) only [QR, QS, QT, QU, QV, QW, QX, QY, QZ, Q0, Q1, Q2, ↓awU, awV, awF, Qa, Qb, Qc, Qd, forall_const, ↓reduceIte, ↓reduceDIte, ↓Qe, Qf, Qg, Qh, Qi, Qj, Qk, Ql, Qm, Qn, Qo, Qp, Qq, Qr, Qs, implies_true, Qt, Qu, Qv, Qw, Qx, Qy, Qz, QA, QB, QC, QD, QE, QF, QG, QH, QI, QJ, QK, QL, QM, QN, QO, QP, QQ]
            exact ⟨by rfl, (i + 1, e), ⟨by simp only; omega, by rw [fin, hst, List.length_append, insO_len, hr]; omega, by rw [fin, hrest]⟩, by simp only; omega, ⟨[some 0, some 1, some 2], rfl, by simp, by simp [setsA, keepA, SWeak, AWeak], by simp [HWeak, BWeak, SWeak, AWeak]⟩⟩
          · rw [hbb] at hb j3
            have hc := of_decide_eq_true hb
            rw [if_pos rfl] at j3
            have s1 := optC_set (l := e) (k := q + 1) pp (by omega)
            have s2 := optC_set (l := e.set (q + 1) pp) (k := q) o (by rw [List.length_set]; omega)
            have fin : (e.set (q + 1) pp).set q o = st.take q ++ o :: (st.drop q ++ rest) := by
              have d1 : st.drop q = pp :: st.drop (q + 1) := by
                rw [List.drop_eq_getElem_cons (show q < st.length by omega), hpp, List.getD_eq_getElem?_getD, List.getElem?_eq_getElem (show q < st.length by omega)]; rfl
              have t1 : st.take (q + 1) = st.take q ++ [pp] := by
                rw [List.take_add_one, getD_some (d := noO) (show q < st.length by omega), ← hpp]; rfl
              have tl : (st.take q).length = q := by rw [List.length_take]; omega
              rw [j2, t1, d1, List.append_assoc, List.set_append_right _ _ (by omega), tl, show q + 1 - q = 1 by omega, List.set_append_right _ _ (by omega), tl, Nat.sub_self]
              rfl
            have oel2 := optC_length (e.set (q + 1) pp)
            rw [List.length_set] at oel2
            simp (config := { maxSteps := 1000000 }) (disch := ((try simp only [awL]); omega)) only [QR, QS, QT, QU, QV, QW, QX, QY, QZ, Q0, Q1, Q2, oel, gj, gq, eq2, s1, oel2, s2, ↓awU, awV, awF, Qa, Qb, Qc, Qd, forall_const, ↓reduceIte, ↓reduceDIte, ↓Qe, Qf, Qg, Qh, Qi, Qj, Qk, Ql, Qm, Qn, Qo, Qp, Qq, Qr, Qs, implies_true, Qt, Qu, Qv, Qw, Qx, Qy, Qz, QA, QB, QC, QD, QE, QF, QG, QH, QI, QJ, QK, QL, QM, QN, QO, QP, QQ]
            refine ⟨by rfl, by rfl, ?_⟩
            exact ⟨(q, (e.set (q + 1) pp).set q o), ⟨by simp only; omega, fin, j3⟩, by simp only; omega, ⟨[some 0, some 1, some 2], rfl, by simp, by simp [setsA, keepA, SWeak, AWeak], by simp [HWeak, BWeak, SWeak, AWeak]⟩⟩
    · rw [List.take_of_length_le h, List.drop_of_length_le h, List.append_nil] at i3
      subst i3
      simp (config := { maxSteps := 1000000 }) (disch := ((try simp only [awL]); omega)) only [QR, QS, QT, QU, QV, QW, QX, QY, QZ, Q0, Q1, Q2, ↓awU, awV, awF, Qa, Qb, Qc, Qd, forall_const, ↓reduceIte, ↓reduceDIte, ↓Qe, Qf, Qg, Qh, Qi, Qj, Qk, Ql, Qm, Qn, Qo, Qp, Qq, Qr, Qs, implies_true, Qt, Qu, Qv, Qw, Qx, Qy, Qz, QA, QB, QC, QD, QE, QF, QG, QH, QI, QJ, QK, QL, QM, QN, QO, QP, QQ]
      exact ⟨[some 0, some 1, some 2], rfl, by simp, by simp [HWeak, BWeak, SWeak, AWeak], .inl (by simp [AWeak, SWeak])⟩
end Go.Proofs.YtacepalmphbnfaaGreatDoor

namespace Go.Proofs.YtacepalmphbnfaaGreatDoor
open Go Go.Proofs Go.Abs
variable {G : Globals}
/-! The options: sorted by slices.SortFunc. -/
theorem bitsLen_spec (n : Nat) (h : n < 18446744073709551616) : Ctr Tryz.prog G 105 [.d (.int .u64 n)] [] (.d (.int .i64 (Lib.bitLen n))) [] := by
  refine Ctr.pure (M := M0) hmix Tryz.func105 rfl go105 ?_
  simp (config := { maxSteps := 1000000 }) (disch := ((try simp only [awL]); omega)) only [QR, QS, QT, QU, QV, QW, QX, QY, QZ, Q0, Q1, Q2, Tryz.f105, ↓awU, awV, awF, Qa, Qb, Qc, Qd, forall_const, ↓reduceIte, ↓reduceDIte, ↓Qe, Qf, Qg, Qh, Qi, Qj, Qk, Ql, Qm, Qn, Qo, Qp, Qq, Qr, Qs, implies_true, Qt, Qu, Qv, Qw, Qx, Qy, Qz, QA, QB, QC, QD, QE, QF, QG, QH, QI, QJ, QK, QL, QM, QN, QO, QP, QQ]
  refine CallC.pure (len64_spec n h) ?_
  simp (config := { maxSteps := 1000000 }) (disch := ((try simp only [awL]); omega)) only [QR, QS, QT, QU, QV, QW, QX, QY, QZ, Q0, Q1, Q2, ↓awU, awV, awF, Qa, Qb, Qc, Qd, forall_const, ↓reduceIte, ↓reduceDIte, ↓Qe, Qf, Qg, Qh, Qi, Qj, Qk, Ql, Qm, Qn, Qo, Qp, Qq, Qr, Qs, implies_true, Qt, Qu, Qv, Qw, Qx, Qy, Qz, QA, QB, QC, QD, QE, QF, QG, QH, QI, QJ, QK, QL, QM, QN, QO, QP, QQ]
def MP : Muts := fun k => k == 132 || k == 104 || k == 62
theorem MP_a : MP 132 = true := rfl
theorem MP_b : MP 104 = true := rfl
theorem MP_c : MP 62 = true := rfl
theorem MP_n {k : Nat} (h : k ≠ 132 ∧ k ≠ 104 ∧ k ≠ 62) : MP k = false := by
  simp only [MP, Bool.or_eq_false_iff, beq_eq_false_iff_ne]; exact ⟨⟨h.1, h.2.1⟩, h.2.2⟩
set_option maxHeartbeats 4000000 in
set_option maxRecDepth 100000 in
theorem pdq_spec (l : List Opt) (lim : Int) (m : List (D × D)) (hn : l.length ≤ 12) (hk : keysOK Tryz.prog 9 m = true) (hl : ∀ o ∈ l, lookV (.int .i64 0) m (S o.txt) false = .int .i64 o.wd) :
    Ctr Tryz.prog G 104 [.lsl 1 3 0 l.length, .d (.int .i64 0), .d (.int .i64 l.length), .d (.int .i64 lim), CmA] [.box [.mp 2], .row false (optC l), .map m] .undef [.box [.mp 2], .row false (optC (sortO l)), .map m] := by
  refine Ctr.body (M := MP) hmix Tryz.func104 rfl go104 ?_
  simp (config := { maxSteps := 1000000 }) (disch := ((try simp only [awL]); omega)) only [QR, QS, QT, QU, QV, QW, QX, QY, QZ, Q0, Q1, Q2, Tryz.f104, ↓awU, awV, awF, Qa, Qb, Qc, Qd, forall_const, ↓reduceIte, ↓reduceDIte, ↓Qe, Qf, Qg, Qh, Qi, Qj, Qk, Ql, Qm, Qn, Qo, Qp, Qq, Qr, Qs, implies_true, Qt, Qu, Qv, Qw, Qx, Qy, Qz, QA, QB, QC, QD, QE, QF, QG, QH, QI, QJ, QK, QL, QM, QN, QO, QP, QQ]
  refine LoopC.fr 17 (α := Unit) (fun _ => 0) (fun _ => [(1, .d (.int .i64 0)), (2, .d (.int .i64 l.length)), (3, .d (.int .i64 lim)), (10, .d (.bool true)), (11, .d (.bool true))]) (fun _ => [.box [.mp 2], .row false (optC l), .map m]) (fun _ => True) () trivial ?_ ?_
  · exact ⟨[some 0, some 1, some 2], rfl, by simp, by simp [setsA, keepA, SWeak, AWeak], by simp [HWeak, BWeak, SWeak, AWeak]⟩
  · rintro ⟨⟩ -
    simp only [awK, Nat.reduceMod, Nat.reduceDiv, reduceIte]
    simp (config := { maxSteps := 1000000 }) (disch := ((try simp only [awL]); omega)) only [QR, QS, QT, QU, QV, QW, QX, QY, QZ, Q0, Q1, Q2, MP_a, MP_n, ↓awU, awV, awF, Qa, Qb, Qc, Qd, forall_const, ↓reduceIte, ↓reduceDIte, ↓Qe, Qf, Qg, Qh, Qi, Qj, Qk, Ql, Qm, Qn, Qo, Qp, Qq, Qr, Qs, implies_true, Qt, Qu, Qv, Qw, Qx, Qy, Qz, QA, QB, QC, QD, QE, QF, QG, QH, QI, QJ, QK, QL, QM, QN, QO, QP, QQ]
    refine CallC.by (insSort_spec l m (by omega) hk hl) (by first | rfl | simp) (by rfl) (by simp) ?_
    simp (config := { maxSteps := 1000000 }) (disch := ((try simp only [awL]); omega)) only [QR, QS, QT, QU, QV, QW, QX, QY, QZ, Q0, Q1, Q2, MP_a, MP_n, ↓awU, awV, awF, Qa, Qb, Qc, Qd, forall_const, ↓reduceIte, ↓reduceDIte, ↓Qe, Qf, Qg, Qh, Qi, Qj, Qk, Ql, Qm, Qn, Qo, Qp, Qq, Qr, Qs, implies_true, Qt, Qu, Qv, Qw, Qx, Qy, Qz, QA, QB, QC, QD, QE, QF, QG, QH, QI, QJ, QK, QL, QM, QN, QO, QP, QQ]
    exact ⟨[some 0, some 1, some 2], rfl, by simp, by simp [HWeak, BWeak, SWeak, AWeak], .inl (by simp [AWeak, SWeak])⟩
set_option maxHeartbeats 4000000 in
set_option maxRecDepth 100000 in
theorem sortFunc_spec (l : List Opt) (m : List (D × D)) (hn : l.length ≤ 12) (hk : keysOK Tryz.prog 9 m = true) (hl : ∀ o ∈ l, lookV (.int .i64 0) m (S o.txt) false = .int .i64 o.wd) :
    Ctr Tryz.prog G 62 [.lsl 1 3 0 l.length, CmA] [.box [.mp 2], .row false (optC l), .map m] .undef [.box [.mp 2], .row false (optC (sortO l)), .map m] := by
  refine Ctr.body (M := MP) hmix Tryz.func62 rfl go62 ?_
  simp (config := { maxSteps := 1000000 }) (disch := ((try simp only [awL]); omega)) only [QR, QS, QT, QU, QV, QW, QX, QY, QZ, Q0, Q1, Q2, MP_b, MP_n, Tryz.f62, ↓awU, awV, awF, Qa, Qb, Qc, Qd, forall_const, ↓reduceIte, ↓reduceDIte, ↓Qe, Qf, Qg, Qh, Qi, Qj, Qk, Ql, Qm, Qn, Qo, Qp, Qq, Qr, Qs, implies_true, Qt, Qu, Qv, Qw, Qx, Qy, Qz, QA, QB, QC, QD, QE, QF, QG, QH, QI, QJ, QK, QL, QM, QN, QO, QP, QQ]
  refine CallC.pure (bitsLen_spec l.length (by omega)) ?_
  simp (config := { maxSteps := 1000000 }) (disch := ((try simp only [awL]); omega)) only [QR, QS, QT, QU, QV, QW, QX, QY, QZ, Q0, Q1, Q2, MP_b, MP_n, ↓awU, awV, awF, Qa, Qb, Qc, Qd, forall_const, ↓reduceIte, ↓reduceDIte, ↓Qe, Qf, Qg, Qh, Qi, Qj, Qk, Ql, Qm, Qn, Qo, Qp, Qq, Qr, Qs, implies_true, Qt, Qu, Qv, Qw, Qx, Qy, Qz, QA, QB, QC, QD, QE, QF, QG, QH, QI, QJ, QK, QL, QM, QN, QO, QP, QQ]
  refine CallC.by (pdq_spec l _ m hn hk hl) (by first | rfl | simp) (by rfl) (by simp) ?_
  simp (config := { maxSteps := 1000000 }) (disch := ((try simp only [awL]); omega)) only [QR, QS, QT, QU, QV, QW, QX, QY, QZ, Q0, Q1, Q2, MP_b, MP_n, ↓awU, awV, awF, Qa, Qb, Qc, Qd, forall_const, ↓reduceIte, ↓reduceDIte, ↓Qe, Qf, Qg, Qh, Qi, Qj, Qk, Ql, Qm, Qn, Qo, Qp, Qq, Qr, Qs, implies_true, Qt, Qu, Qv, Qw, Qx, Qy, Qz, QA, QB, QC, QD, QE, QF, QG, QH, QI, QJ, QK, QL, QM, QN, QO, QP, QQ]
  exact ⟨[some 0, some 1, some 2], rfl, by simp, by simp [HWeak, BWeak, SWeak, AWeak], .inl (by simp [AWeak, SWeak])⟩
end Go.Proofs.YtacepalmphbnfaaGreatDoor

namespace Go.Proofs.YtacepalmphbnfaaGreatDoor
open Go Go.Proofs Go.Abs
variable {G : Globals}
/-! The options of a file: fixed.Options. -/
def cleanF (ly : List Nat) (l : List UInt8) : Bool := decide ([] ∉ fldsL ly l)
def forN (ly : List Nat) (ls : Row) : Nat := (ls.filter (cleanF ly)).length
def agN (ly : List Nat) (ls : Row) : Nat := (ls.filter fun l => !cleanF ly l).length
def mkO (ls : Row) (l : List Int) : Opt := ⟨txO (textL l), forN (natsOf l) ls, agN (natsOf l) ls, l.length⟩
def addO (d : List UInt8) (acc : List Opt) (gap : Nat) : List Opt :=
  match inferL d gap with
  | none => acc
  | some l => if txO (textL l) ∈ acc.map Opt.txt then acc else acc ++ [mkO (linesL d) l]
def colO (d : List UInt8) : Nat → List Opt
  | 0 => []
  | g + 1 => addO d (colO d g) (g + 1)
def optsL (d : List UInt8) : List Opt := sortO (colO d 3)
def cols (c : List Opt) : List (D × D) := c.map fun o => (S o.txt, .int .i64 o.wd)
/-- The width that stands for a text. -/
def wdOf (x : List UInt8) : List Opt → Nat
  | [] => 0
  | o :: c => if x = o.txt then o.wd else wdOf x c
theorem keys_cols (c : List Opt) : keysOK Tryz.prog 9 (cols c) = true := by
  unfold keysOK
  refine List.all_eq_true.2 fun e he => ?_
  obtain ⟨o, _, rfl⟩ := List.mem_map.1 he
  show isKeyD Tryz.prog 9 (S o.txt) = true
  unfold isKeyD
  rw [ti9]
  rfl
theorem bs_beq {a b : List UInt8} : (bs a == bs b) = decide (a = b) := by
  have e : (bs a == bs b) = (a.toArray == b.toArray) := rfl
  rw [e]
  by_cases h : a = b
  · subst h; simp
  · rw [decide_eq_false h]
    exact beq_eq_false_iff_ne.2 fun q => h (by simpa using q)
theorem find_cols (x : List UInt8) : ∀ c : List Opt, (findE (S x) (cols c) = none ∧ wdOf x c = 0 ∧ x ∉ c.map Opt.txt) ∨ ∃ i, findE (S x) (cols c) = some (i, .int .i64 (wdOf x c)) ∧ x ∈ c.map Opt.txt
  | [] => .inl ⟨rfl, rfl, by simp⟩
  | o :: c => by
    have e : findE (S x) (cols (o :: c)) = if (bs x == bs o.txt) = true then some (0, .int .i64 o.wd) else (findE (S x) (cols c)).map fun y => (y.1 + 1, y.2) := rfl
    rw [e, bs_beq, wdOf]
    by_cases h : x = o.txt
    · right
      exact ⟨0, by simp [h], by simp [h]⟩
    · rw [if_neg h, if_neg (by simpa using h)]
      rcases find_cols x c with ⟨a, b, d⟩ | ⟨i, a, b⟩
      · exact .inl ⟨by rw [a]; rfl, b, by simp [h, d]⟩
      · exact .inr ⟨i + 1, by rw [a]; rfl, by simp [b]⟩
theorem look_cols (x : List UInt8) (c : List Opt) : lookV (.int .i64 0) (cols c) (S x) false = .int .i64 (wdOf x c) := by
  unfold lookV
  rcases find_cols x c with ⟨a, b, _⟩ | ⟨i, a, _⟩
  · rw [a, b]; rfl
  · rw [a]; rfl
theorem upd_cols {x : List UInt8} {c : List Opt} (h : x ∉ c.map Opt.txt) (o : Opt) (ho : o.txt = x) : updE (cols c) (S x) (.int .i64 o.wd) = cols (c ++ [o]) := by
  unfold updE
  rcases find_cols x c with ⟨a, _, _⟩ | ⟨i, _, b⟩
  · rw [a, ← ho]; simp [cols]
  · exact absurd b h
/-- Each text once, each width at least one. -/
def OkC (c : List Opt) : Prop := (∀ o ∈ c, 1 ≤ o.wd ∧ wdOf o.txt c = o.wd) ∧ c.length ≤ 3
theorem wdOf_app {x : List UInt8} {a b : List Opt} : wdOf x (a ++ b) = if x ∈ a.map Opt.txt then wdOf x a else wdOf x b := by
  induction a with
  | nil => simp
  | cons o a ih =>
    rw [List.cons_append, wdOf, wdOf, ih]
    by_cases h : x = o.txt
    · simp [h]
    · simp [h]
theorem wdOf_pos {x : List UInt8} : ∀ {c : List Opt}, (∀ o ∈ c, 1 ≤ o.wd) → x ∈ c.map Opt.txt → 1 ≤ wdOf x c
  | [], _, h => by simp at h
  | o :: c, h1, h => by
    rw [wdOf]
    split
    · exact h1 o (by simp)
    · rename_i hx
      refine wdOf_pos (fun y hy => h1 y (by simp [hy])) ?_
      rw [List.map_cons] at h
      exact (List.mem_cons.1 h).resolve_left hx
theorem infer_ok {d : List UInt8} {g : Int} {l : List Int} (h : inferL d g = some l) : okLay l = true ∧ Lib.validD d = true ∧ d.length ≤ 1048576 := by
  unfold inferL at h
  split at h
  · cases h
  · rename_i h1
    have hv : Lib.validD d = true ∧ d.length ≤ 1048576 := by
      refine ⟨?_, ?_⟩
      · cases hx : Lib.validD d with
        | true => rfl
        | false => exact absurd (.inl hx) h1
      · rcases Nat.lt_or_ge 1048576 d.length with x | x
        · exact absurd (.inr (.inl x)) h1
        · exact x
    split at h
    · cases h
    · split at h
      · rename_i hk; cases h; exact ⟨hk, hv⟩
      · cases h
theorem colO_ok (d : List UInt8) : ∀ g, g ≤ 3 → OkC (colO d g) ∧ (colO d g).length ≤ g := by
  intro g
  induction g with
  | zero =>
    intro _
    refine ⟨⟨fun o ho => ?_, Nat.zero_le _⟩, Nat.le_refl _⟩
    cases ho
  | succ g ih =>
    intro hg
    obtain ⟨⟨i1, i2⟩, i3⟩ := ih (by omega)
    rw [colO]
    unfold addO
    split
    · exact ⟨⟨i1, i2⟩, by omega⟩
    · rename_i l hl
      split
      · exact ⟨⟨i1, i2⟩, by omega⟩
      · rename_i hn
        have hlen := (okLay_ok (infer_ok hl).1).1
        refine ⟨⟨fun o ho => ?_, by rw [List.length_append, List.length_singleton]; omega⟩, by rw [List.length_append, List.length_singleton]; omega⟩
        rw [wdOf_app]
        rcases List.mem_append.1 ho with ho | ho
        · rw [if_pos (List.mem_map_of_mem (f := Opt.txt) ho)]
          exact i1 o ho
        · obtain rfl := List.mem_singleton.1 ho
          rw [if_neg (show ¬ (mkO (linesL d) l).txt ∈ (colO d g).map Opt.txt from hn)]
          refine ⟨by show 1 ≤ l.length; omega, ?_⟩
          rw [wdOf, if_pos rfl]
theorem optC_push (a : List Opt) (o : Opt) : optC a ++ o.cells = optC (a ++ [o]) := by rw [optC_app]; simp [optC]
theorem filt_step {p : List UInt8 → Bool} {ls : Row} {i : Nat} (h : i < ls.length) : ((ls.take (i + 1)).filter p).length = ((ls.take i).filter p).length + (if p (ls.getD i []) = true then 1 else 0) := by
  rw [List.take_add_one, getD_some (d := []) h, List.filter_append, List.length_append]
  congr 1
  simp only [Option.toList_some, List.filter_cons, List.filter_nil]
  split <;> rfl
set_option maxHeartbeats 16000000 in
set_option maxRecDepth 100000 in
theorem options_spec (hT : HT G) (hI : HI G) (d : List UInt8) (hd : d.length ≤ 100000000) : Ctr Tryz.prog G 20 [.d (S d)] [] (.d (.sl (optsL d).length false (optC (optsL d)))) [] := by
  refine Ctr.pure (M := MP) hmix Tryz.func20 rfl go20 ?_
  obtain ⟨j1, j2⟩ := linesL_in (s := d)
  simp (config := { maxSteps := 1000000 }) (disch := ((try simp only [awL]); omega)) only [QR, QS, QT, QU, QV, QW, QX, QY, QZ, Q0, Q1, Q2, MP_c, MP_n, Tryz.f20, ↓awU, awV, awF, Qa, Qb, Qc, Qd, forall_const, ↓reduceIte, ↓reduceDIte, ↓Qe, Qf, Qg, Qh, Qi, Qj, Qk, Ql, Qm, Qn, Qo, Qp, Qq, Qr, Qs, implies_true, Qt, Qu, Qv, Qw, Qx, Qy, Qz, QA, QB, QC, QD, QE, QF, QG, QH, QI, QJ, QK, QL, QM, QN, QO, QP, QQ]
  refine CallC.pure (lines_spec d (by omega)) ?_
  simp (config := { maxSteps := 1000000 }) (disch := ((try simp only [awL]); omega)) only [QR, QS, QT, QU, QV, QW, QX, QY, QZ, Q0, Q1, Q2, MP_c, MP_n, ↓awU, awV, awF, Qa, Qb, Qc, Qd, forall_const, ↓reduceIte, ↓reduceDIte, ↓Qe, Qf, Qg, Qh, Qi, Qj, Qk, Ql, Qm, Qn, Qo, Qp, Qq, Qr, Qs, implies_true, Qt, Qu, Qv, Qw, Qx, Qy, Qz, QA, QB, QC, QD, QE, QF, QG, QH, QI, QJ, QK, QL, QM, QN, QO, QP, QQ]
  refine LoopC.fx 49 (α := Nat) (β := Unit) (fun g => 3 - g) (fun g => [(3, .lsl 2 3 0 (colO d g).length), (6, .d (.int .i64 (g + 1 : Nat)))]) (fun g => [.map (cols (colO d g)), .box [.mp 0], .row false (optC (colO d g))]) (fun g => g ≤ 3) 16 (fun _ => [(3, .lsl 2 3 0 (colO d 3).length)]) (fun _ => [.map (cols (colO d 3)), .box [.mp 0], .row false (optC (colO d 3))]) (fun _ => True) 0 (Nat.zero_le _) ?_ ?_ ?_
  · exact ⟨[some 0, some 1, none], rfl, by simp, by simp [setsA, keepA, SWeak, AWeak, colO], by simp [HWeak, BWeak, SWeak, AWeak, colO, cols, optC]⟩
  · intro g hg
    obtain ⟨⟨ok1, ok2⟩, ok3⟩ := colO_ok d g hg
    have ol := optC_length (colO d g)
    have kc := keys_cols (colO d g)
    simp only [awK, Nat.reduceMod, Nat.reduceDiv, reduceIte]
    rcases Nat.lt_or_ge g 3 with h | h
    · have hst : colO d (g + 1) = addO d (colO d g) (g + 1) := rfl
      unfold addO at hst
      simp (config := { maxSteps := 1000000 }) (disch := ((try simp only [awL]); omega)) only [QR, QS, QT, QU, QV, QW, QX, QY, QZ, Q0, Q1, Q2, MP_c, MP_n, ↓awU, awV, awF, Qa, Qb, Qc, Qd, forall_const, ↓reduceIte, ↓reduceDIte, ↓Qe, Qf, Qg, Qh, Qi, Qj, Qk, Ql, Qm, Qn, Qo, Qp, Qq, Qr, Qs, implies_true, Qt, Qu, Qv, Qw, Qx, Qy, Qz, QA, QB, QC, QD, QE, QF, QG, QH, QI, QJ, QK, QL, QM, QN, QO, QP, QQ]
      refine CallC.of (infer_spec hT d (g + 1 : Nat) hd) (by rfl) ?_
      cases hi : inferL d (g + 1 : Nat) with
      | none =>
        rw [hi] at hst
        simp only at hst
        unfold inferD
        simp (config := { maxSteps := 1000000 }) (disch := ((try simp only [awL]); omega)) only [QR, QS, QT, QU, QV, QW, QX, QY, QZ, Q0, Q1, Q2, MP_c, MP_n, ↓awU, awV, awF, Qa, Qb, Qc, Qd, forall_const, ↓reduceIte, ↓reduceDIte, ↓Qe, Qf, Qg, Qh, Qi, Qj, Qk, Ql, Qm, Qn, Qo, Qp, Qq, Qr, Qs, implies_true, Qt, Qu, Qv, Qw, Qx, Qy, Qz, QA, QB, QC, QD, QE, QF, QG, QH, QI, QJ, QK, QL, QM, QN, QO, QP, QQ]
        refine CallC.of (ftext_spec hI [] false (by simp)) (by rfl) ?_
        rw [textD_eq]
        simp (config := { maxSteps := 1000000 }) (disch := ((try simp only [awL]); omega)) only [QR, QS, QT, QU, QV, QW, QX, QY, QZ, Q0, Q1, Q2, MP_c, MP_n, ↓awU, awV, awF, Qa, Qb, Qc, Qd, forall_const, ↓reduceIte, ↓reduceDIte, ↓Qe, Qf, Qg, Qh, Qi, Qj, Qk, Ql, Qm, Qn, Qo, Qp, Qq, Qr, Qs, implies_true, Qt, Qu, Qv, Qw, Qx, Qy, Qz, QA, QB, QC, QD, QE, QF, QG, QH, QI, QJ, QK, QL, QM, QN, QO, QP, QQ]
        exact ⟨g + 1, h, by simp only; omega, ⟨[some 0, some 1, some 2], rfl, by simp, by simp [setsA, keepA, SWeak, AWeak, hst], by simp [HWeak, BWeak, SWeak, AWeak, hst]⟩⟩
      | some l =>
        rw [hi] at hst
        simp only at hst
        obtain ⟨okl, hvd, hdl⟩ := infer_ok hi
        obtain ⟨q1, q2, q3, q4⟩ := okLay_ok okl
        have nl : (natsOf l).length = l.length := by simp [natsOf]
        have tl := textL_len l
        have lk := look_cols (txO (textL l)) (colO d g)
        have fc := find_cols (txO (textL l)) (colO d g)
        unfold inferD
        simp (config := { maxSteps := 1000000 }) (disch := ((try simp only [awL]); omega)) only [QR, QS, QT, QU, QV, QW, QX, QY, QZ, Q0, Q1, Q2, MP_c, MP_n, ↓awU, awV, awF, Qa, Qb, Qc, Qd, forall_const, ↓reduceIte, ↓reduceDIte, ↓Qe, Qf, Qg, Qh, Qi, Qj, Qk, Ql, Qm, Qn, Qo, Qp, Qq, Qr, Qs, implies_true, Qt, Qu, Qv, Qw, Qx, Qy, Qz, QA, QB, QC, QD, QE, QF, QG, QH, QI, QJ, QK, QL, QM, QN, QO, QP, QQ]
        refine CallC.of (ftext_spec hI l false (by omega)) (by rfl) ?_
        rw [textD_eq]
        generalize (textL l).isSome = bb
        by_cases hx : txO (textL l) ∈ (colO d g).map Opt.txt
        · rw [if_pos hx] at hst
          have w1 := wdOf_pos (fun o ho => (ok1 o ho).1) hx
          generalize txO (textL l) = x at *
          generalize wdOf x (colO d g) = w at *
          simp (config := { maxSteps := 1000000 }) (disch := ((try simp only [awL]); omega)) only [QR, QS, QT, QU, QV, QW, QX, QY, QZ, Q0, Q1, Q2, MP_c, MP_n, kc, lk, ↓awU, awV, awF, Qa, Qb, Qc, Qd, forall_const, ↓reduceIte, ↓reduceDIte, ↓Qe, Qf, Qg, Qh, Qi, Qj, Qk, Ql, Qm, Qn, Qo, Qp, Qq, Qr, Qs, implies_true, Qt, Qu, Qv, Qw, Qx, Qy, Qz, QA, QB, QC, QD, QE, QF, QG, QH, QI, QJ, QK, QL, QM, QN, QO, QP, QQ]
          exact ⟨g + 1, h, by simp only; omega, ⟨[some 0, some 1, some 2], rfl, by simp, by simp [setsA, keepA, SWeak, AWeak, hst], by simp [HWeak, BWeak, SWeak, AWeak, hst]⟩⟩
        · rw [if_neg hx] at hst
          have w0 : wdOf (txO (textL l)) (colO d g) = 0 := by
            rcases fc with ⟨_, b, _⟩ | ⟨_, _, b⟩
            · exact b
            · exact absurd b hx
          rw [w0] at lk
          have up := upd_cols hx (mkO (linesL d) l) rfl
          rw [show (mkO (linesL d) l).wd = (natsOf l).length from nl.symm] at up
          have mt : (mkO (linesL d) l).txt = txO (textL l) := rfl
          have mf : (mkO (linesL d) l).fr = forN (natsOf l) (linesL d) := rfl
          have ma : (mkO (linesL d) l).ag = agN (natsOf l) (linesL d) := rfl
          generalize hmk : mkO (linesL d) l = mk at *
          generalize hxx : txO (textL l) = x at *
          clear fc hxx
          have hlines : (linesL d).length ≤ 1048576 := by omega
          generalize linesL d = ls at *
          have sl := @strs_length ls
          rw [show IsF l false = Ns (natsOf l) false by unfold IsF Ns; rw [nats_of q4, nl]]
          simp (config := { maxSteps := 1000000 }) (disch := ((try simp only [awL]); omega)) only [QR, QS, QT, QU, QV, QW, QX, QY, QZ, Q0, Q1, Q2, MP_c, MP_n, kc, lk, up, sl, ↓awU, awV, awF, Qa, Qb, Qc, Qd, forall_const, ↓reduceIte, ↓reduceDIte, ↓Qe, Qf, Qg, Qh, Qi, Qj, Qk, Ql, Qm, Qn, Qo, Qp, Qq, Qr, Qs, implies_true, Qt, Qu, Qv, Qw, Qx, Qy, Qz, QA, QB, QC, QD, QE, QF, QG, QH, QI, QJ, QK, QL, QM, QN, QO, QP, QQ]
          generalize natsOf l = ly at *
          refine LoopC.fx 211106232535289 (α := Nat) (β := Unit) (fun i => ls.length - i) (fun i => [(48, .d (.int .i64 i))]) (fun i => [.map (cols (colO d g ++ [mk])), .box [.mp 0], .row false (optC (colO d g)), .box [.d (S x), .d (.int .i64 (forN ly (ls.take i))), .d (.int .i64 (agN ly (ls.take i)))]])
            (fun i => i ≤ ls.length) 2169 (fun _ => []) (fun _ => [.map (cols (colO d g ++ [mk])), .box [.mp 0], .row false (optC (colO d g)), .box [.d (S x), .d (.int .i64 (forN ly ls)), .d (.int .i64 (agN ly ls))]]) (fun _ => True) 0 (Nat.zero_le _) ?_ ?_ ?_
          · exact ⟨[some 0, some 1, some 2, some 3], rfl, by simp, by simp [setsA, keepA, SWeak, AWeak], by simp [HWeak, BWeak, SWeak, AWeak, forN, agN]⟩
          · intro i hi2
            simp only [awK, Nat.reduceMod, Nat.reduceDiv, reduceIte]
            rcases Nat.lt_or_ge i ls.length with h4 | h4
            · have gs := strs_getD h4
              have hgl : (ls.getD i []).length ≤ 1000000000 := by have := j2 _ (memD (d := []) h4); omega
              have f1 : forN ly (ls.take (i + 1)) = forN ly (ls.take i) + (if cleanF ly (ls.getD i []) = true then 1 else 0) := filt_step h4
              have f2 : agN ly (ls.take (i + 1)) = agN ly (ls.take i) + (if (!cleanF ly (ls.getD i [])) = true then 1 else 0) := filt_step (p := fun l => !cleanF ly l) h4
              have b1 : forN ly (ls.take i) ≤ i := by have := List.length_filter_le (cleanF ly) (ls.take i); unfold forN; rw [List.length_take] at this; omega
              have b2 : agN ly (ls.take i) ≤ i := by have := List.length_filter_le (fun l => !cleanF ly l) (ls.take i); unfold agN; rw [List.length_take] at this; omega
              unfold cleanF at f1 f2
              generalize ls.getD i [] = line at *
              simp (config := { maxSteps := 1000000 }) (disch := ((try simp only [awL]); omega)) only [QR, QS, QT, QU, QV, QW, QX, QY, QZ, Q0, Q1, Q2, MP_n, sl, gs, ↓awU, awV, awF, Qa, Qb, Qc, Qd, forall_const, ↓reduceIte, ↓reduceDIte, ↓Qe, Qf, Qg, Qh, Qi, Qj, Qk, Ql, Qm, Qn, Qo, Qp, Qq, Qr, Qs, implies_true, Qt, Qu, Qv, Qw, Qx, Qy, Qz, QA, QB, QC, QD, QE, QF, QG, QH, QI, QJ, QK, QL, QM, QN, QO, QP, QQ]
              refine CallC.by (fields_spec ly false line hgl) (by rfl) (by rfl) (by simp) ?_
              simp (config := { maxSteps := 1000000 }) (disch := ((try simp only [awL]); omega)) only [QR, QS, QT, QU, QV, QW, QX, QY, QZ, Q0, Q1, Q2, MP_n, ↓awU, awV, awF, Qa, Qb, Qc, Qd, forall_const, ↓reduceIte, ↓reduceDIte, ↓Qe, Qf, Qg, Qh, Qi, Qj, Qk, Ql, Qm, Qn, Qo, Qp, Qq, Qr, Qs, implies_true, Qt, Qu, Qv, Qw, Qx, Qy, Qz, QA, QB, QC, QD, QE, QF, QG, QH, QI, QJ, QK, QL, QM, QN, QO, QP, QQ]
              refine CallC.by (collect_spec ly false line q3 hgl) (by rfl) (by rfl) (by simp) ?_
              simp (config := { maxSteps := 1000000 }) (disch := ((try simp only [awL]); omega)) only [QR, QS, QT, QU, QV, QW, QX, QY, QZ, Q0, Q1, Q2, MP_n, ↓awU, awV, awF, Qa, Qb, Qc, Qd, forall_const, ↓reduceIte, ↓reduceDIte, ↓Qe, Qf, Qg, Qh, Qi, Qj, Qk, Ql, Qm, Qn, Qo, Qp, Qq, Qr, Qs, implies_true, Qt, Qu, Qv, Qw, Qx, Qy, Qz, QA, QB, QC, QD, QE, QF, QG, QH, QI, QJ, QK, QL, QM, QN, QO, QP, QQ]
              have hn := fldsL_len ly line
              generalize fldsL ly line = row at *
              have rn := @strs_length row
              have cu : cut (strs row) 0 ly.length = strs row := cut_all (by rw [rn, hn])
              refine CallC.frozenE (containsL_spec row false [] (by rw [hn]; have := q3.1; omega)) (by rw [cu, ← hn]) ?_
              generalize forN ly (ls.take i) = n1 at *
              generalize agN ly (ls.take i) = n2 at *
              by_cases hc : [] ∈ row
              · rw [decide_eq_true hc]
                have e1 : decide ([] ∉ row) = false := decide_eq_false (by simpa using hc)
                rw [e1] at f1 f2
                simp only [Bool.false_eq_true, if_false, Bool.not_false, if_true, Nat.add_zero] at f1 f2
                simp (config := { maxSteps := 1000000 }) (disch := ((try simp only [awL]); omega)) only [QR, QS, QT, QU, QV, QW, QX, QY, QZ, Q0, Q1, Q2, MP_n, ↓awU, awV, awF, Qa, Qb, Qc, Qd, forall_const, ↓reduceIte, ↓reduceDIte, ↓Qe, Qf, Qg, Qh, Qi, Qj, Qk, Ql, Qm, Qn, Qo, Qp, Qq, Qr, Qs, implies_true, Qt, Qu, Qv, Qw, Qx, Qy, Qz, QA, QB, QC, QD, QE, QF, QG, QH, QI, QJ, QK, QL, QM, QN, QO, QP, QQ]
                exact ⟨i + 1, h4, by simp only; omega, ⟨[some 0, some 1, some 2, some 3], rfl, by simp, by simp [setsA, keepA, SWeak, AWeak], by simp [HWeak, BWeak, SWeak, AWeak, f1, f2]⟩⟩
              · rw [decide_eq_false hc]
                have e1 : decide ([] ∉ row) = true := decide_eq_true hc
                rw [e1] at f1 f2
                simp only [Bool.false_eq_true, if_false, Bool.not_true, if_true, Nat.add_zero] at f1 f2
                simp (config := { maxSteps := 1000000 }) (disch := ((try simp only [awL]); omega)) only [QR, QS, QT, QU, QV, QW, QX, QY, QZ, Q0, Q1, Q2, MP_n, ↓awU, awV, awF, Qa, Qb, Qc, Qd, forall_const, ↓reduceIte, ↓reduceDIte, ↓Qe, Qf, Qg, Qh, Qi, Qj, Qk, Ql, Qm, Qn, Qo, Qp, Qq, Qr, Qs, implies_true, Qt, Qu, Qv, Qw, Qx, Qy, Qz, QA, QB, QC, QD, QE, QF, QG, QH, QI, QJ, QK, QL, QM, QN, QO, QP, QQ]
                exact ⟨i + 1, h4, by simp only; omega, ⟨[some 0, some 1, some 2, some 3], rfl, by simp, by simp [setsA, keepA, SWeak, AWeak], by simp [HWeak, BWeak, SWeak, AWeak, f1, f2]⟩⟩
            · rw [List.take_of_length_le h4]
              simp (config := { maxSteps := 1000000 }) (disch := ((try simp only [awL]); omega)) only [QR, QS, QT, QU, QV, QW, QX, QY, QZ, Q0, Q1, Q2, MP_n, sl, ↓awU, awV, awF, Qa, Qb, Qc, Qd, forall_const, ↓reduceIte, ↓reduceDIte, ↓Qe, Qf, Qg, Qh, Qi, Qj, Qk, Ql, Qm, Qn, Qo, Qp, Qq, Qr, Qs, implies_true, Qt, Qu, Qv, Qw, Qx, Qy, Qz, QA, QB, QC, QD, QE, QF, QG, QH, QI, QJ, QK, QL, QM, QN, QO, QP, QQ]
              exact ⟨(), trivial, ⟨[some 0, some 1, some 2, some 3], rfl, by simp, by simp [setsA, keepA, SWeak, AWeak], by simp [HWeak, BWeak, SWeak, AWeak]⟩⟩
          · rintro ⟨⟩ -
            have pu := optC_push (colO d g) mk
            have ec : mk.cells = [S x, D.int .i64 (forN ly ls), D.int .i64 (agN ly ls)] := by simp only [Opt.cells, mt, mf, ma]
            rw [ec] at pu
            have cu3 : cut [D.str (bs x), D.int .i64 (forN ly ls), D.int .i64 (agN ly ls)] 0 3 = [D.str (bs x), D.int .i64 (forN ly ls), D.int .i64 (agN ly ls)] := rfl
            simp only [awK, Nat.reduceMod, Nat.reduceDiv, reduceIte]
            simp (config := { maxSteps := 1000000 }) (disch := ((try simp only [awL]); omega)) only [QR, QS, QT, QU, QV, QW, QX, QY, QZ, Q0, Q1, Q2, MP_n, ol, cu3, pu, ↓awU, awV, awF, Qa, Qb, Qc, Qd, forall_const, ↓reduceIte, ↓reduceDIte, ↓Qe, Qf, Qg, Qh, Qi, Qj, Qk, Ql, Qm, Qn, Qo, Qp, Qq, Qr, Qs, implies_true, Qt, Qu, Qv, Qw, Qx, Qy, Qz, QA, QB, QC, QD, QE, QF, QG, QH, QI, QJ, QK, QL, QM, QN, QO, QP, QQ]
            exact ⟨g + 1, h, by simp only; omega, ⟨[some 0, some 1, some 5], rfl, by simp, by simp [setsA, keepA, SWeak, AWeak, hst], by simp [HWeak, BWeak, SWeak, AWeak, hst]⟩⟩
    · obtain rfl : g = 3 := by omega
      simp (config := { maxSteps := 1000000 }) (disch := ((try simp only [awL]); omega)) only [QR, QS, QT, QU, QV, QW, QX, QY, QZ, Q0, Q1, Q2, MP_n, ↓awU, awV, awF, Qa, Qb, Qc, Qd, forall_const, ↓reduceIte, ↓reduceDIte, ↓Qe, Qf, Qg, Qh, Qi, Qj, Qk, Ql, Qm, Qn, Qo, Qp, Qq, Qr, Qs, implies_true, Qt, Qu, Qv, Qw, Qx, Qy, Qz, QA, QB, QC, QD, QE, QF, QG, QH, QI, QJ, QK, QL, QM, QN, QO, QP, QQ]
      exact ⟨(), trivial, ⟨[some 0, some 1, some 2], rfl, by simp, by simp [setsA, keepA, SWeak, AWeak], by simp [HWeak, BWeak, SWeak, AWeak]⟩⟩
  · rintro ⟨⟩ -
    obtain ⟨⟨ok1, ok2⟩, ok3⟩ := colO_ok d 3 (Nat.le_refl _)
    have sp := sortFunc_spec (G := G) (colO d 3) (cols (colO d 3)) (by omega) (keys_cols _) (fun o ho => by rw [look_cols, (ok1 o ho).2])
    have sl2 := sortO_len (colO d 3)
    have ol := optC_length (colO d 3)
    simp only [awK, Nat.reduceMod, Nat.reduceDiv, reduceIte]
    simp (config := { maxSteps := 1000000 }) (disch := ((try simp only [awL]); omega)) only [QR, QS, QT, QU, QV, QW, QX, QY, QZ, Q0, Q1, Q2, MP_c, MP_n, ↓awU, awV, awF, Qa, Qb, Qc, Qd, forall_const, ↓reduceIte, ↓reduceDIte, ↓Qe, Qf, Qg, Qh, Qi, Qj, Qk, Ql, Qm, Qn, Qo, Qp, Qq, Qr, Qs, implies_true, Qt, Qu, Qv, Qw, Qx, Qy, Qz, QA, QB, QC, QD, QE, QF, QG, QH, QI, QJ, QK, QL, QM, QN, QO, QP, QQ]
    refine CallC.by sp (by first | rfl | simp) (by rfl) (by simp) ?_
    simp (config := { maxSteps := 1000000 }) (disch := ((try simp only [awL]); omega)) only [QR, QS, QT, QU, QV, QW, QX, QY, QZ, Q0, Q1, Q2, MP_c, MP_n, ↓awU, awV, awF, Qa, Qb, Qc, Qd, forall_const, ↓reduceIte, ↓reduceDIte, ↓Qe, Qf, Qg, Qh, Qi, Qj, Qk, Ql, Qm, Qn, Qo, Qp, Qq, Qr, Qs, implies_true, Qt, Qu, Qv, Qw, Qx, Qy, Qz, QA, QB, QC, QD, QE, QF, QG, QH, QI, QJ, QK, QL, QM, QN, QO, QP, QQ]
    rw [show optsL d = sortO (colO d 3) from rfl, sl2, cut_all (by rw [optC_length, sl2]; omega)]
end Go.Proofs.YtacepalmphbnfaaGreatDoor

namespace Go.Proofs.YtacepalmphbnfaaGreatDoor
open Go Go.Proofs Go.Abs
variable {G : Globals}
/-! The options of a file: the reference's Options. -/
theorem mem_txt_take {l : List Opt} {i : Nat} {x : List UInt8} (h : i < l.length) : x ∈ (l.take (i + 1)).map Opt.txt ↔ x ∈ (l.take i).map Opt.txt ∨ (l.getD i noO).txt = x := by
  rw [List.take_add_one, getD_some (d := noO) h, List.map_append, List.mem_append]
  simp only [Option.toList_some, List.map_cons, List.map_nil, List.mem_singleton]
  exact or_congr_right eq_comm
set_option maxHeartbeats 4000000 in
set_option maxRecDepth 100000 in
theorem have_spec (l : List Opt) (full : Bool) (x : List UInt8) (hl : l.length ≤ 1000000) : Ctr Tryz.prog G 68 [.d (.sl l.length full (optC l)), .d (S x)] [] (.d (.bool (decide (x ∈ l.map Opt.txt)))) [] := by
  obtain ⟨r, hr⟩ : ∃ r, r = decide (x ∈ l.map Opt.txt) := ⟨_, rfl⟩
  rw [← hr]
  refine Ctr.pure (M := M0) hmix Tryz.func68 rfl go68 ?_
  have ol := optC_length l
  simp (config := { maxSteps := 1000000 }) (disch := ((try simp only [awL]); omega)) only [QR, QS, QT, QU, QV, QW, QX, QY, QZ, Q0, Q1, Q2, ol, Tryz.f68, ↓awU, awV, awF, Qa, Qb, Qc, Qd, forall_const, ↓reduceIte, ↓reduceDIte, ↓Qe, Qf, Qg, Qh, Qi, Qj, Qk, Ql, Qm, Qn, Qo, Qp, Qq, Qr, Qs, implies_true, Qt, Qu, Qv, Qw, Qx, Qy, Qz, QA, QB, QC, QD, QE, QF, QG, QH, QI, QJ, QK, QL, QM, QN, QO, QP, QQ]
  refine LoopC.fr 386 (α := Nat) (fun i => l.length - i) (fun i => [(9, .d (.int .i64 i))]) (fun _ => []) (fun i => i ≤ l.length ∧ x ∉ (l.take i).map Opt.txt) 0 ⟨Nat.zero_le _, by simp⟩ ?_ ?_
  · exact ⟨[], rfl, by simp, by simp [setsA, keepA, SWeak, AWeak], by simp [HWeak, BWeak, SWeak, AWeak]⟩
  · rintro i ⟨h1, h2⟩
    simp only [awK, Nat.reduceMod, Nat.reduceDiv, reduceIte]
    rcases Nat.lt_or_ge i l.length with h | h
    · have g := optC_get h
      have hm := @mem_txt_take l i x h
      have hin := memD (d := noO) h
      by_cases he : (l.getD i noO).txt = x
      · rw [decide_eq_true (List.mem_map.2 ⟨_, hin, he⟩)] at hr
        generalize l.getD i noO = o at *
        subst he
        simp (config := { maxSteps := 1000000 }) (disch := ((try simp only [awL]); omega)) only [QR, QS, QT, QU, QV, QW, QX, QY, QZ, Q0, Q1, Q2, ol, g, beq_self_eq_true, ↓awU, awV, awF, Qa, Qb, Qc, Qd, forall_const, ↓reduceIte, ↓reduceDIte, ↓Qe, Qf, Qg, Qh, Qi, Qj, Qk, Ql, Qm, Qn, Qo, Qp, Qq, Qr, Qs, implies_true, Qt, Qu, Qv, Qw, Qx, Qy, Qz, QA, QB, QC, QD, QE, QF, QG, QH, QI, QJ, QK, QL, QM, QN, QO, QP, QQ]
        all_goals rw [hr]
      · have hne : ((l.getD i noO).txt == x) = false := by simpa using he
        have h3 : x ∉ (l.take (i + 1)).map Opt.txt := fun q => (hm.1 q).elim h2 he
        generalize l.getD i noO = o at *
        simp (config := { maxSteps := 1000000 }) (disch := ((try simp only [awL]); omega)) only [QR, QS, QT, QU, QV, QW, QX, QY, QZ, Q0, Q1, Q2, ol, g, hne, ↓awU, awV, awF, Qa, Qb, Qc, Qd, forall_const, ↓reduceIte, ↓reduceDIte, ↓Qe, Qf, Qg, Qh, Qi, Qj, Qk, Ql, Qm, Qn, Qo, Qp, Qq, Qr, Qs, implies_true, Qt, Qu, Qv, Qw, Qx, Qy, Qz, QA, QB, QC, QD, QE, QF, QG, QH, QI, QJ, QK, QL, QM, QN, QO, QP, QQ]
        exact ⟨i + 1, ⟨h, h3⟩, by simp only; omega, ⟨[], rfl, by simp, by simp [setsA, keepA, SWeak, AWeak], by simp [HWeak, BWeak, SWeak, AWeak]⟩⟩
    · rw [List.take_of_length_le h] at h2
      rw [decide_eq_false h2] at hr
      simp (config := { maxSteps := 1000000 }) (disch := ((try simp only [awL]); omega)) only [QR, QS, QT, QU, QV, QW, QX, QY, QZ, Q0, Q1, Q2, ol, ↓awU, awV, awF, Qa, Qb, Qc, Qd, forall_const, ↓reduceIte, ↓reduceDIte, ↓Qe, Qf, Qg, Qh, Qi, Qj, Qk, Ql, Qm, Qn, Qo, Qp, Qq, Qr, Qs, implies_true, Qt, Qu, Qv, Qw, Qx, Qy, Qz, QA, QB, QC, QD, QE, QF, QG, QH, QI, QJ, QK, QL, QM, QN, QO, QP, QQ]
      all_goals rw [hr]
set_option maxHeartbeats 4000000 in
set_option maxRecDepth 100000 in
theorem sameOpt_spec (l : List Opt) (fa fb : Bool) (hl : l.length ≤ 1000000) : Ctr Tryz.prog G 19 [.d (.sl l.length fa (optC l)), .d (.sl l.length fb (optC l))] [] (.d (.bool true)) [] := by
  refine Ctr.pure (M := M0) hmix Tryz.func19 rfl go19 ?_
  have ol := optC_length l
  simp (config := { maxSteps := 1000000 }) (disch := ((try simp only [awL]); omega)) only [QR, QS, QT, QU, QV, QW, QX, QY, QZ, Q0, Q1, Q2, ol, Tryz.f19, ↓awU, awV, awF, Qa, Qb, Qc, Qd, forall_const, ↓reduceIte, ↓reduceDIte, ↓Qe, Qf, Qg, Qh, Qi, Qj, Qk, Ql, Qm, Qn, Qo, Qp, Qq, Qr, Qs, implies_true, Qt, Qu, Qv, Qw, Qx, Qy, Qz, QA, QB, QC, QD, QE, QF, QG, QH, QI, QJ, QK, QL, QM, QN, QO, QP, QQ]
  refine LoopC.fr 4099 (α := Nat) (fun i => l.length - i) (fun i => [(13, .d (.int .i64 i))]) (fun _ => []) (fun i => i ≤ l.length) 0 (Nat.zero_le _) ?_ ?_
  · exact ⟨[], rfl, by simp, by simp [setsA, keepA, SWeak, AWeak], by simp [HWeak, BWeak, SWeak, AWeak]⟩
  · intro i h1
    simp only [awK, Nat.reduceMod, Nat.reduceDiv, reduceIte]
    rcases Nat.lt_or_ge i l.length with h | h
    · have g := optC_get h
      generalize l.getD i noO = o at *
      simp (config := { maxSteps := 1000000 }) (disch := ((try simp only [awL]); omega)) only [QR, QS, QT, QU, QV, QW, QX, QY, QZ, Q0, Q1, Q2, ol, g, beq_self_eq_true, ↓awU, awV, awF, Qa, Qb, Qc, Qd, forall_const, ↓reduceIte, ↓reduceDIte, ↓Qe, Qf, Qg, Qh, Qi, Qj, Qk, Ql, Qm, Qn, Qo, Qp, Qq, Qr, Qs, implies_true, Qt, Qu, Qv, Qw, Qx, Qy, Qz, QA, QB, QC, QD, QE, QF, QG, QH, QI, QJ, QK, QL, QM, QN, QO, QP, QQ]
      exact ⟨by rfl, i + 1, h, by simp only; omega, ⟨[], rfl, by simp, by simp [setsA, keepA, SWeak, AWeak], by simp [HWeak, BWeak, SWeak, AWeak]⟩⟩
    · simp (config := { maxSteps := 1000000 }) (disch := ((try simp only [awL]); omega)) only [QR, QS, QT, QU, QV, QW, QX, QY, QZ, Q0, Q1, Q2, ol, ↓awU, awV, awF, Qa, Qb, Qc, Qd, forall_const, ↓reduceIte, ↓reduceDIte, ↓Qe, Qf, Qg, Qh, Qi, Qj, Qk, Ql, Qm, Qn, Qo, Qp, Qq, Qr, Qs, implies_true, Qt, Qu, Qv, Qw, Qx, Qy, Qz, QA, QB, QC, QD, QE, QF, QG, QH, QI, QJ, QK, QL, QM, QN, QO, QP, QQ]
theorem sortO_mem2 : ∀ {l : List Opt} {x : Opt}, x ∈ l → x ∈ sortO l := by
  have ins : ∀ (o x : Opt) (s : List Opt), (x = o ∨ x ∈ s) → x ∈ insO o s := by
    intro o x s h
    unfold insO
    rcases h with rfl | h
    · exact List.mem_append.2 (.inr (by simp))
    · rw [← List.take_append_drop (posO o s s.length) s] at h
      rcases List.mem_append.1 h with h | h
      · exact List.mem_append.2 (.inl h)
      · exact List.mem_append.2 (.inr (by simp [h]))
  have key : ∀ (l s : List Opt) (x : Opt), (x ∈ s ∨ x ∈ l) → x ∈ l.foldl (fun s o => insO o s) s := by
    intro l
    induction l with
    | nil => intro s x h; simpa using h
    | cons o l ih =>
      intro s x h
      rw [List.foldl_cons]
      refine ih _ _ ?_
      rcases h with h | h
      · exact .inl (ins _ _ _ (.inr h))
      · rcases List.mem_cons.1 h with rfl | h
        · exact .inl (ins _ _ _ (.inl rfl))
        · exact .inr h
  intro l x h
  exact key l [] x (.inr h)
theorem sort_txt {l : List Opt} {x : List UInt8} : x ∈ (sortO l).map Opt.txt ↔ x ∈ l.map Opt.txt := by
  constructor
  · intro h
    obtain ⟨o, ho, rfl⟩ := List.mem_map.1 h
    exact List.mem_map_of_mem (f := Opt.txt) (sortO_mem ho)
  · intro h
    obtain ⟨o, ho, rfl⟩ := List.mem_map.1 h
    exact List.mem_map_of_mem (f := Opt.txt) (sortO_mem2 ho)
abbrev wdsO (l : List Opt) : List Nat := l.map Opt.wd
theorem optC_fr {l : List Opt} {q : Nat} (h : q < l.length) : (optC l).getD (q * 3 + 1) .nilp = .int .i64 (l.getD q noO).fr := by
  have e := congrArg (fun x => x.getD 1 D.nilp) (optC_get h)
  simpa [List.getD_eq_getElem?_getD, List.getElem?_take, List.getElem?_drop] using e
theorem wds_get {l : List Opt} {q : Nat} (h : q < l.length) : (wdsO l).getD q 0 = (l.getD q noO).wd := by
  rw [List.getD_eq_getElem?_getD, List.getD_eq_getElem?_getD, wdsO, List.getElem?_map, List.getElem?_eq_getElem h]; rfl
def MO : Muts := fun k => k == 2000105 || k == 2000116
theorem MO_t {k : Nat} (h : k = 2000105 ∨ k = 2000116) : MO k = true := by rcases h with rfl | rfl <;> rfl
theorem MO_n {k : Nat} (h : k ≠ 2000105 ∧ k ≠ 2000116) : MO k = false := by simp only [MO, Bool.or_eq_false_iff, beq_eq_false_iff_ne]; exact h
set_option maxHeartbeats 16000000 in
set_option maxRecDepth 100000 in
theorem roptions_spec (hT : HT G) (hI : HI G) (d : List UInt8) (hd : d.length ≤ 100000000) : Ctr Tryz.prog G 21 [.d (S d)] [] (.d (.sl (optsL d).length false (optC (optsL d)))) [] := by
  refine Ctr.pure (M := MO) hmix Tryz.func21 rfl go21 ?_
  obtain ⟨j1, j2⟩ := linesL_in (s := d)
  simp (config := { maxSteps := 1000000 }) (disch := ((try simp only [awL]); omega)) only [QR, QS, QT, QU, QV, QW, QX, QY, QZ, Q0, Q1, Q2, MO_t, MO_n, Tryz.f21, ↓awU, awV, awF, Qa, Qb, Qc, Qd, forall_const, ↓reduceIte, ↓reduceDIte, ↓Qe, Qf, Qg, Qh, Qi, Qj, Qk, Ql, Qm, Qn, Qo, Qp, Qq, Qr, Qs, implies_true, Qt, Qu, Qv, Qw, Qx, Qy, Qz, QA, QB, QC, QD, QE, QF, QG, QH, QI, QJ, QK, QL, QM, QN, QO, QP, QQ]
  refine LoopC.fr 1 (α := Nat) (fun g => 3 - g) (fun g => [(3, .lsl 0 3 0 (colO d g).length), (4, .lsl 1 1 0 (colO d g).length), (5, .d (.int .i64 (g + 1 : Nat)))]) (fun g => [.row false (optC (sortO (colO d g))), .row false (nats .i64 (wdsO (sortO (colO d g))))]) (fun g => g ≤ 3) 0 (Nat.zero_le _) ?_ ?_
  · exact ⟨[none, none], rfl, by simp, by simp [setsA, keepA, SWeak, AWeak, colO], by simp [HWeak, BWeak, SWeak, AWeak, colO, sortO, optC, nats]⟩
  · intro g hg
    obtain ⟨⟨ok1, ok2⟩, ok3⟩ := colO_ok d g hg
    have sln := sortO_len (colO d g)
    have ol := optC_length (sortO (colO d g))
    have wl : (nats .i64 (wdsO (sortO (colO d g)))).length = (colO d g).length := by rw [nats_length, List.length_map, sln]
    have stx := @sort_txt (colO d g)
    rw [sln] at ol
    simp only [awK, Nat.reduceMod, Nat.reduceDiv, reduceIte]
    rcases Nat.lt_or_ge g 3 with h | h
    · have hst : colO d (g + 1) = addO d (colO d g) (g + 1) := rfl
      unfold addO at hst
      simp (config := { maxSteps := 1000000 }) (disch := ((try simp only [awL]); omega)) only [QR, QS, QT, QU, QV, QW, QX, QY, QZ, Q0, Q1, Q2, MO_t, MO_n, ↓awU, awV, awF, Qa, Qb, Qc, Qd, forall_const, ↓reduceIte, ↓reduceDIte, ↓Qe, Qf, Qg, Qh, Qi, Qj, Qk, Ql, Qm, Qn, Qo, Qp, Qq, Qr, Qs, implies_true, Qt, Qu, Qv, Qw, Qx, Qy, Qz, QA, QB, QC, QD, QE, QF, QG, QH, QI, QJ, QK, QL, QM, QN, QO, QP, QQ]
      refine CallC.of (rinfer_spec hT d (g + 1 : Nat) hd) (by rfl) ?_
      cases hi : inferL d (g + 1 : Nat) with
      | none =>
        rw [hi] at hst
        simp only at hst
        unfold inferD
        simp (config := { maxSteps := 1000000 }) (disch := ((try simp only [awL]); omega)) only [QR, QS, QT, QU, QV, QW, QX, QY, QZ, Q0, Q1, Q2, MO_t, MO_n, ↓awU, awV, awF, Qa, Qb, Qc, Qd, forall_const, ↓reduceIte, ↓reduceDIte, ↓Qe, Qf, Qg, Qh, Qi, Qj, Qk, Ql, Qm, Qn, Qo, Qp, Qq, Qr, Qs, implies_true, Qt, Qu, Qv, Qw, Qx, Qy, Qz, QA, QB, QC, QD, QE, QF, QG, QH, QI, QJ, QK, QL, QM, QN, QO, QP, QQ]
        exact ⟨g + 1, h, by simp only; omega, ⟨[some 0, some 1], rfl, by simp, by simp [setsA, keepA, SWeak, AWeak, hst], by simp [HWeak, BWeak, SWeak, AWeak, hst]⟩⟩
      | some l =>
        rw [hi] at hst
        simp only at hst
        obtain ⟨okl, hvd, hdl⟩ := infer_ok hi
        obtain ⟨q1, q2, q3, q4⟩ := okLay_ok okl
        have nl : (natsOf l).length = l.length := by simp [natsOf]
        have tl := textL_len l
        have tsome : (textL l).isSome = true := by rw [textL, if_pos okl]; rfl
        unfold inferD
        simp (config := { maxSteps := 1000000 }) (disch := ((try simp only [awL]); omega)) only [QR, QS, QT, QU, QV, QW, QX, QY, QZ, Q0, Q1, Q2, MO_t, MO_n, ↓awU, awV, awF, Qa, Qb, Qc, Qd, forall_const, ↓reduceIte, ↓reduceDIte, ↓Qe, Qf, Qg, Qh, Qi, Qj, Qk, Ql, Qm, Qn, Qo, Qp, Qq, Qr, Qs, implies_true, Qt, Qu, Qv, Qw, Qx, Qy, Qz, QA, QB, QC, QD, QE, QF, QG, QH, QI, QJ, QK, QL, QM, QN, QO, QP, QQ]
        refine CallC.of (rtext_spec hI l false (by omega)) (by rfl) ?_
        rw [textD_eq, tsome]
        have mt : (mkO (linesL d) l).txt = txO (textL l) := rfl
        have mf : (mkO (linesL d) l).fr = forN (natsOf l) (linesL d) := rfl
        have ma : (mkO (linesL d) l).ag = agN (natsOf l) (linesL d) := rfl
        have mw : (mkO (linesL d) l).wd = (natsOf l).length := nl.symm
        generalize hmk : mkO (linesL d) l = mk at *
        have stx2 := @stx (txO (textL l))
        generalize hxx : txO (textL l) = x at *
        simp (config := { maxSteps := 1000000 }) (disch := ((try simp only [awL]); omega)) only [QR, QS, QT, QU, QV, QW, QX, QY, QZ, Q0, Q1, Q2, MO_t, MO_n, ↓awU, awV, awF, Qa, Qb, Qc, Qd, forall_const, ↓reduceIte, ↓reduceDIte, ↓Qe, Qf, Qg, Qh, Qi, Qj, Qk, Ql, Qm, Qn, Qo, Qp, Qq, Qr, Qs, implies_true, Qt, Qu, Qv, Qw, Qx, Qy, Qz, QA, QB, QC, QD, QE, QF, QG, QH, QI, QJ, QK, QL, QM, QN, QO, QP, QQ]
        refine CallC.of (rlines_spec d (by omega)) (by rfl) ?_
        have hlv := lines_valid _ d rfl hvd
        have hlines : (linesL d).length ≤ 1048576 := by omega
        have j3 : ∀ p ∈ linesL d, p.length ≤ 1048576 := fun p hp => by have := j2 p hp; omega
        clear hmk hxx
        generalize linesL d = ls at *
        have sl := @strs_length ls
        rw [show IsF l false = Ns (natsOf l) false by unfold IsF Ns; rw [nats_of q4, nl]]
        generalize natsOf l = ly at *
        simp (config := { maxSteps := 1000000 }) (disch := ((try simp only [awL]); omega)) only [QR, QS, QT, QU, QV, QW, QX, QY, QZ, Q0, Q1, Q2, MO_t, MO_n, sl, ↓awU, awV, awF, Qa, Qb, Qc, Qd, forall_const, ↓reduceIte, ↓reduceDIte, ↓Qe, Qf, Qg, Qh, Qi, Qj, Qk, Ql, Qm, Qn, Qo, Qp, Qq, Qr, Qs, implies_true, Qt, Qu, Qv, Qw, Qx, Qy, Qz, QA, QB, QC, QD, QE, QF, QG, QH, QI, QJ, QK, QL, QM, QN, QO, QP, QQ]
        refine LoopC.fx 206158431609 (α := Nat) (β := Unit) (fun i => ls.length - i) (fun i => [(38, .d (.int .i64 i))]) (fun i => [.row false (optC (sortO (colO d g))), .row false (nats .i64 (wdsO (sortO (colO d g)))), .box [.d (S x), .d (.int .i64 (forN ly (ls.take i))), .d (.int .i64 (agN ly (ls.take i)))]])
          (fun i => i ≤ ls.length) 1401 (fun _ => []) (fun _ => [.row false (optC (sortO (colO d g))), .row false (nats .i64 (wdsO (sortO (colO d g)))), .box [.d (S x), .d (.int .i64 (forN ly ls)), .d (.int .i64 (agN ly ls))]]) (fun _ => True) 0 (Nat.zero_le _) ?_ ?_ ?_
        · exact ⟨[some 0, some 1, some 2], rfl, by simp, by simp [setsA, keepA, SWeak, AWeak], by simp [HWeak, BWeak, SWeak, AWeak, forN, agN]⟩
        · intro i hi2
          simp only [awK, Nat.reduceMod, Nat.reduceDiv, reduceIte]
          rcases Nat.lt_or_ge i ls.length with h4 | h4
          · have gs := strs_getD h4
            have hgl : (ls.getD i []).length ≤ 100000000 := by have := j3 _ (memD (d := []) h4); omega
            have hgv := hlv _ (memD (d := []) h4)
            have f1 : forN ly (ls.take (i + 1)) = forN ly (ls.take i) + (if cleanF ly (ls.getD i []) = true then 1 else 0) := filt_step h4
            have f2 : agN ly (ls.take (i + 1)) = agN ly (ls.take i) + (if (!cleanF ly (ls.getD i [])) = true then 1 else 0) := filt_step (p := fun l => !cleanF ly l) h4
            have b1 : forN ly (ls.take i) ≤ i := by have := List.length_filter_le (cleanF ly) (ls.take i); unfold forN; rw [List.length_take] at this; omega
            have b2 : agN ly (ls.take i) ≤ i := by have := List.length_filter_le (fun l => !cleanF ly l) (ls.take i); unfold agN; rw [List.length_take] at this; omega
            unfold cleanF at f1 f2
            generalize ls.getD i [] = line at *
            simp (config := { maxSteps := 1000000 }) (disch := ((try simp only [awL]); omega)) only [QR, QS, QT, QU, QV, QW, QX, QY, QZ, Q0, Q1, Q2, MO_n, sl, gs, ↓awU, awV, awF, Qa, Qb, Qc, Qd, forall_const, ↓reduceIte, ↓reduceDIte, ↓Qe, Qf, Qg, Qh, Qi, Qj, Qk, Ql, Qm, Qn, Qo, Qp, Qq, Qr, Qs, implies_true, Qt, Qu, Qv, Qw, Qx, Qy, Qz, QA, QB, QC, QD, QE, QF, QG, QH, QI, QJ, QK, QL, QM, QN, QO, QP, QQ]
            refine CallC.of (rfields_spec ly false line q3 hgl hgv) (by rfl) ?_
            have hn := fldsL_len ly line
            generalize fldsL ly line = row at *
            simp (config := { maxSteps := 1000000 }) (disch := ((try simp only [awL]); omega)) only [QR, QS, QT, QU, QV, QW, QX, QY, QZ, Q0, Q1, Q2, MO_n, ↓awU, awV, awF, Qa, Qb, Qc, Qd, forall_const, ↓reduceIte, ↓reduceDIte, ↓Qe, Qf, Qg, Qh, Qi, Qj, Qk, Ql, Qm, Qn, Qo, Qp, Qq, Qr, Qs, implies_true, Qt, Qu, Qv, Qw, Qx, Qy, Qz, QA, QB, QC, QD, QE, QF, QG, QH, QI, QJ, QK, QL, QM, QN, QO, QP, QQ]
            refine CallC.of (has_spec row false [] (by rw [hn]; have := q3.1; omega)) (by rfl) ?_
            generalize forN ly (ls.take i) = n1 at *
            generalize agN ly (ls.take i) = n2 at *
            by_cases hc : [] ∈ row
            · rw [decide_eq_true hc]
              have e1 : decide ([] ∉ row) = false := decide_eq_false (by simpa using hc)
              rw [e1] at f1 f2
              simp only [Bool.false_eq_true, if_false, Bool.not_false, if_true, Nat.add_zero] at f1 f2
              simp (config := { maxSteps := 1000000 }) (disch := ((try simp only [awL]); omega)) only [QR, QS, QT, QU, QV, QW, QX, QY, QZ, Q0, Q1, Q2, MO_n, ↓awU, awV, awF, Qa, Qb, Qc, Qd, forall_const, ↓reduceIte, ↓reduceDIte, ↓Qe, Qf, Qg, Qh, Qi, Qj, Qk, Ql, Qm, Qn, Qo, Qp, Qq, Qr, Qs, implies_true, Qt, Qu, Qv, Qw, Qx, Qy, Qz, QA, QB, QC, QD, QE, QF, QG, QH, QI, QJ, QK, QL, QM, QN, QO, QP, QQ]
              exact ⟨i + 1, h4, by simp only; omega, ⟨[some 0, some 1, some 2], rfl, by simp, by simp [setsA, keepA, SWeak, AWeak], by simp [HWeak, BWeak, SWeak, AWeak, f1, f2]⟩⟩
            · rw [decide_eq_false hc]
              have e1 : decide ([] ∉ row) = true := decide_eq_true hc
              rw [e1] at f1 f2
              simp only [Bool.false_eq_true, if_false, Bool.not_true, if_true, Nat.add_zero] at f1 f2
              simp (config := { maxSteps := 1000000 }) (disch := ((try simp only [awL]); omega)) only [QR, QS, QT, QU, QV, QW, QX, QY, QZ, Q0, Q1, Q2, MO_n, ↓awU, awV, awF, Qa, Qb, Qc, Qd, forall_const, ↓reduceIte, ↓reduceDIte, ↓Qe, Qf, Qg, Qh, Qi, Qj, Qk, Ql, Qm, Qn, Qo, Qp, Qq, Qr, Qs, implies_true, Qt, Qu, Qv, Qw, Qx, Qy, Qz, QA, QB, QC, QD, QE, QF, QG, QH, QI, QJ, QK, QL, QM, QN, QO, QP, QQ]
              exact ⟨i + 1, h4, by simp only; omega, ⟨[some 0, some 1, some 2], rfl, by simp, by simp [setsA, keepA, SWeak, AWeak], by simp [HWeak, BWeak, SWeak, AWeak, f1, f2]⟩⟩
          · rw [List.take_of_length_le h4]
            simp (config := { maxSteps := 1000000 }) (disch := ((try simp only [awL]); omega)) only [QR, QS, QT, QU, QV, QW, QX, QY, QZ, Q0, Q1, Q2, MO_n, sl, ↓awU, awV, awF, Qa, Qb, Qc, Qd, forall_const, ↓reduceIte, ↓reduceDIte, ↓Qe, Qf, Qg, Qh, Qi, Qj, Qk, Ql, Qm, Qn, Qo, Qp, Qq, Qr, Qs, implies_true, Qt, Qu, Qv, Qw, Qx, Qy, Qz, QA, QB, QC, QD, QE, QF, QG, QH, QI, QJ, QK, QL, QM, QN, QO, QP, QQ]
            exact ⟨(), trivial, ⟨[some 0, some 1, some 2], rfl, by simp, by simp [setsA, keepA, SWeak, AWeak], by simp [HWeak, BWeak, SWeak, AWeak]⟩⟩
        · rintro ⟨⟩ -
          rw [← mf, ← ma, ← mt]
          obtain ⟨st, hst2⟩ : ∃ st, st = sortO (colO d g) := ⟨_, rfl⟩
          rw [← hst2] at stx2 sln ol wl
          rw [← hst2]
          have wl2 := @nats_length .i64 (wdsO st)
          have stl : st.length ≤ 3 := by omega
          simp only [awK, Nat.reduceMod, Nat.reduceDiv, reduceIte]
          simp (config := { maxSteps := 1000000 }) (disch := ((try simp only [awL]); omega)) only [QR, QS, QT, QU, QV, QW, QX, QY, QZ, Q0, Q1, Q2, MO_n, ↓awU, awV, awF, Qa, Qb, Qc, Qd, forall_const, ↓reduceIte, ↓reduceDIte, ↓Qe, Qf, Qg, Qh, Qi, Qj, Qk, Ql, Qm, Qn, Qo, Qp, Qq, Qr, Qs, implies_true, Qt, Qu, Qv, Qw, Qx, Qy, Qz, QA, QB, QC, QD, QE, QF, QG, QH, QI, QJ, QK, QL, QM, QN, QO, QP, QQ]
          refine LoopC.fx 1401 (α := Nat) (β := Nat) (fun k => k) (fun k => [(13, .d (.int .i64 k))]) (fun _ => [.row false (optC st), .row false (nats .i64 (wdsO st)), .box [.d (S mk.txt), .d (.int .i64 mk.fr), .d (.int .i64 mk.ag)]])
            (fun k => k ≤ st.length ∧ posO mk st st.length = posO mk st k) 1401 (fun k => [(13, .d (.int .i64 k))]) (fun _ => [.row false (optC st), .row false (nats .i64 (wdsO st)), .box [.d (S mk.txt), .d (.int .i64 mk.fr), .d (.int .i64 mk.ag)]]) (fun k => k ≤ st.length ∧ k = posO mk st st.length) st.length ⟨Nat.le_refl _, rfl⟩ ?_ ?_ ?_
          · rw [← sln]; exact ⟨[some 0, some 1, some 2], rfl, by simp, by simp [setsA, keepA, SWeak, AWeak], by simp [HWeak, BWeak, SWeak, AWeak]⟩
          · rintro k ⟨k1, k2⟩
            simp only [awK, Nat.reduceMod, Nat.reduceDiv, reduceIte]
            rcases Nat.eq_zero_or_pos k with h0 | h0
            · subst h0
              simp (config := { maxSteps := 1000000 }) (disch := ((try simp only [awL]); omega)) only [QR, QS, QT, QU, QV, QW, QX, QY, QZ, Q0, Q1, Q2, MO_n, ↓awU, awV, awF, Qa, Qb, Qc, Qd, forall_const, ↓reduceIte, ↓reduceDIte, ↓Qe, Qf, Qg, Qh, Qi, Qj, Qk, Ql, Qm, Qn, Qo, Qp, Qq, Qr, Qs, implies_true, Qt, Qu, Qv, Qw, Qx, Qy, Qz, QA, QB, QC, QD, QE, QF, QG, QH, QI, QJ, QK, QL, QM, QN, QO, QP, QQ]
              exact ⟨by rfl, 0, ⟨by omega, by rw [k2]; rfl⟩, ⟨[some 0, some 1, some 2], rfl, by simp, by simp [setsA, keepA, SWeak, AWeak], by simp [HWeak, BWeak, SWeak, AWeak]⟩⟩
            · obtain ⟨q, rfl⟩ : ∃ q, k = q + 1 := ⟨k - 1, by omega⟩
              have eq1 : (((q + 1 : Nat) : Int) - 1) = (q : Int) := by omega
              have o1 := optC_fr (l := st) (q := q) (by omega)
              have o2 := wds_get (l := st) (q := q) (by omega)
              rw [show posO mk st (q + 1) = if bef mk (st.getD q noO) = true then posO mk st q else q + 1 from rfl] at k2
              generalize st.getD q noO = p at *
              unfold bef at k2
              rw [mw] at k2
              rcases Nat.lt_trichotomy p.fr mk.fr with hf | hf | hf
              · rw [if_pos (decide_eq_true (.inl hf))] at k2
                simp (config := { maxSteps := 1000000 }) (disch := ((try simp only [awL]); omega)) only [QR, QS, QT, QU, QV, QW, QX, QY, QZ, Q0, Q1, Q2, MO_n, eq1, o1, o2, ↓awU, awV, awF, Qa, Qb, Qc, Qd, forall_const, ↓reduceIte, ↓reduceDIte, ↓Qe, Qf, Qg, Qh, Qi, Qj, Qk, Ql, Qm, Qn, Qo, Qp, Qq, Qr, Qs, implies_true, Qt, Qu, Qv, Qw, Qx, Qy, Qz, QA, QB, QC, QD, QE, QF, QG, QH, QI, QJ, QK, QL, QM, QN, QO, QP, QQ]
                exact ⟨by rfl, q, ⟨by omega, k2⟩, by simp only; omega, ⟨[some 0, some 1, some 2], rfl, by simp, by simp [setsA, keepA, SWeak, AWeak], by simp [HWeak, BWeak, SWeak, AWeak]⟩⟩
              · by_cases hw : p.wd < ly.length
                · rw [if_pos (decide_eq_true (.inr ⟨hf.symm, hw⟩))] at k2
                  simp (config := { maxSteps := 1000000 }) (disch := ((try simp only [awL]); omega)) only [QR, QS, QT, QU, QV, QW, QX, QY, QZ, Q0, Q1, Q2, MO_n, eq1, o1, o2, ↓awU, awV, awF, Qa, Qb, Qc, Qd, forall_const, ↓reduceIte, ↓reduceDIte, ↓Qe, Qf, Qg, Qh, Qi, Qj, Qk, Ql, Qm, Qn, Qo, Qp, Qq, Qr, Qs, implies_true, Qt, Qu, Qv, Qw, Qx, Qy, Qz, QA, QB, QC, QD, QE, QF, QG, QH, QI, QJ, QK, QL, QM, QN, QO, QP, QQ]
                  exact ⟨by rfl, q, ⟨by omega, k2⟩, by simp only; omega, ⟨[some 0, some 1, some 2], rfl, by simp, by simp [setsA, keepA, SWeak, AWeak], by simp [HWeak, BWeak, SWeak, AWeak]⟩⟩
                · rw [if_neg (by simp only [decide_eq_true_eq]; omega)] at k2
                  simp (config := { maxSteps := 1000000 }) (disch := ((try simp only [awL]); omega)) only [QR, QS, QT, QU, QV, QW, QX, QY, QZ, Q0, Q1, Q2, MO_n, eq1, o1, o2, ↓awU, awV, awF, Qa, Qb, Qc, Qd, forall_const, ↓reduceIte, ↓reduceDIte, ↓Qe, Qf, Qg, Qh, Qi, Qj, Qk, Ql, Qm, Qn, Qo, Qp, Qq, Qr, Qs, implies_true, Qt, Qu, Qv, Qw, Qx, Qy, Qz, QA, QB, QC, QD, QE, QF, QG, QH, QI, QJ, QK, QL, QM, QN, QO, QP, QQ]
                  exact ⟨by rfl, q + 1, ⟨by omega, k2.symm⟩, ⟨[some 0, some 1, some 2], rfl, by simp, by simp [setsA, keepA, SWeak, AWeak], by simp [HWeak, BWeak, SWeak, AWeak]⟩⟩
              · rw [if_neg (by simp only [decide_eq_true_eq]; omega)] at k2
                simp (config := { maxSteps := 1000000 }) (disch := ((try simp only [awL]); omega)) only [QR, QS, QT, QU, QV, QW, QX, QY, QZ, Q0, Q1, Q2, MO_n, eq1, o1, o2, ↓awU, awV, awF, Qa, Qb, Qc, Qd, forall_const, ↓reduceIte, ↓reduceDIte, ↓Qe, Qf, Qg, Qh, Qi, Qj, Qk, Ql, Qm, Qn, Qo, Qp, Qq, Qr, Qs, implies_true, Qt, Qu, Qv, Qw, Qx, Qy, Qz, QA, QB, QC, QD, QE, QF, QG, QH, QI, QJ, QK, QL, QM, QN, QO, QP, QQ]
                exact ⟨by rfl, q + 1, ⟨by omega, k2.symm⟩, ⟨[some 0, some 1, some 2], rfl, by simp, by simp [setsA, keepA, SWeak, AWeak], by simp [HWeak, BWeak, SWeak, AWeak]⟩⟩
          · rintro k ⟨k1, k2⟩
            simp only [awK, Nat.reduceMod, Nat.reduceDiv, reduceIte]
            simp (config := { maxSteps := 1000000 }) (disch := ((try simp only [awL]); omega)) only [QR, QS, QT, QU, QV, QW, QX, QY, QZ, Q0, Q1, Q2, MO_n, ↓awU, awV, awF, Qa, Qb, Qc, Qd, forall_const, ↓reduceIte, ↓reduceDIte, ↓Qe, Qf, Qg, Qh, Qi, Qj, Qk, Ql, Qm, Qn, Qo, Qp, Qq, Qr, Qs, implies_true, Qt, Qu, Qv, Qw, Qx, Qy, Qz, QA, QB, QC, QD, QE, QF, QG, QH, QI, QJ, QK, QL, QM, QN, QO, QP, QQ]
            refine CallC.frozenE (have_spec st false mk.txt (by omega)) (by rw [sln, cut_all (by rw [ol]; omega)]) ?_
            rw [mt]
            by_cases hx : x ∈ st.map Opt.txt
            · rw [if_pos (stx2.1 hx)] at hst
              rw [decide_eq_true hx]
              simp (config := { maxSteps := 1000000 }) (disch := ((try simp only [awL]); omega)) only [QR, QS, QT, QU, QV, QW, QX, QY, QZ, Q0, Q1, Q2, MO_n, ↓awU, awV, awF, Qa, Qb, Qc, Qd, forall_const, ↓reduceIte, ↓reduceDIte, ↓Qe, Qf, Qg, Qh, Qi, Qj, Qk, Ql, Qm, Qn, Qo, Qp, Qq, Qr, Qs, implies_true, Qt, Qu, Qv, Qw, Qx, Qy, Qz, QA, QB, QC, QD, QE, QF, QG, QH, QI, QJ, QK, QL, QM, QN, QO, QP, QQ]
              exact ⟨g + 1, h, by simp only; omega, ⟨[some 0, some 1], rfl, by simp, by simp [setsA, keepA, SWeak, AWeak, hst], by simp [HWeak, BWeak, SWeak, AWeak, hst, hst2]⟩⟩
            · rw [if_neg (fun q => hx (stx2.2 q))] at hst
              rw [decide_eq_false hx]
              have hso : sortO (colO d (g + 1)) = insO mk st := by rw [hst, sortO_snoc, hst2]
              unfold insO at hso
              rw [← k2] at hso
              rw [← sln] at ol wl ⊢
              simp (config := { maxSteps := 1000000 }) (disch := ((try simp only [awL]); omega)) only [QR, QS, QT, QU, QV, QW, QX, QY, QZ, Q0, Q1, Q2, MO_t, MO_n, show markK MO (some 105) = true from rfl, show markK MO (some 116) = true from rfl, ol, wl, wl2, ↓awU, awV, awF, Qa, Qb, Qc, Qd, forall_const, ↓reduceIte, ↓reduceDIte, ↓Qe, Qf, Qg, Qh, Qi, Qj, Qk, Ql, Qm, Qn, Qo, Qp, Qq, Qr, Qs, implies_true, Qt, Qu, Qv, Qw, Qx, Qy, Qz, QA, QB, QC, QD, QE, QF, QG, QH, QI, QJ, QK, QL, QM, QN, QO, QP, QQ]
              have c1 : cut (optC st) (k * 3) ((st.length - k) * 3) = optC (st.drop k) := by
                unfold cut; rw [optC_drop, List.take_of_length_le (by rw [optC_length, List.length_drop]; omega)]
              have c2 : D.str (bs x) :: D.int .i64 mk.fr :: D.int .i64 mk.ag :: optC (st.drop k) = optC (mk :: st.drop k) := by
                show _ = D.str (bs mk.txt) :: D.int .i64 mk.fr :: D.int .i64 mk.ag :: optC (st.drop k)
                rw [mt]
              have c3 : cut (optC (mk :: st.drop k)) 0 ((1 + (st.length - k)) * 3) = optC (mk :: st.drop k) := cut_all (by rw [optC_length, List.length_cons, List.length_drop]; omega)
              have c4 : (optC st).take (k * 3) ++ optC (mk :: st.drop k) = optC (sortO (colO d (g + 1))) := by rw [optC_take, ← optC_app, hso]
              have w2 : D.int .i64 ly.length :: nats .i64 ((wdsO st).drop k) = nats .i64 (wdsO (mk :: st.drop k)) := by rw [← mw, wdsO, ← List.map_drop]; rfl
              have w3 : cut (nats .i64 (wdsO (mk :: st.drop k))) 0 (1 + (st.length - k)) = nats .i64 (wdsO (mk :: st.drop k)) := cut_all (by rw [nats_length, List.length_map, List.length_cons, List.length_drop]; omega)
              have w4 : nats .i64 ((wdsO st).take k) ++ nats .i64 (wdsO (mk :: st.drop k)) = nats .i64 (wdsO (sortO (colO d (g + 1)))) := by
                rw [nats_append, wdsO, ← List.map_take, wdsO, ← List.map_append, hso]
              have hln : (colO d (g + 1)).length = k + (1 + (st.length - k)) := by rw [hst, List.length_append, List.length_singleton]; omega
              rw [c1, c2, c3, c4, w2, w3, w4]
              refine ⟨by rw [optC_length, List.length_drop]; omega, by rw [optC_length, List.length_cons, List.length_drop]; omega, by rfl, by rw [nats_length, List.length_map, List.length_cons, List.length_drop]; omega, by rfl,
                g + 1, h, by simp only; omega, ⟨[some 5, some 8], rfl, by simp, by simp [setsA, keepA, SWeak, AWeak, hln], ?_⟩⟩
              simp [HWeak, BWeak, List.getElem?_cons_succ, List.getElem?_cons_zero]
    · obtain rfl : g = 3 := by omega
      simp (config := { maxSteps := 1000000 }) (disch := ((try simp only [awL]); omega)) only [QR, QS, QT, QU, QV, QW, QX, QY, QZ, Q0, Q1, Q2, MO_t, MO_n, ↓awU, awV, awF, Qa, Qb, Qc, Qd, forall_const, ↓reduceIte, ↓reduceDIte, ↓Qe, Qf, Qg, Qh, Qi, Qj, Qk, Ql, Qm, Qn, Qo, Qp, Qq, Qr, Qs, implies_true, Qt, Qu, Qv, Qw, Qx, Qy, Qz, QA, QB, QC, QD, QE, QF, QG, QH, QI, QJ, QK, QL, QM, QN, QO, QP, QQ]
      rw [show optsL d = sortO (colO d 3) from rfl, sln, cut_all (by rw [ol]; omega)]
end Go.Proofs.YtacepalmphbnfaaGreatDoor

namespace Go.Proofs.YtacepalmphbnfaaGreatDoor
open Go Go.Proofs Go.Abs
variable {G : Globals}
/-! The law FixedInfers. -/
theorem inferL_len (d : List UInt8) (gap : Int) : (ixO (inferL d gap)).length ≤ 64 := by
  cases h : inferL d gap with
  | none => simp [ixO]
  | some l => exact (okLay_ok (infer_ok h).1).2.1
theorem optsL_len (d : List UInt8) : (optsL d).length ≤ 3 := by
  rw [optsL, sortO_len]; exact (colO_ok d 3 (Nat.le_refl _)).2
set_option maxHeartbeats 32000000 in
set_option maxRecDepth 100000 in
theorem infers_law (hT : HT G) (hI : HI G) (t : List Int) (ht : OkS t) (hl : t.length ≤ 9223372036854775807) (tx : List UInt8) (htx : tx.length ≤ 9223372036854775807) (n : Int) (n1 : -9223372036854775808 ≤ n) (n2 : n ≤ 9223372036854775807) :
    Ctr Tryz.prog G 3 [.d (.sl t.length false (ints .u8 t)), .d (S tx), .d (.int .i64 n)] [] (.d (.bool true)) [] := by
  refine Ctr.pure (M := M0) hmix Tryz.func3 rfl go3 ?_
  have hmm := ht.take
  simp (config := { maxSteps := 1000000 }) (disch := ((try simp only [awL]); omega)) only [QR, QS, QT, QU, QV, QW, QX, QY, QZ, Q0, Q1, Q2, Tryz.f3, ↓awU, awV, awF, Qa, Qb, Qc, Qd, forall_const, ↓reduceIte, ↓reduceDIte, ↓Qe, Qf, Qg, Qh, Qi, Qj, Qk, Ql, Qm, Qn, Qo, Qp, Qq, Qr, Qs, implies_true, Qt, Qu, Qv, Qw, Qx, Qy, Qz, QA, QB, QC, QD, QE, QF, QG, QH, QI, QJ, QK, QL, QM, QN, QO, QP, QQ]
  refine CallC.pure (sane_spec hT hI) ?_
  by_cases hx : 300 < tx.length
  · simp (config := { maxSteps := 1000000 }) (disch := ((try simp only [awL]); omega)) only [QR, QS, QT, QU, QV, QW, QX, QY, QZ, Q0, Q1, Q2, ↓awU, awV, awF, Qa, Qb, Qc, Qd, forall_const, ↓reduceIte, ↓reduceDIte, ↓Qe, Qf, Qg, Qh, Qi, Qj, Qk, Ql, Qm, Qn, Qo, Qp, Qq, Qr, Qs, implies_true, Qt, Qu, Qv, Qw, Qx, Qy, Qz, QA, QB, QC, QD, QE, QF, QG, QH, QI, QJ, QK, QL, QM, QN, QO, QP, QQ]
  · simp (config := { maxSteps := 1000000 }) (disch := ((try simp only [awL]); omega)) only [QR, QS, QT, QU, QV, QW, QX, QY, QZ, Q0, Q1, Q2, ↓awU, awV, awF, Qa, Qb, Qc, Qd, forall_const, ↓reduceIte, ↓reduceDIte, ↓Qe, Qf, Qg, Qh, Qi, Qj, Qk, Ql, Qm, Qn, Qo, Qp, Qq, Qr, Qs, implies_true, Qt, Qu, Qv, Qw, Qx, Qy, Qz, QA, QB, QC, QD, QE, QF, QG, QH, QI, QJ, QK, QL, QM, QN, QO, QP, QQ]
    refine CallC.by (new_spec t hl) (by rfl) (by rfl) (Nat.zero_le _) ?_
    generalize t.take 300 = s at *
    simp (config := { maxSteps := 1000000 }) (disch := ((try simp only [awL]); omega)) only [QR, QS, QT, QU, QV, QW, QX, QY, QZ, Q0, Q1, Q2, ↓awU, awV, awF, Qa, Qb, Qc, Qd, forall_const, ↓reduceIte, ↓reduceDIte, ↓Qe, Qf, Qg, Qh, Qi, Qj, Qk, Ql, Qm, Qn, Qo, Qp, Qq, Qr, Qs, implies_true, Qt, Qu, Qv, Qw, Qx, Qy, Qz, QA, QB, QC, QD, QE, QF, QG, QH, QI, QJ, QK, QL, QM, QN, QO, QP, QQ]
    refine CallC.by (layout_spec s 0 hmm) (by rfl) (by rfl) (Nat.le_refl _) ?_
    have hly := layM_ok s 0
    generalize layM s 0 = ly at *
    generalize layK s 0 = k at *
    have l4 := hly.2.2.1
    have eN : IsF (asI ly) false = Ns ly false := by unfold IsF Ns; rw [ints_asI, natO_le]
    simp (config := { maxSteps := 1000000 }) (disch := ((try simp only [awL]); omega)) only [QR, QS, QT, QU, QV, QW, QX, QY, QZ, Q0, Q1, Q2, ↓awU, awV, awF, Qa, Qb, Qc, Qd, forall_const, ↓reduceIte, ↓reduceDIte, ↓Qe, Qf, Qg, Qh, Qi, Qj, Qk, Ql, Qm, Qn, Qo, Qp, Qq, Qr, Qs, implies_true, Qt, Qu, Qv, Qw, Qx, Qy, Qz, QA, QB, QC, QD, QE, QF, QG, QH, QI, QJ, QK, QL, QM, QN, QO, QP, QQ]
    refine CallC.by (grid_spec s k ly false true hmm hly) (by rw [show D.sl (asI ly).length false (ints .i64 (asI ly)) = Ns ly false from eN]) (by rfl) (Nat.le_refl _) ?_
    obtain ⟨gn, gg⟩ := gridM_good s ly k
    generalize gridM s ly true k = g at *
    generalize gridK s ly true k = k2 at *
    have gok := GoodR.grid hly gg (by omega)
    have fb := formF_len (asI ly) g
    have f2 := rfformat_spec hT (asI ly) false g false (by rw [natO_le]; omega) gok
    generalize formF (asI ly) g = bf at *
    obtain ⟨b, e⟩ := bf
    simp only at fb
    simp (config := { maxSteps := 1000000 }) (disch := ((try simp only [awL]); omega)) only [QR, QS, QT, QU, QV, QW, QX, QY, QZ, Q0, Q1, Q2, ↓awU, awV, awF, Qa, Qb, Qc, Qd, forall_const, ↓reduceIte, ↓reduceDIte, ↓Qe, Qf, Qg, Qh, Qi, Qj, Qk, Ql, Qm, Qn, Qo, Qp, Qq, Qr, Qs, implies_true, Qt, Qu, Qv, Qw, Qx, Qy, Qz, QA, QB, QC, QD, QE, QF, QG, QH, QI, QJ, QK, QL, QM, QN, QO, QP, QQ]
    refine CallC.of f2 (by rfl) ?_
    unfold fmtE
    simp (config := { maxSteps := 1000000 }) (disch := ((try simp only [awL]); omega)) only [QR, QS, QT, QU, QV, QW, QX, QY, QZ, Q0, Q1, Q2, ↓awU, awV, awF, Qa, Qb, Qc, Qd, forall_const, ↓reduceIte, ↓reduceDIte, ↓Qe, Qf, Qg, Qh, Qi, Qj, Qk, Ql, Qm, Qn, Qo, Qp, Qq, Qr, Qs, implies_true, Qt, Qu, Qv, Qw, Qx, Qy, Qz, QA, QB, QC, QD, QE, QF, QG, QH, QI, QJ, QK, QL, QM, QN, QO, QP, QQ]
    generalize hts : [b, tx, b ++ tx, 32 :: 32 :: b] = ts at *
    have tsl : ts.length = 4 := by rw [← hts]; rfl
    have tz : ∀ i, i < 4 → (ts.getD i []).length ≤ 2000000 := by
      intro i hi
      rw [← hts]
      rcases (by omega : i = 0 ∨ i = 1 ∨ i = 2 ∨ i = 3) with rfl | rfl | rfl | rfl
      · show b.length ≤ _; omega
      · show tx.length ≤ _; omega
      · show (b ++ tx).length ≤ _; rw [List.length_append]; omega
      · show (32 :: 32 :: b).length ≤ _; simp only [List.length_cons]; omega
    have row : [S b, S tx, S (b ++ tx), S (32 :: 32 :: b)] = strs ts := by rw [← hts]; rfl
    have tsD := @strs_length ts
    rw [show [D.str (bs b), D.str (bs tx), D.str (bs (b ++ tx)), D.str (bs (32 :: 32 :: b))] = strs ts from row]
    refine LoopC.fr 26388279066628 (α := Nat) (fun q => 4 - q) (fun q => [(45, .d (.int .i64 q))]) (fun _ => [DiceM s k2, .row false (strs ts)]) (fun q => q ≤ 4) 0 (Nat.zero_le _) ?_ ?_
    · exact ⟨[some 0, some 1], rfl, by simp, by simp [setsA, keepA, SWeak, AWeak], by simp [HWeak, BWeak, SWeak, AWeak]⟩
    · intro q hq
      simp only [awK, Nat.reduceMod, Nat.reduceDiv, reduceIte]
      rcases Nat.lt_or_ge q 4 with hq2 | hq2
      · have sg := strs_getD (l := ts) (i := q) (by omega)
        have sz := tz q hq2
        generalize ts.getD q [] = tq at *
        simp (config := { maxSteps := 1000000 }) (disch := ((try simp only [awL]); omega)) only [QR, QS, QT, QU, QV, QW, QX, QY, QZ, Q0, Q1, Q2, tsD, tsl, sg, ↓awU, awV, awF, Qa, Qb, Qc, Qd, forall_const, ↓reduceIte, ↓reduceDIte, ↓Qe, Qf, Qg, Qh, Qi, Qj, Qk, Ql, Qm, Qn, Qo, Qp, Qq, Qr, Qs, implies_true, Qt, Qu, Qv, Qw, Qx, Qy, Qz, QA, QB, QC, QD, QE, QF, QG, QH, QI, QJ, QK, QL, QM, QN, QO, QP, QQ]
        generalize hgs : [1, 2, 3, n] = gs at *
        have gsl : gs.length = 4 := by rw [← hgs]; rfl
        rw [show [D.int .i64 1, D.int .i64 2, D.int .i64 3, D.int .i64 n] = ints .i64 gs by rw [← hgs]; rfl]
        have gD := @ints_length .i64 gs
        clear hgs hts row
        refine LoopC.fr 3439272371687428 (α := Nat) (fun j => 4 - j) (fun j => [(52, .d (.int .i64 j))]) (fun _ => [DiceM s k2, .row false (strs ts), .row false (ints .i64 gs)]) (fun j => j ≤ 4) 0 (Nat.zero_le _) ?_ ?_
        · exact ⟨[some 0, some 1, some 2], rfl, by simp, by simp [setsA, keepA, SWeak, AWeak], by simp [HWeak, BWeak, SWeak, AWeak]⟩
        · intro j hj
          simp only [awK, Nat.reduceMod, Nat.reduceDiv, reduceIte]
          rcases Nat.lt_or_ge j 4 with hj2 | hj2
          · have g0 := ints_getD (k := .i64) (l := gs) (i := j) (d := .nilp) (by omega)
            generalize gs.getD j 0 = gap at *
            have p1 := infer_spec hT tq gap (by omega)
            have p2 := rinfer_spec hT tq gap (by omega)
            have ll := inferL_len tq gap
            rw [inferD_eq] at p1 p2
            generalize ixO (inferL tq gap) = lx at *
            generalize (inferL tq gap).isSome = lb at *
            simp (config := { maxSteps := 1000000 }) (disch := ((try simp only [awL]); omega)) only [QR, QS, QT, QU, QV, QW, QX, QY, QZ, Q0, Q1, Q2, gD, gsl, g0, ↓awU, awV, awF, Qa, Qb, Qc, Qd, forall_const, ↓reduceIte, ↓reduceDIte, ↓Qe, Qf, Qg, Qh, Qi, Qj, Qk, Ql, Qm, Qn, Qo, Qp, Qq, Qr, Qs, implies_true, Qt, Qu, Qv, Qw, Qx, Qy, Qz, QA, QB, QC, QD, QE, QF, QG, QH, QI, QJ, QK, QL, QM, QN, QO, QP, QQ]
            refine CallC.of p1 (by rfl) ?_
            simp (config := { maxSteps := 1000000 }) (disch := ((try simp only [awL]); omega)) only [QR, QS, QT, QU, QV, QW, QX, QY, QZ, Q0, Q1, Q2, ↓awU, awV, awF, Qa, Qb, Qc, Qd, forall_const, ↓reduceIte, ↓reduceDIte, ↓Qe, Qf, Qg, Qh, Qi, Qj, Qk, Ql, Qm, Qn, Qo, Qp, Qq, Qr, Qs, implies_true, Qt, Qu, Qv, Qw, Qx, Qy, Qz, QA, QB, QC, QD, QE, QF, QG, QH, QI, QJ, QK, QL, QM, QN, QO, QP, QQ]
            refine CallC.of p2 (by rfl) ?_
            cases lb with
            | false =>
              simp (config := { maxSteps := 1000000 }) (disch := ((try simp only [awL]); omega)) only [QR, QS, QT, QU, QV, QW, QX, QY, QZ, Q0, Q1, Q2, ↓awU, awV, awF, Qa, Qb, Qc, Qd, forall_const, ↓reduceIte, ↓reduceDIte, ↓Qe, Qf, Qg, Qh, Qi, Qj, Qk, Ql, Qm, Qn, Qo, Qp, Qq, Qr, Qs, implies_true, Qt, Qu, Qv, Qw, Qx, Qy, Qz, QA, QB, QC, QD, QE, QF, QG, QH, QI, QJ, QK, QL, QM, QN, QO, QP, QQ]
              exact ⟨j + 1, hj2, by simp only; omega, ⟨[some 0, some 1, some 2], rfl, by simp, by simp [setsA, keepA, SWeak, AWeak], by simp [HWeak, BWeak, SWeak, AWeak]⟩⟩
            | true =>
              simp (config := { maxSteps := 1000000 }) (disch := ((try simp only [awL]); omega)) only [QR, QS, QT, QU, QV, QW, QX, QY, QZ, Q0, Q1, Q2, ↓awU, awV, awF, Qa, Qb, Qc, Qd, forall_const, ↓reduceIte, ↓reduceDIte, ↓Qe, Qf, Qg, Qh, Qi, Qj, Qk, Ql, Qm, Qn, Qo, Qp, Qq, Qr, Qs, implies_true, Qt, Qu, Qv, Qw, Qx, Qy, Qz, QA, QB, QC, QD, QE, QF, QG, QH, QI, QJ, QK, QL, QM, QN, QO, QP, QQ]
              refine CallC.of (intsR_spec lx lx false false (by omega) (by omega)) (by rfl) ?_
              rw [decide_eq_true rfl]
              simp (config := { maxSteps := 1000000 }) (disch := ((try simp only [awL]); omega)) only [QR, QS, QT, QU, QV, QW, QX, QY, QZ, Q0, Q1, Q2, ↓awU, awV, awF, Qa, Qb, Qc, Qd, forall_const, ↓reduceIte, ↓reduceDIte, ↓Qe, Qf, Qg, Qh, Qi, Qj, Qk, Ql, Qm, Qn, Qo, Qp, Qq, Qr, Qs, implies_true, Qt, Qu, Qv, Qw, Qx, Qy, Qz, QA, QB, QC, QD, QE, QF, QG, QH, QI, QJ, QK, QL, QM, QN, QO, QP, QQ]
              exact ⟨j + 1, hj2, by simp only; omega, ⟨[some 0, some 1, some 2], rfl, by simp, by simp [setsA, keepA, SWeak, AWeak], by simp [HWeak, BWeak, SWeak, AWeak]⟩⟩
          · obtain rfl : j = 4 := by omega
            simp (config := { maxSteps := 1000000 }) (disch := ((try simp only [awL]); omega)) only [QR, QS, QT, QU, QV, QW, QX, QY, QZ, Q0, Q1, Q2, gD, gsl, ↓awU, awV, awF, Qa, Qb, Qc, Qd, forall_const, ↓reduceIte, ↓reduceDIte, ↓Qe, Qf, Qg, Qh, Qi, Qj, Qk, Ql, Qm, Qn, Qo, Qp, Qq, Qr, Qs, implies_true, Qt, Qu, Qv, Qw, Qx, Qy, Qz, QA, QB, QC, QD, QE, QF, QG, QH, QI, QJ, QK, QL, QM, QN, QO, QP, QQ]
            refine CallC.of (options_spec hT hI tq (by omega)) (by rfl) ?_
            have ol := optsL_len tq
            simp (config := { maxSteps := 1000000 }) (disch := ((try simp only [awL]); omega)) only [QR, QS, QT, QU, QV, QW, QX, QY, QZ, Q0, Q1, Q2, ↓awU, awV, awF, Qa, Qb, Qc, Qd, forall_const, ↓reduceIte, ↓reduceDIte, ↓Qe, Qf, Qg, Qh, Qi, Qj, Qk, Ql, Qm, Qn, Qo, Qp, Qq, Qr, Qs, implies_true, Qt, Qu, Qv, Qw, Qx, Qy, Qz, QA, QB, QC, QD, QE, QF, QG, QH, QI, QJ, QK, QL, QM, QN, QO, QP, QQ]
            refine CallC.of (roptions_spec hT hI tq (by omega)) (by rfl) ?_
            simp (config := { maxSteps := 1000000 }) (disch := ((try simp only [awL]); omega)) only [QR, QS, QT, QU, QV, QW, QX, QY, QZ, Q0, Q1, Q2, ↓awU, awV, awF, Qa, Qb, Qc, Qd, forall_const, ↓reduceIte, ↓reduceDIte, ↓Qe, Qf, Qg, Qh, Qi, Qj, Qk, Ql, Qm, Qn, Qo, Qp, Qq, Qr, Qs, implies_true, Qt, Qu, Qv, Qw, Qx, Qy, Qz, QA, QB, QC, QD, QE, QF, QG, QH, QI, QJ, QK, QL, QM, QN, QO, QP, QQ]
            refine CallC.of (sameOpt_spec (optsL tq) false false (by omega)) (by rfl) ?_
            simp (config := { maxSteps := 1000000 }) (disch := ((try simp only [awL]); omega)) only [QR, QS, QT, QU, QV, QW, QX, QY, QZ, Q0, Q1, Q2, ↓awU, awV, awF, Qa, Qb, Qc, Qd, forall_const, ↓reduceIte, ↓reduceDIte, ↓Qe, Qf, Qg, Qh, Qi, Qj, Qk, Ql, Qm, Qn, Qo, Qp, Qq, Qr, Qs, implies_true, Qt, Qu, Qv, Qw, Qx, Qy, Qz, QA, QB, QC, QD, QE, QF, QG, QH, QI, QJ, QK, QL, QM, QN, QO, QP, QQ]
            exact ⟨q + 1, hq2, by simp only; omega, ⟨[some 0, some 1], rfl, by simp, by simp [setsA, keepA, SWeak, AWeak], by simp [HWeak, BWeak, SWeak, AWeak]⟩⟩
      · obtain rfl : q = 4 := by omega
        simp (config := { maxSteps := 1000000 }) (disch := ((try simp only [awL]); omega)) only [QR, QS, QT, QU, QV, QW, QX, QY, QZ, Q0, Q1, Q2, tsD, tsl, ↓awU, awV, awF, Qa, Qb, Qc, Qd, forall_const, ↓reduceIte, ↓reduceDIte, ↓Qe, Qf, Qg, Qh, Qi, Qj, Qk, Ql, Qm, Qn, Qo, Qp, Qq, Qr, Qs, implies_true, Qt, Qu, Qv, Qw, Qx, Qy, Qz, QA, QB, QC, QD, QE, QF, QG, QH, QI, QJ, QK, QL, QM, QN, QO, QP, QQ]
end Go.Proofs.YtacepalmphbnfaaGreatDoor
