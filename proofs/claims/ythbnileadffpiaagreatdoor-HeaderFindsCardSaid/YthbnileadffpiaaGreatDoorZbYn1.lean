/-
  A world that lays the variables of headerFinds.
-/
import Derived.Test.YthbnileadffpiaaGreatDoorMb2
import Derived.Lib.Strings
import Derived.Lib.Slices
import Derived.Lib.Walk
import Derived.Lib.Bytealg
set_option linter.all false
open Go.Abs renaming ofVal → Qa, ofVal0 → Qb, isShift → Qc, aggK → Qd, purePost → Qe, combine → Qf, idsA → Qg, cellsA → Qh, numsOf → Qi, srcA → Qj, calleeA → Qk, refsA → Ql, isScalar → Qm, scalarD → Qn, scalar0 → Qo, putL → Qr, unfA → Qs, sidsB → QJ, keyKD → QL, isIntK → QM, aggD → QN, aggL → QO, eqKs → QP, boxRow → QQ, nextC_more → QT, nextC_over → QU, bs_size → QV, bs_extract → QW, bs_toList → QX, bs_append → QY, byteAt_bs → QZ, bs_cells → Q0, nums_length → Q1, nums_getD → Q2
open Go.Abs.AV renaming one → Qp
open Go.Abs.D renaming one → Qq
open Go.IntKind renaming signed → Qt
open Nat renaming reduceAdd → Qu, reduceSub → Qv, reduceMul → Qw, reducePow → Qx, reduceDiv → Qy, reduceMod → Qz, reduceEqDiff → QI, reduceBEq → QK
open Int renaming reduceAdd → QA, reduceSub → QB, reduceMul → QC, reducePow → QD, reduceNeg → QE, reduceToNat → QF, reduceLT → QG, reduceLE → QH
open Option renaming toList_some → QR, toList_none → QS

namespace Go.Proofs.YthbnileadffpiaaGreatDoor
open Go Go.Proofs Go.Abs Go.RowKit Go.ChangeShapes Go.WideShapes Go.ChangeAt
noncomputable def laidWorld_headerFinds (os : Os) : World :=
  { World.holding Tryz.prog os ⟨#[.cells #[.int .u32 1] 110], #[], []⟩ with heap := (((((((World.holding Tryz.prog os ⟨#[.cells #[.int .u32 1] 110], #[], []⟩).heap.modify 6 fun
      | .cells _ t frozen => .cells #[.int .u8 0, .int .u8 1, .int .u8 28, .int .u8 2, .int .u8 29, .int .u8 14, .int .u8 24, .int .u8 3, .int .u8 30, .int .u8 22, .int .u8 20, .int .u8 15, .int .u8 25, .int .u8 17, .int .u8 4, .int .u8 8, .int .u8 31, .int .u8 27, .int .u8 13, .int .u8 23, .int .u8 21, .int .u8 19, .int .u8 16, .int .u8 7, .int .u8 26, .int .u8 12, .int .u8 18, .int .u8 6, .int .u8 11, .int .u8 5, .int .u8 10, .int .u8 9] t frozen
      | o => o).modify 7 fun
      | .cells _ t frozen => .cells #[.int .u8 0, .int .u8 1, .int .u8 56, .int .u8 2, .int .u8 57, .int .u8 49, .int .u8 28, .int .u8 3, .int .u8 61, .int .u8 58, .int .u8 42, .int .u8 50, .int .u8 38, .int .u8 29, .int .u8 17, .int .u8 4, .int .u8 62, .int .u8 47, .int .u8 59, .int .u8 36, .int .u8 45, .int .u8 43, .int .u8 51, .int .u8 22, .int .u8 53, .int .u8 39, .int .u8 33, .int .u8 30, .int .u8 24, .int .u8 18, .int .u8 12, .int .u8 5, .int .u8 63, .int .u8 55, .int .u8 48, .int .u8 27, .int .u8 60, .int .u8 41, .int .u8 37, .int .u8 16, .int .u8 46, .int .u8 35, .int .u8 44, .int .u8 21, .int .u8 52, .int .u8 32, .int .u8 23, .int .u8 11, .int .u8 54, .int .u8 26, .int .u8 40, .int .u8 15, .int .u8 34, .int .u8 20, .int .u8 31, .int .u8 10, .int .u8 25, .int .u8 14, .int .u8 19, .int .u8 9, .int .u8 13, .int .u8 8, .int .u8 7, .int .u8 6] t frozen
      | o => o).modify 3 fun
      | .cells _ t frozen => .cells #[.int .u64 1, .int .u64 10, .int .u64 100, .int .u64 1000, .int .u64 10000, .int .u64 100000, .int .u64 1000000, .int .u64 10000000, .int .u64 100000000, .int .u64 1000000000, .int .u64 10000000000, .int .u64 100000000000, .int .u64 1000000000000, .int .u64 10000000000000, .int .u64 100000000000000, .int .u64 1000000000000000, .int .u64 10000000000000000, .int .u64 100000000000000000, .int .u64 1000000000000000000, .int .u64 10000000000000000000] t frozen
      | o => o).modify 2 fun
      | .cells _ t frozen => .cells #[.int .u8 128, .int .u8 191, .int .u8 160, .int .u8 191, .int .u8 128, .int .u8 159, .int .u8 144, .int .u8 191, .int .u8 128, .int .u8 143, .int .u8 0, .int .u8 0, .int .u8 0, .int .u8 0, .int .u8 0, .int .u8 0, .int .u8 0, .int .u8 0, .int .u8 0, .int .u8 0, .int .u8 0, .int .u8 0, .int .u8 0, .int .u8 0, .int .u8 0, .int .u8 0, .int .u8 0, .int .u8 0, .int .u8 0, .int .u8 0, .int .u8 0, .int .u8 0] t frozen
      | o => o).modify 0 fun
      | .cells _ t frozen => .cells #[.slice (some ⟨(World.settled Tryz.prog os).heap.size, 0, none⟩) 1 1] t frozen
      | o => o).modify 1 fun
      | .cells _ t frozen => .cells (Go.Pinned.utf8FirstZ.map fun (n : Nat) => Value.int .u8 (n : Int)).toArray t frozen
      | o => o) }
set_option maxRecDepth 100000 in
theorem laid_met_headerFinds (os : Os) (args : Array Value) : laidMet Tryz.prog [("math/bits.deBruijn32tab", Rows.laid_math_bits_deBruijn32tab), ("math/bits.deBruijn64tab", Rows.laid_math_bits_deBruijn64tab), ("internal/strconv.uint64pow10", Rows.laid_internal_strconv_uint64pow10), ("unicode/utf8.acceptRanges", Rows.laid_unicode_utf8_acceptRanges), ("tablefinder/fraction.one", Rows.laid_tablefinder_fraction_one), ("unicode/utf8.first", Rows.laid_unicode_utf8_first)] ((laidWorld_headerFinds os).forCall (fun _ _ => 0) ⟨#[], args, []⟩).memory :=
  laidMet_of_run' 8 (by kernel_rfl) (by kernel_rfl)
end Go.Proofs.YthbnileadffpiaaGreatDoor

namespace Go.Proofs.YthbnileadffpiaaGreatDoor
open Go Go.Proofs Go.Abs
variable {G : Globals}
/-! Writing a file in a layout. -/
theorem getD_le {l : List Nat} {m : Nat} (h : ∀ i, i < l.length → l.getD i 0 ≤ m) (i : Nat) : l.getD i 0 ≤ m := by
  rcases Nat.lt_or_ge i l.length with h1 | h1
  · exact h i h1
  · rw [List.getD_eq_getElem?_getD, List.getElem?_eq_none h1]; exact Nat.zero_le _
end Go.Proofs.YthbnileadffpiaaGreatDoor

namespace Go.Proofs.YthbnileadffpiaaGreatDoor
open Go Go.Proofs Go.Abs
variable {G : Globals}
/-! The reference: writing a file in a layout. -/
end Go.Proofs.YthbnileadffpiaaGreatDoor

namespace Go.Proofs.YthbnileadffpiaaGreatDoor
open Go Go.Proofs Go.Abs
variable {G : Globals}
/-! The reference's Infer. -/
def nots (q : List Bool) : List Bool := q.map not
end Go.Proofs.YthbnileadffpiaaGreatDoor

namespace Go.Proofs.YthbnileadffpiaaGreatDoor
open Go Go.Proofs Go.Abs
variable {G : Globals}
/-! The layout with a text: what is parsed. -/
theorem dg_byte {n : Nat} (h : n < 10) : (UInt8.ofNat (48 + n)).toNat = 48 + n := by simp; omega
theorem dec_ne (n : Nat) : Lib.decDigits n ≠ [] := by
  intro e
  have := congrArg List.length e
  rw [Lib.decDigits_length] at this
  have := Lib.nDigits_pos n
  simp at *; omega
theorem dec_bytes : ∀ (n : Nat), ∀ c ∈ Lib.decDigits n, 48 ≤ c.toNat ∧ c.toNat ≤ 57 := by
  intro n
  induction n using Nat.strongRecOn with
  | _ n ih =>
    intro c hc
    rw [Lib.decDigits] at hc
    split at hc
    · simp only [List.mem_singleton] at hc
      rw [hc, dg_byte (by omega)]; omega
    · rcases List.mem_append.1 hc with h | h
      · exact ih _ (by omega) c h
      · simp only [List.mem_singleton] at h
        rw [h, dg_byte (by omega)]; omega
theorem natGo_dec : ∀ (n : Nat) (t : List UInt8), n < 100000000 → natGo 0 0 (Lib.decDigits n ++ t) = natGo n (Lib.decDigits n).length t := by
  intro n
  induction n using Nat.strongRecOn with
  | _ n ih =>
    intro t hn
    rw [Lib.decDigits]
    split
    · rw [List.singleton_append, natGo, dg_byte (by omega), if_neg (by omega)]
      congr 1; omega
    · rw [List.append_assoc, ih _ (by omega) _ (by omega), List.singleton_append, natGo, dg_byte (by omega), if_neg (by omega), List.length_append]
      congr 1; omega
def natO (p : List UInt8) : Option Nat := match natGo 0 0 p with | some n => if p = [] then none else some n | none => none
theorem natO_dec {n : Nat} (hn : n < 100000000) : natO (Lib.decDigits n) = some n := by
  have := natGo_dec n [] hn
  rw [List.append_nil] at this
  rw [natO, this, natGo]
  simp only [if_neg (dec_ne n)]
end Go.Proofs.YthbnileadffpiaaGreatDoor

namespace Go.Proofs.YthbnileadffpiaaGreatDoor
open Go Go.Proofs Go.Abs
variable {G : Globals}
/-! The layout with a text: fixed.Layout. -/
end Go.Proofs.YthbnileadffpiaaGreatDoor

namespace Go.Proofs.YthbnileadffpiaaGreatDoor
open Go Go.Proofs Go.Abs
variable {G : Globals}
/-! The layout with a text: the reference's Layout. -/
end Go.Proofs.YthbnileadffpiaaGreatDoor

namespace Go.Proofs.YthbnileadffpiaaGreatDoor
open Go Go.Proofs Go.Abs
variable {G : Globals}
/-! The dice's layouts and grids. -/
/-- Ascending places, each at most a thousand. -/
def LayI (l : List Nat) : Prop := l ≠ [] ∧ l.getD 0 0 = 0 ∧ l.length ≤ 4 ∧ (∀ i, i < l.length → l.getD i 0 ≤ 12 * i) ∧ ∀ i, i + 1 < l.length → l.getD i 0 < l.getD (i + 1) 0
theorem LayI.step {l : List Nat} (h : LayI l) (hl : l.length < 4) {c : Nat} (hc : c < 12) : LayI (l ++ [l.getD (l.length - 1) 0 + 1 + c]) := by
  obtain ⟨h1, h2, h3, h4, h5⟩ := h
  have lp : 0 < l.length := List.length_pos_iff.2 h1
  have old : ∀ i, i < l.length → (l ++ [l.getD (l.length - 1) 0 + 1 + c]).getD i 0 = l.getD i 0 := fun i hi => by
    rw [List.getD_eq_getElem?_getD, List.getElem?_append_left hi, ← List.getD_eq_getElem?_getD]
  have new : (l ++ [l.getD (l.length - 1) 0 + 1 + c]).getD l.length 0 = l.getD (l.length - 1) 0 + 1 + c := by
    rw [List.getD_eq_getElem?_getD, List.getElem?_append_right (Nat.le_refl _), Nat.sub_self]; rfl
  refine ⟨by simp, by rw [old 0 lp, h2], by rw [List.length_append, List.length_singleton]; omega, fun i hi => ?_, fun i hi => ?_⟩
  · rw [List.length_append, List.length_singleton] at hi
    rcases Nat.lt_or_ge i l.length with h | h
    · rw [old i h]; exact h4 i h
    · obtain rfl : i = l.length := by omega
      rw [new]
      have := h4 (l.length - 1) (by omega)
      omega
  · rw [List.length_append, List.length_singleton] at hi
    rcases Nat.lt_or_ge (i + 1) l.length with h | h
    · rw [old i (by omega), old (i + 1) h]; exact h5 i h
    · have e : i + 1 = l.length := by omega
      rw [e, new, old i (by omega)]
      have : i = l.length - 1 := by omega
      rw [this]; omega
end Go.Proofs.YthbnileadffpiaaGreatDoor

namespace Go.Proofs.YthbnileadffpiaaGreatDoor
open Go Go.Proofs Go.Abs
/-! What the dice make is valid and short. -/
theorem valid_ascii : ∀ s : List UInt8, (∀ c ∈ s, c.toNat < 128) → Lib.validD s = true
  | [], _ => rfl
  | c :: r, h => by rw [Lib.validD_cons _ _ (h c (by simp))]; exact valid_ascii r fun x hx => h x (by simp [hx])
def okT (s : List UInt8) : Prop := Lib.validD s = true ∧ s.length ≤ 30
instance (s : List UInt8) : Decidable (okT s) := by unfold okT; exact inferInstance
theorem okT_nil : okT [] := by decide
/-- A grid of the dice. -/
structure OddG (g : List Row) (m n : Nat) : Prop where
  len : g.length ≤ m
  row : ∀ r ∈ g, r ≠ [] ∧ r.length ≤ n
  txt : ∀ r ∈ g, ∀ s ∈ r, okT s
end Go.Proofs.YthbnileadffpiaaGreatDoor

namespace Go.Proofs.YthbnileadffpiaaGreatDoor
open Go Go.Proofs Go.Abs
variable {G : Globals}
/-! The dice's grids for a layout. -/
def OkS (t : List Int) : Prop := ∀ i, 0 ≤ t.getD i 0 ∧ t.getD i 0 ≤ 255
theorem OkS.take {t : List Int} (h : OkS t) : OkM (t.take 300) := by
  refine ⟨by rw [List.length_take]; omega, fun i => ?_⟩
  rcases Nat.lt_or_ge i 300 with h1 | h1
  · have := h i
    rw [List.getD_eq_getElem?_getD, List.getElem?_take, if_pos h1, ← List.getD_eq_getElem?_getD]
    exact this
  · rw [List.getD_eq_getElem?_getD, List.getElem?_take, if_neg (by omega)]; decide
end Go.Proofs.YthbnileadffpiaaGreatDoor

namespace Go.Proofs.YthbnileadffpiaaGreatDoor
open Go Go.Proofs Go.Abs
variable {G : Globals}
/-! Sheet: the field at a place, the width, equal regions. -/
/-- Few rows, and few fields in them. -/
def okGW (g : List Row) : Prop := g.length ≤ 1000000000 ∧ ∀ r ∈ g, r.length ≤ 1000000000 ∧ ∀ s ∈ r, s.length ≤ 9223372036854775807
theorem okGrid.w {g : List Row} (h : okGrid g) : okGW g := ⟨h.1, fun r hr => ⟨(h.2 r hr).1, fun s hs => by have := (h.2 r hr).2 s hs; omega⟩⟩
def atG (g : List Row) (r c : Int) : List UInt8 := if r < 0 ∨ c < 0 then [] else (g.getD r.toNat []).getD c.toNat []
def widG (g : List Row) : Nat := g.foldl (fun m r => max m r.length) 0
theorem widG_take {g : List Row} {i : Nat} (h : i < g.length) : widG (g.take (i + 1)) = max (widG (g.take i)) (g.getD i []).length := by
  rw [List.take_add_one, getD_some (d := []) h, widG, List.foldl_append]; rfl
theorem widG_le {m : Nat} {g : List Row} (h : ∀ r ∈ g, r.length ≤ m) : widG g ≤ m := by
  have : ∀ (g : List Row) (k : Nat), k ≤ m → (∀ r ∈ g, r.length ≤ m) → g.foldl (fun m r => max m r.length) k ≤ m := by
    intro g
    induction g with
    | nil => intro k h _; exact h
    | cons r g ih => intro k hk h; rw [List.foldl_cons]; exact ih _ (by have := h r (by simp); omega) fun x hx => h x (by simp [hx])
  exact this g 0 (Nat.zero_le _) h
set_option maxHeartbeats 4000000 in
set_option maxRecDepth 100000 in
theorem width_spec (g : List Row) (full : Bool) (hg : okGW g) : Ctr Tryz.prog G 36 [.d (.agg [Gr g full])] [] (.d (.int .i64 (widG g))) [] := by
  obtain ⟨r, hr⟩ : ∃ r, r = widG g := ⟨_, rfl⟩
  rw [← hr]
  refine Ctr.pure (M := M0) hmix Tryz.func36 rfl go36 ?_
  have gl := @rowsD_length g
  have hgl := hg.1
  simp (config := { maxSteps := 1000000 }) (disch := ((try simp only [awL]); omega)) only [QR, QS, QT, QU, QV, QW, QX, QY, QZ, Q0, Q1, Q2, gl, Tryz.f36, ↓awU, awV, awF, Qa, Qb, Qc, Qd, forall_const, ↓reduceIte, ↓reduceDIte, ↓Qe, Qf, Qg, Qh, Qi, Qj, Qk, Ql, Qm, Qn, Qo, Qp, Qq, Qr, Qs, implies_true, Qt, Qu, Qv, Qw, Qx, Qy, Qz, QA, QB, QC, QD, QE, QF, QG, QH, QI, QJ, QK, QL, QM, QN, QO, QP, QQ]
  refine LoopC.fr 384 (α := Nat) (fun i => g.length - i) (fun i => [(3, .d (.int .i64 (widG (g.take i)))), (9, .d (.int .i64 i))]) (fun _ => []) (fun i => i ≤ g.length) 0 (Nat.zero_le _) ?_ ?_
  · exact ⟨[], rfl, by simp, by simp [setsA, keepA, SWeak, AWeak, widG], by simp [HWeak, BWeak, SWeak, AWeak]⟩
  · intro i hi
    simp only [awK, Nat.reduceMod, Nat.reduceDiv, reduceIte]
    rcases Nat.lt_or_ge i g.length with h | h
    · have gr := rowsD_getD (g := g) (i := i) h
      have ok := (hg.2 _ (memD (d := []) h)).1
      have wt := widG_take h
      have wl := widG_le (m := 1000000000) (g := g.take i) (fun r hr => (hg.2 r (List.mem_of_mem_take hr)).1)
      generalize g.getD i [] = ro at *
      generalize widG (g.take i) = m at *
      simp (config := { maxSteps := 1000000 }) (disch := ((try simp only [awL]); omega)) only [QR, QS, QT, QU, QV, QW, QX, QY, QZ, Q0, Q1, Q2, gl, gr, ↓awU, awV, awF, Qa, Qb, Qc, Qd, forall_const, ↓reduceIte, ↓reduceDIte, ↓Qe, Qf, Qg, Qh, Qi, Qj, Qk, Ql, Qm, Qn, Qo, Qp, Qq, Qr, Qs, implies_true, Qt, Qu, Qv, Qw, Qx, Qy, Qz, QA, QB, QC, QD, QE, QF, QG, QH, QI, QJ, QK, QL, QM, QN, QO, QP, QQ]
      exact ⟨i + 1, h, by simp only; omega, ⟨[], rfl, by simp, by simp [setsA, keepA, SWeak, AWeak, wt], by simp [HWeak, BWeak, SWeak, AWeak]⟩⟩
    · rw [List.take_of_length_le h, ← hr]
      simp (config := { maxSteps := 1000000 }) (disch := ((try simp only [awL]); omega)) only [QR, QS, QT, QU, QV, QW, QX, QY, QZ, Q0, Q1, Q2, gl, ↓awU, awV, awF, Qa, Qb, Qc, Qd, forall_const, ↓reduceIte, ↓reduceDIte, ↓Qe, Qf, Qg, Qh, Qi, Qj, Qk, Ql, Qm, Qn, Qo, Qp, Qq, Qr, Qs, implies_true, Qt, Qu, Qv, Qw, Qx, Qy, Qz, QA, QB, QC, QD, QE, QF, QG, QH, QI, QJ, QK, QL, QM, QN, QO, QP, QQ]
set_option maxHeartbeats 4000000 in
set_option maxRecDepth 100000 in
theorem gat_spec (g : List Row) (full : Bool) (hg : okGW g) (r c : Int) (r1 : -9223372036854775808 ≤ r) (r2 : r ≤ 9223372036854775807) (c1 : -9223372036854775808 ≤ c) (c2 : c ≤ 9223372036854775807) :
    Ctr Tryz.prog G 38 [.d (.agg [Gr g full]), .d (.int .i64 r), .d (.int .i64 c)] [] (.d (S (atG g r c))) [] := by
  obtain ⟨x, hx⟩ : ∃ x, x = atG g r c := ⟨_, rfl⟩
  rw [← hx]
  unfold atG at hx
  refine Ctr.pure (M := M0) hmix Tryz.func38 rfl go38 ?_
  have gl := @rowsD_length g
  have hgl := hg.1
  rcases (by omega : r < 0 ∨ 0 ≤ r) with h1 | h1
  · rw [if_pos (.inl h1)] at hx
    subst hx
    simp (config := { maxSteps := 1000000 }) (disch := ((try simp only [awL]); omega)) only [QR, QS, QT, QU, QV, QW, QX, QY, QZ, Q0, Q1, Q2, gl, Tryz.f38, ↓awU, awV, awF, Qa, Qb, Qc, Qd, forall_const, ↓reduceIte, ↓reduceDIte, ↓Qe, Qf, Qg, Qh, Qi, Qj, Qk, Ql, Qm, Qn, Qo, Qp, Qq, Qr, Qs, implies_true, Qt, Qu, Qv, Qw, Qx, Qy, Qz, QA, QB, QC, QD, QE, QF, QG, QH, QI, QJ, QK, QL, QM, QN, QO, QP, QQ]
    try rfl
  · obtain ⟨p, rfl⟩ : ∃ p : Nat, r = p := ⟨r.toNat, by omega⟩
    rcases Nat.lt_or_ge p g.length with h2 | h2
    · have gr := rowsD_getD (g := g) (i := p) h2
      have ok := (hg.2 _ (memD (d := []) h2)).1
      rw [Int.toNat_natCast] at hx
      generalize g.getD p [] = ro at *
      have sl := @strs_length ro
      rcases (by omega : c < 0 ∨ 0 ≤ c) with h3 | h3
      · rw [if_pos (.inr h3)] at hx
        subst hx
        simp (config := { maxSteps := 1000000 }) (disch := ((try simp only [awL]); omega)) only [QR, QS, QT, QU, QV, QW, QX, QY, QZ, Q0, Q1, Q2, gl, gr, sl, Tryz.f38, ↓awU, awV, awF, Qa, Qb, Qc, Qd, forall_const, ↓reduceIte, ↓reduceDIte, ↓Qe, Qf, Qg, Qh, Qi, Qj, Qk, Ql, Qm, Qn, Qo, Qp, Qq, Qr, Qs, implies_true, Qt, Qu, Qv, Qw, Qx, Qy, Qz, QA, QB, QC, QD, QE, QF, QG, QH, QI, QJ, QK, QL, QM, QN, QO, QP, QQ]
        try rfl
      · obtain ⟨q, rfl⟩ : ∃ q : Nat, c = q := ⟨c.toNat, by omega⟩
        rw [if_neg (by omega), Int.toNat_natCast] at hx
        rcases Nat.lt_or_ge q ro.length with h4 | h4
        · have gs := strs_getD h4
          rw [← hx] at gs
          simp (config := { maxSteps := 1000000 }) (disch := ((try simp only [awL]); omega)) only [QR, QS, QT, QU, QV, QW, QX, QY, QZ, Q0, Q1, Q2, gl, gr, sl, gs, Tryz.f38, ↓awU, awV, awF, Qa, Qb, Qc, Qd, forall_const, ↓reduceIte, ↓reduceDIte, ↓Qe, Qf, Qg, Qh, Qi, Qj, Qk, Ql, Qm, Qn, Qo, Qp, Qq, Qr, Qs, implies_true, Qt, Qu, Qv, Qw, Qx, Qy, Qz, QA, QB, QC, QD, QE, QF, QG, QH, QI, QJ, QK, QL, QM, QN, QO, QP, QQ]
          try rfl
        · rw [List.getD_eq_getElem?_getD, List.getElem?_eq_none h4] at hx
          subst hx
          simp (config := { maxSteps := 1000000 }) (disch := ((try simp only [awL]); omega)) only [QR, QS, QT, QU, QV, QW, QX, QY, QZ, Q0, Q1, Q2, gl, gr, sl, Tryz.f38, ↓awU, awV, awF, Qa, Qb, Qc, Qd, forall_const, ↓reduceIte, ↓reduceDIte, ↓Qe, Qf, Qg, Qh, Qi, Qj, Qk, Ql, Qm, Qn, Qo, Qp, Qq, Qr, Qs, implies_true, Qt, Qu, Qv, Qw, Qx, Qy, Qz, QA, QB, QC, QD, QE, QF, QG, QH, QI, QJ, QK, QL, QM, QN, QO, QP, QQ]
          try rfl
    · have e : g.getD p [] = [] := by rw [List.getD_eq_getElem?_getD, List.getElem?_eq_none h2]; rfl
      rw [Int.toNat_natCast, e] at hx
      have e2 : x = [] := by
        rw [hx]; split <;> simp
      subst e2
      simp (config := { maxSteps := 1000000 }) (disch := ((try simp only [awL]); omega)) only [QR, QS, QT, QU, QV, QW, QX, QY, QZ, Q0, Q1, Q2, gl, Tryz.f38, ↓awU, awV, awF, Qa, Qb, Qc, Qd, forall_const, ↓reduceIte, ↓reduceDIte, ↓Qe, Qf, Qg, Qh, Qi, Qj, Qk, Ql, Qm, Qn, Qo, Qp, Qq, Qr, Qs, implies_true, Qt, Qu, Qv, Qw, Qx, Qy, Qz, QA, QB, QC, QD, QE, QF, QG, QH, QI, QJ, QK, QL, QM, QN, QO, QP, QQ]
      try rfl
end Go.Proofs.YthbnileadffpiaaGreatDoor

namespace Go.Proofs.YthbnileadffpiaaGreatDoor.Num
open Go Go.Proofs Go.Abs
variable {G : Globals}
/-! Texts: prefixes, cutting, the place of a byte. -/
abbrev S (l : List UInt8) : D := .str (bs l)
def hasP (s p : List UInt8) : Bool := decide (s.take p.length = p)
theorem hasP_le {s p : List UInt8} (h : hasP s p = true) : p.length ≤ s.length := by
  have := of_decide_eq_true h
  have h2 := congrArg List.length this
  simp at h2; omega
theorem hasPrefix_spec (s p : List UInt8) : Ctr Tryz.prog G 130 [.d (S s), .d (S p)] [] (.d (.bool (hasP s p))) [] := by
  refine Ctr.pure (M := M0) hmix Tryz.func130 rfl go130 ?_
  simp (config := { maxSteps := 1000000 }) (disch := ((try simp only [awL]); omega)) only [QR, QS, QT, QU, QV, QW, QX, QY, QZ, Q0, Q1, Q2, Tryz.f130, ↓awU, awV, awF, Qa, Qb, Qc, Qd, forall_const, ↓reduceIte, ↓reduceDIte, ↓Qe, Qf, Qg, Qh, Qi, Qj, Qk, Ql, Qm, Qn, Qo, Qp, Qq, Qr, Qs, implies_true, Qt, Qu, Qv, Qw, Qx, Qy, Qz, QA, QB, QC, QD, QE, QF, QG, QH, QI, QJ, QK, QL, QM, QN, QO, QP, QQ]
  refine ⟨fun _ => rfl, fun h => (decide_eq_false fun e => h ?_).symm⟩
  have := congrArg List.length e
  simp at this
  omega
theorem cutPrefixL_spec (s p : List UInt8) : Ctr Tryz.prog G 103 [.d (S s), .d (S p)] [] (.d (.tup [S (if hasP s p then s.drop p.length else s), .bool (hasP s p)])) [] := by
  refine Ctr.pure (M := M0) hmix Tryz.func103 rfl go103 ?_
  simp (config := { maxSteps := 1000000 }) (disch := ((try simp only [awL]); omega)) only [QR, QS, QT, QU, QV, QW, QX, QY, QZ, Q0, Q1, Q2, Tryz.f103, ↓awU, awV, awF, Qa, Qb, Qc, Qd, forall_const, ↓reduceIte, ↓reduceDIte, ↓Qe, Qf, Qg, Qh, Qi, Qj, Qk, Ql, Qm, Qn, Qo, Qp, Qq, Qr, Qs, implies_true, Qt, Qu, Qv, Qw, Qx, Qy, Qz, QA, QB, QC, QD, QE, QF, QG, QH, QI, QJ, QK, QL, QM, QN, QO, QP, QQ]
  refine CallC.pure (hasPrefix_spec s p) ?_
  cases h : hasP s p
  · simp (config := { maxSteps := 1000000 }) (disch := ((try simp only [awL]); omega)) only [QR, QS, QT, QU, QV, QW, QX, QY, QZ, Q0, Q1, Q2, ↓awU, awV, awF, Qa, Qb, Qc, Qd, forall_const, ↓reduceIte, ↓reduceDIte, ↓Qe, Qf, Qg, Qh, Qi, Qj, Qk, Ql, Qm, Qn, Qo, Qp, Qq, Qr, Qs, implies_true, Qt, Qu, Qv, Qw, Qx, Qy, Qz, QA, QB, QC, QD, QE, QF, QG, QH, QI, QJ, QK, QL, QM, QN, QO, QP, QQ]
  · have := hasP_le h
    simp (config := { maxSteps := 1000000 }) (disch := ((try simp only [awL]); omega)) only [QR, QS, QT, QU, QV, QW, QX, QY, QZ, Q0, Q1, Q2, ↓awU, awV, awF, Qa, Qb, Qc, Qd, forall_const, ↓reduceIte, ↓reduceDIte, ↓Qe, Qf, Qg, Qh, Qi, Qj, Qk, Ql, Qm, Qn, Qo, Qp, Qq, Qr, Qs, implies_true, Qt, Qu, Qv, Qw, Qx, Qy, Qz, QA, QB, QC, QD, QE, QF, QG, QH, QI, QJ, QK, QL, QM, QN, QO, QP, QQ]
theorem cutPrefix_spec (s p : List UInt8) : Ctr Tryz.prog G 72 [.d (S s), .d (S p)] [] (.d (.tup [S (if hasP s p then s.drop p.length else s), .bool (hasP s p)])) [] := by
  refine Ctr.pure (M := M0) hmix Tryz.func72 rfl go72 ?_
  simp (config := { maxSteps := 1000000 }) (disch := ((try simp only [awL]); omega)) only [QR, QS, QT, QU, QV, QW, QX, QY, QZ, Q0, Q1, Q2, Tryz.f72, ↓awU, awV, awF, Qa, Qb, Qc, Qd, forall_const, ↓reduceIte, ↓reduceDIte, ↓Qe, Qf, Qg, Qh, Qi, Qj, Qk, Ql, Qm, Qn, Qo, Qp, Qq, Qr, Qs, implies_true, Qt, Qu, Qv, Qw, Qx, Qy, Qz, QA, QB, QC, QD, QE, QF, QG, QH, QI, QJ, QK, QL, QM, QN, QO, QP, QQ]
  refine CallC.pure (cutPrefixL_spec s p) ?_
  simp (config := { maxSteps := 1000000 }) (disch := ((try simp only [awL]); omega)) only [QR, QS, QT, QU, QV, QW, QX, QY, QZ, Q0, Q1, Q2, ↓awU, awV, awF, Qa, Qb, Qc, Qd, forall_const, ↓reduceIte, ↓reduceDIte, ↓Qe, Qf, Qg, Qh, Qi, Qj, Qk, Ql, Qm, Qn, Qo, Qp, Qq, Qr, Qs, implies_true, Qt, Qu, Qv, Qw, Qx, Qy, Qz, QA, QB, QC, QD, QE, QF, QG, QH, QI, QJ, QK, QL, QM, QN, QO, QP, QQ]
theorem trimPrefixL_spec (s p : List UInt8) : Ctr Tryz.prog G 104 [.d (S s), .d (S p)] [] (.d (S (if hasP s p then s.drop p.length else s))) [] := by
  refine Ctr.pure (M := M0) hmix Tryz.func104 rfl go104 ?_
  simp (config := { maxSteps := 1000000 }) (disch := ((try simp only [awL]); omega)) only [QR, QS, QT, QU, QV, QW, QX, QY, QZ, Q0, Q1, Q2, Tryz.f104, ↓awU, awV, awF, Qa, Qb, Qc, Qd, forall_const, ↓reduceIte, ↓reduceDIte, ↓Qe, Qf, Qg, Qh, Qi, Qj, Qk, Ql, Qm, Qn, Qo, Qp, Qq, Qr, Qs, implies_true, Qt, Qu, Qv, Qw, Qx, Qy, Qz, QA, QB, QC, QD, QE, QF, QG, QH, QI, QJ, QK, QL, QM, QN, QO, QP, QQ]
  refine CallC.pure (hasPrefix_spec s p) ?_
  cases h : hasP s p
  · simp (config := { maxSteps := 1000000 }) (disch := ((try simp only [awL]); omega)) only [QR, QS, QT, QU, QV, QW, QX, QY, QZ, Q0, Q1, Q2, ↓awU, awV, awF, Qa, Qb, Qc, Qd, forall_const, ↓reduceIte, ↓reduceDIte, ↓Qe, Qf, Qg, Qh, Qi, Qj, Qk, Ql, Qm, Qn, Qo, Qp, Qq, Qr, Qs, implies_true, Qt, Qu, Qv, Qw, Qx, Qy, Qz, QA, QB, QC, QD, QE, QF, QG, QH, QI, QJ, QK, QL, QM, QN, QO, QP, QQ]
  · have := hasP_le h
    simp (config := { maxSteps := 1000000 }) (disch := ((try simp only [awL]); omega)) only [QR, QS, QT, QU, QV, QW, QX, QY, QZ, Q0, Q1, Q2, ↓awU, awV, awF, Qa, Qb, Qc, Qd, forall_const, ↓reduceIte, ↓reduceDIte, ↓Qe, Qf, Qg, Qh, Qi, Qj, Qk, Ql, Qm, Qn, Qo, Qp, Qq, Qr, Qs, implies_true, Qt, Qu, Qv, Qw, Qx, Qy, Qz, QA, QB, QC, QD, QE, QF, QG, QH, QI, QJ, QK, QL, QM, QN, QO, QP, QQ]
theorem trimPrefix_spec (s p : List UInt8) : Ctr Tryz.prog G 73 [.d (S s), .d (S p)] [] (.d (S (if hasP s p then s.drop p.length else s))) [] := by
  refine Ctr.pure (M := M0) hmix Tryz.func73 rfl go73 ?_
  simp (config := { maxSteps := 1000000 }) (disch := ((try simp only [awL]); omega)) only [QR, QS, QT, QU, QV, QW, QX, QY, QZ, Q0, Q1, Q2, Tryz.f73, ↓awU, awV, awF, Qa, Qb, Qc, Qd, forall_const, ↓reduceIte, ↓reduceDIte, ↓Qe, Qf, Qg, Qh, Qi, Qj, Qk, Ql, Qm, Qn, Qo, Qp, Qq, Qr, Qs, implies_true, Qt, Qu, Qv, Qw, Qx, Qy, Qz, QA, QB, QC, QD, QE, QF, QG, QH, QI, QJ, QK, QL, QM, QN, QO, QP, QQ]
  refine CallC.pure (trimPrefixL_spec s p) ?_
  simp (config := { maxSteps := 1000000 }) (disch := ((try simp only [awL]); omega)) only [QR, QS, QT, QU, QV, QW, QX, QY, QZ, Q0, Q1, Q2, ↓awU, awV, awF, Qa, Qb, Qc, Qd, forall_const, ↓reduceIte, ↓reduceDIte, ↓Qe, Qf, Qg, Qh, Qi, Qj, Qk, Ql, Qm, Qn, Qo, Qp, Qq, Qr, Qs, implies_true, Qt, Qu, Qv, Qw, Qx, Qy, Qz, QA, QB, QC, QD, QE, QF, QG, QH, QI, QJ, QK, QL, QM, QN, QO, QP, QQ]
set_option maxHeartbeats 1000000 in
set_option maxRecDepth 100000 in
theorem indexByte_calls (s : ByteArray) (c : Int) (w : World) :
    Calls Tryz.prog 150 #[.string s, .int .u8 c] w fun e w' => e = .returned (.int .i64 (Lib.indexByte s.data.toList c.toNat.toUInt8)) ∧ w' = w := by
  go_enter Tryz.func150, Tryz.ntmps150
  go_wp2
  rw [run_callFunc_extern Tryz.func162 (by kernel_rfl) (by kernel_rfl) (by kernel_rfl) (e := Extern.BytealgIndexByte.indexByte) (by kernel_rfl), Lib.run_indexByteString]
  simp only [Result.andThen]
  rw [Oper.upon_value]
  go_wp2
  go_ret
  exact ⟨rfl, rfl⟩
theorem indexByte_spec (s : List UInt8) (c : UInt8) : Ctr Tryz.prog G 150 [.d (S s), .d (.int .u8 c.toNat)] [] (.d (.int .i64 (Lib.indexByte s c))) [] := by
  refine Ctr.of_calls go150 fun h ρ w vs q r => ?_
  obtain ⟨v, u, rfl, hv, hu⟩ := r.inv2
  rw [hv.str_inv, hu.int_inv]
  refine (indexByte_calls (bs s) c.toNat w).mono ?_
  rintro e w' ⟨rfl, rfl⟩
  refine ⟨_, rfl, ?_, .refl _ _⟩
  have : ((c.toNat : Int)).toNat.toUInt8 = c := by simp
  rw [this]
  exact .int _ _
/-- Where a text is cut: in front of the byte, behind it. -/
def cutL (c : UInt8) : List UInt8 → List UInt8
  | [] => []
  | b :: l => if b = c then [] else b :: cutL c l
def cutR (c : UInt8) : List UInt8 → List UInt8
  | [] => []
  | b :: l => if b = c then l else cutR c l
theorem cut_index (c : UInt8) : ∀ s : List UInt8, (c ∈ s → ∃ k : Nat, Lib.indexByte s c = k ∧ k < s.length ∧ s.take k = cutL c s ∧ s.drop (k + 1) = cutR c s) ∧ (c ∉ s → Lib.indexByte s c = -1 ∧ cutL c s = s ∧ cutR c s = [])
  | [] => ⟨fun h => absurd h List.not_mem_nil, fun _ => ⟨rfl, rfl, rfl⟩⟩
  | b :: l => by
    obtain ⟨i1, i2⟩ := cut_index c l
    by_cases e : b = c
    · subst e
      refine ⟨fun _ => ⟨0, ?_, by simp, by simp [cutL], by simp [cutR]⟩, fun h => absurd (List.mem_cons_self ..) h⟩
      simp [Lib.indexByte]
    · have e2 : ¬ c = b := fun h => e h.symm
      refine ⟨fun h => ?_, fun h => ?_⟩
      · obtain ⟨k, h1, h2, h3, h4⟩ := i1 ((List.mem_cons.1 h).resolve_left e2)
        refine ⟨k + 1, ?_, by simpa using h2, by simp [cutL, e, h3], by simp [cutR, e, h4]⟩
        simp only [Lib.indexByte, h1]
        rw [if_neg (by simpa using e), if_neg (by simp)]
        omega
      · obtain ⟨h1, h2, h3⟩ := i2 (fun h2 => h (List.mem_cons_of_mem _ h2))
        refine ⟨?_, by simp [cutL, e, h2], by simp [cutR, e, h3]⟩
        simp only [Lib.indexByte, h1]
        rw [if_neg (by simpa using e), if_pos (by decide)]
theorem index1_spec (s : List UInt8) (c : UInt8) (hs : s.length < 2 ^ 62) : Ctr Tryz.prog G 131 [.d (S s), .d (S [c])] [] (.d (.int .i64 (Lib.indexByte s c))) [] := by
  refine Ctr.pure (M := M0) hmix Tryz.func131 rfl go131 ?_
  simp (config := { maxSteps := 1000000 }) (disch := ((try simp only [awL]); omega)) only [QR, QS, QT, QU, QV, QW, QX, QY, QZ, Q0, Q1, Q2, Tryz.f131, ↓awU, awV, awF, Qa, Qb, Qc, Qd, forall_const, ↓reduceIte, ↓reduceDIte, ↓Qe, Qf, Qg, Qh, Qi, Qj, Qk, Ql, Qm, Qn, Qo, Qp, Qq, Qr, Qs, implies_true, Qt, Qu, Qv, Qw, Qx, Qy, Qz, QA, QB, QC, QD, QE, QF, QG, QH, QI, QJ, QK, QL, QM, QN, QO, QP, QQ]
  refine ⟨fun h => ?_, fun h => ?_⟩
  · rw [← h]; simp [Lib.indexByte]
  · refine CallC.pure (indexByte_spec s c) ?_
    simp (config := { maxSteps := 1000000 }) (disch := ((try simp only [awL]); omega)) only [QR, QS, QT, QU, QV, QW, QX, QY, QZ, Q0, Q1, Q2, ↓awU, awV, awF, Qa, Qb, Qc, Qd, forall_const, ↓reduceIte, ↓reduceDIte, ↓Qe, Qf, Qg, Qh, Qi, Qj, Qk, Ql, Qm, Qn, Qo, Qp, Qq, Qr, Qs, implies_true, Qt, Qu, Qv, Qw, Qx, Qy, Qz, QA, QB, QC, QD, QE, QF, QG, QH, QI, QJ, QK, QL, QM, QN, QO, QP, QQ]
theorem cutS_spec (s : List UInt8) (c : UInt8) (hs : s.length < 2 ^ 62) : Ctr Tryz.prog G 105 [.d (S s), .d (S [c])] [] (.d (.tup [S (cutL c s), S (cutR c s), .bool (decide (c ∈ s))])) [] := by
  refine Ctr.pure (M := M0) hmix Tryz.func105 rfl go105 ?_
  simp (config := { maxSteps := 1000000 }) (disch := ((try simp only [awL]); omega)) only [QR, QS, QT, QU, QV, QW, QX, QY, QZ, Q0, Q1, Q2, Tryz.f105, ↓awU, awV, awF, Qa, Qb, Qc, Qd, forall_const, ↓reduceIte, ↓reduceDIte, ↓Qe, Qf, Qg, Qh, Qi, Qj, Qk, Ql, Qm, Qn, Qo, Qp, Qq, Qr, Qs, implies_true, Qt, Qu, Qv, Qw, Qx, Qy, Qz, QA, QB, QC, QD, QE, QF, QG, QH, QI, QJ, QK, QL, QM, QN, QO, QP, QQ]
  refine CallC.pure (index1_spec s c hs) ?_
  obtain ⟨i1, i2⟩ := cut_index c s
  by_cases h : c ∈ s
  · obtain ⟨k, h1, h2, h3, h4⟩ := i1 h
    rw [h1, decide_eq_true h, ← h3, ← h4]
    simp (config := { maxSteps := 1000000 }) (disch := ((try simp only [awL]); omega)) only [QR, QS, QT, QU, QV, QW, QX, QY, QZ, Q0, Q1, Q2, ↓awU, awV, awF, Qa, Qb, Qc, Qd, forall_const, ↓reduceIte, ↓reduceDIte, ↓Qe, Qf, Qg, Qh, Qi, Qj, Qk, Ql, Qm, Qn, Qo, Qp, Qq, Qr, Qs, implies_true, Qt, Qu, Qv, Qw, Qx, Qy, Qz, QA, QB, QC, QD, QE, QF, QG, QH, QI, QJ, QK, QL, QM, QN, QO, QP, QQ]
    rfl
  · obtain ⟨h1, h3, h4⟩ := i2 h
    rw [h1, decide_eq_false h, h3, h4]
    simp (config := { maxSteps := 1000000 }) (disch := ((try simp only [awL]); omega)) only [QR, QS, QT, QU, QV, QW, QX, QY, QZ, Q0, Q1, Q2, ↓awU, awV, awF, Qa, Qb, Qc, Qd, forall_const, ↓reduceIte, ↓reduceDIte, ↓Qe, Qf, Qg, Qh, Qi, Qj, Qk, Ql, Qm, Qn, Qo, Qp, Qq, Qr, Qs, implies_true, Qt, Qu, Qv, Qw, Qx, Qy, Qz, QA, QB, QC, QD, QE, QF, QG, QH, QI, QJ, QK, QL, QM, QN, QO, QP, QQ]
theorem cut_spec (s : List UInt8) (c : UInt8) (hs : s.length < 2 ^ 62) : Ctr Tryz.prog G 74 [.d (S s), .d (S [c])] [] (.d (.tup [S (cutL c s), S (cutR c s), .bool (decide (c ∈ s))])) [] := by
  refine Ctr.pure (M := M0) hmix Tryz.func74 rfl go74 ?_
  simp (config := { maxSteps := 1000000 }) (disch := ((try simp only [awL]); omega)) only [QR, QS, QT, QU, QV, QW, QX, QY, QZ, Q0, Q1, Q2, Tryz.f74, ↓awU, awV, awF, Qa, Qb, Qc, Qd, forall_const, ↓reduceIte, ↓reduceDIte, ↓Qe, Qf, Qg, Qh, Qi, Qj, Qk, Ql, Qm, Qn, Qo, Qp, Qq, Qr, Qs, implies_true, Qt, Qu, Qv, Qw, Qx, Qy, Qz, QA, QB, QC, QD, QE, QF, QG, QH, QI, QJ, QK, QL, QM, QN, QO, QP, QQ]
  refine CallC.pure (cutS_spec s c hs) ?_
  simp (config := { maxSteps := 1000000 }) (disch := ((try simp only [awL]); omega)) only [QR, QS, QT, QU, QV, QW, QX, QY, QZ, Q0, Q1, Q2, ↓awU, awV, awF, Qa, Qb, Qc, Qd, forall_const, ↓reduceIte, ↓reduceDIte, ↓Qe, Qf, Qg, Qh, Qi, Qj, Qk, Ql, Qm, Qn, Qo, Qp, Qq, Qr, Qs, implies_true, Qt, Qu, Qv, Qw, Qx, Qy, Qz, QA, QB, QC, QD, QE, QF, QG, QH, QI, QJ, QK, QL, QM, QN, QO, QP, QQ]
end Go.Proofs.YthbnileadffpiaaGreatDoor.Num

namespace Go.Proofs.YthbnileadffpiaaGreatDoor.Num
open Go Go.Proofs Go.Abs
variable {G : Globals}
/-! Trimming by a set of bytes below 128. -/
def setD (l : List UInt8) : List D := (List.range 256).map fun i => .bool (l.any fun b => b.toNat == i)
def setB (l : List UInt8) : List AV := (setD l).map .d
theorem setB_length {l : List UInt8} : (setB l).length = 256 := by simp [setB, setD]
theorem setD_length {l : List UInt8} : (setD l).length = 256 := by simp [setD]
set_option maxRecDepth 10000 in
theorem setB_nil : setB [] = List.replicate 256 (.d (.bool false)) := by rfl
theorem setD_get {l : List UInt8} {c : UInt8} {d : D} : (setD l).getD c.toNat d = .bool (l.contains c) := by
  have hc := c.toNat_lt
  simp only [setD, List.getD_eq_getElem?_getD, List.getElem?_map, List.getElem?_range (show c.toNat < 256 by omega), Option.map_some, Option.getD_some]
  rw [List.contains_eq_any_beq]
  refine congrArg (fun f => D.bool (l.any f)) ?_
  funext b
  show (b.toNat == c.toNat) = _
  by_cases h : b = c
  · subst h; simp
  · have : ¬ b.toNat = c.toNat := fun e => h (UInt8.toNat_inj.1 e)
    have h' : ¬ c = b := fun e => h e.symm
    rw [beq_eq_false_iff_ne.2 this]; exact (beq_eq_false_iff_ne.2 h').symm
theorem setB_get {l : List UInt8} {c : UInt8} {d : AV} : (setB l).getD c.toNat d = .d (.bool (l.contains c)) := by
  have hc := c.toNat_lt
  have := @setD_get l c .nilp
  rw [List.getD_eq_getElem?_getD, List.getElem?_eq_getElem (by rw [setD_length]; omega)] at this
  rw [setB, List.getD_eq_getElem?_getD, List.getElem?_map, List.getElem?_eq_getElem (by rw [setD_length]; omega)]
  simp only [Option.getD_some] at this
  rw [Option.map_some, Option.getD_some, this]
theorem setB_set {l : List UInt8} {c : UInt8} : (setB l).set c.toNat (.d (.bool true)) = setB (l ++ [c]) := by
  have hc := c.toNat_lt
  apply List.ext_getElem
  · rw [List.length_set, setB_length, setB_length]
  · intro i h1 h2
    rw [List.length_set, setB_length] at h1
    rw [List.getElem_set]
    simp only [setB, setD, List.getElem_map, List.getElem_range, List.any_append, List.any_cons, List.any_nil, Bool.or_false]
    split
    · rename_i e; subst e; simp
    · rename_i e
      have : (c.toNat == i) = false := by simpa using e
      rw [this, Bool.or_false]
theorem SWeak_map {fl : List (Option Nat)} : ∀ l : List D, SWeak fl (l.map .d) (l.map .d)
  | [] => by simp [SWeak]
  | x :: l => by simp only [List.map_cons, SWeak]; exact ⟨by simp [AWeak], SWeak_map l⟩
theorem setB_weak {fl : List (Option Nat)} {l : List UInt8} : SWeak fl (setB l) (setB l) = True := eq_true (SWeak_map _)
theorem mem_getDU {α : Type} {l : List α} {i : Nat} {d : α} (h : i < l.length) : l.getD i d ∈ l := by
  rw [List.getD_eq_getElem?_getD, List.getElem?_eq_getElem h]; exact List.getElem_mem h
theorem setB_two (l : List UInt8) : ∃ a b cs, setB l = a :: b :: cs := by
  have := @setB_length l
  match h : setB l with
  | [] => rw [h] at this; cases this
  | [_] => rw [h] at this; cases this
  | a :: b :: cs => exact ⟨a, b, cs, rfl⟩
theorem setB_one {l : List UInt8} : (setB l).all AV.one = true := by
  simp [setB, setD, AV.one, D.one]
theorem setB_seal {H : List ABlk} {l : List UInt8} : sealL H (setB l) = some (setD l) := by
  have : ∀ m : List D, sealL H (m.map .d) = some m := fun m => by
    induction m with
    | nil => rfl
    | cons x m ih => simp only [List.map_cons, sealL, sealA, ih]
  exact this _
theorem setB_refs {l : List UInt8} : refsL (setB l) = [] := by
  have : ∀ m : List D, refsL (m.map .d) = [] := fun m => by
    induction m with
    | nil => rfl
    | cons x m ih => simp only [List.map_cons, refsL, refsA, ih, List.append_nil]
  exact this _
theorem setB_pass {H : List ABlk} {L : List Nat} {l : List UInt8} : passL H L (setB l) = some (setB l) := by
  have : ∀ m : List D, passL H L (m.map .d) = some (m.map .d) := fun m => by
    induction m with
    | nil => rfl
    | cons x m ih => simp only [List.map_cons, passL, passA, ih]
  exact this _
theorem setB_sids {H : List ABlk} {L : List Nat} {l : List UInt8} : sidsL H L (setB l) = [] := by
  have : ∀ m : List D, sidsL H L (m.map .d) = [] := fun m => by
    induction m with
    | nil => rfl
    | cons x m ih => simp only [List.map_cons, sidsL, sidsA, ih, List.append_nil]
  exact this _
theorem setB_ren {f : Nat → Nat} {l : List UInt8} : renL f (setB l) = setB l := by
  have : ∀ m : List D, renL f (m.map .d) = m.map .d := fun m => by
    induction m with
    | nil => rfl
    | cons x m ih => simp only [List.map_cons, renL, renA, ih]
  exact this _
theorem take_succ_getD {s : List UInt8} {i : Nat} (h : i < s.length) : s.take i ++ [s.getD i 0] = s.take (i + 1) := by
  rw [List.take_add_one, List.getElem?_eq_getElem h, List.getD_eq_getElem?_getD, List.getElem?_eq_getElem h]; rfl
theorem contains_spec (l : List UInt8) (c : UInt8) : Ctr Tryz.prog G 111 [.ptr 0 0, .d (.int .u8 c.toNat)] [.box (setB l)] (.d (.bool (l.contains c))) [.box (setB l)] := by
  have hc := c.toNat_lt
  have hl := @setB_length l
  refine Ctr.body (M := M0) hmix Tryz.func111 rfl go111 ?_
  simp (config := { maxSteps := 1000000 }) (disch := ((try simp only [awL]); omega)) only [QR, QS, QT, QU, QV, QW, QX, QY, QZ, Q0, Q1, Q2, hl, setB_get, Tryz.f111, ↓awU, awV, awF, Qa, Qb, Qc, Qd, forall_const, ↓reduceIte, ↓reduceDIte, ↓Qe, Qf, Qg, Qh, Qi, Qj, Qk, Ql, Qm, Qn, Qo, Qp, Qq, Qr, Qs, implies_true, Qt, Qu, Qv, Qw, Qx, Qy, Qz, QA, QB, QC, QD, QE, QF, QG, QH, QI, QJ, QK, QL, QM, QN, QO, QP, QQ]
  exact ⟨[some 0], rfl, by simp, by simp [HWeak, BWeak, setB_weak], .inl (by simp [AWeak])⟩
set_option maxRecDepth 100000 in
theorem makeSet_spec (l : List UInt8) (hl : l.length < 2 ^ 62) (ha : ∀ b ∈ l, b.toNat < 128) : Ctr Tryz.prog G 84 [.d (S l)] [] (.d (.tup [.agg (setD l), .bool true])) [] := by
  refine Ctr.pure (M := M0) hmix Tryz.func84 rfl go84 ?_
  simp (config := { maxSteps := 1000000 }) (disch := ((try simp only [awL]); omega)) only [QR, QS, QT, QU, QV, QW, QX, QY, QZ, Q0, Q1, Q2, Tryz.f84, ↓awU, awV, awF, Qa, Qb, Qc, Qd, forall_const, ↓reduceIte, ↓reduceDIte, ↓Qe, Qf, Qg, Qh, Qi, Qj, Qk, Ql, Qm, Qn, Qo, Qp, Qq, Qr, Qs, implies_true, Qt, Qu, Qv, Qw, Qx, Qy, Qz, QA, QB, QC, QD, QE, QF, QG, QH, QI, QJ, QK, QL, QM, QN, QO, QP, QQ]
  refine LoopC.fr 5 (α := Nat) (fun i => l.length - i) (fun i => [(4, .d (.int .i64 i))]) (fun i => [.box (setB (l.take i))]) (fun i => i ≤ l.length) 0 (Nat.zero_le _) ?_ ?_
  · refine ⟨[some 0], rfl, by simp, by simp [setsA, keepA, SWeak, AWeak], ?_⟩
    rw [List.take_zero, setB_nil]
    simp only [HWeak, BWeak, List.getElem?_cons_zero]
    refine ⟨SWeak_map (List.replicate 256 (.bool false)), trivial⟩
  · intro i hi
    have sl := @setB_length (l.take i)
    simp only [awK, Nat.reduceMod, Nat.reduceDiv, reduceIte]
    rcases Nat.lt_or_ge i l.length with h1 | h1
    · have hb := ha _ (mem_getDU (d := 0) h1)
      have hs := take_succ_getD h1
      simp (config := { maxSteps := 1000000 }) (disch := ((try simp only [awL]); omega)) only [QR, QS, QT, QU, QV, QW, QX, QY, QZ, Q0, Q1, Q2, sl, ↓awU, awV, awF, Qa, Qb, Qc, Qd, forall_const, ↓reduceIte, ↓reduceDIte, ↓Qe, Qf, Qg, Qh, Qi, Qj, Qk, Ql, Qm, Qn, Qo, Qp, Qq, Qr, Qs, implies_true, Qt, Qu, Qv, Qw, Qx, Qy, Qz, QA, QB, QC, QD, QE, QF, QG, QH, QI, QJ, QK, QL, QM, QN, QO, QP, QQ]
      exact ⟨i + 1, h1, by simp only; omega, [some 0], rfl, by simp, by simp [setsA, keepA, SWeak, AWeak], by simp only [HWeak, BWeak, List.getElem?_cons_zero]; rw [setB_set, hs]; exact ⟨by rw [setB_weak]; trivial, trivial⟩⟩
    · have sl := @setB_length l
      have tk : (setB l).take 256 = setB l := List.take_of_length_le (by omega)
      obtain ⟨a, b, cs, e⟩ := setB_two l
      have lc : cs.length = 254 := by rw [e] at sl; simpa using sl
      have tc : cs.take 254 = cs := List.take_of_length_le (by omega)
      have dc : cs.drop cs.length = [] := List.drop_length
      simp (config := { maxSteps := 1000000 }) (disch := ((try simp only [awL]); omega)) only [QR, QS, QT, QU, QV, QW, QX, QY, QZ, Q0, Q1, Q2, sl, tk, ↓awU, awV, awF, Qa, Qb, Qc, Qd, forall_const, ↓reduceIte, ↓reduceDIte, ↓Qe, Qf, Qg, Qh, Qi, Qj, Qk, Ql, Qm, Qn, Qo, Qp, Qq, Qr, Qs, implies_true, Qt, Qu, Qv, Qw, Qx, Qy, Qz, QA, QB, QC, QD, QE, QF, QG, QH, QI, QJ, QK, QL, QM, QN, QO, QP, QQ]
      refine ⟨setB_one, ?_⟩
      have pm : putL (setB l) 0 (setB l) = setB l := by
        rw [e]
        simp only [putL, putL, List.take_zero, List.nil_append, Nat.zero_add, List.length_cons, List.drop_succ_cons, dc, List.append_nil]
      simp only [putL, putL, List.take_zero, List.nil_append, Nat.zero_add] at pm
      rw [pm, sl, tk]
      simp only [Nat.le_refl, if_true, sealA, sealL, setB_seal]
      rfl
end Go.Proofs.YthbnileadffpiaaGreatDoor.Num

namespace Go.Proofs.YthbnileadffpiaaGreatDoor.Num
open Go Go.Proofs Go.Abs
variable {G : Globals}
/-! Trimming by a set of bytes below 128. -/
def trimL (l s : List UInt8) : List UInt8 := s.dropWhile l.contains
def trimR (l s : List UInt8) : List UInt8 := (s.reverse.dropWhile l.contains).reverse
theorem drop_cons' {s : List UInt8} {k : Nat} (h : k < s.length) : s.drop k = s.getD k 0 :: s.drop (k + 1) := by
  rw [List.drop_eq_getElem_cons h, List.getD_eq_getElem?_getD, List.getElem?_eq_getElem h]; rfl
theorem drop_head {s : List UInt8} {k : Nat} : (s.drop k).getD 0 0 = s.getD k 0 := by
  simp [List.getD_eq_getElem?_getD]
theorem take_snoc {s : List UInt8} {k : Nat} (h : k < s.length) : s.take (k + 1) = s.take k ++ [s.getD k 0] := (take_succ_getD h).symm
theorem trimR_snoc {l s : List UInt8} {c : UInt8} : trimR l (s ++ [c]) = if l.contains c then trimR l s else s ++ [c] := by
  simp only [trimR, List.reverse_append, List.reverse_cons, List.reverse_nil, List.nil_append, List.singleton_append, List.dropWhile_cons]
  split <;> simp
theorem trimLA_spec (l s : List UInt8) (hs : s.length < 2 ^ 62) : Ctr Tryz.prog G 85 [.d (S s), .ptr 0 0] [.box (setB l)] (.d (S (trimL l s))) [.box (setB l)] := by
  refine Ctr.body (M := M0) hmix Tryz.func85 rfl go85 ?_
  simp (config := { maxSteps := 1000000 }) (disch := ((try simp only [awL]); omega)) only [QR, QS, QT, QU, QV, QW, QX, QY, QZ, Q0, Q1, Q2, setB_refs, setB_pass, setB_sids, setB_ren, Tryz.f85, ↓awU, awV, awF, Qa, Qb, Qc, Qd, forall_const, ↓reduceIte, ↓reduceDIte, ↓Qe, Qf, Qg, Qh, Qi, Qj, Qk, Ql, Qm, Qn, Qo, Qp, Qq, Qr, Qs, implies_true, Qt, Qu, Qv, Qw, Qx, Qy, Qz, QA, QB, QC, QD, QE, QF, QG, QH, QI, QJ, QK, QL, QM, QN, QO, QP, QQ]
  refine LoopC.fr 2 (α := Nat) (fun k => s.length - k) (fun k => [(0, .d (S (s.drop k)))]) (fun _ => [.box (setB l)]) (fun k => k ≤ s.length ∧ trimL l (s.drop k) = trimL l s) 0 ⟨Nat.zero_le _, by rw [List.drop_zero]⟩ ?_ ?_
  · exact ⟨[some 0], rfl, by simp, by simp [setsA, keepA, SWeak, AWeak], by simp [HWeak, BWeak, setB_weak]⟩
  · rintro k ⟨hk, ht⟩
    simp only [awK, Nat.reduceMod, Nat.reduceDiv, reduceIte]
    rcases Nat.lt_or_ge k s.length with h1 | h1
    · have hd := drop_cons' h1
      simp (config := { maxSteps := 1000000 }) (disch := ((try simp only [awL]); omega)) only [QR, QS, QT, QU, QV, QW, QX, QY, QZ, Q0, Q1, Q2, setB_refs, setB_pass, setB_sids, setB_ren, drop_head, ↓awU, awV, awF, Qa, Qb, Qc, Qd, forall_const, ↓reduceIte, ↓reduceDIte, ↓Qe, Qf, Qg, Qh, Qi, Qj, Qk, Ql, Qm, Qn, Qo, Qp, Qq, Qr, Qs, implies_true, Qt, Qu, Qv, Qw, Qx, Qy, Qz, QA, QB, QC, QD, QE, QF, QG, QH, QI, QJ, QK, QL, QM, QN, QO, QP, QQ]
      refine CallC.by (contains_spec l (s.getD k 0)) (by rfl) (by rfl) (Nat.le_refl _) ?_
      cases hc : l.contains (s.getD k 0)
      · simp (config := { maxSteps := 1000000 }) (disch := ((try simp only [awL]); omega)) only [QR, QS, QT, QU, QV, QW, QX, QY, QZ, Q0, Q1, Q2, setB_refs, setB_pass, setB_sids, setB_ren, ↓awU, awV, awF, Qa, Qb, Qc, Qd, forall_const, ↓reduceIte, ↓reduceDIte, ↓Qe, Qf, Qg, Qh, Qi, Qj, Qk, Ql, Qm, Qn, Qo, Qp, Qq, Qr, Qs, implies_true, Qt, Qu, Qv, Qw, Qx, Qy, Qz, QA, QB, QC, QD, QE, QF, QG, QH, QI, QJ, QK, QL, QM, QN, QO, QP, QQ]
        rw [← ht, trimL, hd, List.dropWhile_cons, hc]
        exact ⟨[some 0], rfl, by simp, by simp [HWeak, BWeak, setB_weak], .inl (by simp [AWeak])⟩
      · simp (config := { maxSteps := 1000000 }) (disch := ((try simp only [awL]); omega)) only [QR, QS, QT, QU, QV, QW, QX, QY, QZ, Q0, Q1, Q2, setB_refs, setB_pass, setB_sids, setB_ren, ↓awU, awV, awF, Qa, Qb, Qc, Qd, forall_const, ↓reduceIte, ↓reduceDIte, ↓Qe, Qf, Qg, Qh, Qi, Qj, Qk, Ql, Qm, Qn, Qo, Qp, Qq, Qr, Qs, implies_true, Qt, Qu, Qv, Qw, Qx, Qy, Qz, QA, QB, QC, QD, QE, QF, QG, QH, QI, QJ, QK, QL, QM, QN, QO, QP, QQ]
        exact ⟨k + 1, ⟨h1, by rw [← ht, trimL, trimL, hd, List.dropWhile_cons, hc]; rfl⟩, by simp only; omega, [some 0], rfl, by simp, by simp [setsA, keepA, SWeak, AWeak], by simp [HWeak, BWeak, setB_weak]⟩
    · simp (config := { maxSteps := 1000000 }) (disch := ((try simp only [awL]); omega)) only [QR, QS, QT, QU, QV, QW, QX, QY, QZ, Q0, Q1, Q2, setB_refs, setB_pass, setB_sids, setB_ren, ↓awU, awV, awF, Qa, Qb, Qc, Qd, forall_const, ↓reduceIte, ↓reduceDIte, ↓Qe, Qf, Qg, Qh, Qi, Qj, Qk, Ql, Qm, Qn, Qo, Qp, Qq, Qr, Qs, implies_true, Qt, Qu, Qv, Qw, Qx, Qy, Qz, QA, QB, QC, QD, QE, QF, QG, QH, QI, QJ, QK, QL, QM, QN, QO, QP, QQ]
      have : s.drop k = [] := List.drop_eq_nil_of_le h1
      rw [← ht, this]
      exact ⟨[some 0], rfl, by simp, by simp [HWeak, BWeak, setB_weak], .inl (by simp [AWeak, trimL])⟩
theorem trimRA_spec (l s : List UInt8) (hs : s.length < 2 ^ 62) : Ctr Tryz.prog G 86 [.d (S s), .ptr 0 0] [.box (setB l)] (.d (S (trimR l s))) [.box (setB l)] := by
  refine Ctr.body (M := M0) hmix Tryz.func86 rfl go86 ?_
  simp (config := { maxSteps := 1000000 }) (disch := ((try simp only [awL]); omega)) only [QR, QS, QT, QU, QV, QW, QX, QY, QZ, Q0, Q1, Q2, setB_refs, setB_pass, setB_sids, setB_ren, Tryz.f86, ↓awU, awV, awF, Qa, Qb, Qc, Qd, forall_const, ↓reduceIte, ↓reduceDIte, ↓Qe, Qf, Qg, Qh, Qi, Qj, Qk, Ql, Qm, Qn, Qo, Qp, Qq, Qr, Qs, implies_true, Qt, Qu, Qv, Qw, Qx, Qy, Qz, QA, QB, QC, QD, QE, QF, QG, QH, QI, QJ, QK, QL, QM, QN, QO, QP, QQ]
  refine LoopC.fr 2 (α := Nat) (fun k => k) (fun k => [(0, .d (S (s.take k)))]) (fun _ => [.box (setB l)]) (fun k => k ≤ s.length ∧ trimR l (s.take k) = trimR l s) s.length ⟨Nat.le_refl _, by rw [List.take_length]⟩ ?_ ?_
  · exact ⟨[some 0], rfl, by simp, by simp [setsA, keepA, SWeak, AWeak], by simp [HWeak, BWeak, setB_weak]⟩
  · rintro k ⟨hk, ht⟩
    have lk : (s.take k).length = k := by rw [List.length_take]; omega
    simp only [awK, Nat.reduceMod, Nat.reduceDiv, reduceIte]
    rcases k with _ | k
    · rw [List.take_zero] at *
      simp (config := { maxSteps := 1000000 }) (disch := ((try simp only [awL]); omega)) only [QR, QS, QT, QU, QV, QW, QX, QY, QZ, Q0, Q1, Q2, setB_refs, setB_pass, setB_sids, setB_ren, ↓awU, awV, awF, Qa, Qb, Qc, Qd, forall_const, ↓reduceIte, ↓reduceDIte, ↓Qe, Qf, Qg, Qh, Qi, Qj, Qk, Ql, Qm, Qn, Qo, Qp, Qq, Qr, Qs, implies_true, Qt, Qu, Qv, Qw, Qx, Qy, Qz, QA, QB, QC, QD, QE, QF, QG, QH, QI, QJ, QK, QL, QM, QN, QO, QP, QQ]
      rw [← ht]
      exact ⟨[some 0], rfl, by simp, by simp [HWeak, BWeak, setB_weak], .inl (by simp [AWeak, trimR])⟩
    · have hd := take_snoc (show k < s.length by omega)
      have hg : (s.take (k + 1)).getD k 0 = s.getD k 0 := by
        rw [List.getD_eq_getElem?_getD, List.getElem?_take, if_pos (by omega), ← List.getD_eq_getElem?_getD]
      have hx : (s.take (k + 1)).take k = s.take k := by rw [List.take_take]; congr 1; omega
      simp (config := { maxSteps := 1000000 }) (disch := ((try simp only [awL]); omega)) only [QR, QS, QT, QU, QV, QW, QX, QY, QZ, Q0, Q1, Q2, setB_refs, setB_pass, setB_sids, setB_ren, lk, hg, ↓awU, awV, awF, Qa, Qb, Qc, Qd, forall_const, ↓reduceIte, ↓reduceDIte, ↓Qe, Qf, Qg, Qh, Qi, Qj, Qk, Ql, Qm, Qn, Qo, Qp, Qq, Qr, Qs, implies_true, Qt, Qu, Qv, Qw, Qx, Qy, Qz, QA, QB, QC, QD, QE, QF, QG, QH, QI, QJ, QK, QL, QM, QN, QO, QP, QQ]
      refine CallC.by (contains_spec l (s.getD k 0)) (by rfl) (by rfl) (Nat.le_refl _) ?_
      cases hc : l.contains (s.getD k 0)
      · simp (config := { maxSteps := 1000000 }) (disch := ((try simp only [awL]); omega)) only [QR, QS, QT, QU, QV, QW, QX, QY, QZ, Q0, Q1, Q2, setB_refs, setB_pass, setB_sids, setB_ren, ↓awU, awV, awF, Qa, Qb, Qc, Qd, forall_const, ↓reduceIte, ↓reduceDIte, ↓Qe, Qf, Qg, Qh, Qi, Qj, Qk, Ql, Qm, Qn, Qo, Qp, Qq, Qr, Qs, implies_true, Qt, Qu, Qv, Qw, Qx, Qy, Qz, QA, QB, QC, QD, QE, QF, QG, QH, QI, QJ, QK, QL, QM, QN, QO, QP, QQ]
        rw [← ht, hd, trimR_snoc, hc]
        exact ⟨[some 0], rfl, by simp, by simp [HWeak, BWeak, setB_weak], .inl (by simp [AWeak])⟩
      · simp (config := { maxSteps := 1000000 }) (disch := ((try simp only [awL]); omega)) only [QR, QS, QT, QU, QV, QW, QX, QY, QZ, Q0, Q1, Q2, setB_refs, setB_pass, setB_sids, setB_ren, lk, hx, ↓awU, awV, awF, Qa, Qb, Qc, Qd, forall_const, ↓reduceIte, ↓reduceDIte, ↓Qe, Qf, Qg, Qh, Qi, Qj, Qk, Ql, Qm, Qn, Qo, Qp, Qq, Qr, Qs, implies_true, Qt, Qu, Qv, Qw, Qx, Qy, Qz, QA, QB, QC, QD, QE, QF, QG, QH, QI, QJ, QK, QL, QM, QN, QO, QP, QQ]
        exact ⟨k, ⟨by omega, by rw [← ht, hd, trimR_snoc, hc]; rfl⟩, by simp only; omega, [some 0], rfl, by simp, by simp [setsA, keepA, SWeak, AWeak], by simp [HWeak, BWeak, setB_weak]⟩
end Go.Proofs.YthbnileadffpiaaGreatDoor.Num

namespace Go.Proofs.YthbnileadffpiaaGreatDoor.Num
open Go Go.Proofs Go.Abs
variable {G : Globals}
/-! Trim, and which texts are digits. -/
theorem setB_fold {l : List UInt8} : (setD l).map AV.d = setB l := rfl
theorem setB_putL {L : List AV} {l : List UInt8} (h : L.length = 256) : putL L 0 ((setD l).map AV.d) = setB l := by
  rw [setB_fold]
  obtain ⟨a, b, cs, e⟩ := setB_two l
  have q := @setB_length l
  rw [e] at q ⊢
  have hd : L.drop (0 + (a :: b :: cs).length) = [] := List.drop_eq_nil_of_le (by omega)
  simp only [putL, hd, List.take_zero, List.nil_append, List.append_nil]
set_option maxRecDepth 10000 in
theorem setB_putL' {l : List UInt8} : putL ([.d (.bool false), .d (.bool false), .d (.bool false), .d (.bool false), .d (.bool false), .d (.bool false), .d (.bool false), .d (.bool false), .d (.bool false), .d (.bool false), .d (.bool false), .d (.bool false), .d (.bool false), .d (.bool false), .d (.bool false), .d (.bool false), .d (.bool false), .d (.bool false), .d (.bool false), .d (.bool false), .d (.bool false), .d (.bool false), .d (.bool false), .d (.bool false), .d (.bool false), .d (.bool false), .d (.bool false), .d (.bool false), .d (.bool false), .d (.bool false), .d (.bool false), .d (.bool false), .d (.bool false), .d (.bool false), .d (.bool false), .d (.bool false), .d (.bool false), .d (.bool false), .d (.bool false), .d (.bool false), .d (.bool false), .d (.bool false), .d (.bool false), .d (.bool false), .d (.bool false), .d (.bool false), .d (.bool false), .d (.bool false), .d (.bool false), .d (.bool false), .d (.bool false), .d (.bool false), .d (.bool false), .d (.bool false), .d (.bool false), .d (.bool false), .d (.bool false), .d (.bool false), .d (.bool false), .d (.bool false), .d (.bool false), .d (.bool false), .d (.bool false), .d (.bool false), .d (.bool false), .d (.bool false), .d (.bool false), .d (.bool false), .d (.bool false), .d (.bool false), .d (.bool false), .d (.bool false), .d (.bool false), .d (.bool false), .d (.bool false), .d (.bool false), .d (.bool false), .d (.bool false), .d (.bool false), .d (.bool false), .d (.bool false), .d (.bool false), .d (.bool false), .d (.bool false), .d (.bool false), .d (.bool false), .d (.bool false), .d (.bool false), .d (.bool false), .d (.bool false), .d (.bool false), .d (.bool false), .d (.bool false), .d (.bool false), .d (.bool false), .d (.bool false), .d (.bool false), .d (.bool false), .d (.bool false), .d (.bool false), .d (.bool false), .d (.bool false), .d (.bool false), .d (.bool false), .d (.bool false), .d (.bool false), .d (.bool false), .d (.bool false), .d (.bool false), .d (.bool false), .d (.bool false), .d (.bool false), .d (.bool false), .d (.bool false), .d (.bool false), .d (.bool false), .d (.bool false), .d (.bool false), .d (.bool false), .d (.bool false), .d (.bool false), .d (.bool false), .d (.bool false), .d (.bool false), .d (.bool false), .d (.bool false), .d (.bool false), .d (.bool false), .d (.bool false), .d (.bool false), .d (.bool false), .d (.bool false), .d (.bool false), .d (.bool false), .d (.bool false), .d (.bool false), .d (.bool false), .d (.bool false), .d (.bool false), .d (.bool false), .d (.bool false), .d (.bool false), .d (.bool false), .d (.bool false), .d (.bool false), .d (.bool false), .d (.bool false), .d (.bool false), .d (.bool false), .d (.bool false), .d (.bool false), .d (.bool false), .d (.bool false), .d (.bool false), .d (.bool false), .d (.bool false), .d (.bool false), .d (.bool false), .d (.bool false), .d (.bool false), .d (.bool false), .d (.bool false), .d (.bool false), .d (.bool false), .d (.bool false), .d (.bool false), .d (.bool false), .d (.bool false), .d (.bool false), .d (.bool false), .d (.bool false), .d (.bool false), .d (.bool false), .d (.bool false), .d (.bool false), .d (.bool false), .d (.bool false), .d (.bool false), .d (.bool false), .d (.bool false), .d (.bool false), .d (.bool false), .d (.bool false), .d (.bool false), .d (.bool false), .d (.bool false), .d (.bool false), .d (.bool false), .d (.bool false), .d (.bool false), .d (.bool false), .d (.bool false), .d (.bool false), .d (.bool false), .d (.bool false), .d (.bool false), .d (.bool false), .d (.bool false), .d (.bool false), .d (.bool false), .d (.bool false), .d (.bool false), .d (.bool false), .d (.bool false), .d (.bool false), .d (.bool false), .d (.bool false), .d (.bool false), .d (.bool false), .d (.bool false), .d (.bool false), .d (.bool false), .d (.bool false), .d (.bool false), .d (.bool false), .d (.bool false), .d (.bool false), .d (.bool false), .d (.bool false), .d (.bool false), .d (.bool false), .d (.bool false), .d (.bool false), .d (.bool false), .d (.bool false), .d (.bool false), .d (.bool false), .d (.bool false), .d (.bool false), .d (.bool false), .d (.bool false), .d (.bool false), .d (.bool false), .d (.bool false), .d (.bool false), .d (.bool false), .d (.bool false), .d (.bool false), .d (.bool false), .d (.bool false), .d (.bool false), .d (.bool false), .d (.bool false), .d (.bool false), .d (.bool false), .d (.bool false), .d (.bool false), .d (.bool false), .d (.bool false), .d (.bool false), .d (.bool false), .d (.bool false), .d (.bool false), .d (.bool false), .d (.bool false), .d (.bool false)] : List AV) 0 (setB l) = setB l := setB_putL rfl
set_option maxHeartbeats 4000000 in
set_option maxRecDepth 100000 in
theorem trim_spec (s l : List UInt8) (hs : s.length < 2 ^ 62) (hl : l.length < 2 ^ 62) (h2 : 2 ≤ l.length) (ha : ∀ b ∈ l, b.toNat < 128) : Ctr Tryz.prog G 53 [.d (S s), .d (S l)] [] (.d (S (trimL l (trimR l s)))) [] := by
  refine Ctr.pure (M := M0) hmix Tryz.func53 rfl go53 ?_
  have q := @setB_length l
  have tr : (trimR l s).length ≤ s.length := by
    simp only [trimR, List.length_reverse]
    exact Nat.le_trans (List.dropWhile_sublist _).length_le (by simp)
  simp (config := { maxSteps := 1000000 }) (disch := ((try simp only [awL]); omega)) only [QR, QS, QT, QU, QV, QW, QX, QY, QZ, Q0, Q1, Q2, setB_refs, setB_pass, setB_sids, setB_ren, Tryz.f53, ↓awU, awV, awF, Qa, Qb, Qc, Qd, forall_const, ↓reduceIte, ↓reduceDIte, ↓Qe, Qf, Qg, Qh, Qi, Qj, Qk, Ql, Qm, Qn, Qo, Qp, Qq, Qr, Qs, implies_true, Qt, Qu, Qv, Qw, Qx, Qy, Qz, QA, QB, QC, QD, QE, QF, QG, QH, QI, QJ, QK, QL, QM, QN, QO, QP, QQ]
  refine ⟨fun h => ⟨fun h3 => ?_, fun h3 => ?_⟩, fun h => ?_⟩
  · subst h3; simp at h2
  · refine CallC.pure (makeSet_spec l hl ha) ?_
    have tk : (setD l).take 256 = setD l := List.take_of_length_le (by rw [setD_length]; omega)
    simp (config := { maxSteps := 1000000 }) (disch := ((try simp only [awL]); omega)) only [QR, QS, QT, QU, QV, QW, QX, QY, QZ, Q0, Q1, Q2, ↓ setB_putL', setB_putL', setB_fold, q, setB_refs, setB_pass, setB_sids, setB_ren, ↓awU, awV, awF, Qa, Qb, Qc, Qd, forall_const, ↓reduceIte, ↓reduceDIte, ↓Qe, Qf, Qg, Qh, Qi, Qj, Qk, Ql, Qm, Qn, Qo, Qp, Qq, Qr, Qs, implies_true, Qt, Qu, Qv, Qw, Qx, Qy, Qz, QA, QB, QC, QD, QE, QF, QG, QH, QI, QJ, QK, QL, QM, QN, QO, QP, QQ]
    refine ⟨setB_one, ?_⟩
    refine CallC.by (trimRA_spec l s hs) (by rfl) (by rfl) (Nat.le_refl _) ?_
    simp (config := { maxSteps := 1000000 }) (disch := ((try simp only [awL]); omega)) only [QR, QS, QT, QU, QV, QW, QX, QY, QZ, Q0, Q1, Q2, setB_fold, setB_refs, setB_pass, setB_sids, setB_ren, ↓awU, awV, awF, Qa, Qb, Qc, Qd, forall_const, ↓reduceIte, ↓reduceDIte, ↓Qe, Qf, Qg, Qh, Qi, Qj, Qk, Ql, Qm, Qn, Qo, Qp, Qq, Qr, Qs, implies_true, Qt, Qu, Qv, Qw, Qx, Qy, Qz, QA, QB, QC, QD, QE, QF, QG, QH, QI, QJ, QK, QL, QM, QN, QO, QP, QQ]
    refine CallC.by (trimLA_spec l (trimR l s) (by omega)) (by rfl) (by rfl) (Nat.le_refl _) ?_
    simp (config := { maxSteps := 1000000 }) (disch := ((try simp only [awL]); omega)) only [QR, QS, QT, QU, QV, QW, QX, QY, QZ, Q0, Q1, Q2, setB_fold, setB_refs, setB_pass, setB_sids, setB_ren, ↓awU, awV, awF, Qa, Qb, Qc, Qd, forall_const, ↓reduceIte, ↓reduceDIte, ↓Qe, Qf, Qg, Qh, Qi, Qj, Qk, Ql, Qm, Qn, Qo, Qp, Qq, Qr, Qs, implies_true, Qt, Qu, Qv, Qw, Qx, Qy, Qz, QA, QB, QC, QD, QE, QF, QG, QH, QI, QJ, QK, QL, QM, QN, QO, QP, QQ]
  · subst h; rfl
theorem dropWhile_nil {l : List UInt8} {p : UInt8 → Bool} : l.dropWhile p = [] ↔ l.all p = true := by
  induction l with
  | nil => simp
  | cons b l ih =>
    rw [List.dropWhile_cons, List.all_cons]
    cases h : p b <;> simp [ih]
theorem trim_nil {l s : List UInt8} : trimL l (trimR l s) = [] ↔ s.all l.contains = true := by
  rw [trimL, dropWhile_nil, trimR]
  rw [List.all_reverse]
  constructor
  · intro h
    by_cases e : s.reverse.dropWhile l.contains = []
    · have := dropWhile_nil.1 e
      rwa [List.all_reverse] at this
    · exfalso
      have h1 := List.head_dropWhile_not l.contains e
      have h2 := List.all_eq_true.1 h _ (List.head_mem e)
      rw [h1] at h2; cases h2
  · intro h
    have : s.reverse.dropWhile l.contains = [] := dropWhile_nil.2 (by rwa [List.all_reverse])
    rw [this]; rfl
abbrev dig10 : List UInt8 := [48, 49, 50, 51, 52, 53, 54, 55, 56, 57]
def digB (s : List UInt8) (m : Int) : Bool := decide (1 ≤ s.length ∧ (s.length : Int) ≤ m) && s.all dig10.contains
theorem digits_spec (s : List UInt8) (m : Int) (hs : s.length < 2 ^ 62) : Ctr Tryz.prog G 75 [.d (S s), .d (.int .i64 m)] [] (.d (.bool (digB s m))) [] := by
  refine Ctr.pure (M := M0) hmix Tryz.func75 rfl go75 ?_
  simp (config := { maxSteps := 1000000 }) (disch := ((try simp only [awL]); omega)) only [QR, QS, QT, QU, QV, QW, QX, QY, QZ, Q0, Q1, Q2, Tryz.f75, ↓awU, awV, awF, Qa, Qb, Qc, Qd, forall_const, ↓reduceIte, ↓reduceDIte, ↓Qe, Qf, Qg, Qh, Qi, Qj, Qk, Ql, Qm, Qn, Qo, Qp, Qq, Qr, Qs, implies_true, Qt, Qu, Qv, Qw, Qx, Qy, Qz, QA, QB, QC, QD, QE, QF, QG, QH, QI, QJ, QK, QL, QM, QN, QO, QP, QQ]
  refine ⟨fun h1 => ⟨fun h2 => ?_, fun h2 => ?_⟩, fun h1 => ?_⟩
  · refine CallC.pure (trim_spec s dig10 hs (by decide) (by decide) (by decide)) ?_
    simp (config := { maxSteps := 1000000 }) (disch := ((try simp only [awL]); omega)) only [QR, QS, QT, QU, QV, QW, QX, QY, QZ, Q0, Q1, Q2, ↓awU, awV, awF, Qa, Qb, Qc, Qd, forall_const, ↓reduceIte, ↓reduceDIte, ↓Qe, Qf, Qg, Qh, Qi, Qj, Qk, Ql, Qm, Qn, Qo, Qp, Qq, Qr, Qs, implies_true, Qt, Qu, Qv, Qw, Qx, Qy, Qz, QA, QB, QC, QD, QE, QF, QG, QH, QI, QJ, QK, QL, QM, QN, QO, QP, QQ]
    rw [digB, decide_eq_true (show 1 ≤ s.length ∧ (s.length : Int) ≤ m by omega), Bool.true_and]
    cases h : s.all dig10.contains
    · rw [decide_eq_false fun e => by rw [trim_nil, h] at e; cases e]
    · rw [decide_eq_true (trim_nil.2 h)]
  · rw [digB, decide_eq_false (by omega)]; rfl
  · rw [digB, decide_eq_false (by omega)]; rfl
end Go.Proofs.YthbnileadffpiaaGreatDoor.Num

namespace Go.Proofs.YthbnileadffpiaaGreatDoor.Num
open Go Go.Proofs Go.Abs
variable {G : Globals}
/-! The decimal digits of a number. -/
end Go.Proofs.YthbnileadffpiaaGreatDoor.Num

namespace Go.Proofs.YthbnileadffpiaaGreatDoor.Num
open Go Go.Proofs Go.Abs
variable {G : Globals}
/-! The texts of big integers and of fractions. -/
end Go.Proofs.YthbnileadffpiaaGreatDoor.Num

namespace Go.Proofs.YthbnileadffpiaaGreatDoor.Num
open Go Go.Proofs Go.Abs
variable {G : Globals}
/-! Decimals. -/
def decNeg (s : List UInt8) : Bool := hasP s [45]
def decBody (s : List UInt8) : List UInt8 := if hasP s [45] then s.drop 1 else if hasP s [43] then s.drop 1 else s
def decF (s : List UInt8) : List UInt8 := cutL 46 (decBody s)
def decB (s : List UInt8) : List UInt8 := cutR 46 (decBody s)
def decOk (s : List UInt8) : Bool := digB (decF s) 15 && (!decide (46 ∈ decBody s) || digB (decB s) 9)
def decNum (l : List UInt8) : Nat := l.foldl (fun v b => v * 10 + (b.toNat - 48)) 0
def decVal (s : List UInt8) : Rat := Rat.divInt (if decNeg s then -(decNum (decF s ++ decB s) : Int) else (decNum (decF s ++ decB s) : Int)) ((10 ^ (decB s).length : Nat) : Int)
theorem decNum_push {l : List UInt8} {i : Nat} (h : i < l.length) : decNum (l.take i) * 10 + ((l.getD i 0).toNat - 48) = decNum (l.take (i + 1)) := by
  rw [take_snoc h, decNum, decNum, List.foldl_append]; rfl
theorem cutL_len {c : UInt8} : ∀ s : List UInt8, (cutL c s).length ≤ s.length
  | [] => Nat.le_refl _
  | b :: l => by
    have := cutL_len (c := c) l
    rw [cutL]; split <;> simp; exact this
theorem cutR_none {c : UInt8} {s : List UInt8} (h : c ∉ s) : cutR c s = [] := ((cut_index c s).2 h).2.2
theorem cutR_len {c : UInt8} : ∀ s : List UInt8, (cutR c s).length ≤ s.length
  | [] => Nat.le_refl _
  | b :: l => by
    have := cutR_len (c := c) l
    rw [cutR]; split <;> simp; omega
theorem dig_range {b : UInt8} (h : dig10.contains b = true) : 48 ≤ b.toNat ∧ b.toNat ≤ 57 := by
  have : b ∈ dig10 := by simpa using h
  simp only [dig10, List.mem_cons, List.not_mem_nil, or_false] at this
  rcases this with rfl | rfl | rfl | rfl | rfl | rfl | rfl | rfl | rfl | rfl <;> decide
theorem decNum_lt {l : List UInt8} (h : ∀ b ∈ l, dig10.contains b = true) : decNum l < 10 ^ l.length := by
  have key : ∀ (l : List UInt8) (v : Nat), (∀ b ∈ l, dig10.contains b = true) → l.foldl (fun v b => v * 10 + (b.toNat - 48)) v < (v + 1) * 10 ^ l.length := by
    intro l
    induction l with
    | nil => intro v _; simp
    | cons b l ih =>
      intro v hl
      have hb := dig_range (hl b (List.mem_cons_self ..))
      have := ih (v * 10 + (b.toNat - 48)) (fun c hc => hl c (List.mem_cons_of_mem _ hc))
      rw [List.foldl_cons, List.length_cons, Nat.pow_succ]
      refine Nat.lt_of_lt_of_le this ?_
      rw [Nat.mul_comm (10 ^ l.length) 10, ← Nat.mul_assoc]
      exact Nat.mul_le_mul_right _ (by omega)
  have := key l 0 h
  rw [Nat.zero_add, Nat.one_mul] at this
  exact this
theorem cells_nums {l : List UInt8} : (l.map fun b => D.int .u8 (b.toNat : Int)) = ints .u8 (nums l) := by simp [ints, nums]
theorem decOk_facts {s : List UInt8} (h : decOk s = true) : (∀ b ∈ decF s ++ decB s, dig10.contains b = true) ∧ (decF s ++ decB s).length ≤ 24 ∧ (decB s).length ≤ 9 := by
  unfold decOk at h
  rw [Bool.and_eq_true, Bool.or_eq_true] at h
  obtain ⟨h1, h2⟩ := h
  unfold digB at h1
  rw [Bool.and_eq_true, decide_eq_true_eq] at h1
  have hb : (decB s).length ≤ 9 ∧ ∀ b ∈ decB s, dig10.contains b = true := by
    rcases h2 with h2 | h2
    · have e : decB s = [] := cutR_none (by simpa using h2)
      rw [e]; exact ⟨by simp, fun b hb => by cases hb⟩
    · unfold digB at h2
      rw [Bool.and_eq_true, decide_eq_true_eq] at h2
      exact ⟨by omega, fun b hb => List.all_eq_true.1 h2.2 b hb⟩
  refine ⟨fun b hb' => ?_, by rw [List.length_append]; omega, hb.1⟩
  rcases List.mem_append.1 hb' with h | h
  · exact List.all_eq_true.1 h1.2 b h
  · exact hb.2 b h
theorem toW_10 : toW 10 = [10] := by rw [toW_pos (by decide), show 10 / B = 0 from rfl, toW_zero]; rfl
theorem sz_small {n k : Nat} (h : n < 10 ^ k) : (toW n).length ≤ k := toW_length_le (Nat.lt_of_lt_of_le h (Nat.pow_le_pow_left (by decide) _))
set_option maxHeartbeats 4000000 in
set_option maxRecDepth 100000 in
theorem decimalF_spec (hG : HG G) (s : List UInt8) (hs : s.length ≤ 1000000000) : Ctr Tryz.prog G 52 [.d (S s)] [] (.d (.tup [if decOk s = true then Frac (decVal s) else Zf, .bool (decOk s)])) [] := by
  have hG' := hG
  unfold HG at hG
  refine Ctr.pure (M := M0) hmix Tryz.func52 rfl go52 ?_
  simp (config := { maxSteps := 1000000 }) (disch := ((try simp only [awL]); omega)) only [QR, QS, QT, QU, QV, QW, QX, QY, QZ, Q0, Q1, Q2, Tryz.f52, ↓awU, awV, awF, Qa, Qb, Qc, Qd, forall_const, ↓reduceIte, ↓reduceDIte, ↓Qe, Qf, Qg, Qh, Qi, Qj, Qk, Ql, Qm, Qn, Qo, Qp, Qq, Qr, Qs, implies_true, Qt, Qu, Qv, Qw, Qx, Qy, Qz, QA, QB, QC, QD, QE, QF, QG, QH, QI, QJ, QK, QL, QM, QN, QO, QP, QQ]
  refine CallC.pure (cutPrefix_spec s [45]) ?_
  have hbody : (decBody s).length ≤ s.length := by
    unfold decBody
    split
    · simp
    · split <;> simp
  have l1 := cutL_len (c := 46) (decBody s)
  have l2 := cutR_len (c := 46) (decBody s)
  have hno : decide (46 ∈ decBody s) = false → decB s = [] := fun h => cutR_none (of_decide_eq_false h)
  have hok : decOk s = (digB (decF s) 15 && (!decide (46 ∈ decBody s) || digB (decB s) 9)) := rfl
  have hdv : decVal s = Rat.divInt (if decNeg s then -(decNum (decF s ++ decB s) : Int) else (decNum (decF s ++ decB s) : Int)) ((10 ^ (decB s).length : Nat) : Int) := rfl
  have f1 : cutL 46 (decBody s) = decF s := rfl
  have f2 : cutR 46 (decBody s) = decB s := rfl
  rw [f1] at l1
  rw [f2] at l2
  cases h45 : hasP s [45]
  · simp (config := { maxSteps := 1000000 }) (disch := ((try simp only [awL]); omega)) only [QR, QS, QT, QU, QV, QW, QX, QY, QZ, Q0, Q1, Q2, ↓awU, awV, awF, Qa, Qb, Qc, Qd, forall_const, ↓reduceIte, ↓reduceDIte, ↓Qe, Qf, Qg, Qh, Qi, Qj, Qk, Ql, Qm, Qn, Qo, Qp, Qq, Qr, Qs, implies_true, Qt, Qu, Qv, Qw, Qx, Qy, Qz, QA, QB, QC, QD, QE, QF, QG, QH, QI, QJ, QK, QL, QM, QN, QO, QP, QQ]
    refine CallC.pure (trimPrefix_spec s [43]) ?_
    have eb : (if hasP s [43] then s.drop ([43] : List UInt8).length else s) = decBody s := by rw [decBody, h45]; rfl
    have en : decNeg s = false := h45
    rw [eb]
    rw [en] at hdv
    simp (config := { maxSteps := 1000000 }) (disch := ((try simp only [awL]); omega)) only [QR, QS, QT, QU, QV, QW, QX, QY, QZ, Q0, Q1, Q2, ↓awU, awV, awF, Qa, Qb, Qc, Qd, forall_const, ↓reduceIte, ↓reduceDIte, ↓Qe, Qf, Qg, Qh, Qi, Qj, Qk, Ql, Qm, Qn, Qo, Qp, Qq, Qr, Qs, implies_true, Qt, Qu, Qv, Qw, Qx, Qy, Qz, QA, QB, QC, QD, QE, QF, QG, QH, QI, QJ, QK, QL, QM, QN, QO, QP, QQ]
    refine CallC.pure (cut_spec (decBody s) 46 (by omega)) ?_
    rw [f1, f2]
    simp (config := { maxSteps := 1000000 }) (disch := ((try simp only [awL]); omega)) only [QR, QS, QT, QU, QV, QW, QX, QY, QZ, Q0, Q1, Q2, ↓awU, awV, awF, Qa, Qb, Qc, Qd, forall_const, ↓reduceIte, ↓reduceDIte, ↓Qe, Qf, Qg, Qh, Qi, Qj, Qk, Ql, Qm, Qn, Qo, Qp, Qq, Qr, Qs, implies_true, Qt, Qu, Qv, Qw, Qx, Qy, Qz, QA, QB, QC, QD, QE, QF, QG, QH, QI, QJ, QK, QL, QM, QN, QO, QP, QQ]
    refine CallC.pure (digits_spec (decF s) 15 (by omega)) ?_
    cases d1 : digB (decF s) 15
    · rw [hok, d1, Bool.false_and]
      simp (config := { maxSteps := 1000000 }) (disch := ((try simp only [awL]); omega)) only [QR, QS, QT, QU, QV, QW, QX, QY, QZ, Q0, Q1, Q2, ↓awU, awV, awF, Qa, Qb, Qc, Qd, forall_const, ↓reduceIte, ↓reduceDIte, ↓Qe, Qf, Qg, Qh, Qi, Qj, Qk, Ql, Qm, Qn, Qo, Qp, Qq, Qr, Qs, implies_true, Qt, Qu, Qv, Qw, Qx, Qy, Qz, QA, QB, QC, QD, QE, QF, QG, QH, QI, QJ, QK, QL, QM, QN, QO, QP, QQ]
      first | done | rfl
    · rw [d1, Bool.true_and] at hok
      cases dp : decide (46 ∈ decBody s)
      · rw [dp, Bool.not_false, Bool.true_or] at hok
        obtain ⟨hall, hlen, hlb⟩ := decOk_facts hok
        have hsm : ∀ i, i ≤ (decF s ++ decB s).length → (toW (decNum ((decF s ++ decB s).take i))).length ≤ 30 := fun i hi => by
          have h := decNum_lt (l := (decF s ++ decB s).take i) fun b hb => hall b (List.mem_of_mem_take hb)
          exact sz_small (Nat.lt_of_lt_of_le h (Nat.pow_le_pow_right (by decide) (by rw [List.length_take]; omega)))
        have hlt : ∀ i, i ≤ (decF s ++ decB s).length → decNum ((decF s ++ decB s).take i) * 10 < 10 ^ 30 := fun i hi => by
          have h := decNum_lt (l := (decF s ++ decB s).take i) fun b hb => hall b (List.mem_of_mem_take hb)
          have h2 : 10 ^ ((decF s ++ decB s).take i).length ≤ 10 ^ 29 := Nat.pow_le_pow_right (by decide) (by rw [List.length_take]; omega)
          have h3 : (10 : Nat) ^ 30 = 10 ^ 29 * 10 := rfl
          omega
        rw [if_pos hok, hok]
        generalize hL : decF s ++ decB s = L at *
        simp (config := { maxSteps := 1000000 }) (disch := ((try simp only [awL]); omega)) only [hG, QR, QS, QT, QU, QV, QW, QX, QY, QZ, Q0, Q1, Q2, ↓awU, awV, awF, Qa, Qb, Qc, Qd, forall_const, ↓reduceIte, ↓reduceDIte, ↓Qe, Qf, Qg, Qh, Qi, Qj, Qk, Ql, Qm, Qn, Qo, Qp, Qq, Qr, Qs, implies_true, Qt, Qu, Qv, Qw, Qx, Qy, Qz, QA, QB, QC, QD, QE, QF, QG, QH, QI, QJ, QK, QL, QM, QN, QO, QP, QQ]
        refine CallC.of (clone_spec [1] (by decide)) (by rfl) ?_
        simp (config := { maxSteps := 1000000 }) (disch := ((try simp only [awL]); omega)) only [hG, QR, QS, QT, QU, QV, QW, QX, QY, QZ, Q0, Q1, Q2, hL, cells_nums, ↓awU, awV, awF, Qa, Qb, Qc, Qd, forall_const, ↓reduceIte, ↓reduceDIte, ↓Qe, Qf, Qg, Qh, Qi, Qj, Qk, Ql, Qm, Qn, Qo, Qp, Qq, Qr, Qs, implies_true, Qt, Qu, Qv, Qw, Qx, Qy, Qz, QA, QB, QC, QD, QE, QF, QG, QH, QI, QJ, QK, QL, QM, QN, QO, QP, QQ]
        refine LoopC.fr 422212465069220 (α := Nat) (fun i => L.length - i) (fun i => [(9, .d (W (toW (decNum (L.take i))))), (49, .d (.int .i64 i))])
          (fun _ => [.box [.d (.bool false), .d (.sl 0 true []), .d (.bool false), .d (.sl 0 true [])], .row true (nats .u32 [10]), .row false (ints .u8 (nums L))]) (fun i => i ≤ L.length) 0 (Nat.zero_le _) ?_ ?_
        · exact ⟨[some 0, some 1, some 2], rfl, by simp, by simp [setsA, keepA, SWeak, AWeak, decNum, toW_zero, nats], by simp [HWeak, BWeak, SWeak, AWeak, nats]⟩
        · intro i hi
          have lt := hsm i hi
          have nl := @nums_length L
          simp only [awK, Nat.reduceMod, Nat.reduceDiv, reduceIte]
          rcases Nat.lt_or_ge i L.length with h1 | h1
          · have hb := dig_range (hall _ (mem_getDU (d := 0) h1))
            have hp := decNum_push h1
            have ls := sz_small (n := (L.getD i 0).toNat - 48) (k := 2) (by omega)
            have e48 : ((L.getD i 0).toNat : Int) - 48 = (((L.getD i 0).toNat - 48 : Nat) : Int) := by omega
            have lm : (toW (decNum (L.take i) * 10)).length ≤ 40 := sz_small (Nat.lt_of_lt_of_le (hlt i hi) (by decide))
            simp (config := { maxSteps := 1000000 }) (disch := ((try simp only [awL]); omega)) only [hG, QR, QS, QT, QU, QV, QW, QX, QY, QZ, Q0, Q1, Q2, nl, ↓awU, awV, awF, Qa, Qb, Qc, Qd, forall_const, ↓reduceIte, ↓reduceDIte, ↓Qe, Qf, Qg, Qh, Qi, Qj, Qk, Ql, Qm, Qn, Qo, Qp, Qq, Qr, Qs, implies_true, Qt, Qu, Qv, Qw, Qx, Qy, Qz, QA, QB, QC, QD, QE, QF, QG, QH, QI, QJ, QK, QL, QM, QN, QO, QP, QQ]
            refine CallC.frozenE (times_spec (decNum (L.take i)) 10 (by omega) (by rw [toW_10]; decide)) (by rw [toW_10]; rfl) ?_
            simp (config := { maxSteps := 1000000 }) (disch := ((try simp only [awL]); omega)) only [hG, QR, QS, QT, QU, QV, QW, QX, QY, QZ, Q0, Q1, Q2, nl, e48, ↓awU, awV, awF, Qa, Qb, Qc, Qd, forall_const, ↓reduceIte, ↓reduceDIte, ↓Qe, Qf, Qg, Qh, Qi, Qj, Qk, Ql, Qm, Qn, Qo, Qp, Qq, Qr, Qs, implies_true, Qt, Qu, Qv, Qw, Qx, Qy, Qz, QA, QB, QC, QD, QE, QF, QG, QH, QI, QJ, QK, QL, QM, QN, QO, QP, QQ]
            refine CallC.pure (natural_spec ((L.getD i 0).toNat - 48) (by omega)) ?_
            simp (config := { maxSteps := 1000000 }) (disch := ((try simp only [awL]); omega)) only [hG, QR, QS, QT, QU, QV, QW, QX, QY, QZ, Q0, Q1, Q2, nl, ↓awU, awV, awF, Qa, Qb, Qc, Qd, forall_const, ↓reduceIte, ↓reduceDIte, ↓Qe, Qf, Qg, Qh, Qi, Qj, Qk, Ql, Qm, Qn, Qo, Qp, Qq, Qr, Qs, implies_true, Qt, Qu, Qv, Qw, Qx, Qy, Qz, QA, QB, QC, QD, QE, QF, QG, QH, QI, QJ, QK, QL, QM, QN, QO, QP, QQ]
            refine CallC.pure (plus_spec (decNum (L.take i) * 10) ((L.getD i 0).toNat - 48) (by omega) (by omega)) ?_
            rw [hp]
            simp (config := { maxSteps := 1000000 }) (disch := ((try simp only [awL]); omega)) only [hG, QR, QS, QT, QU, QV, QW, QX, QY, QZ, Q0, Q1, Q2, nl, ↓awU, awV, awF, Qa, Qb, Qc, Qd, forall_const, ↓reduceIte, ↓reduceDIte, ↓Qe, Qf, Qg, Qh, Qi, Qj, Qk, Ql, Qm, Qn, Qo, Qp, Qq, Qr, Qs, implies_true, Qt, Qu, Qv, Qw, Qx, Qy, Qz, QA, QB, QC, QD, QE, QF, QG, QH, QI, QJ, QK, QL, QM, QN, QO, QP, QQ]
            exact ⟨i + 1, h1, by simp only; omega, ⟨[some 0, some 1, some 2], rfl, by simp, by simp [setsA, keepA, SWeak, AWeak], by simp [HWeak, BWeak, SWeak, AWeak]⟩⟩
          · obtain rfl : i = L.length := by omega
            rw [List.take_length] at *
            simp (config := { maxSteps := 1000000 }) (disch := ((try simp only [awL]); omega)) only [hG, QR, QS, QT, QU, QV, QW, QX, QY, QZ, Q0, Q1, Q2, nl, ↓awU, awV, awF, Qa, Qb, Qc, Qd, forall_const, ↓reduceIte, ↓reduceDIte, ↓Qe, Qf, Qg, Qh, Qi, Qj, Qk, Ql, Qm, Qn, Qo, Qp, Qq, Qr, Qs, implies_true, Qt, Qu, Qv, Qw, Qx, Qy, Qz, QA, QB, QC, QD, QE, QF, QG, QH, QI, QJ, QK, QL, QM, QN, QO, QP, QQ]
            refine LoopC.fr 9223372036854777380 (α := Nat) (fun j => (decB s).length - j) (fun j => [(11, .d (W (toW (10 ^ j)))), (64, .d (.int .i64 j))])
              (fun _ => [.box [.d (.bool false), .d (.sl 0 true []), .d (.bool false), .d (.sl 0 true [])], .row true (nats .u32 [10]), .row false (ints .u8 (nums L))]) (fun j => j ≤ (decB s).length) 0 (Nat.zero_le _) ?_ ?_
            · exact ⟨[some 0, some 1, some 2], rfl, by simp, by simp [setsA, keepA, SWeak, AWeak, toW_one], by simp [HWeak, BWeak, SWeak, AWeak, nats]⟩
            · intro j hj
              have lj : (toW (10 ^ j)).length ≤ 10 := sz_small (Nat.pow_lt_pow_right (by decide) (by omega))
              simp only [awK, Nat.reduceMod, Nat.reduceDiv, reduceIte]
              rcases Nat.lt_or_ge j (decB s).length with h2 | h2
              · simp (config := { maxSteps := 1000000 }) (disch := ((try simp only [awL]); omega)) only [hG, QR, QS, QT, QU, QV, QW, QX, QY, QZ, Q0, Q1, Q2, ↓awU, awV, awF, Qa, Qb, Qc, Qd, forall_const, ↓reduceIte, ↓reduceDIte, ↓Qe, Qf, Qg, Qh, Qi, Qj, Qk, Ql, Qm, Qn, Qo, Qp, Qq, Qr, Qs, implies_true, Qt, Qu, Qv, Qw, Qx, Qy, Qz, QA, QB, QC, QD, QE, QF, QG, QH, QI, QJ, QK, QL, QM, QN, QO, QP, QQ]
                refine CallC.frozenE (times_spec (10 ^ j) 10 (by omega) (by rw [toW_10]; decide)) (by rw [toW_10]; rfl) ?_
                rw [← Nat.pow_succ]
                simp (config := { maxSteps := 1000000 }) (disch := ((try simp only [awL]); omega)) only [hG, QR, QS, QT, QU, QV, QW, QX, QY, QZ, Q0, Q1, Q2, ↓awU, awV, awF, Qa, Qb, Qc, Qd, forall_const, ↓reduceIte, ↓reduceDIte, ↓Qe, Qf, Qg, Qh, Qi, Qj, Qk, Ql, Qm, Qn, Qo, Qp, Qq, Qr, Qs, implies_true, Qt, Qu, Qv, Qw, Qx, Qy, Qz, QA, QB, QC, QD, QE, QF, QG, QH, QI, QJ, QK, QL, QM, QN, QO, QP, QQ]
                exact ⟨j + 1, h2, by simp only; omega, ⟨[some 0, some 1, some 2], rfl, by simp, by simp [setsA, keepA, SWeak, AWeak], by simp [HWeak, BWeak, SWeak, AWeak]⟩⟩
              · obtain rfl : j = (decB s).length := by omega
                have hd0 : ((10 ^ (decB s).length : Nat) : Int) ≠ 0 := by
                  have : 0 < 10 ^ (decB s).length := Nat.pow_pos (by decide)
                  omega
                simp (config := { maxSteps := 1000000 }) (disch := ((try simp only [awL]); omega)) only [hG, QR, QS, QT, QU, QV, QW, QX, QY, QZ, Q0, Q1, Q2, ↓awU, awV, awF, Qa, Qb, Qc, Qd, forall_const, ↓reduceIte, ↓reduceDIte, ↓Qe, Qf, Qg, Qh, Qi, Qj, Qk, Ql, Qm, Qn, Qo, Qp, Qq, Qr, Qs, implies_true, Qt, Qu, Qv, Qw, Qx, Qy, Qz, QA, QB, QC, QD, QE, QF, QG, QH, QI, QJ, QK, QL, QM, QN, QO, QP, QQ]
                refine CallC.pure (signed_spec false (decNum L) (by omega)) ?_
                simp (config := { maxSteps := 1000000 }) (disch := ((try simp only [awL]); omega)) only [hG, QR, QS, QT, QU, QV, QW, QX, QY, QZ, Q0, Q1, Q2, ↓awU, awV, awF, Qa, Qb, Qc, Qd, forall_const, ↓reduceIte, ↓reduceDIte, ↓Qe, Qf, Qg, Qh, Qi, Qj, Qk, Ql, Qm, Qn, Qo, Qp, Qq, Qr, Qs, implies_true, Qt, Qu, Qv, Qw, Qx, Qy, Qz, QA, QB, QC, QD, QE, QF, QG, QH, QI, QJ, QK, QL, QM, QN, QO, QP, QQ]
                refine CallC.pure (signed_spec false (10 ^ (decB s).length) (by omega)) ?_
                simp (config := { maxSteps := 1000000 }) (disch := ((try simp only [awL]); omega)) only [hG, QR, QS, QT, QU, QV, QW, QX, QY, QZ, Q0, Q1, Q2, ↓awU, awV, awF, Qa, Qb, Qc, Qd, forall_const, ↓reduceIte, ↓reduceDIte, ↓Qe, Qf, Qg, Qh, Qi, Qj, Qk, Ql, Qm, Qn, Qo, Qp, Qq, Qr, Qs, implies_true, Qt, Qu, Qv, Qw, Qx, Qy, Qz, QA, QB, QC, QD, QE, QF, QG, QH, QI, QJ, QK, QL, QM, QN, QO, QP, QQ]
                refine CallC.of (reduced_spec (if false = true then -(decNum L : Int) else (decNum L : Int)) ((10 ^ (decB s).length : Nat) : Int) hd0 (by simp only [sz]; split <;> simp <;> omega) (by simp only [sz, Int.natAbs_natCast]; omega)) (by rfl) ?_
                rw [← hdv]
                simp (config := { maxSteps := 1000000 }) (disch := ((try simp only [awL]); omega)) only [hG, QR, QS, QT, QU, QV, QW, QX, QY, QZ, Q0, Q1, Q2, ↓awU, awV, awF, Qa, Qb, Qc, Qd, forall_const, ↓reduceIte, ↓reduceDIte, ↓Qe, Qf, Qg, Qh, Qi, Qj, Qk, Ql, Qm, Qn, Qo, Qp, Qq, Qr, Qs, implies_true, Qt, Qu, Qv, Qw, Qx, Qy, Qz, QA, QB, QC, QD, QE, QF, QG, QH, QI, QJ, QK, QL, QM, QN, QO, QP, QQ]
                first | done | rfl
      · rw [dp, Bool.not_true, Bool.false_or] at hok
        simp (config := { maxSteps := 1000000 }) (disch := ((try simp only [awL]); omega)) only [QR, QS, QT, QU, QV, QW, QX, QY, QZ, Q0, Q1, Q2, ↓awU, awV, awF, Qa, Qb, Qc, Qd, forall_const, ↓reduceIte, ↓reduceDIte, ↓Qe, Qf, Qg, Qh, Qi, Qj, Qk, Ql, Qm, Qn, Qo, Qp, Qq, Qr, Qs, implies_true, Qt, Qu, Qv, Qw, Qx, Qy, Qz, QA, QB, QC, QD, QE, QF, QG, QH, QI, QJ, QK, QL, QM, QN, QO, QP, QQ]
        refine CallC.pure (digits_spec (decB s) 9 (by omega)) ?_
        cases d2 : digB (decB s) 9
        · rw [hok, d2]
          simp (config := { maxSteps := 1000000 }) (disch := ((try simp only [awL]); omega)) only [QR, QS, QT, QU, QV, QW, QX, QY, QZ, Q0, Q1, Q2, ↓awU, awV, awF, Qa, Qb, Qc, Qd, forall_const, ↓reduceIte, ↓reduceDIte, ↓Qe, Qf, Qg, Qh, Qi, Qj, Qk, Ql, Qm, Qn, Qo, Qp, Qq, Qr, Qs, implies_true, Qt, Qu, Qv, Qw, Qx, Qy, Qz, QA, QB, QC, QD, QE, QF, QG, QH, QI, QJ, QK, QL, QM, QN, QO, QP, QQ]
          first | done | rfl
        · rw [d2] at hok
          obtain ⟨hall, hlen, hlb⟩ := decOk_facts hok
          have hsm : ∀ i, i ≤ (decF s ++ decB s).length → (toW (decNum ((decF s ++ decB s).take i))).length ≤ 30 := fun i hi => by
            have h := decNum_lt (l := (decF s ++ decB s).take i) fun b hb => hall b (List.mem_of_mem_take hb)
            exact sz_small (Nat.lt_of_lt_of_le h (Nat.pow_le_pow_right (by decide) (by rw [List.length_take]; omega)))
          have hlt : ∀ i, i ≤ (decF s ++ decB s).length → decNum ((decF s ++ decB s).take i) * 10 < 10 ^ 30 := fun i hi => by
            have h := decNum_lt (l := (decF s ++ decB s).take i) fun b hb => hall b (List.mem_of_mem_take hb)
            have h2 : 10 ^ ((decF s ++ decB s).take i).length ≤ 10 ^ 29 := Nat.pow_le_pow_right (by decide) (by rw [List.length_take]; omega)
            have h3 : (10 : Nat) ^ 30 = 10 ^ 29 * 10 := rfl
            omega
          rw [if_pos hok, hok]
          generalize hL : decF s ++ decB s = L at *
          simp (config := { maxSteps := 1000000 }) (disch := ((try simp only [awL]); omega)) only [hG, QR, QS, QT, QU, QV, QW, QX, QY, QZ, Q0, Q1, Q2, ↓awU, awV, awF, Qa, Qb, Qc, Qd, forall_const, ↓reduceIte, ↓reduceDIte, ↓Qe, Qf, Qg, Qh, Qi, Qj, Qk, Ql, Qm, Qn, Qo, Qp, Qq, Qr, Qs, implies_true, Qt, Qu, Qv, Qw, Qx, Qy, Qz, QA, QB, QC, QD, QE, QF, QG, QH, QI, QJ, QK, QL, QM, QN, QO, QP, QQ]
          refine CallC.of (clone_spec [1] (by decide)) (by rfl) ?_
          simp (config := { maxSteps := 1000000 }) (disch := ((try simp only [awL]); omega)) only [hG, QR, QS, QT, QU, QV, QW, QX, QY, QZ, Q0, Q1, Q2, hL, cells_nums, ↓awU, awV, awF, Qa, Qb, Qc, Qd, forall_const, ↓reduceIte, ↓reduceDIte, ↓Qe, Qf, Qg, Qh, Qi, Qj, Qk, Ql, Qm, Qn, Qo, Qp, Qq, Qr, Qs, implies_true, Qt, Qu, Qv, Qw, Qx, Qy, Qz, QA, QB, QC, QD, QE, QF, QG, QH, QI, QJ, QK, QL, QM, QN, QO, QP, QQ]
          refine LoopC.fr 422212465069220 (α := Nat) (fun i => L.length - i) (fun i => [(9, .d (W (toW (decNum (L.take i))))), (49, .d (.int .i64 i))])
            (fun _ => [.box [.d (.bool false), .d (.sl 0 true []), .d (.bool false), .d (.sl 0 true [])], .row true (nats .u32 [10]), .row false (ints .u8 (nums L))]) (fun i => i ≤ L.length) 0 (Nat.zero_le _) ?_ ?_
          · exact ⟨[some 0, some 1, some 2], rfl, by simp, by simp [setsA, keepA, SWeak, AWeak, decNum, toW_zero, nats], by simp [HWeak, BWeak, SWeak, AWeak, nats]⟩
          · intro i hi
            have lt := hsm i hi
            have nl := @nums_length L
            simp only [awK, Nat.reduceMod, Nat.reduceDiv, reduceIte]
            rcases Nat.lt_or_ge i L.length with h1 | h1
            · have hb := dig_range (hall _ (mem_getDU (d := 0) h1))
              have hp := decNum_push h1
              have ls := sz_small (n := (L.getD i 0).toNat - 48) (k := 2) (by omega)
              have e48 : ((L.getD i 0).toNat : Int) - 48 = (((L.getD i 0).toNat - 48 : Nat) : Int) := by omega
              have lm : (toW (decNum (L.take i) * 10)).length ≤ 40 := sz_small (Nat.lt_of_lt_of_le (hlt i hi) (by decide))
              simp (config := { maxSteps := 1000000 }) (disch := ((try simp only [awL]); omega)) only [hG, QR, QS, QT, QU, QV, QW, QX, QY, QZ, Q0, Q1, Q2, nl, ↓awU, awV, awF, Qa, Qb, Qc, Qd, forall_const, ↓reduceIte, ↓reduceDIte, ↓Qe, Qf, Qg, Qh, Qi, Qj, Qk, Ql, Qm, Qn, Qo, Qp, Qq, Qr, Qs, implies_true, Qt, Qu, Qv, Qw, Qx, Qy, Qz, QA, QB, QC, QD, QE, QF, QG, QH, QI, QJ, QK, QL, QM, QN, QO, QP, QQ]
              refine CallC.frozenE (times_spec (decNum (L.take i)) 10 (by omega) (by rw [toW_10]; decide)) (by rw [toW_10]; rfl) ?_
              simp (config := { maxSteps := 1000000 }) (disch := ((try simp only [awL]); omega)) only [hG, QR, QS, QT, QU, QV, QW, QX, QY, QZ, Q0, Q1, Q2, nl, e48, ↓awU, awV, awF, Qa, Qb, Qc, Qd, forall_const, ↓reduceIte, ↓reduceDIte, ↓Qe, Qf, Qg, Qh, Qi, Qj, Qk, Ql, Qm, Qn, Qo, Qp, Qq, Qr, Qs, implies_true, Qt, Qu, Qv, Qw, Qx, Qy, Qz, QA, QB, QC, QD, QE, QF, QG, QH, QI, QJ, QK, QL, QM, QN, QO, QP, QQ]
              refine CallC.pure (natural_spec ((L.getD i 0).toNat - 48) (by omega)) ?_
              simp (config := { maxSteps := 1000000 }) (disch := ((try simp only [awL]); omega)) only [hG, QR, QS, QT, QU, QV, QW, QX, QY, QZ, Q0, Q1, Q2, nl, ↓awU, awV, awF, Qa, Qb, Qc, Qd, forall_const, ↓reduceIte, ↓reduceDIte, ↓Qe, Qf, Qg, Qh, Qi, Qj, Qk, Ql, Qm, Qn, Qo, Qp, Qq, Qr, Qs, implies_true, Qt, Qu, Qv, Qw, Qx, Qy, Qz, QA, QB, QC, QD, QE, QF, QG, QH, QI, QJ, QK, QL, QM, QN, QO, QP, QQ]
              refine CallC.pure (plus_spec (decNum (L.take i) * 10) ((L.getD i 0).toNat - 48) (by omega) (by omega)) ?_
              rw [hp]
              simp (config := { maxSteps := 1000000 }) (disch := ((try simp only [awL]); omega)) only [hG, QR, QS, QT, QU, QV, QW, QX, QY, QZ, Q0, Q1, Q2, nl, ↓awU, awV, awF, Qa, Qb, Qc, Qd, forall_const, ↓reduceIte, ↓reduceDIte, ↓Qe, Qf, Qg, Qh, Qi, Qj, Qk, Ql, Qm, Qn, Qo, Qp, Qq, Qr, Qs, implies_true, Qt, Qu, Qv, Qw, Qx, Qy, Qz, QA, QB, QC, QD, QE, QF, QG, QH, QI, QJ, QK, QL, QM, QN, QO, QP, QQ]
              exact ⟨i + 1, h1, by simp only; omega, ⟨[some 0, some 1, some 2], rfl, by simp, by simp [setsA, keepA, SWeak, AWeak], by simp [HWeak, BWeak, SWeak, AWeak]⟩⟩
            · obtain rfl : i = L.length := by omega
              rw [List.take_length] at *
              simp (config := { maxSteps := 1000000 }) (disch := ((try simp only [awL]); omega)) only [hG, QR, QS, QT, QU, QV, QW, QX, QY, QZ, Q0, Q1, Q2, nl, ↓awU, awV, awF, Qa, Qb, Qc, Qd, forall_const, ↓reduceIte, ↓reduceDIte, ↓Qe, Qf, Qg, Qh, Qi, Qj, Qk, Ql, Qm, Qn, Qo, Qp, Qq, Qr, Qs, implies_true, Qt, Qu, Qv, Qw, Qx, Qy, Qz, QA, QB, QC, QD, QE, QF, QG, QH, QI, QJ, QK, QL, QM, QN, QO, QP, QQ]
              refine LoopC.fr 9223372036854777380 (α := Nat) (fun j => (decB s).length - j) (fun j => [(11, .d (W (toW (10 ^ j)))), (64, .d (.int .i64 j))])
                (fun _ => [.box [.d (.bool false), .d (.sl 0 true []), .d (.bool false), .d (.sl 0 true [])], .row true (nats .u32 [10]), .row false (ints .u8 (nums L))]) (fun j => j ≤ (decB s).length) 0 (Nat.zero_le _) ?_ ?_
              · exact ⟨[some 0, some 1, some 2], rfl, by simp, by simp [setsA, keepA, SWeak, AWeak, toW_one], by simp [HWeak, BWeak, SWeak, AWeak, nats]⟩
              · intro j hj
                have lj : (toW (10 ^ j)).length ≤ 10 := sz_small (Nat.pow_lt_pow_right (by decide) (by omega))
                simp only [awK, Nat.reduceMod, Nat.reduceDiv, reduceIte]
                rcases Nat.lt_or_ge j (decB s).length with h2 | h2
                · simp (config := { maxSteps := 1000000 }) (disch := ((try simp only [awL]); omega)) only [hG, QR, QS, QT, QU, QV, QW, QX, QY, QZ, Q0, Q1, Q2, ↓awU, awV, awF, Qa, Qb, Qc, Qd, forall_const, ↓reduceIte, ↓reduceDIte, ↓Qe, Qf, Qg, Qh, Qi, Qj, Qk, Ql, Qm, Qn, Qo, Qp, Qq, Qr, Qs, implies_true, Qt, Qu, Qv, Qw, Qx, Qy, Qz, QA, QB, QC, QD, QE, QF, QG, QH, QI, QJ, QK, QL, QM, QN, QO, QP, QQ]
                  refine CallC.frozenE (times_spec (10 ^ j) 10 (by omega) (by rw [toW_10]; decide)) (by rw [toW_10]; rfl) ?_
                  rw [← Nat.pow_succ]
                  simp (config := { maxSteps := 1000000 }) (disch := ((try simp only [awL]); omega)) only [hG, QR, QS, QT, QU, QV, QW, QX, QY, QZ, Q0, Q1, Q2, ↓awU, awV, awF, Qa, Qb, Qc, Qd, forall_const, ↓reduceIte, ↓reduceDIte, ↓Qe, Qf, Qg, Qh, Qi, Qj, Qk, Ql, Qm, Qn, Qo, Qp, Qq, Qr, Qs, implies_true, Qt, Qu, Qv, Qw, Qx, Qy, Qz, QA, QB, QC, QD, QE, QF, QG, QH, QI, QJ, QK, QL, QM, QN, QO, QP, QQ]
                  exact ⟨j + 1, h2, by simp only; omega, ⟨[some 0, some 1, some 2], rfl, by simp, by simp [setsA, keepA, SWeak, AWeak], by simp [HWeak, BWeak, SWeak, AWeak]⟩⟩
                · obtain rfl : j = (decB s).length := by omega
                  have hd0 : ((10 ^ (decB s).length : Nat) : Int) ≠ 0 := by
                    have : 0 < 10 ^ (decB s).length := Nat.pow_pos (by decide)
                    omega
                  simp (config := { maxSteps := 1000000 }) (disch := ((try simp only [awL]); omega)) only [hG, QR, QS, QT, QU, QV, QW, QX, QY, QZ, Q0, Q1, Q2, ↓awU, awV, awF, Qa, Qb, Qc, Qd, forall_const, ↓reduceIte, ↓reduceDIte, ↓Qe, Qf, Qg, Qh, Qi, Qj, Qk, Ql, Qm, Qn, Qo, Qp, Qq, Qr, Qs, implies_true, Qt, Qu, Qv, Qw, Qx, Qy, Qz, QA, QB, QC, QD, QE, QF, QG, QH, QI, QJ, QK, QL, QM, QN, QO, QP, QQ]
                  refine CallC.pure (signed_spec false (decNum L) (by omega)) ?_
                  simp (config := { maxSteps := 1000000 }) (disch := ((try simp only [awL]); omega)) only [hG, QR, QS, QT, QU, QV, QW, QX, QY, QZ, Q0, Q1, Q2, ↓awU, awV, awF, Qa, Qb, Qc, Qd, forall_const, ↓reduceIte, ↓reduceDIte, ↓Qe, Qf, Qg, Qh, Qi, Qj, Qk, Ql, Qm, Qn, Qo, Qp, Qq, Qr, Qs, implies_true, Qt, Qu, Qv, Qw, Qx, Qy, Qz, QA, QB, QC, QD, QE, QF, QG, QH, QI, QJ, QK, QL, QM, QN, QO, QP, QQ]
                  refine CallC.pure (signed_spec false (10 ^ (decB s).length) (by omega)) ?_
                  simp (config := { maxSteps := 1000000 }) (disch := ((try simp only [awL]); omega)) only [hG, QR, QS, QT, QU, QV, QW, QX, QY, QZ, Q0, Q1, Q2, ↓awU, awV, awF, Qa, Qb, Qc, Qd, forall_const, ↓reduceIte, ↓reduceDIte, ↓Qe, Qf, Qg, Qh, Qi, Qj, Qk, Ql, Qm, Qn, Qo, Qp, Qq, Qr, Qs, implies_true, Qt, Qu, Qv, Qw, Qx, Qy, Qz, QA, QB, QC, QD, QE, QF, QG, QH, QI, QJ, QK, QL, QM, QN, QO, QP, QQ]
                  refine CallC.of (reduced_spec (if false = true then -(decNum L : Int) else (decNum L : Int)) ((10 ^ (decB s).length : Nat) : Int) hd0 (by simp only [sz]; split <;> simp <;> omega) (by simp only [sz, Int.natAbs_natCast]; omega)) (by rfl) ?_
                  rw [← hdv]
                  simp (config := { maxSteps := 1000000 }) (disch := ((try simp only [awL]); omega)) only [hG, QR, QS, QT, QU, QV, QW, QX, QY, QZ, Q0, Q1, Q2, ↓awU, awV, awF, Qa, Qb, Qc, Qd, forall_const, ↓reduceIte, ↓reduceDIte, ↓Qe, Qf, Qg, Qh, Qi, Qj, Qk, Ql, Qm, Qn, Qo, Qp, Qq, Qr, Qs, implies_true, Qt, Qu, Qv, Qw, Qx, Qy, Qz, QA, QB, QC, QD, QE, QF, QG, QH, QI, QJ, QK, QL, QM, QN, QO, QP, QQ]
                  first | done | rfl
  · have eb : s.drop 1 = decBody s := by rw [decBody, h45]; rfl
    have en : decNeg s = true := h45
    rw [en] at hdv
    simp (config := { maxSteps := 1000000 }) (disch := ((try simp only [awL]); omega)) only [QR, QS, QT, QU, QV, QW, QX, QY, QZ, Q0, Q1, Q2, eb, ↓awU, awV, awF, Qa, Qb, Qc, Qd, forall_const, ↓reduceIte, ↓reduceDIte, ↓Qe, Qf, Qg, Qh, Qi, Qj, Qk, Ql, Qm, Qn, Qo, Qp, Qq, Qr, Qs, implies_true, Qt, Qu, Qv, Qw, Qx, Qy, Qz, QA, QB, QC, QD, QE, QF, QG, QH, QI, QJ, QK, QL, QM, QN, QO, QP, QQ]
    refine CallC.pure (cut_spec (decBody s) 46 (by omega)) ?_
    rw [f1, f2]
    simp (config := { maxSteps := 1000000 }) (disch := ((try simp only [awL]); omega)) only [QR, QS, QT, QU, QV, QW, QX, QY, QZ, Q0, Q1, Q2, ↓awU, awV, awF, Qa, Qb, Qc, Qd, forall_const, ↓reduceIte, ↓reduceDIte, ↓Qe, Qf, Qg, Qh, Qi, Qj, Qk, Ql, Qm, Qn, Qo, Qp, Qq, Qr, Qs, implies_true, Qt, Qu, Qv, Qw, Qx, Qy, Qz, QA, QB, QC, QD, QE, QF, QG, QH, QI, QJ, QK, QL, QM, QN, QO, QP, QQ]
    refine CallC.pure (digits_spec (decF s) 15 (by omega)) ?_
    cases d1 : digB (decF s) 15
    · rw [hok, d1, Bool.false_and]
      simp (config := { maxSteps := 1000000 }) (disch := ((try simp only [awL]); omega)) only [QR, QS, QT, QU, QV, QW, QX, QY, QZ, Q0, Q1, Q2, ↓awU, awV, awF, Qa, Qb, Qc, Qd, forall_const, ↓reduceIte, ↓reduceDIte, ↓Qe, Qf, Qg, Qh, Qi, Qj, Qk, Ql, Qm, Qn, Qo, Qp, Qq, Qr, Qs, implies_true, Qt, Qu, Qv, Qw, Qx, Qy, Qz, QA, QB, QC, QD, QE, QF, QG, QH, QI, QJ, QK, QL, QM, QN, QO, QP, QQ]
      first | done | rfl
    · rw [d1, Bool.true_and] at hok
      cases dp : decide (46 ∈ decBody s)
      · rw [dp, Bool.not_false, Bool.true_or] at hok
        obtain ⟨hall, hlen, hlb⟩ := decOk_facts hok
        have hsm : ∀ i, i ≤ (decF s ++ decB s).length → (toW (decNum ((decF s ++ decB s).take i))).length ≤ 30 := fun i hi => by
          have h := decNum_lt (l := (decF s ++ decB s).take i) fun b hb => hall b (List.mem_of_mem_take hb)
          exact sz_small (Nat.lt_of_lt_of_le h (Nat.pow_le_pow_right (by decide) (by rw [List.length_take]; omega)))
        have hlt : ∀ i, i ≤ (decF s ++ decB s).length → decNum ((decF s ++ decB s).take i) * 10 < 10 ^ 30 := fun i hi => by
          have h := decNum_lt (l := (decF s ++ decB s).take i) fun b hb => hall b (List.mem_of_mem_take hb)
          have h2 : 10 ^ ((decF s ++ decB s).take i).length ≤ 10 ^ 29 := Nat.pow_le_pow_right (by decide) (by rw [List.length_take]; omega)
          have h3 : (10 : Nat) ^ 30 = 10 ^ 29 * 10 := rfl
          omega
        rw [if_pos hok, hok]
        generalize hL : decF s ++ decB s = L at *
        simp (config := { maxSteps := 1000000 }) (disch := ((try simp only [awL]); omega)) only [hG, QR, QS, QT, QU, QV, QW, QX, QY, QZ, Q0, Q1, Q2, ↓awU, awV, awF, Qa, Qb, Qc, Qd, forall_const, ↓reduceIte, ↓reduceDIte, ↓Qe, Qf, Qg, Qh, Qi, Qj, Qk, Ql, Qm, Qn, Qo, Qp, Qq, Qr, Qs, implies_true, Qt, Qu, Qv, Qw, Qx, Qy, Qz, QA, QB, QC, QD, QE, QF, QG, QH, QI, QJ, QK, QL, QM, QN, QO, QP, QQ]
        refine CallC.of (clone_spec [1] (by decide)) (by rfl) ?_
        simp (config := { maxSteps := 1000000 }) (disch := ((try simp only [awL]); omega)) only [hG, QR, QS, QT, QU, QV, QW, QX, QY, QZ, Q0, Q1, Q2, hL, cells_nums, ↓awU, awV, awF, Qa, Qb, Qc, Qd, forall_const, ↓reduceIte, ↓reduceDIte, ↓Qe, Qf, Qg, Qh, Qi, Qj, Qk, Ql, Qm, Qn, Qo, Qp, Qq, Qr, Qs, implies_true, Qt, Qu, Qv, Qw, Qx, Qy, Qz, QA, QB, QC, QD, QE, QF, QG, QH, QI, QJ, QK, QL, QM, QN, QO, QP, QQ]
        refine LoopC.fr 422212465069220 (α := Nat) (fun i => L.length - i) (fun i => [(9, .d (W (toW (decNum (L.take i))))), (49, .d (.int .i64 i))])
          (fun _ => [.box [.d (.bool false), .d (.sl 0 true []), .d (.bool false), .d (.sl 0 true [])], .row true (nats .u32 [10]), .row false (ints .u8 (nums L))]) (fun i => i ≤ L.length) 0 (Nat.zero_le _) ?_ ?_
        · exact ⟨[some 0, some 1, some 2], rfl, by simp, by simp [setsA, keepA, SWeak, AWeak, decNum, toW_zero, nats], by simp [HWeak, BWeak, SWeak, AWeak, nats]⟩
        · intro i hi
          have lt := hsm i hi
          have nl := @nums_length L
          simp only [awK, Nat.reduceMod, Nat.reduceDiv, reduceIte]
          rcases Nat.lt_or_ge i L.length with h1 | h1
          · have hb := dig_range (hall _ (mem_getDU (d := 0) h1))
            have hp := decNum_push h1
            have ls := sz_small (n := (L.getD i 0).toNat - 48) (k := 2) (by omega)
            have e48 : ((L.getD i 0).toNat : Int) - 48 = (((L.getD i 0).toNat - 48 : Nat) : Int) := by omega
            have lm : (toW (decNum (L.take i) * 10)).length ≤ 40 := sz_small (Nat.lt_of_lt_of_le (hlt i hi) (by decide))
            simp (config := { maxSteps := 1000000 }) (disch := ((try simp only [awL]); omega)) only [hG, QR, QS, QT, QU, QV, QW, QX, QY, QZ, Q0, Q1, Q2, nl, ↓awU, awV, awF, Qa, Qb, Qc, Qd, forall_const, ↓reduceIte, ↓reduceDIte, ↓Qe, Qf, Qg, Qh, Qi, Qj, Qk, Ql, Qm, Qn, Qo, Qp, Qq, Qr, Qs, implies_true, Qt, Qu, Qv, Qw, Qx, Qy, Qz, QA, QB, QC, QD, QE, QF, QG, QH, QI, QJ, QK, QL, QM, QN, QO, QP, QQ]
            refine CallC.frozenE (times_spec (decNum (L.take i)) 10 (by omega) (by rw [toW_10]; decide)) (by rw [toW_10]; rfl) ?_
            simp (config := { maxSteps := 1000000 }) (disch := ((try simp only [awL]); omega)) only [hG, QR, QS, QT, QU, QV, QW, QX, QY, QZ, Q0, Q1, Q2, nl, e48, ↓awU, awV, awF, Qa, Qb, Qc, Qd, forall_const, ↓reduceIte, ↓reduceDIte, ↓Qe, Qf, Qg, Qh, Qi, Qj, Qk, Ql, Qm, Qn, Qo, Qp, Qq, Qr, Qs, implies_true, Qt, Qu, Qv, Qw, Qx, Qy, Qz, QA, QB, QC, QD, QE, QF, QG, QH, QI, QJ, QK, QL, QM, QN, QO, QP, QQ]
            refine CallC.pure (natural_spec ((L.getD i 0).toNat - 48) (by omega)) ?_
            simp (config := { maxSteps := 1000000 }) (disch := ((try simp only [awL]); omega)) only [hG, QR, QS, QT, QU, QV, QW, QX, QY, QZ, Q0, Q1, Q2, nl, ↓awU, awV, awF, Qa, Qb, Qc, Qd, forall_const, ↓reduceIte, ↓reduceDIte, ↓Qe, Qf, Qg, Qh, Qi, Qj, Qk, Ql, Qm, Qn, Qo, Qp, Qq, Qr, Qs, implies_true, Qt, Qu, Qv, Qw, Qx, Qy, Qz, QA, QB, QC, QD, QE, QF, QG, QH, QI, QJ, QK, QL, QM, QN, QO, QP, QQ]
            refine CallC.pure (plus_spec (decNum (L.take i) * 10) ((L.getD i 0).toNat - 48) (by omega) (by omega)) ?_
            rw [hp]
            simp (config := { maxSteps := 1000000 }) (disch := ((try simp only [awL]); omega)) only [hG, QR, QS, QT, QU, QV, QW, QX, QY, QZ, Q0, Q1, Q2, nl, ↓awU, awV, awF, Qa, Qb, Qc, Qd, forall_const, ↓reduceIte, ↓reduceDIte, ↓Qe, Qf, Qg, Qh, Qi, Qj, Qk, Ql, Qm, Qn, Qo, Qp, Qq, Qr, Qs, implies_true, Qt, Qu, Qv, Qw, Qx, Qy, Qz, QA, QB, QC, QD, QE, QF, QG, QH, QI, QJ, QK, QL, QM, QN, QO, QP, QQ]
            exact ⟨i + 1, h1, by simp only; omega, ⟨[some 0, some 1, some 2], rfl, by simp, by simp [setsA, keepA, SWeak, AWeak], by simp [HWeak, BWeak, SWeak, AWeak]⟩⟩
          · obtain rfl : i = L.length := by omega
            rw [List.take_length] at *
            simp (config := { maxSteps := 1000000 }) (disch := ((try simp only [awL]); omega)) only [hG, QR, QS, QT, QU, QV, QW, QX, QY, QZ, Q0, Q1, Q2, nl, ↓awU, awV, awF, Qa, Qb, Qc, Qd, forall_const, ↓reduceIte, ↓reduceDIte, ↓Qe, Qf, Qg, Qh, Qi, Qj, Qk, Ql, Qm, Qn, Qo, Qp, Qq, Qr, Qs, implies_true, Qt, Qu, Qv, Qw, Qx, Qy, Qz, QA, QB, QC, QD, QE, QF, QG, QH, QI, QJ, QK, QL, QM, QN, QO, QP, QQ]
            refine LoopC.fr 9223372036854777380 (α := Nat) (fun j => (decB s).length - j) (fun j => [(11, .d (W (toW (10 ^ j)))), (64, .d (.int .i64 j))])
              (fun _ => [.box [.d (.bool false), .d (.sl 0 true []), .d (.bool false), .d (.sl 0 true [])], .row true (nats .u32 [10]), .row false (ints .u8 (nums L))]) (fun j => j ≤ (decB s).length) 0 (Nat.zero_le _) ?_ ?_
            · exact ⟨[some 0, some 1, some 2], rfl, by simp, by simp [setsA, keepA, SWeak, AWeak, toW_one], by simp [HWeak, BWeak, SWeak, AWeak, nats]⟩
            · intro j hj
              have lj : (toW (10 ^ j)).length ≤ 10 := sz_small (Nat.pow_lt_pow_right (by decide) (by omega))
              simp only [awK, Nat.reduceMod, Nat.reduceDiv, reduceIte]
              rcases Nat.lt_or_ge j (decB s).length with h2 | h2
              · simp (config := { maxSteps := 1000000 }) (disch := ((try simp only [awL]); omega)) only [hG, QR, QS, QT, QU, QV, QW, QX, QY, QZ, Q0, Q1, Q2, ↓awU, awV, awF, Qa, Qb, Qc, Qd, forall_const, ↓reduceIte, ↓reduceDIte, ↓Qe, Qf, Qg, Qh, Qi, Qj, Qk, Ql, Qm, Qn, Qo, Qp, Qq, Qr, Qs, implies_true, Qt, Qu, Qv, Qw, Qx, Qy, Qz, QA, QB, QC, QD, QE, QF, QG, QH, QI, QJ, QK, QL, QM, QN, QO, QP, QQ]
                refine CallC.frozenE (times_spec (10 ^ j) 10 (by omega) (by rw [toW_10]; decide)) (by rw [toW_10]; rfl) ?_
                rw [← Nat.pow_succ]
                simp (config := { maxSteps := 1000000 }) (disch := ((try simp only [awL]); omega)) only [hG, QR, QS, QT, QU, QV, QW, QX, QY, QZ, Q0, Q1, Q2, ↓awU, awV, awF, Qa, Qb, Qc, Qd, forall_const, ↓reduceIte, ↓reduceDIte, ↓Qe, Qf, Qg, Qh, Qi, Qj, Qk, Ql, Qm, Qn, Qo, Qp, Qq, Qr, Qs, implies_true, Qt, Qu, Qv, Qw, Qx, Qy, Qz, QA, QB, QC, QD, QE, QF, QG, QH, QI, QJ, QK, QL, QM, QN, QO, QP, QQ]
                exact ⟨j + 1, h2, by simp only; omega, ⟨[some 0, some 1, some 2], rfl, by simp, by simp [setsA, keepA, SWeak, AWeak], by simp [HWeak, BWeak, SWeak, AWeak]⟩⟩
              · obtain rfl : j = (decB s).length := by omega
                have hd0 : ((10 ^ (decB s).length : Nat) : Int) ≠ 0 := by
                  have : 0 < 10 ^ (decB s).length := Nat.pow_pos (by decide)
                  omega
                simp (config := { maxSteps := 1000000 }) (disch := ((try simp only [awL]); omega)) only [hG, QR, QS, QT, QU, QV, QW, QX, QY, QZ, Q0, Q1, Q2, ↓awU, awV, awF, Qa, Qb, Qc, Qd, forall_const, ↓reduceIte, ↓reduceDIte, ↓Qe, Qf, Qg, Qh, Qi, Qj, Qk, Ql, Qm, Qn, Qo, Qp, Qq, Qr, Qs, implies_true, Qt, Qu, Qv, Qw, Qx, Qy, Qz, QA, QB, QC, QD, QE, QF, QG, QH, QI, QJ, QK, QL, QM, QN, QO, QP, QQ]
                refine CallC.pure (signed_spec true (decNum L) (by omega)) ?_
                simp (config := { maxSteps := 1000000 }) (disch := ((try simp only [awL]); omega)) only [hG, QR, QS, QT, QU, QV, QW, QX, QY, QZ, Q0, Q1, Q2, ↓awU, awV, awF, Qa, Qb, Qc, Qd, forall_const, ↓reduceIte, ↓reduceDIte, ↓Qe, Qf, Qg, Qh, Qi, Qj, Qk, Ql, Qm, Qn, Qo, Qp, Qq, Qr, Qs, implies_true, Qt, Qu, Qv, Qw, Qx, Qy, Qz, QA, QB, QC, QD, QE, QF, QG, QH, QI, QJ, QK, QL, QM, QN, QO, QP, QQ]
                refine CallC.pure (signed_spec false (10 ^ (decB s).length) (by omega)) ?_
                simp (config := { maxSteps := 1000000 }) (disch := ((try simp only [awL]); omega)) only [hG, QR, QS, QT, QU, QV, QW, QX, QY, QZ, Q0, Q1, Q2, ↓awU, awV, awF, Qa, Qb, Qc, Qd, forall_const, ↓reduceIte, ↓reduceDIte, ↓Qe, Qf, Qg, Qh, Qi, Qj, Qk, Ql, Qm, Qn, Qo, Qp, Qq, Qr, Qs, implies_true, Qt, Qu, Qv, Qw, Qx, Qy, Qz, QA, QB, QC, QD, QE, QF, QG, QH, QI, QJ, QK, QL, QM, QN, QO, QP, QQ]
                refine CallC.of (reduced_spec (if true = true then -(decNum L : Int) else (decNum L : Int)) ((10 ^ (decB s).length : Nat) : Int) hd0 (by simp only [sz]; split <;> simp <;> omega) (by simp only [sz, Int.natAbs_natCast]; omega)) (by rfl) ?_
                rw [← hdv]
                simp (config := { maxSteps := 1000000 }) (disch := ((try simp only [awL]); omega)) only [hG, QR, QS, QT, QU, QV, QW, QX, QY, QZ, Q0, Q1, Q2, ↓awU, awV, awF, Qa, Qb, Qc, Qd, forall_const, ↓reduceIte, ↓reduceDIte, ↓Qe, Qf, Qg, Qh, Qi, Qj, Qk, Ql, Qm, Qn, Qo, Qp, Qq, Qr, Qs, implies_true, Qt, Qu, Qv, Qw, Qx, Qy, Qz, QA, QB, QC, QD, QE, QF, QG, QH, QI, QJ, QK, QL, QM, QN, QO, QP, QQ]
                first | done | rfl
      · rw [dp, Bool.not_true, Bool.false_or] at hok
        simp (config := { maxSteps := 1000000 }) (disch := ((try simp only [awL]); omega)) only [QR, QS, QT, QU, QV, QW, QX, QY, QZ, Q0, Q1, Q2, ↓awU, awV, awF, Qa, Qb, Qc, Qd, forall_const, ↓reduceIte, ↓reduceDIte, ↓Qe, Qf, Qg, Qh, Qi, Qj, Qk, Ql, Qm, Qn, Qo, Qp, Qq, Qr, Qs, implies_true, Qt, Qu, Qv, Qw, Qx, Qy, Qz, QA, QB, QC, QD, QE, QF, QG, QH, QI, QJ, QK, QL, QM, QN, QO, QP, QQ]
        refine CallC.pure (digits_spec (decB s) 9 (by omega)) ?_
        cases d2 : digB (decB s) 9
        · rw [hok, d2]
          simp (config := { maxSteps := 1000000 }) (disch := ((try simp only [awL]); omega)) only [QR, QS, QT, QU, QV, QW, QX, QY, QZ, Q0, Q1, Q2, ↓awU, awV, awF, Qa, Qb, Qc, Qd, forall_const, ↓reduceIte, ↓reduceDIte, ↓Qe, Qf, Qg, Qh, Qi, Qj, Qk, Ql, Qm, Qn, Qo, Qp, Qq, Qr, Qs, implies_true, Qt, Qu, Qv, Qw, Qx, Qy, Qz, QA, QB, QC, QD, QE, QF, QG, QH, QI, QJ, QK, QL, QM, QN, QO, QP, QQ]
          first | done | rfl
        · rw [d2] at hok
          obtain ⟨hall, hlen, hlb⟩ := decOk_facts hok
          have hsm : ∀ i, i ≤ (decF s ++ decB s).length → (toW (decNum ((decF s ++ decB s).take i))).length ≤ 30 := fun i hi => by
            have h := decNum_lt (l := (decF s ++ decB s).take i) fun b hb => hall b (List.mem_of_mem_take hb)
            exact sz_small (Nat.lt_of_lt_of_le h (Nat.pow_le_pow_right (by decide) (by rw [List.length_take]; omega)))
          have hlt : ∀ i, i ≤ (decF s ++ decB s).length → decNum ((decF s ++ decB s).take i) * 10 < 10 ^ 30 := fun i hi => by
            have h := decNum_lt (l := (decF s ++ decB s).take i) fun b hb => hall b (List.mem_of_mem_take hb)
            have h2 : 10 ^ ((decF s ++ decB s).take i).length ≤ 10 ^ 29 := Nat.pow_le_pow_right (by decide) (by rw [List.length_take]; omega)
            have h3 : (10 : Nat) ^ 30 = 10 ^ 29 * 10 := rfl
            omega
          rw [if_pos hok, hok]
          generalize hL : decF s ++ decB s = L at *
          simp (config := { maxSteps := 1000000 }) (disch := ((try simp only [awL]); omega)) only [hG, QR, QS, QT, QU, QV, QW, QX, QY, QZ, Q0, Q1, Q2, ↓awU, awV, awF, Qa, Qb, Qc, Qd, forall_const, ↓reduceIte, ↓reduceDIte, ↓Qe, Qf, Qg, Qh, Qi, Qj, Qk, Ql, Qm, Qn, Qo, Qp, Qq, Qr, Qs, implies_true, Qt, Qu, Qv, Qw, Qx, Qy, Qz, QA, QB, QC, QD, QE, QF, QG, QH, QI, QJ, QK, QL, QM, QN, QO, QP, QQ]
          refine CallC.of (clone_spec [1] (by decide)) (by rfl) ?_
          simp (config := { maxSteps := 1000000 }) (disch := ((try simp only [awL]); omega)) only [hG, QR, QS, QT, QU, QV, QW, QX, QY, QZ, Q0, Q1, Q2, hL, cells_nums, ↓awU, awV, awF, Qa, Qb, Qc, Qd, forall_const, ↓reduceIte, ↓reduceDIte, ↓Qe, Qf, Qg, Qh, Qi, Qj, Qk, Ql, Qm, Qn, Qo, Qp, Qq, Qr, Qs, implies_true, Qt, Qu, Qv, Qw, Qx, Qy, Qz, QA, QB, QC, QD, QE, QF, QG, QH, QI, QJ, QK, QL, QM, QN, QO, QP, QQ]
          refine LoopC.fr 422212465069220 (α := Nat) (fun i => L.length - i) (fun i => [(9, .d (W (toW (decNum (L.take i))))), (49, .d (.int .i64 i))])
            (fun _ => [.box [.d (.bool false), .d (.sl 0 true []), .d (.bool false), .d (.sl 0 true [])], .row true (nats .u32 [10]), .row false (ints .u8 (nums L))]) (fun i => i ≤ L.length) 0 (Nat.zero_le _) ?_ ?_
          · exact ⟨[some 0, some 1, some 2], rfl, by simp, by simp [setsA, keepA, SWeak, AWeak, decNum, toW_zero, nats], by simp [HWeak, BWeak, SWeak, AWeak, nats]⟩
          · intro i hi
            have lt := hsm i hi
            have nl := @nums_length L
            simp only [awK, Nat.reduceMod, Nat.reduceDiv, reduceIte]
            rcases Nat.lt_or_ge i L.length with h1 | h1
            · have hb := dig_range (hall _ (mem_getDU (d := 0) h1))
              have hp := decNum_push h1
              have ls := sz_small (n := (L.getD i 0).toNat - 48) (k := 2) (by omega)
              have e48 : ((L.getD i 0).toNat : Int) - 48 = (((L.getD i 0).toNat - 48 : Nat) : Int) := by omega
              have lm : (toW (decNum (L.take i) * 10)).length ≤ 40 := sz_small (Nat.lt_of_lt_of_le (hlt i hi) (by decide))
              simp (config := { maxSteps := 1000000 }) (disch := ((try simp only [awL]); omega)) only [hG, QR, QS, QT, QU, QV, QW, QX, QY, QZ, Q0, Q1, Q2, nl, ↓awU, awV, awF, Qa, Qb, Qc, Qd, forall_const, ↓reduceIte, ↓reduceDIte, ↓Qe, Qf, Qg, Qh, Qi, Qj, Qk, Ql, Qm, Qn, Qo, Qp, Qq, Qr, Qs, implies_true, Qt, Qu, Qv, Qw, Qx, Qy, Qz, QA, QB, QC, QD, QE, QF, QG, QH, QI, QJ, QK, QL, QM, QN, QO, QP, QQ]
              refine CallC.frozenE (times_spec (decNum (L.take i)) 10 (by omega) (by rw [toW_10]; decide)) (by rw [toW_10]; rfl) ?_
              simp (config := { maxSteps := 1000000 }) (disch := ((try simp only [awL]); omega)) only [hG, QR, QS, QT, QU, QV, QW, QX, QY, QZ, Q0, Q1, Q2, nl, e48, ↓awU, awV, awF, Qa, Qb, Qc, Qd, forall_const, ↓reduceIte, ↓reduceDIte, ↓Qe, Qf, Qg, Qh, Qi, Qj, Qk, Ql, Qm, Qn, Qo, Qp, Qq, Qr, Qs, implies_true, Qt, Qu, Qv, Qw, Qx, Qy, Qz, QA, QB, QC, QD, QE, QF, QG, QH, QI, QJ, QK, QL, QM, QN, QO, QP, QQ]
              refine CallC.pure (natural_spec ((L.getD i 0).toNat - 48) (by omega)) ?_
              simp (config := { maxSteps := 1000000 }) (disch := ((try simp only [awL]); omega)) only [hG, QR, QS, QT, QU, QV, QW, QX, QY, QZ, Q0, Q1, Q2, nl, ↓awU, awV, awF, Qa, Qb, Qc, Qd, forall_const, ↓reduceIte, ↓reduceDIte, ↓Qe, Qf, Qg, Qh, Qi, Qj, Qk, Ql, Qm, Qn, Qo, Qp, Qq, Qr, Qs, implies_true, Qt, Qu, Qv, Qw, Qx, Qy, Qz, QA, QB, QC, QD, QE, QF, QG, QH, QI, QJ, QK, QL, QM, QN, QO, QP, QQ]
              refine CallC.pure (plus_spec (decNum (L.take i) * 10) ((L.getD i 0).toNat - 48) (by omega) (by omega)) ?_
              rw [hp]
              simp (config := { maxSteps := 1000000 }) (disch := ((try simp only [awL]); omega)) only [hG, QR, QS, QT, QU, QV, QW, QX, QY, QZ, Q0, Q1, Q2, nl, ↓awU, awV, awF, Qa, Qb, Qc, Qd, forall_const, ↓reduceIte, ↓reduceDIte, ↓Qe, Qf, Qg, Qh, Qi, Qj, Qk, Ql, Qm, Qn, Qo, Qp, Qq, Qr, Qs, implies_true, Qt, Qu, Qv, Qw, Qx, Qy, Qz, QA, QB, QC, QD, QE, QF, QG, QH, QI, QJ, QK, QL, QM, QN, QO, QP, QQ]
              exact ⟨i + 1, h1, by simp only; omega, ⟨[some 0, some 1, some 2], rfl, by simp, by simp [setsA, keepA, SWeak, AWeak], by simp [HWeak, BWeak, SWeak, AWeak]⟩⟩
            · obtain rfl : i = L.length := by omega
              rw [List.take_length] at *
              simp (config := { maxSteps := 1000000 }) (disch := ((try simp only [awL]); omega)) only [hG, QR, QS, QT, QU, QV, QW, QX, QY, QZ, Q0, Q1, Q2, nl, ↓awU, awV, awF, Qa, Qb, Qc, Qd, forall_const, ↓reduceIte, ↓reduceDIte, ↓Qe, Qf, Qg, Qh, Qi, Qj, Qk, Ql, Qm, Qn, Qo, Qp, Qq, Qr, Qs, implies_true, Qt, Qu, Qv, Qw, Qx, Qy, Qz, QA, QB, QC, QD, QE, QF, QG, QH, QI, QJ, QK, QL, QM, QN, QO, QP, QQ]
              refine LoopC.fr 9223372036854777380 (α := Nat) (fun j => (decB s).length - j) (fun j => [(11, .d (W (toW (10 ^ j)))), (64, .d (.int .i64 j))])
                (fun _ => [.box [.d (.bool false), .d (.sl 0 true []), .d (.bool false), .d (.sl 0 true [])], .row true (nats .u32 [10]), .row false (ints .u8 (nums L))]) (fun j => j ≤ (decB s).length) 0 (Nat.zero_le _) ?_ ?_
              · exact ⟨[some 0, some 1, some 2], rfl, by simp, by simp [setsA, keepA, SWeak, AWeak, toW_one], by simp [HWeak, BWeak, SWeak, AWeak, nats]⟩
              · intro j hj
                have lj : (toW (10 ^ j)).length ≤ 10 := sz_small (Nat.pow_lt_pow_right (by decide) (by omega))
                simp only [awK, Nat.reduceMod, Nat.reduceDiv, reduceIte]
                rcases Nat.lt_or_ge j (decB s).length with h2 | h2
                · simp (config := { maxSteps := 1000000 }) (disch := ((try simp only [awL]); omega)) only [hG, QR, QS, QT, QU, QV, QW, QX, QY, QZ, Q0, Q1, Q2, ↓awU, awV, awF, Qa, Qb, Qc, Qd, forall_const, ↓reduceIte, ↓reduceDIte, ↓Qe, Qf, Qg, Qh, Qi, Qj, Qk, Ql, Qm, Qn, Qo, Qp, Qq, Qr, Qs, implies_true, Qt, Qu, Qv, Qw, Qx, Qy, Qz, QA, QB, QC, QD, QE, QF, QG, QH, QI, QJ, QK, QL, QM, QN, QO, QP, QQ]
                  refine CallC.frozenE (times_spec (10 ^ j) 10 (by omega) (by rw [toW_10]; decide)) (by rw [toW_10]; rfl) ?_
                  rw [← Nat.pow_succ]
                  simp (config := { maxSteps := 1000000 }) (disch := ((try simp only [awL]); omega)) only [hG, QR, QS, QT, QU, QV, QW, QX, QY, QZ, Q0, Q1, Q2, ↓awU, awV, awF, Qa, Qb, Qc, Qd, forall_const, ↓reduceIte, ↓reduceDIte, ↓Qe, Qf, Qg, Qh, Qi, Qj, Qk, Ql, Qm, Qn, Qo, Qp, Qq, Qr, Qs, implies_true, Qt, Qu, Qv, Qw, Qx, Qy, Qz, QA, QB, QC, QD, QE, QF, QG, QH, QI, QJ, QK, QL, QM, QN, QO, QP, QQ]
                  exact ⟨j + 1, h2, by simp only; omega, ⟨[some 0, some 1, some 2], rfl, by simp, by simp [setsA, keepA, SWeak, AWeak], by simp [HWeak, BWeak, SWeak, AWeak]⟩⟩
                · obtain rfl : j = (decB s).length := by omega
                  have hd0 : ((10 ^ (decB s).length : Nat) : Int) ≠ 0 := by
                    have : 0 < 10 ^ (decB s).length := Nat.pow_pos (by decide)
                    omega
                  simp (config := { maxSteps := 1000000 }) (disch := ((try simp only [awL]); omega)) only [hG, QR, QS, QT, QU, QV, QW, QX, QY, QZ, Q0, Q1, Q2, ↓awU, awV, awF, Qa, Qb, Qc, Qd, forall_const, ↓reduceIte, ↓reduceDIte, ↓Qe, Qf, Qg, Qh, Qi, Qj, Qk, Ql, Qm, Qn, Qo, Qp, Qq, Qr, Qs, implies_true, Qt, Qu, Qv, Qw, Qx, Qy, Qz, QA, QB, QC, QD, QE, QF, QG, QH, QI, QJ, QK, QL, QM, QN, QO, QP, QQ]
                  refine CallC.pure (signed_spec true (decNum L) (by omega)) ?_
                  simp (config := { maxSteps := 1000000 }) (disch := ((try simp only [awL]); omega)) only [hG, QR, QS, QT, QU, QV, QW, QX, QY, QZ, Q0, Q1, Q2, ↓awU, awV, awF, Qa, Qb, Qc, Qd, forall_const, ↓reduceIte, ↓reduceDIte, ↓Qe, Qf, Qg, Qh, Qi, Qj, Qk, Ql, Qm, Qn, Qo, Qp, Qq, Qr, Qs, implies_true, Qt, Qu, Qv, Qw, Qx, Qy, Qz, QA, QB, QC, QD, QE, QF, QG, QH, QI, QJ, QK, QL, QM, QN, QO, QP, QQ]
                  refine CallC.pure (signed_spec false (10 ^ (decB s).length) (by omega)) ?_
                  simp (config := { maxSteps := 1000000 }) (disch := ((try simp only [awL]); omega)) only [hG, QR, QS, QT, QU, QV, QW, QX, QY, QZ, Q0, Q1, Q2, ↓awU, awV, awF, Qa, Qb, Qc, Qd, forall_const, ↓reduceIte, ↓reduceDIte, ↓Qe, Qf, Qg, Qh, Qi, Qj, Qk, Ql, Qm, Qn, Qo, Qp, Qq, Qr, Qs, implies_true, Qt, Qu, Qv, Qw, Qx, Qy, Qz, QA, QB, QC, QD, QE, QF, QG, QH, QI, QJ, QK, QL, QM, QN, QO, QP, QQ]
                  refine CallC.of (reduced_spec (if true = true then -(decNum L : Int) else (decNum L : Int)) ((10 ^ (decB s).length : Nat) : Int) hd0 (by simp only [sz]; split <;> simp <;> omega) (by simp only [sz, Int.natAbs_natCast]; omega)) (by rfl) ?_
                  rw [← hdv]
                  simp (config := { maxSteps := 1000000 }) (disch := ((try simp only [awL]); omega)) only [hG, QR, QS, QT, QU, QV, QW, QX, QY, QZ, Q0, Q1, Q2, ↓awU, awV, awF, Qa, Qb, Qc, Qd, forall_const, ↓reduceIte, ↓reduceDIte, ↓Qe, Qf, Qg, Qh, Qi, Qj, Qk, Ql, Qm, Qn, Qo, Qp, Qq, Qr, Qs, implies_true, Qt, Qu, Qv, Qw, Qx, Qy, Qz, QA, QB, QC, QD, QE, QF, QG, QH, QI, QJ, QK, QL, QM, QN, QO, QP, QQ]
                  first | done | rfl
end Go.Proofs.YthbnileadffpiaaGreatDoor.Num

namespace Go.Proofs.YthbnileadffpiaaGreatDoor.Num
open Go Go.Proofs Go.Abs
variable {G : Globals}
/-! The reference's parts of a decimal. -/
def isD (c : UInt8) : Prop := 48 ≤ c.toNat ∧ c.toNat ≤ 57
theorem not_isD_46 {c : UInt8} (h : isD c) : c ≠ 46 := fun e => by subst e; obtain ⟨h1, _⟩ := h; exact absurd h1 (by decide)
theorem cut_all : ∀ {b : List UInt8}, (∀ d ∈ b, isD d) → (46 : UInt8) ∉ b ∧ cutL 46 b = b ∧ cutR 46 b = []
  | b, h => by
    have hm : (46 : UInt8) ∉ b := fun hm => not_isD_46 (h _ hm) rfl
    exact ⟨hm, ((cut_index 46 b).2 hm).2⟩
end Go.Proofs.YthbnileadffpiaaGreatDoor.Num

namespace Go.Proofs.YthbnileadffpiaaGreatDoor.Num
open Go Go.Proofs Go.Abs
variable {G : Globals}
end Go.Proofs.YthbnileadffpiaaGreatDoor.Num

namespace Go.Proofs.YthbnileadffpiaaGreatDoor.Num
open Go Go.Proofs Go.Abs
variable {G : Globals}
end Go.Proofs.YthbnileadffpiaaGreatDoor.Num

namespace Go.Proofs.YthbnileadffpiaaGreatDoor.Num
open Go Go.Proofs Go.Abs
variable {G : Globals}
end Go.Proofs.YthbnileadffpiaaGreatDoor.Num

namespace Go.Proofs.YthbnileadffpiaaGreatDoor.Num
open Go Go.Proofs Go.Abs
variable {G : Globals}
end Go.Proofs.YthbnileadffpiaaGreatDoor.Num

namespace Go.Proofs.YthbnileadffpiaaGreatDoor.Num
open Go Go.Proofs Go.Abs
variable {G : Globals}
end Go.Proofs.YthbnileadffpiaaGreatDoor.Num

namespace Go.Proofs.YthbnileadffpiaaGreatDoor.Num
open Go Go.Proofs Go.Abs
variable {G : Globals}
end Go.Proofs.YthbnileadffpiaaGreatDoor.Num

namespace Go.Proofs.YthbnileadffpiaaGreatDoor.Num
open Go Go.Proofs Go.Abs
variable {G : Globals}
end Go.Proofs.YthbnileadffpiaaGreatDoor.Num

namespace Go.Proofs.YthbnileadffpiaaGreatDoor.Num
open Go Go.Proofs Go.Abs
variable {G : Globals}
/-! The reference's Decimal. -/
end Go.Proofs.YthbnileadffpiaaGreatDoor.Num

namespace Go.Proofs.YthbnileadffpiaaGreatDoor
open Go Go.Proofs Go.Abs
variable {G : Globals}
/-! Which texts are numeric: header.Number and the reference's. -/
abbrev numSet : List UInt8 := [48, 49, 50, 51, 52, 53, 54, 55, 56, 57, 46, 47, 45, 58]
def digU (b : UInt8) : Bool := decide (48 ≤ b.toNat) && decide (b.toNat ≤ 57)
def numT0 (t : List UInt8) : Bool := Num.decOk t || (match t with | [] => false | b :: _ => digU b && t.all numSet.contains)
def numB (s : List UInt8) : Bool := numT0 (Lib.trimB s 32)
set_option maxHeartbeats 1000000 in
set_option maxRecDepth 100000 in
theorem number_spec9 (hG : Num.HG G) (s : List UInt8) (hs : s.length ≤ 1000000000) : Ctr Tryz.prog G 24 [.d (S s)] [] (.d (.bool (numB s))) [] := by
  refine Ctr.pure (M := M0) hmix Tryz.func24 rfl go24 ?_
  have tl := trimB_len s
  simp (config := { maxSteps := 1000000 }) (disch := ((try simp only [awL]); omega)) only [QR, QS, QT, QU, QV, QW, QX, QY, QZ, Q0, Q1, Q2, Tryz.f24, ↓awU, awV, awF, Qa, Qb, Qc, Qd, forall_const, ↓reduceIte, ↓reduceDIte, ↓Qe, Qf, Qg, Qh, Qi, Qj, Qk, Ql, Qm, Qn, Qo, Qp, Qq, Qr, Qs, implies_true, Qt, Qu, Qv, Qw, Qx, Qy, Qz, QA, QB, QC, QD, QE, QF, QG, QH, QI, QJ, QK, QL, QM, QN, QO, QP, QQ]
  refine CallC.pure (ttrim_spec s (by omega)) ?_
  rw [show numB s = numT0 (Lib.trimB s 32) from rfl]
  generalize Lib.trimB s 32 = t at *
  simp (config := { maxSteps := 1000000 }) (disch := ((try simp only [awL]); omega)) only [QR, QS, QT, QU, QV, QW, QX, QY, QZ, Q0, Q1, Q2, ↓awU, awV, awF, Qa, Qb, Qc, Qd, forall_const, ↓reduceIte, ↓reduceDIte, ↓Qe, Qf, Qg, Qh, Qi, Qj, Qk, Ql, Qm, Qn, Qo, Qp, Qq, Qr, Qs, implies_true, Qt, Qu, Qv, Qw, Qx, Qy, Qz, QA, QB, QC, QD, QE, QF, QG, QH, QI, QJ, QK, QL, QM, QN, QO, QP, QQ]
  refine CallC.pure (Num.decimalF_spec hG t (by omega)) ?_
  obtain ⟨r, hr⟩ : ∃ r, r = numT0 t := ⟨_, rfl⟩
  rw [← hr]
  unfold numT0 at hr
  cases d1 : Num.decOk t
  · rw [d1, Bool.false_or] at hr
    simp (config := { maxSteps := 1000000 }) (disch := ((try simp only [awL]); omega)) only [QR, QS, QT, QU, QV, QW, QX, QY, QZ, Q0, Q1, Q2, ↓awU, awV, awF, Qa, Qb, Qc, Qd, forall_const, ↓reduceIte, ↓reduceDIte, ↓Qe, Qf, Qg, Qh, Qi, Qj, Qk, Ql, Qm, Qn, Qo, Qp, Qq, Qr, Qs, implies_true, Qt, Qu, Qv, Qw, Qx, Qy, Qz, QA, QB, QC, QD, QE, QF, QG, QH, QI, QJ, QK, QL, QM, QN, QO, QP, QQ]
    rcases t with _ | ⟨b, u⟩
    · subst hr
      simp (config := { maxSteps := 1000000 }) (disch := ((try simp only [awL]); omega)) only [QR, QS, QT, QU, QV, QW, QX, QY, QZ, Q0, Q1, Q2, List.length_nil, ↓awU, awV, awF, Qa, Qb, Qc, Qd, forall_const, ↓reduceIte, ↓reduceDIte, ↓Qe, Qf, Qg, Qh, Qi, Qj, Qk, Ql, Qm, Qn, Qo, Qp, Qq, Qr, Qs, implies_true, Qt, Qu, Qv, Qw, Qx, Qy, Qz, QA, QB, QC, QD, QE, QF, QG, QH, QI, QJ, QK, QL, QM, QN, QO, QP, QQ]
      first | done | rfl
    · have gb : (b :: u).getD 0 0 = b := rfl
      simp (config := { maxSteps := 1000000 }) (disch := ((try simp only [awL]); omega)) only [QR, QS, QT, QU, QV, QW, QX, QY, QZ, Q0, Q1, Q2, List.length_cons, gb, ↓awU, awV, awF, Qa, Qb, Qc, Qd, forall_const, ↓reduceIte, ↓reduceDIte, ↓Qe, Qf, Qg, Qh, Qi, Qj, Qk, Ql, Qm, Qn, Qo, Qp, Qq, Qr, Qs, implies_true, Qt, Qu, Qv, Qw, Qx, Qy, Qz, QA, QB, QC, QD, QE, QF, QG, QH, QI, QJ, QK, QL, QM, QN, QO, QP, QQ]
      have hr' : r = (digU b && (b :: u).all numSet.contains) := hr
      clear hr
      refine ⟨fun h0 => ⟨fun h1 => ⟨fun h2 => ?_, fun h2 => ?_⟩, fun h1 => ?_⟩, fun h0 => by cases h0⟩
      · refine CallC.by (L := []) (Num.trim_spec (b :: u) numSet (by simp only [List.length_cons] at tl ⊢; omega) (by simp) (by simp) (by decide)) (by rfl) (by rfl) (by simp) ?_
        have du : digU b = true := by unfold digU; rw [decide_eq_true (by omega : 48 ≤ b.toNat), decide_eq_true (by omega : b.toNat ≤ 57)]; rfl
        rw [du, Bool.true_and] at hr'
        have e : r = decide (Num.trimL numSet (Num.trimR numSet (b :: u)) = []) := by
          rw [hr']
          by_cases h : (b :: u).all numSet.contains = true
          · rw [h, decide_eq_true (Num.trim_nil.2 h)]
          · rw [decide_eq_false (fun h' => h (Num.trim_nil.1 h'))]; simpa using h
        rw [e]
        simp (config := { maxSteps := 1000000 }) (disch := ((try simp only [awL]); omega)) only [QR, QS, QT, QU, QV, QW, QX, QY, QZ, Q0, Q1, Q2, ↓awU, awV, awF, Qa, Qb, Qc, Qd, forall_const, ↓reduceIte, ↓reduceDIte, ↓Qe, Qf, Qg, Qh, Qi, Qj, Qk, Ql, Qm, Qn, Qo, Qp, Qq, Qr, Qs, implies_true, Qt, Qu, Qv, Qw, Qx, Qy, Qz, QA, QB, QC, QD, QE, QF, QG, QH, QI, QJ, QK, QL, QM, QN, QO, QP, QQ]
        first | done | rfl
      · have du : digU b = false := by unfold digU; rw [decide_eq_false (by omega : ¬ b.toNat ≤ 57), Bool.and_false]
        rw [hr', du]; rfl
      · have du : digU b = false := by unfold digU; rw [decide_eq_false (by omega : ¬ 48 ≤ b.toNat), Bool.false_and]
        rw [hr', du]; rfl
  · rw [d1, Bool.true_or] at hr
    subst hr
    simp (config := { maxSteps := 1000000 }) (disch := ((try simp only [awL]); omega)) only [QR, QS, QT, QU, QV, QW, QX, QY, QZ, Q0, Q1, Q2, ↓awU, awV, awF, Qa, Qb, Qc, Qd, forall_const, ↓reduceIte, ↓reduceDIte, ↓Qe, Qf, Qg, Qh, Qi, Qj, Qk, Ql, Qm, Qn, Qo, Qp, Qq, Qr, Qs, implies_true, Qt, Qu, Qv, Qw, Qx, Qy, Qz, QA, QB, QC, QD, QE, QF, QG, QH, QI, QJ, QK, QL, QM, QN, QO, QP, QQ]
    first | done | rfl
end Go.Proofs.YthbnileadffpiaaGreatDoor

namespace Go.Proofs.YthbnileadffpiaaGreatDoor
open Go Go.Proofs Go.Abs
variable {G : Globals}
/-! The sanity check. -/
end Go.Proofs.YthbnileadffpiaaGreatDoor

namespace Go.Proofs.YthbnileadffpiaaGreatDoor
open Go Go.Proofs Go.Abs
/-! Code points of joined texts; what trimming leaves. -/
/-! Trimming. -/
theorem trimL_split : ∀ l : List UInt8, ∃ m, l = List.replicate m 32 ++ Lib.trimLeftB l 32
  | [] => ⟨0, rfl⟩
  | c :: t => by
    by_cases h : c = 32
    · obtain ⟨m, e⟩ := trimL_split t
      refine ⟨m + 1, ?_⟩
      have e2 : Lib.trimLeftB (c :: t) 32 = Lib.trimLeftB t 32 := by simp [Lib.trimLeftB, h]
      rw [e2, List.replicate_succ, List.cons_append, ← e, h]
    · exact ⟨0, by simp [Lib.trimLeftB, h]⟩
theorem trimR_split (l : List UInt8) : ∃ n, l = Lib.trimRightB l 32 ++ List.replicate n 32 := by
  obtain ⟨m, e⟩ := trimL_split l.reverse
  refine ⟨m, ?_⟩
  have := congrArg List.reverse e
  rw [List.reverse_reverse, List.reverse_append, List.reverse_replicate] at this
  exact this
theorem trim_split (l : List UInt8) : ∃ m n, l = List.replicate m 32 ++ (Lib.trimB l 32 ++ List.replicate n 32) := by
  obtain ⟨n, e⟩ := trimR_split l
  obtain ⟨m, e2⟩ := trimL_split (Lib.trimRightB l 32)
  refine ⟨m, n, ?_⟩
  rw [← List.append_assoc]
  show l = List.replicate m 32 ++ Lib.trimLeftB (Lib.trimRightB l 32) 32 ++ List.replicate n 32
  rw [← e2, ← e]
theorem trimL_head {l : List UInt8} : (Lib.trimLeftB l 32).head? ≠ some 32 := by
  induction l with
  | nil => simp [Lib.trimLeftB]
  | cons c t ih =>
    by_cases h : c = 32
    · have e2 : Lib.trimLeftB (c :: t) 32 = Lib.trimLeftB t 32 := by simp [Lib.trimLeftB, h]
      rw [e2]; exact ih
    · simp [Lib.trimLeftB, h]
theorem trimL_id {l : List UInt8} (h : l.head? ≠ some 32) : Lib.trimLeftB l 32 = l := by
  cases l with
  | nil => rfl
  | cons c t =>
    have : ¬ c = 32 := fun e => h (by rw [e]; rfl)
    simp [Lib.trimLeftB, this]
theorem trimR_id {l : List UInt8} (h : l.getLast? ≠ some 32) : Lib.trimRightB l 32 = l := by
  have := trimL_id (l := l.reverse) (by rw [List.head?_reverse]; exact h)
  show (Lib.trimLeftB l.reverse 32).reverse = l
  rw [this, List.reverse_reverse]
theorem trimR_last (l : List UInt8) : (Lib.trimRightB l 32).getLast? ≠ some 32 := by
  show ((Lib.trimLeftB l.reverse 32).reverse).getLast? ≠ some 32
  rw [List.getLast?_reverse]; exact trimL_head
theorem trim_ends (l : List UInt8) : (Lib.trimB l 32).head? ≠ some 32 ∧ (Lib.trimB l 32).getLast? ≠ some 32 := by
  refine ⟨trimL_head, ?_⟩
  rw [← trim_comm]
  exact trimR_last _
theorem trim_id {l : List UInt8} (h1 : l.head? ≠ some 32) (h2 : l.getLast? ≠ some 32) : Lib.trimB l 32 = l := by
  show Lib.trimLeftB (Lib.trimRightB l 32) 32 = l
  rw [trimR_id h2, trimL_id h1]
theorem trim_idem (l : List UInt8) : Lib.trimB (Lib.trimB l 32) 32 = Lib.trimB l 32 := trim_id (trim_ends l).1 (trim_ends l).2
theorem valid_left : ∀ (m : Nat) {x : List UInt8}, Lib.validD (List.replicate m 32 ++ x) = true → Lib.validD x = true
  | 0, x, h => by simpa using h
  | m + 1, x, h => by
    rw [List.replicate_succ, List.cons_append, Lib.validD_cons _ _ (by decide)] at h
    exact valid_left m h
theorem valid_right : ∀ (n : Nat) {x : List UInt8}, Lib.validD (x ++ List.replicate n 32) = true → Lib.validD x = true
  | 0, x, h => by simpa using h
  | n + 1, x, h => by
    rw [List.replicate_succ] at h
    exact (valid_cutA (by decide) _ x _ rfl h).1
theorem valid_trim {x : List UInt8} (h : Lib.validD x = true) : Lib.validD (Lib.trimB x 32) = true := by
  obtain ⟨m, n, e⟩ := trim_split x
  rw [e] at h
  exact valid_right n (valid_left m h)
end Go.Proofs.YthbnileadffpiaaGreatDoor

namespace Go.Proofs.YthbnileadffpiaaGreatDoor
open Go Go.Proofs Go.Abs
variable {G : Globals}
/-! Which columns are numeric, which texts are names. -/
def nameB (s : List UInt8) : Bool := !decide (Lib.trimB s 32 = []) && !numB s
def numsR (k : Int) : List Row → Bool → Bool
  | [], sm => sm
  | r :: g, sm => if Lib.trimB (atG [r] 0 k) 32 = [] then numsR k g sm else if numB (atG [r] 0 k) = true then numsR k g true else false
def numsB (g : List Row) (k : Int) (from_ : Nat) : Bool := numsR k (g.drop from_) false
theorem atG_one (g : List Row) (i : Nat) (k : Int) : atG [g.getD i []] 0 k = atG g i k := by
  unfold atG
  by_cases h : k < 0
  · rw [if_pos (.inr h), if_pos (.inr h)]
  · rw [if_neg (by omega), if_neg (by omega)]; simp
theorem numB_trim (s : List UInt8) : numB (Lib.trimB s 32) = numB s := by rw [numB, numB, trim_idem]
theorem numsR_step {g : List Row} {i : Nat} (h : i < g.length) (k : Int) (sm : Bool) :
    numsR k (g.drop i) sm = if Lib.trimB (atG g i k) 32 = [] then numsR k (g.drop (i + 1)) sm else if numB (atG g i k) = true then numsR k (g.drop (i + 1)) true else false := by
  have e : g.drop i = g.getD i [] :: g.drop (i + 1) := by rw [List.drop_eq_getElem_cons h, List.getD_eq_getElem?_getD, List.getElem?_eq_getElem h]; rfl
  rw [e, numsR, atG_one]
theorem numsR_end {g : List Row} {i : Nat} (h : g.length ≤ i) (k : Int) (sm : Bool) : numsR k (g.drop i) sm = sm := by rw [List.drop_eq_nil_of_le h]; rfl
theorem atG_len {g : List Row} {m : Nat} (h : ∀ r ∈ g, ∀ s ∈ r, s.length ≤ m) (i k : Int) : (atG g i k).length ≤ m := by
  unfold atG
  split
  · simp
  · rcases Nat.lt_or_ge i.toNat g.length with h1 | h1
    · have m1 := h _ (memD (d := []) h1)
      generalize g.getD i.toNat [] = r at *
      rcases Nat.lt_or_ge k.toNat r.length with h2 | h2
      · exact m1 _ (memD (d := []) h2)
      · rw [List.getD_eq_getElem?_getD, List.getElem?_eq_none h2]; simp
    · have e : g.getD i.toNat [] = [] := by rw [List.getD_eq_getElem?_getD, List.getElem?_eq_none h1]; rfl
      rw [e]; simp
theorem okGrid.at {g : List Row} (h : okGrid g) (i k : Int) : (atG g i k).length ≤ 1000000000 := atG_len (fun r hr s hs => (h.2 r hr).2 s hs) i k
set_option maxHeartbeats 1000000 in
set_option maxRecDepth 100000 in
theorem name_spec (hG : Num.HG G) (s : List UInt8) (hs : s.length ≤ 1000000000) : Ctr Tryz.prog G 39 [.d (S s)] [] (.d (.bool (nameB s))) [] := by
  refine Ctr.pure (M := M0) hmix Tryz.func39 rfl go39 ?_
  simp (config := { maxSteps := 1000000 }) (disch := ((try simp only [awL]); omega)) only [QR, QS, QT, QU, QV, QW, QX, QY, QZ, Q0, Q1, Q2, Tryz.f39, ↓awU, awV, awF, Qa, Qb, Qc, Qd, forall_const, ↓reduceIte, ↓reduceDIte, ↓Qe, Qf, Qg, Qh, Qi, Qj, Qk, Ql, Qm, Qn, Qo, Qp, Qq, Qr, Qs, implies_true, Qt, Qu, Qv, Qw, Qx, Qy, Qz, QA, QB, QC, QD, QE, QF, QG, QH, QI, QJ, QK, QL, QM, QN, QO, QP, QQ]
  refine CallC.pure (ttrim_spec s (by omega)) ?_
  obtain ⟨r, hr⟩ : ∃ r, r = nameB s := ⟨_, rfl⟩
  rw [← hr]
  unfold nameB at hr
  generalize Lib.trimB s 32 = t at *
  rcases t with _ | ⟨b, u⟩
  · subst hr
    simp (config := { maxSteps := 1000000 }) (disch := ((try simp only [awL]); omega)) only [QR, QS, QT, QU, QV, QW, QX, QY, QZ, Q0, Q1, Q2, ↓awU, awV, awF, Qa, Qb, Qc, Qd, forall_const, ↓reduceIte, ↓reduceDIte, ↓Qe, Qf, Qg, Qh, Qi, Qj, Qk, Ql, Qm, Qn, Qo, Qp, Qq, Qr, Qs, implies_true, Qt, Qu, Qv, Qw, Qx, Qy, Qz, QA, QB, QC, QD, QE, QF, QG, QH, QI, QJ, QK, QL, QM, QN, QO, QP, QQ]
    first | done | rfl
  · have e : ¬ b :: u = [] := by simp
    rw [decide_eq_false e, Bool.not_false, Bool.true_and] at hr
    simp (config := { maxSteps := 1000000 }) (disch := ((try simp only [awL]); omega)) only [QR, QS, QT, QU, QV, QW, QX, QY, QZ, Q0, Q1, Q2, e, ↓awU, awV, awF, Qa, Qb, Qc, Qd, forall_const, ↓reduceIte, ↓reduceDIte, ↓Qe, Qf, Qg, Qh, Qi, Qj, Qk, Ql, Qm, Qn, Qo, Qp, Qq, Qr, Qs, implies_true, Qt, Qu, Qv, Qw, Qx, Qy, Qz, QA, QB, QC, QD, QE, QF, QG, QH, QI, QJ, QK, QL, QM, QN, QO, QP, QQ]
    refine CallC.pure (number_spec9 hG s hs) ?_
    subst hr
    simp (config := { maxSteps := 1000000 }) (disch := ((try simp only [awL]); omega)) only [QR, QS, QT, QU, QV, QW, QX, QY, QZ, Q0, Q1, Q2, ↓awU, awV, awF, Qa, Qb, Qc, Qd, forall_const, ↓reduceIte, ↓reduceDIte, ↓Qe, Qf, Qg, Qh, Qi, Qj, Qk, Ql, Qm, Qn, Qo, Qp, Qq, Qr, Qs, implies_true, Qt, Qu, Qv, Qw, Qx, Qy, Qz, QA, QB, QC, QD, QE, QF, QG, QH, QI, QJ, QK, QL, QM, QN, QO, QP, QQ]
    first | done | rfl
set_option maxHeartbeats 4000000 in
set_option maxRecDepth 100000 in
theorem numbers_spec (hG : Num.HG G) (g : List Row) (full : Bool) (hg : okGrid g) (k : Nat) (hk : k ≤ 1000000000) (m : Nat) (hm : m ≤ 1000000000) :
    Ctr Tryz.prog G 37 [.d (.agg [Gr g full]), .d (.int .i64 k), .d (.int .i64 m)] [] (.d (.bool (numsB g k m))) [] := by
  obtain ⟨r, hr⟩ : ∃ r, r = numsB g k m := ⟨_, rfl⟩
  rw [← hr]
  unfold numsB at hr
  refine Ctr.pure (M := M0) hmix Tryz.func37 rfl go37 ?_
  have gl := @rowsD_length g
  have hgl := hg.1
  simp (config := { maxSteps := 1000000 }) (disch := ((try simp only [awL]); omega)) only [QR, QS, QT, QU, QV, QW, QX, QY, QZ, Q0, Q1, Q2, Tryz.f37, ↓awU, awV, awF, Qa, Qb, Qc, Qd, forall_const, ↓reduceIte, ↓reduceDIte, ↓Qe, Qf, Qg, Qh, Qi, Qj, Qk, Ql, Qm, Qn, Qo, Qp, Qq, Qr, Qs, implies_true, Qt, Qu, Qv, Qw, Qx, Qy, Qz, QA, QB, QC, QD, QE, QF, QG, QH, QI, QJ, QK, QL, QM, QN, QO, QP, QQ]
  refine LoopC.fr 10 (α := Bool × Nat) (fun x => g.length - x.2) (fun x => [(7, .d (.bool x.1)), (8, .d (.int .i64 (x.2 : Nat)))]) (fun _ => [.box [.d (Gr g full)]]) (fun x => x.2 ≤ 1000000000 ∧ r = numsR k (g.drop x.2) x.1) (false, m) ⟨hm, hr⟩ ?_ ?_
  · exact ⟨[some 0], rfl, by simp, by simp [setsA, keepA, SWeak, AWeak], by simp [HWeak, BWeak, SWeak, AWeak]⟩
  · rintro ⟨c, i⟩ ⟨hi, e⟩
    simp only [awK, Nat.reduceMod, Nat.reduceDiv, reduceIte]
    rcases Nat.lt_or_ge i g.length with h3 | h3
    · rw [numsR_step h3] at e
      have al := hg.at i k
      simp (config := { maxSteps := 1000000 }) (disch := ((try simp only [awL]); omega)) only [QR, QS, QT, QU, QV, QW, QX, QY, QZ, Q0, Q1, Q2, gl, ↓awU, awV, awF, Qa, Qb, Qc, Qd, forall_const, ↓reduceIte, ↓reduceDIte, ↓Qe, Qf, Qg, Qh, Qi, Qj, Qk, Ql, Qm, Qn, Qo, Qp, Qq, Qr, Qs, implies_true, Qt, Qu, Qv, Qw, Qx, Qy, Qz, QA, QB, QC, QD, QE, QF, QG, QH, QI, QJ, QK, QL, QM, QN, QO, QP, QQ]
      refine CallC.pure (gat_spec g false hg.w i k (by omega) (by omega) (by omega) (by omega)) ?_
      generalize atG g i k = s at *
      simp (config := { maxSteps := 1000000 }) (disch := ((try simp only [awL]); omega)) only [QR, QS, QT, QU, QV, QW, QX, QY, QZ, Q0, Q1, Q2, ↓awU, awV, awF, Qa, Qb, Qc, Qd, forall_const, ↓reduceIte, ↓reduceDIte, ↓Qe, Qf, Qg, Qh, Qi, Qj, Qk, Ql, Qm, Qn, Qo, Qp, Qq, Qr, Qs, implies_true, Qt, Qu, Qv, Qw, Qx, Qy, Qz, QA, QB, QC, QD, QE, QF, QG, QH, QI, QJ, QK, QL, QM, QN, QO, QP, QQ]
      refine CallC.pure (ttrim_spec s (by omega)) ?_
      by_cases h4 : Lib.trimB s 32 = []
      · rw [if_pos h4] at e
        rw [h4]
        simp (config := { maxSteps := 1000000 }) (disch := ((try simp only [awL]); omega)) only [QR, QS, QT, QU, QV, QW, QX, QY, QZ, Q0, Q1, Q2, ↓awU, awV, awF, Qa, Qb, Qc, Qd, forall_const, ↓reduceIte, ↓reduceDIte, ↓Qe, Qf, Qg, Qh, Qi, Qj, Qk, Ql, Qm, Qn, Qo, Qp, Qq, Qr, Qs, implies_true, Qt, Qu, Qv, Qw, Qx, Qy, Qz, QA, QB, QC, QD, QE, QF, QG, QH, QI, QJ, QK, QL, QM, QN, QO, QP, QQ]
        exact ⟨(c, i + 1), ⟨by simp only; omega, e⟩, by simp only; omega, ⟨[some 0], rfl, by simp, by simp [setsA, keepA, SWeak, AWeak], by simp [HWeak, BWeak, SWeak, AWeak]⟩⟩
      · rw [if_neg h4] at e
        simp (config := { maxSteps := 1000000 }) (disch := ((try simp only [awL]); omega)) only [QR, QS, QT, QU, QV, QW, QX, QY, QZ, Q0, Q1, Q2, h4, ↓awU, awV, awF, Qa, Qb, Qc, Qd, forall_const, ↓reduceIte, ↓reduceDIte, ↓Qe, Qf, Qg, Qh, Qi, Qj, Qk, Ql, Qm, Qn, Qo, Qp, Qq, Qr, Qs, implies_true, Qt, Qu, Qv, Qw, Qx, Qy, Qz, QA, QB, QC, QD, QE, QF, QG, QH, QI, QJ, QK, QL, QM, QN, QO, QP, QQ]
        refine CallC.pure (number_spec9 hG s al) ?_
        cases h5 : numB s
        · rw [h5, if_neg (by simp)] at e
          subst e
          simp (config := { maxSteps := 1000000 }) (disch := ((try simp only [awL]); omega)) only [QR, QS, QT, QU, QV, QW, QX, QY, QZ, Q0, Q1, Q2, ↓awU, awV, awF, Qa, Qb, Qc, Qd, forall_const, ↓reduceIte, ↓reduceDIte, ↓Qe, Qf, Qg, Qh, Qi, Qj, Qk, Ql, Qm, Qn, Qo, Qp, Qq, Qr, Qs, implies_true, Qt, Qu, Qv, Qw, Qx, Qy, Qz, QA, QB, QC, QD, QE, QF, QG, QH, QI, QJ, QK, QL, QM, QN, QO, QP, QQ]
          first | done | rfl
        · rw [h5, if_pos rfl] at e
          simp (config := { maxSteps := 1000000 }) (disch := ((try simp only [awL]); omega)) only [QR, QS, QT, QU, QV, QW, QX, QY, QZ, Q0, Q1, Q2, ↓awU, awV, awF, Qa, Qb, Qc, Qd, forall_const, ↓reduceIte, ↓reduceDIte, ↓Qe, Qf, Qg, Qh, Qi, Qj, Qk, Ql, Qm, Qn, Qo, Qp, Qq, Qr, Qs, implies_true, Qt, Qu, Qv, Qw, Qx, Qy, Qz, QA, QB, QC, QD, QE, QF, QG, QH, QI, QJ, QK, QL, QM, QN, QO, QP, QQ]
          exact ⟨(true, i + 1), ⟨by simp only; omega, e⟩, by simp only; omega, ⟨[some 0], rfl, by simp, by simp [setsA, keepA, SWeak, AWeak], by simp [HWeak, BWeak, SWeak, AWeak]⟩⟩
    · rw [numsR_end h3] at e
      subst e
      simp (config := { maxSteps := 1000000 }) (disch := ((try simp only [awL]); omega)) only [QR, QS, QT, QU, QV, QW, QX, QY, QZ, Q0, Q1, Q2, gl, ↓awU, awV, awF, Qa, Qb, Qc, Qd, forall_const, ↓reduceIte, ↓reduceDIte, ↓Qe, Qf, Qg, Qh, Qi, Qj, Qk, Ql, Qm, Qn, Qo, Qp, Qq, Qr, Qs, implies_true, Qt, Qu, Qv, Qw, Qx, Qy, Qz, QA, QB, QC, QD, QE, QF, QG, QH, QI, QJ, QK, QL, QM, QN, QO, QP, QQ]
      first | done | rfl
end Go.Proofs.YthbnileadffpiaaGreatDoor

namespace Go.Proofs.YthbnileadffpiaaGreatDoor
open Go Go.Proofs Go.Abs
/-! What was written in a layout is read back. -/
theorem LayI.mono {l : List Nat} (h : LayI l) : ∀ i, i + 1 < l.length → l.getD i 0 ≤ l.getD (i + 1) 0 := fun i hi => Nat.le_of_lt (h.2.2.2.2 i hi)
theorem LayI.le {l : List Nat} (h : LayI l) (i : Nat) : l.getD i 0 ≤ 48 := getD_le (fun i hi => by have := h.2.2.2.1 i hi; have := h.2.2.1; omega) i
theorem LayI.pos {l : List Nat} (h : LayI l) : 0 < l.length := List.length_pos_iff.2 h.1
end Go.Proofs.YthbnileadffpiaaGreatDoor

namespace Go.Proofs.YthbnileadffpiaaGreatDoor
open Go Go.Proofs Go.Abs
variable {G : Globals}
/-! The law FixedBack. -/
end Go.Proofs.YthbnileadffpiaaGreatDoor

namespace Go.Proofs.YthbnileadffpiaaGreatDoor
open Go Go.Proofs Go.Abs
variable {G : Globals}
/-! The law FixedSteps. -/
end Go.Proofs.YthbnileadffpiaaGreatDoor

namespace Go.Proofs.YthbnileadffpiaaGreatDoor
open Go Go.Proofs Go.Abs
variable {G : Globals}
/-! The options: their order. -/
def cmpI (x y : Int) : Int := if x < y then -1 else if y < x then 1 else 0
theorem isNaN_spec (x : Int) : Ctr Tryz.prog G 58 [.d (.int .i64 x)] [] (.d (.bool false)) [] := by
  refine Ctr.pure (M := M0) hmix Tryz.func58 rfl go58 ?_
  simp (config := { maxSteps := 1000000 }) (disch := ((try simp only [awL]); omega)) only [QR, QS, QT, QU, QV, QW, QX, QY, QZ, Q0, Q1, Q2, Tryz.f58, ↓awU, awV, awF, Qa, Qb, Qc, Qd, forall_const, ↓reduceIte, ↓reduceDIte, ↓Qe, Qf, Qg, Qh, Qi, Qj, Qk, Ql, Qm, Qn, Qo, Qp, Qq, Qr, Qs, implies_true, Qt, Qu, Qv, Qw, Qx, Qy, Qz, QA, QB, QC, QD, QE, QF, QG, QH, QI, QJ, QK, QL, QM, QN, QO, QP, QQ]
  try rfl
theorem compare_spec (x y : Int) : Ctr Tryz.prog G 34 [.d (.int .i64 x), .d (.int .i64 y)] [] (.d (.int .i64 (cmpI x y))) [] := by
  refine Ctr.pure (M := M0) hmix Tryz.func34 rfl go34 ?_
  obtain ⟨r, hr⟩ : ∃ r, r = cmpI x y := ⟨_, rfl⟩
  rw [← hr]
  unfold cmpI at hr
  simp (config := { maxSteps := 1000000 }) (disch := ((try simp only [awL]); omega)) only [QR, QS, QT, QU, QV, QW, QX, QY, QZ, Q0, Q1, Q2, Tryz.f34, ↓awU, awV, awF, Qa, Qb, Qc, Qd, forall_const, ↓reduceIte, ↓reduceDIte, ↓Qe, Qf, Qg, Qh, Qi, Qj, Qk, Ql, Qm, Qn, Qo, Qp, Qq, Qr, Qs, implies_true, Qt, Qu, Qv, Qw, Qx, Qy, Qz, QA, QB, QC, QD, QE, QF, QG, QH, QI, QJ, QK, QL, QM, QN, QO, QP, QQ]
  refine CallC.pure (isNaN_spec x) ?_
  simp (config := { maxSteps := 1000000 }) (disch := ((try simp only [awL]); omega)) only [QR, QS, QT, QU, QV, QW, QX, QY, QZ, Q0, Q1, Q2, ↓awU, awV, awF, Qa, Qb, Qc, Qd, forall_const, ↓reduceIte, ↓reduceDIte, ↓Qe, Qf, Qg, Qh, Qi, Qj, Qk, Ql, Qm, Qn, Qo, Qp, Qq, Qr, Qs, implies_true, Qt, Qu, Qv, Qw, Qx, Qy, Qz, QA, QB, QC, QD, QE, QF, QG, QH, QI, QJ, QK, QL, QM, QN, QO, QP, QQ]
  refine CallC.pure (isNaN_spec y) ?_
  rcases (by omega : x < y ∨ y < x ∨ (¬ x < y ∧ ¬ y < x)) with h | h | ⟨h1, h2⟩
  · rw [if_pos h] at hr
    simp (config := { maxSteps := 1000000 }) (disch := ((try simp only [awL]); omega)) only [QR, QS, QT, QU, QV, QW, QX, QY, QZ, Q0, Q1, Q2, ↓awU, awV, awF, Qa, Qb, Qc, Qd, forall_const, ↓reduceIte, ↓reduceDIte, ↓Qe, Qf, Qg, Qh, Qi, Qj, Qk, Ql, Qm, Qn, Qo, Qp, Qq, Qr, Qs, implies_true, Qt, Qu, Qv, Qw, Qx, Qy, Qz, QA, QB, QC, QD, QE, QF, QG, QH, QI, QJ, QK, QL, QM, QN, QO, QP, QQ]
    all_goals rw [hr]
  · rw [if_neg (by omega), if_pos h] at hr
    simp (config := { maxSteps := 1000000 }) (disch := ((try simp only [awL]); omega)) only [QR, QS, QT, QU, QV, QW, QX, QY, QZ, Q0, Q1, Q2, ↓awU, awV, awF, Qa, Qb, Qc, Qd, forall_const, ↓reduceIte, ↓reduceDIte, ↓Qe, Qf, Qg, Qh, Qi, Qj, Qk, Ql, Qm, Qn, Qo, Qp, Qq, Qr, Qs, implies_true, Qt, Qu, Qv, Qw, Qx, Qy, Qz, QA, QB, QC, QD, QE, QF, QG, QH, QI, QJ, QK, QL, QM, QN, QO, QP, QQ]
    all_goals rw [hr]
  · rw [if_neg h1, if_neg h2] at hr
    simp (config := { maxSteps := 1000000 }) (disch := ((try simp only [awL]); omega)) only [QR, QS, QT, QU, QV, QW, QX, QY, QZ, Q0, Q1, Q2, ↓awU, awV, awF, Qa, Qb, Qc, Qd, forall_const, ↓reduceIte, ↓reduceDIte, ↓Qe, Qf, Qg, Qh, Qi, Qj, Qk, Ql, Qm, Qn, Qo, Qp, Qq, Qr, Qs, implies_true, Qt, Qu, Qv, Qw, Qx, Qy, Qz, QA, QB, QC, QD, QE, QF, QG, QH, QI, QJ, QK, QL, QM, QN, QO, QP, QQ]
    all_goals rw [hr]
structure Opt where
  txt : List UInt8
  fr : Nat
  ag : Nat
  wd : Nat
abbrev Opt.cells (o : Opt) : List D := [S o.txt, .int .i64 o.fr, .int .i64 o.ag]
def optC (l : List Opt) : List D := l.flatMap Opt.cells
end Go.Proofs.YthbnileadffpiaaGreatDoor

namespace Go.Proofs.YthbnileadffpiaaGreatDoor
open Go Go.Proofs Go.Abs
variable {G : Globals}
/-! The options: sorting a few of them. -/
def noO : Opt := ⟨[], 0, 0, 0⟩
theorem optC_length : ∀ l : List Opt, (optC l).length = 3 * l.length
  | [] => rfl
  | o :: l => by
    have ih := optC_length l
    simp only [optC, List.flatMap_cons, List.length_append, List.length_cons, List.length_nil] at ih ⊢
    omega
theorem optC_get : ∀ {l : List Opt} {k : Nat}, k < l.length → ((optC l).drop (k * 3)).take 3 = (l.getD k noO).cells
  | [], k, h => absurd h (Nat.not_lt_zero _)
  | o :: l, 0, _ => by simp [optC]
  | o :: l, k + 1, h => by
    have ih := optC_get (l := l) (k := k) (by simpa using h)
    have e : (k + 1) * 3 = k * 3 + 3 := by omega
    have e2 : optC (o :: l) = S o.txt :: .int .i64 o.fr :: .int .i64 o.ag :: optC l := rfl
    rw [e, e2]
    simpa using ih
theorem optC_app (a b : List Opt) : optC (a ++ b) = optC a ++ optC b := by simp [optC]
theorem optC_take (l : List Opt) (k : Nat) : (optC l).take (k * 3) = optC (l.take k) := by
  rcases Nat.lt_or_ge k l.length with h | h
  · conv => lhs; rw [← List.take_append_drop k l, optC_app]
    rw [List.take_append_of_le_length (by rw [optC_length, List.length_take]; omega), List.take_of_length_le (by rw [optC_length, List.length_take]; omega)]
  · rw [List.take_of_length_le (by rw [optC_length]; omega), List.take_of_length_le h]
theorem optC_drop (l : List Opt) (k : Nat) : (optC l).drop (k * 3) = optC (l.drop k) := by
  rcases Nat.lt_or_ge k l.length with h | h
  · conv => lhs; rw [← List.take_append_drop k l, optC_app]
    rw [List.drop_append_of_le_length (by rw [optC_length, List.length_take]; omega), List.drop_of_length_le (by rw [optC_length, List.length_take]; omega), List.nil_append]
  · rw [List.drop_of_length_le (by rw [optC_length]; omega), List.drop_of_length_le h]; rfl
theorem optC_set {l : List Opt} {k : Nat} (x : Opt) (h : k < l.length) : (optC l).take (k * 3) ++ x.cells ++ (optC l).drop (k * 3 + 3) = optC (l.set k x) := by
  rw [List.set_eq_take_append_cons_drop, if_pos h, optC_app, optC_take, show k * 3 + 3 = (k + 1) * 3 by omega, optC_drop, List.append_assoc]
  rfl
end Go.Proofs.YthbnileadffpiaaGreatDoor

namespace Go.Proofs.YthbnileadffpiaaGreatDoor
open Go Go.Proofs Go.Abs
variable {G : Globals}
/-! The options: sorted by slices.SortFunc. -/
end Go.Proofs.YthbnileadffpiaaGreatDoor

namespace Go.Proofs.YthbnileadffpiaaGreatDoor
open Go Go.Proofs Go.Abs
variable {G : Globals}
/-! The options of a file: fixed.Options. -/
def cols (c : List Opt) : List (D × D) := c.map fun o => (S o.txt, .int .i64 o.wd)
theorem bs_beq {a b : List UInt8} : (bs a == bs b) = decide (a = b) := by
  have e : (bs a == bs b) = (a.toArray == b.toArray) := rfl
  rw [e]
  by_cases h : a = b
  · subst h; simp
  · rw [decide_eq_false h]
    exact beq_eq_false_iff_ne.2 fun q => h (by simpa using q)
theorem optC_push (a : List Opt) (o : Opt) : optC a ++ o.cells = optC (a ++ [o]) := by rw [optC_app]; simp [optC]
end Go.Proofs.YthbnileadffpiaaGreatDoor

namespace Go.Proofs.YthbnileadffpiaaGreatDoor
open Go Go.Proofs Go.Abs
variable {G : Globals}
/-! The options of a file: the reference's Options. -/
end Go.Proofs.YthbnileadffpiaaGreatDoor

namespace Go.Proofs.YthbnileadffpiaaGreatDoor
open Go Go.Proofs Go.Abs
variable {G : Globals}
/-! Maps with texts as keys; the evidence of a number of header rows, and the program's Evidence. -/
def updR (k d : D) : List (D × D) → List (D × D)
  | [] => [(k, d)]
  | x :: r => if keyEq k x.1 = true then (k, d) :: r else x :: updR k d r
theorem updE_R (k d : D) : ∀ m : List (D × D), updE m k d = updR k d m
  | [] => rfl
  | x :: r => by
    have ih := updE_R k d r
    unfold updE at ih ⊢
    rw [findE, updR]
    by_cases h : keyEq k x.1 = true
    · rw [if_pos h, if_pos h]; rfl
    · rw [if_neg h, if_neg h]
      cases hf : findE k r with
      | none => rw [hf] at ih; simp only [Option.map_none]; rw [← ih]; rfl
      | some y => rw [hf] at ih; simp only [Option.map_some]; rw [← ih]; rfl
theorem keyEq_S (a b : List UInt8) : keyEq (S a) (S b) = decide (a = b) := bs_beq
/-- All keys are texts. -/
def KeyS (m : List (D × D)) : Prop := ∀ e ∈ m, ∃ s, e.1 = S s
theorem KeyS.nil : KeyS [] := fun _ h => by cases h
theorem KeyS.upd {m : List (D × D)} (h : KeyS m) (t : List UInt8) (d : D) : KeyS (updE m (S t) d) := by
  rw [updE_R]
  induction m with
  | nil => intro e he; exact ⟨t, by simp [updR] at he; rw [he]⟩
  | cons x r ih =>
    have i2 := ih fun e he => h e (List.mem_cons_of_mem _ he)
    intro e he
    rw [updR] at he
    split at he
    · rcases List.mem_cons.1 he with rfl | he
      · exact ⟨t, rfl⟩
      · exact h e (List.mem_cons_of_mem _ he)
    · rcases List.mem_cons.1 he with rfl | he
      · exact h _ (by simp)
      · exact i2 e he
theorem KeyS.ok {m : List (D × D)} (h : KeyS m) : keysOK Tryz.prog 9 m = true := by
  unfold keysOK
  refine List.all_eq_true.2 fun e he => ?_
  obtain ⟨s, hs⟩ := h e he
  rw [hs]
  unfold isKeyD
  rw [ti9]
  rfl
theorem look_upd {m : List (D × D)} (h : KeyS m) (z d : D) (s t : List UInt8) : lookV z (updE m (S t) d) (S s) false = if s = t then d else lookV z m (S s) false := by
  rw [updE_R]
  induction m with
  | nil =>
    have e1 : findE (S s) (updR (S t) d []) = if keyEq (S s) (S t) = true then some (0, d) else none := rfl
    unfold lookV
    rw [e1, keyEq_S]
    by_cases e : s = t
    · rw [if_pos e, if_pos (by simpa using e)]; rfl
    · rw [if_neg e, if_neg (by simpa using e)]; rfl
  | cons x r ih =>
    have i2 := ih fun e he => h e (List.mem_cons_of_mem _ he)
    obtain ⟨c, hc⟩ := h x (by simp)
    have look_cons : ∀ (y : D × D) (l : List (D × D)) (c : List UInt8), y.1 = S c → lookV z (y :: l) (S s) false = if s = c then y.2 else lookV z l (S s) false := by
      intro y l c hy
      unfold lookV
      rw [findE, hy, keyEq_S]
      by_cases e : s = c
      · rw [if_pos e, if_pos (by simpa using e)]; rfl
      · rw [if_neg e, if_neg (by simpa using e)]
        cases findE (S s) l <;> rfl
    rw [updR, hc, keyEq_S]
    by_cases e : t = c
    · rw [if_pos (by simpa using e), look_cons _ _ t rfl, look_cons _ _ c hc, ← e]
      by_cases e2 : s = t
      · rw [if_pos e2, if_pos e2]
      · rw [if_neg e2, if_neg e2, if_neg e2]
    · rw [if_neg (by simpa using e), look_cons _ _ c hc, look_cons _ _ c hc, i2]
      by_cases e2 : s = c
      · rw [if_pos e2, if_neg (by rw [e2]; exact fun q => e q.symm), if_pos e2]
      · rw [if_neg e2, if_neg e2]
/-- The last header's texts of the first k columns. -/
def lastR (g : List Row) (n k : Nat) : Row := (List.range k).map fun (i : Nat) => Lib.trimB (atG g ((n : Int) - 1) i) 32
theorem lastR_succ (g : List Row) (n k : Nat) : lastR g n (k + 1) = lastR g n k ++ [Lib.trimB (atG g ((n : Int) - 1) k) 32] := by
  unfold lastR; rw [List.range_succ, List.map_append]; rfl
def proB (g : List Row) (n k : Nat) : Bool := if n = 0 then numsB g k 0 && numB (atG g 0 k) else numsB g k n && nameB (Lib.trimB (atG g ((n : Int) - 1) k) 32)
def conB (g : List Row) (n k : Nat) : Bool := if n = 0 then nameB (atG g 0 k) && numsB g k 1
  else !nameB (Lib.trimB (atG g ((n : Int) - 1) k) 32) || decide (Lib.trimB (atG g ((n : Int) - 1) k) 32 ∈ lastR g n k)
def cntB (f : Nat → Bool) : Nat → Nat
  | 0 => 0
  | k + 1 => cntB f k + (if f k = true then 1 else 0)
theorem cntB_le (f : Nat → Bool) : ∀ k, cntB f k ≤ k
  | 0 => Nat.le_refl _
  | k + 1 => by have := cntB_le f k; rw [cntB]; split <;> omega
def evN (g : List Row) (n : Nat) : Opt := ⟨Lib.decDigits n, cntB (proB g n) (widG g), cntB (conB g n) (widG g), n⟩
def evG (g : List Row) (n : Int) : Opt := if n < 0 ∨ 3 < n ∨ (g.length : Int) < n then ⟨[], 0, 0, 0⟩ else evN g n.toNat
theorem okGrid.wid {g : List Row} (h : okGrid g) : widG g ≤ 1000000000 := widG_le fun r hr => (h.2 r hr).1
def EvI (g : List Row) (m : Nat) (x : Nat × List (D × D)) : Prop := x.1 ≤ widG g ∧ KeyS x.2 ∧ (m = 0 ∨ ∀ s, lookV (.bool false) x.2 (S s) false = .bool (decide (s ∈ lastR g m x.1)))
theorem EvI.z {g : List Row} {k : Nat} {mp : List (D × D)} (h : k ≤ widG g) (hm : KeyS mp) : EvI g 0 (k, mp) := ⟨h, hm, .inl rfl⟩
theorem EvI.s {g : List Row} {m k : Nat} {mp : List (D × D)} {l : List UInt8} (h : k + 1 ≤ widG g) (hm : KeyS mp) (hl : ∀ s, lookV (.bool false) mp (S s) false = .bool (decide (s ∈ lastR g m k))) (e : l = Lib.trimB (atG g ((m : Int) - 1) k) 32) :
    EvI g m (k + 1, updE mp (S l) (.bool true)) := ⟨h, hm.upd _ _, .inr fun s => by
  rw [look_upd hm, hl s, lastR_succ, ← e]
  by_cases q : s = l
  · rw [if_pos q, decide_eq_true (by simp [q])]
  · rw [if_neg q]; congr 1; exact decide_eq_decide.2 (by simp [q])⟩
set_option maxHeartbeats 16000000 in
set_option maxRecDepth 100000 in
theorem evidence_spec (hG : Num.HG G) (hI : HI G) (g : List Row) (full : Bool) (hg : okGrid g) (n : Int) (n1 : -9223372036854775808 ≤ n) (n2 : n ≤ 9223372036854775807) :
    Ctr Tryz.prog G 14 [.d (.agg [Gr g full]), .d (.int .i64 n)] [] (.d (.agg (evG g n).cells)) [] := by
  obtain ⟨r, hr⟩ : ∃ r, r = evG g n := ⟨_, rfl⟩
  rw [← hr]
  unfold evG at hr
  refine Ctr.pure (M := M0) hmix Tryz.func14 rfl go14 ?_
  have gl := @rowsD_length g
  have hgl := hg.1
  have hw := hg.wid
  rcases (by omega : n < 0 ∨ 3 < n ∨ (0 ≤ n ∧ n ≤ 3 ∧ (g.length : Int) < n) ∨ (0 ≤ n ∧ n ≤ 3 ∧ n ≤ g.length)) with h | h | h | h
  · rw [if_pos (by omega)] at hr
    subst hr
    simp (config := { maxSteps := 1000000 }) (disch := ((try simp only [awL]); omega)) only [QR, QS, QT, QU, QV, QW, QX, QY, QZ, Q0, Q1, Q2, gl, Tryz.f14, ↓awU, awV, awF, Qa, Qb, Qc, Qd, forall_const, ↓reduceIte, ↓reduceDIte, ↓Qe, Qf, Qg, Qh, Qi, Qj, Qk, Ql, Qm, Qn, Qo, Qp, Qq, Qr, Qs, implies_true, Qt, Qu, Qv, Qw, Qx, Qy, Qz, QA, QB, QC, QD, QE, QF, QG, QH, QI, QJ, QK, QL, QM, QN, QO, QP, QQ]
    first | done | rfl
  · rw [if_pos (by omega)] at hr
    subst hr
    simp (config := { maxSteps := 1000000 }) (disch := ((try simp only [awL]); omega)) only [QR, QS, QT, QU, QV, QW, QX, QY, QZ, Q0, Q1, Q2, gl, Tryz.f14, ↓awU, awV, awF, Qa, Qb, Qc, Qd, forall_const, ↓reduceIte, ↓reduceDIte, ↓Qe, Qf, Qg, Qh, Qi, Qj, Qk, Ql, Qm, Qn, Qo, Qp, Qq, Qr, Qs, implies_true, Qt, Qu, Qv, Qw, Qx, Qy, Qz, QA, QB, QC, QD, QE, QF, QG, QH, QI, QJ, QK, QL, QM, QN, QO, QP, QQ]
    first | done | rfl
  · rw [if_pos (by omega)] at hr
    subst hr
    simp (config := { maxSteps := 1000000 }) (disch := ((try simp only [awL]); omega)) only [QR, QS, QT, QU, QV, QW, QX, QY, QZ, Q0, Q1, Q2, gl, Tryz.f14, ↓awU, awV, awF, Qa, Qb, Qc, Qd, forall_const, ↓reduceIte, ↓reduceDIte, ↓Qe, Qf, Qg, Qh, Qi, Qj, Qk, Ql, Qm, Qn, Qo, Qp, Qq, Qr, Qs, implies_true, Qt, Qu, Qv, Qw, Qx, Qy, Qz, QA, QB, QC, QD, QE, QF, QG, QH, QI, QJ, QK, QL, QM, QN, QO, QP, QQ]
    first | done | rfl
  · obtain ⟨m, rfl⟩ : ∃ m : Nat, n = m := ⟨n.toNat, by omega⟩
    rw [if_neg (by omega), Int.toNat_natCast] at hr
    simp (config := { maxSteps := 1000000 }) (disch := ((try simp only [awL]); omega)) only [QR, QS, QT, QU, QV, QW, QX, QY, QZ, Q0, Q1, Q2, gl, Tryz.f14, ↓awU, awV, awF, Qa, Qb, Qc, Qd, forall_const, ↓reduceIte, ↓reduceDIte, ↓Qe, Qf, Qg, Qh, Qi, Qj, Qk, Ql, Qm, Qn, Qo, Qp, Qq, Qr, Qs, implies_true, Qt, Qu, Qv, Qw, Qx, Qy, Qz, QA, QB, QC, QD, QE, QF, QG, QH, QI, QJ, QK, QL, QM, QN, QO, QP, QQ]
    refine CallC.pure (hI m (by omega)) ?_
    simp (config := { maxSteps := 1000000 }) (disch := ((try simp only [awL]); omega)) only [QR, QS, QT, QU, QV, QW, QX, QY, QZ, Q0, Q1, Q2, gl, ↓awU, awV, awF, Qa, Qb, Qc, Qd, forall_const, ↓reduceIte, ↓reduceDIte, ↓Qe, Qf, Qg, Qh, Qi, Qj, Qk, Ql, Qm, Qn, Qo, Qp, Qq, Qr, Qs, implies_true, Qt, Qu, Qv, Qw, Qx, Qy, Qz, QA, QB, QC, QD, QE, QF, QG, QH, QI, QJ, QK, QL, QM, QN, QO, QP, QQ]
    refine CallC.pure (width_spec g false hg.w) ?_
    simp (config := { maxSteps := 1000000 }) (disch := ((try simp only [awL]); omega)) only [QR, QS, QT, QU, QV, QW, QX, QY, QZ, Q0, Q1, Q2, gl, ↓awU, awV, awF, Qa, Qb, Qc, Qd, forall_const, ↓reduceIte, ↓reduceDIte, ↓Qe, Qf, Qg, Qh, Qi, Qj, Qk, Ql, Qm, Qn, Qo, Qp, Qq, Qr, Qs, implies_true, Qt, Qu, Qv, Qw, Qx, Qy, Qz, QA, QB, QC, QD, QE, QF, QG, QH, QI, QJ, QK, QL, QM, QN, QO, QP, QQ]
    refine LoopC.fr 2147483766 (α := Nat × List (D × D)) (fun x => widG g - x.1) (fun x => [(32, .d (.int .i64 (x.1 : Nat)))])
      (fun x => [.box [.d (Gr g full)], .box [.d (.str ByteArray.empty), .d (.int .i64 0), .d (.int .i64 0)], .box [.d (S (Lib.decDigits m)), .d (.int .i64 (cntB (proB g m) x.1 : Nat)), .d (.int .i64 (cntB (conB g m) x.1 : Nat))], .map x.2])
      (EvI g m) (0, []) ⟨Nat.zero_le _, KeyS.nil, .inr fun s => rfl⟩ ?_ ?_
    · exact ⟨[some 0, some 1, some 2, some 3], rfl, by simp, by simp [setsA, keepA, SWeak, AWeak], by simp [HWeak, BWeak, SWeak, AWeak, cntB]⟩
    · rintro ⟨k, mp⟩ ⟨hk, hm1, hm2⟩
      have ok1 := hm1.ok
      have le1 := cntB_le (proB g m) k
      have le2 := cntB_le (conB g m) k
      simp only [awK, Nat.reduceMod, Nat.reduceDiv, reduceIte]
      rcases Nat.lt_or_ge k (widG g) with h3 | h3
      · have c1 : cntB (proB g m) (k + 1) = cntB (proB g m) k + (if proB g m k = true then 1 else 0) := rfl
        have c2 : cntB (conB g m) (k + 1) = cntB (conB g m) k + (if conB g m k = true then 1 else 0) := rfl
        obtain ⟨p, hp⟩ : ∃ p, p = proB g m k := ⟨_, rfl⟩
        obtain ⟨q, hq⟩ : ∃ q, q = conB g m k := ⟨_, rfl⟩
        rw [← hp] at c1
        rw [← hq] at c2
        unfold proB at hp
        unfold conB at hq
        have fin : ∀ m2 : List (D × D), True := fun _ => trivial
        simp (config := { maxSteps := 1000000 }) (disch := ((try simp only [awL]); omega)) only [QR, QS, QT, QU, QV, QW, QX, QY, QZ, Q0, Q1, Q2, gl, ↓awU, awV, awF, Qa, Qb, Qc, Qd, forall_const, ↓reduceIte, ↓reduceDIte, ↓Qe, Qf, Qg, Qh, Qi, Qj, Qk, Ql, Qm, Qn, Qo, Qp, Qq, Qr, Qs, implies_true, Qt, Qu, Qv, Qw, Qx, Qy, Qz, QA, QB, QC, QD, QE, QF, QG, QH, QI, QJ, QK, QL, QM, QN, QO, QP, QQ]
        refine CallC.pure (numbers_spec hG g false hg k (by omega) m (by omega)) ?_
        generalize cntB (proB g m) k = x1 at *
        generalize cntB (conB g m) k = x2 at *
        simp (config := { maxSteps := 1000000 }) (disch := ((try simp only [awL]); omega)) only [QR, QS, QT, QU, QV, QW, QX, QY, QZ, Q0, Q1, Q2, gl, ↓awU, awV, awF, Qa, Qb, Qc, Qd, forall_const, ↓reduceIte, ↓reduceDIte, ↓Qe, Qf, Qg, Qh, Qi, Qj, Qk, Ql, Qm, Qn, Qo, Qp, Qq, Qr, Qs, implies_true, Qt, Qu, Qv, Qw, Qx, Qy, Qz, QA, QB, QC, QD, QE, QF, QG, QH, QI, QJ, QK, QL, QM, QN, QO, QP, QQ]
        refine CallC.pure (gat_spec g false hg.w 0 k (by omega) (by omega) (by omega) (by omega)) ?_
        by_cases h0 : m = 0
        · subst h0
          rw [if_pos rfl] at hp hq
          cases e1 : numsB g k 0
          · rw [e1, Bool.false_and] at hp
            simp (config := { maxSteps := 1000000 }) (disch := ((try simp only [awL]); omega)) only [QR, QS, QT, QU, QV, QW, QX, QY, QZ, Q0, Q1, Q2, gl, ↓awU, awV, awF, Qa, Qb, Qc, Qd, forall_const, ↓reduceIte, ↓reduceDIte, ↓Qe, Qf, Qg, Qh, Qi, Qj, Qk, Ql, Qm, Qn, Qo, Qp, Qq, Qr, Qs, implies_true, Qt, Qu, Qv, Qw, Qx, Qy, Qz, QA, QB, QC, QD, QE, QF, QG, QH, QI, QJ, QK, QL, QM, QN, QO, QP, QQ]
            refine CallC.pure (name_spec hG (atG g 0 k) (hg.at _ _)) ?_
            cases e2 : nameB (atG g 0 k)
            · rw [e2, Bool.false_and] at hq
              subst hp hq
              simp (config := { maxSteps := 1000000 }) (disch := ((try simp only [awL]); omega)) only [QR, QS, QT, QU, QV, QW, QX, QY, QZ, Q0, Q1, Q2, gl, ↓awU, awV, awF, Qa, Qb, Qc, Qd, forall_const, ↓reduceIte, ↓reduceDIte, ↓Qe, Qf, Qg, Qh, Qi, Qj, Qk, Ql, Qm, Qn, Qo, Qp, Qq, Qr, Qs, implies_true, Qt, Qu, Qv, Qw, Qx, Qy, Qz, QA, QB, QC, QD, QE, QF, QG, QH, QI, QJ, QK, QL, QM, QN, QO, QP, QQ]
              exact ⟨(k + 1, mp), EvI.z (by omega) hm1, by simp only; omega, ⟨[some 0, some 1, some 2, some 3], rfl, by simp, by simp [setsA, keepA, SWeak, AWeak], by simp [HWeak, BWeak, SWeak, AWeak, c1, c2]⟩⟩
            · rw [e2, Bool.true_and] at hq
              simp (config := { maxSteps := 1000000 }) (disch := ((try simp only [awL]); omega)) only [QR, QS, QT, QU, QV, QW, QX, QY, QZ, Q0, Q1, Q2, gl, ↓awU, awV, awF, Qa, Qb, Qc, Qd, forall_const, ↓reduceIte, ↓reduceDIte, ↓Qe, Qf, Qg, Qh, Qi, Qj, Qk, Ql, Qm, Qn, Qo, Qp, Qq, Qr, Qs, implies_true, Qt, Qu, Qv, Qw, Qx, Qy, Qz, QA, QB, QC, QD, QE, QF, QG, QH, QI, QJ, QK, QL, QM, QN, QO, QP, QQ]
              refine CallC.pure (numbers_spec hG g false hg k (by omega) 1 (by omega)) ?_
              cases e3 : numsB g k 1
              · rw [e3] at hq
                subst hp hq
                simp (config := { maxSteps := 1000000 }) (disch := ((try simp only [awL]); omega)) only [QR, QS, QT, QU, QV, QW, QX, QY, QZ, Q0, Q1, Q2, gl, ↓awU, awV, awF, Qa, Qb, Qc, Qd, forall_const, ↓reduceIte, ↓reduceDIte, ↓Qe, Qf, Qg, Qh, Qi, Qj, Qk, Ql, Qm, Qn, Qo, Qp, Qq, Qr, Qs, implies_true, Qt, Qu, Qv, Qw, Qx, Qy, Qz, QA, QB, QC, QD, QE, QF, QG, QH, QI, QJ, QK, QL, QM, QN, QO, QP, QQ]
                exact ⟨(k + 1, mp), EvI.z (by omega) hm1, by simp only; omega, ⟨[some 0, some 1, some 2, some 3], rfl, by simp, by simp [setsA, keepA, SWeak, AWeak], by simp [HWeak, BWeak, SWeak, AWeak, c1, c2]⟩⟩
              · rw [e3] at hq
                subst hp hq
                simp (config := { maxSteps := 1000000 }) (disch := ((try simp only [awL]); omega)) only [QR, QS, QT, QU, QV, QW, QX, QY, QZ, Q0, Q1, Q2, gl, ↓awU, awV, awF, Qa, Qb, Qc, Qd, forall_const, ↓reduceIte, ↓reduceDIte, ↓Qe, Qf, Qg, Qh, Qi, Qj, Qk, Ql, Qm, Qn, Qo, Qp, Qq, Qr, Qs, implies_true, Qt, Qu, Qv, Qw, Qx, Qy, Qz, QA, QB, QC, QD, QE, QF, QG, QH, QI, QJ, QK, QL, QM, QN, QO, QP, QQ]
                exact ⟨(k + 1, mp), EvI.z (by omega) hm1, by simp only; omega, ⟨[some 0, some 1, some 2, some 3], rfl, by simp, by simp [setsA, keepA, SWeak, AWeak], by simp [HWeak, BWeak, SWeak, AWeak, c1, c2]⟩⟩
          · rw [e1, Bool.true_and] at hp
            simp (config := { maxSteps := 1000000 }) (disch := ((try simp only [awL]); omega)) only [QR, QS, QT, QU, QV, QW, QX, QY, QZ, Q0, Q1, Q2, gl, ↓awU, awV, awF, Qa, Qb, Qc, Qd, forall_const, ↓reduceIte, ↓reduceDIte, ↓Qe, Qf, Qg, Qh, Qi, Qj, Qk, Ql, Qm, Qn, Qo, Qp, Qq, Qr, Qs, implies_true, Qt, Qu, Qv, Qw, Qx, Qy, Qz, QA, QB, QC, QD, QE, QF, QG, QH, QI, QJ, QK, QL, QM, QN, QO, QP, QQ]
            refine CallC.pure (number_spec9 hG (atG g 0 k) (hg.at _ _)) ?_
            cases e4 : numB (atG g 0 k)
            · rw [e4] at hp
              simp (config := { maxSteps := 1000000 }) (disch := ((try simp only [awL]); omega)) only [QR, QS, QT, QU, QV, QW, QX, QY, QZ, Q0, Q1, Q2, gl, ↓awU, awV, awF, Qa, Qb, Qc, Qd, forall_const, ↓reduceIte, ↓reduceDIte, ↓Qe, Qf, Qg, Qh, Qi, Qj, Qk, Ql, Qm, Qn, Qo, Qp, Qq, Qr, Qs, implies_true, Qt, Qu, Qv, Qw, Qx, Qy, Qz, QA, QB, QC, QD, QE, QF, QG, QH, QI, QJ, QK, QL, QM, QN, QO, QP, QQ]
              refine CallC.pure (name_spec hG (atG g 0 k) (hg.at _ _)) ?_
              cases e2 : nameB (atG g 0 k)
              · rw [e2, Bool.false_and] at hq
                subst hp hq
                simp (config := { maxSteps := 1000000 }) (disch := ((try simp only [awL]); omega)) only [QR, QS, QT, QU, QV, QW, QX, QY, QZ, Q0, Q1, Q2, gl, ↓awU, awV, awF, Qa, Qb, Qc, Qd, forall_const, ↓reduceIte, ↓reduceDIte, ↓Qe, Qf, Qg, Qh, Qi, Qj, Qk, Ql, Qm, Qn, Qo, Qp, Qq, Qr, Qs, implies_true, Qt, Qu, Qv, Qw, Qx, Qy, Qz, QA, QB, QC, QD, QE, QF, QG, QH, QI, QJ, QK, QL, QM, QN, QO, QP, QQ]
                exact ⟨(k + 1, mp), EvI.z (by omega) hm1, by simp only; omega, ⟨[some 0, some 1, some 2, some 3], rfl, by simp, by simp [setsA, keepA, SWeak, AWeak], by simp [HWeak, BWeak, SWeak, AWeak, c1, c2]⟩⟩
              · rw [e2, Bool.true_and] at hq
                simp (config := { maxSteps := 1000000 }) (disch := ((try simp only [awL]); omega)) only [QR, QS, QT, QU, QV, QW, QX, QY, QZ, Q0, Q1, Q2, gl, ↓awU, awV, awF, Qa, Qb, Qc, Qd, forall_const, ↓reduceIte, ↓reduceDIte, ↓Qe, Qf, Qg, Qh, Qi, Qj, Qk, Ql, Qm, Qn, Qo, Qp, Qq, Qr, Qs, implies_true, Qt, Qu, Qv, Qw, Qx, Qy, Qz, QA, QB, QC, QD, QE, QF, QG, QH, QI, QJ, QK, QL, QM, QN, QO, QP, QQ]
                refine CallC.pure (numbers_spec hG g false hg k (by omega) 1 (by omega)) ?_
                cases e3 : numsB g k 1
                · rw [e3] at hq
                  subst hp hq
                  simp (config := { maxSteps := 1000000 }) (disch := ((try simp only [awL]); omega)) only [QR, QS, QT, QU, QV, QW, QX, QY, QZ, Q0, Q1, Q2, gl, ↓awU, awV, awF, Qa, Qb, Qc, Qd, forall_const, ↓reduceIte, ↓reduceDIte, ↓Qe, Qf, Qg, Qh, Qi, Qj, Qk, Ql, Qm, Qn, Qo, Qp, Qq, Qr, Qs, implies_true, Qt, Qu, Qv, Qw, Qx, Qy, Qz, QA, QB, QC, QD, QE, QF, QG, QH, QI, QJ, QK, QL, QM, QN, QO, QP, QQ]
                  exact ⟨(k + 1, mp), EvI.z (by omega) hm1, by simp only; omega, ⟨[some 0, some 1, some 2, some 3], rfl, by simp, by simp [setsA, keepA, SWeak, AWeak], by simp [HWeak, BWeak, SWeak, AWeak, c1, c2]⟩⟩
                · rw [e3] at hq
                  subst hp hq
                  simp (config := { maxSteps := 1000000 }) (disch := ((try simp only [awL]); omega)) only [QR, QS, QT, QU, QV, QW, QX, QY, QZ, Q0, Q1, Q2, gl, ↓awU, awV, awF, Qa, Qb, Qc, Qd, forall_const, ↓reduceIte, ↓reduceDIte, ↓Qe, Qf, Qg, Qh, Qi, Qj, Qk, Ql, Qm, Qn, Qo, Qp, Qq, Qr, Qs, implies_true, Qt, Qu, Qv, Qw, Qx, Qy, Qz, QA, QB, QC, QD, QE, QF, QG, QH, QI, QJ, QK, QL, QM, QN, QO, QP, QQ]
                  exact ⟨(k + 1, mp), EvI.z (by omega) hm1, by simp only; omega, ⟨[some 0, some 1, some 2, some 3], rfl, by simp, by simp [setsA, keepA, SWeak, AWeak], by simp [HWeak, BWeak, SWeak, AWeak, c1, c2]⟩⟩
            · rw [e4] at hp
              simp (config := { maxSteps := 1000000 }) (disch := ((try simp only [awL]); omega)) only [QR, QS, QT, QU, QV, QW, QX, QY, QZ, Q0, Q1, Q2, gl, ↓awU, awV, awF, Qa, Qb, Qc, Qd, forall_const, ↓reduceIte, ↓reduceDIte, ↓Qe, Qf, Qg, Qh, Qi, Qj, Qk, Ql, Qm, Qn, Qo, Qp, Qq, Qr, Qs, implies_true, Qt, Qu, Qv, Qw, Qx, Qy, Qz, QA, QB, QC, QD, QE, QF, QG, QH, QI, QJ, QK, QL, QM, QN, QO, QP, QQ]
              refine CallC.pure (name_spec hG (atG g 0 k) (hg.at _ _)) ?_
              cases e2 : nameB (atG g 0 k)
              · rw [e2, Bool.false_and] at hq
                subst hp hq
                simp (config := { maxSteps := 1000000 }) (disch := ((try simp only [awL]); omega)) only [QR, QS, QT, QU, QV, QW, QX, QY, QZ, Q0, Q1, Q2, gl, ↓awU, awV, awF, Qa, Qb, Qc, Qd, forall_const, ↓reduceIte, ↓reduceDIte, ↓Qe, Qf, Qg, Qh, Qi, Qj, Qk, Ql, Qm, Qn, Qo, Qp, Qq, Qr, Qs, implies_true, Qt, Qu, Qv, Qw, Qx, Qy, Qz, QA, QB, QC, QD, QE, QF, QG, QH, QI, QJ, QK, QL, QM, QN, QO, QP, QQ]
                exact ⟨(k + 1, mp), EvI.z (by omega) hm1, by simp only; omega, ⟨[some 0, some 1, some 2, some 3], rfl, by simp, by simp [setsA, keepA, SWeak, AWeak], by simp [HWeak, BWeak, SWeak, AWeak, c1, c2]⟩⟩
              · rw [e2, Bool.true_and] at hq
                simp (config := { maxSteps := 1000000 }) (disch := ((try simp only [awL]); omega)) only [QR, QS, QT, QU, QV, QW, QX, QY, QZ, Q0, Q1, Q2, gl, ↓awU, awV, awF, Qa, Qb, Qc, Qd, forall_const, ↓reduceIte, ↓reduceDIte, ↓Qe, Qf, Qg, Qh, Qi, Qj, Qk, Ql, Qm, Qn, Qo, Qp, Qq, Qr, Qs, implies_true, Qt, Qu, Qv, Qw, Qx, Qy, Qz, QA, QB, QC, QD, QE, QF, QG, QH, QI, QJ, QK, QL, QM, QN, QO, QP, QQ]
                refine CallC.pure (numbers_spec hG g false hg k (by omega) 1 (by omega)) ?_
                cases e3 : numsB g k 1
                · rw [e3] at hq
                  subst hp hq
                  simp (config := { maxSteps := 1000000 }) (disch := ((try simp only [awL]); omega)) only [QR, QS, QT, QU, QV, QW, QX, QY, QZ, Q0, Q1, Q2, gl, ↓awU, awV, awF, Qa, Qb, Qc, Qd, forall_const, ↓reduceIte, ↓reduceDIte, ↓Qe, Qf, Qg, Qh, Qi, Qj, Qk, Ql, Qm, Qn, Qo, Qp, Qq, Qr, Qs, implies_true, Qt, Qu, Qv, Qw, Qx, Qy, Qz, QA, QB, QC, QD, QE, QF, QG, QH, QI, QJ, QK, QL, QM, QN, QO, QP, QQ]
                  exact ⟨(k + 1, mp), EvI.z (by omega) hm1, by simp only; omega, ⟨[some 0, some 1, some 2, some 3], rfl, by simp, by simp [setsA, keepA, SWeak, AWeak], by simp [HWeak, BWeak, SWeak, AWeak, c1, c2]⟩⟩
                · rw [e3] at hq
                  subst hp hq
                  simp (config := { maxSteps := 1000000 }) (disch := ((try simp only [awL]); omega)) only [QR, QS, QT, QU, QV, QW, QX, QY, QZ, Q0, Q1, Q2, gl, ↓awU, awV, awF, Qa, Qb, Qc, Qd, forall_const, ↓reduceIte, ↓reduceDIte, ↓Qe, Qf, Qg, Qh, Qi, Qj, Qk, Ql, Qm, Qn, Qo, Qp, Qq, Qr, Qs, implies_true, Qt, Qu, Qv, Qw, Qx, Qy, Qz, QA, QB, QC, QD, QE, QF, QG, QH, QI, QJ, QK, QL, QM, QN, QO, QP, QQ]
                  exact ⟨(k + 1, mp), EvI.z (by omega) hm1, by simp only; omega, ⟨[some 0, some 1, some 2, some 3], rfl, by simp, by simp [setsA, keepA, SWeak, AWeak], by simp [HWeak, BWeak, SWeak, AWeak, c1, c2]⟩⟩
        · skip
          rw [if_neg h0] at hp hq
          have hm3 := hm2.resolve_left h0
          obtain ⟨l, hl0⟩ : ∃ l, l = Lib.trimB (atG g ((m : Int) - 1) k) 32 := ⟨_, rfl⟩
          have tl := trimB_len (atG g ((m : Int) - 1) k)
          have al := hg.at ((m : Int) - 1) k
          rw [← hl0] at hp hq tl
          have hl := hm3 l
          simp (config := { maxSteps := 1000000 }) (disch := ((try simp only [awL]); omega)) only [QR, QS, QT, QU, QV, QW, QX, QY, QZ, Q0, Q1, Q2, gl, ↓awU, awV, awF, Qa, Qb, Qc, Qd, forall_const, ↓reduceIte, ↓reduceDIte, ↓Qe, Qf, Qg, Qh, Qi, Qj, Qk, Ql, Qm, Qn, Qo, Qp, Qq, Qr, Qs, implies_true, Qt, Qu, Qv, Qw, Qx, Qy, Qz, QA, QB, QC, QD, QE, QF, QG, QH, QI, QJ, QK, QL, QM, QN, QO, QP, QQ]
          refine CallC.pure (gat_spec g false hg.w ((m : Int) - 1) k (by omega) (by omega) (by omega) (by omega)) ?_
          simp (config := { maxSteps := 1000000 }) (disch := ((try simp only [awL]); omega)) only [QR, QS, QT, QU, QV, QW, QX, QY, QZ, Q0, Q1, Q2, gl, ↓awU, awV, awF, Qa, Qb, Qc, Qd, forall_const, ↓reduceIte, ↓reduceDIte, ↓Qe, Qf, Qg, Qh, Qi, Qj, Qk, Ql, Qm, Qn, Qo, Qp, Qq, Qr, Qs, implies_true, Qt, Qu, Qv, Qw, Qx, Qy, Qz, QA, QB, QC, QD, QE, QF, QG, QH, QI, QJ, QK, QL, QM, QN, QO, QP, QQ]
          refine CallC.pure (ttrim_spec (atG g ((m : Int) - 1) k) (by omega)) ?_
          rw [← hl0]
          cases e1 : numsB g k m
          · rw [e1, Bool.false_and] at hp
            simp (config := { maxSteps := 1000000 }) (disch := ((try simp only [awL]); omega)) only [QR, QS, QT, QU, QV, QW, QX, QY, QZ, Q0, Q1, Q2, gl, ↓awU, awV, awF, Qa, Qb, Qc, Qd, forall_const, ↓reduceIte, ↓reduceDIte, ↓Qe, Qf, Qg, Qh, Qi, Qj, Qk, Ql, Qm, Qn, Qo, Qp, Qq, Qr, Qs, implies_true, Qt, Qu, Qv, Qw, Qx, Qy, Qz, QA, QB, QC, QD, QE, QF, QG, QH, QI, QJ, QK, QL, QM, QN, QO, QP, QQ]
            refine CallC.pure (name_spec hG l (by omega)) ?_
            cases e2 : nameB l
            · rw [e2, Bool.not_false, Bool.true_or] at hq
              have hin : True := trivial
              subst hp hq
              simp (config := { maxSteps := 1000000 }) (disch := ((try simp only [awL]); omega)) only [QR, QS, QT, QU, QV, QW, QX, QY, QZ, Q0, Q1, Q2, gl, ok1, hl, hin, ↓awU, awV, awF, Qa, Qb, Qc, Qd, forall_const, ↓reduceIte, ↓reduceDIte, ↓Qe, Qf, Qg, Qh, Qi, Qj, Qk, Ql, Qm, Qn, Qo, Qp, Qq, Qr, Qs, implies_true, Qt, Qu, Qv, Qw, Qx, Qy, Qz, QA, QB, QC, QD, QE, QF, QG, QH, QI, QJ, QK, QL, QM, QN, QO, QP, QQ]
              exact ⟨(k + 1, updE mp (S l) (.bool true)), EvI.s (by omega) hm1 hm3 hl0, by simp only; omega, ⟨[some 0, some 1, some 2, some 3], rfl, by simp, by simp [setsA, keepA, SWeak, AWeak], by simp [HWeak, BWeak, SWeak, AWeak, c1, c2]⟩⟩
            · rw [e2, Bool.not_true, Bool.false_or] at hq
              cases hin : decide (l ∈ lastR g m k)
              · rw [hin] at hq hl
                subst hp hq
                simp (config := { maxSteps := 1000000 }) (disch := ((try simp only [awL]); omega)) only [QR, QS, QT, QU, QV, QW, QX, QY, QZ, Q0, Q1, Q2, gl, ok1, hl, hin, ↓awU, awV, awF, Qa, Qb, Qc, Qd, forall_const, ↓reduceIte, ↓reduceDIte, ↓Qe, Qf, Qg, Qh, Qi, Qj, Qk, Ql, Qm, Qn, Qo, Qp, Qq, Qr, Qs, implies_true, Qt, Qu, Qv, Qw, Qx, Qy, Qz, QA, QB, QC, QD, QE, QF, QG, QH, QI, QJ, QK, QL, QM, QN, QO, QP, QQ]
                exact ⟨(k + 1, updE mp (S l) (.bool true)), EvI.s (by omega) hm1 hm3 hl0, by simp only; omega, ⟨[some 0, some 1, some 2, some 3], rfl, by simp, by simp [setsA, keepA, SWeak, AWeak], by simp [HWeak, BWeak, SWeak, AWeak, c1, c2]⟩⟩
              · rw [hin] at hq hl
                subst hp hq
                simp (config := { maxSteps := 1000000 }) (disch := ((try simp only [awL]); omega)) only [QR, QS, QT, QU, QV, QW, QX, QY, QZ, Q0, Q1, Q2, gl, ok1, hl, hin, ↓awU, awV, awF, Qa, Qb, Qc, Qd, forall_const, ↓reduceIte, ↓reduceDIte, ↓Qe, Qf, Qg, Qh, Qi, Qj, Qk, Ql, Qm, Qn, Qo, Qp, Qq, Qr, Qs, implies_true, Qt, Qu, Qv, Qw, Qx, Qy, Qz, QA, QB, QC, QD, QE, QF, QG, QH, QI, QJ, QK, QL, QM, QN, QO, QP, QQ]
                exact ⟨(k + 1, updE mp (S l) (.bool true)), EvI.s (by omega) hm1 hm3 hl0, by simp only; omega, ⟨[some 0, some 1, some 2, some 3], rfl, by simp, by simp [setsA, keepA, SWeak, AWeak], by simp [HWeak, BWeak, SWeak, AWeak, c1, c2]⟩⟩
          · rw [e1, Bool.true_and] at hp
            simp (config := { maxSteps := 1000000 }) (disch := ((try simp only [awL]); omega)) only [QR, QS, QT, QU, QV, QW, QX, QY, QZ, Q0, Q1, Q2, gl, ↓awU, awV, awF, Qa, Qb, Qc, Qd, forall_const, ↓reduceIte, ↓reduceDIte, ↓Qe, Qf, Qg, Qh, Qi, Qj, Qk, Ql, Qm, Qn, Qo, Qp, Qq, Qr, Qs, implies_true, Qt, Qu, Qv, Qw, Qx, Qy, Qz, QA, QB, QC, QD, QE, QF, QG, QH, QI, QJ, QK, QL, QM, QN, QO, QP, QQ]
            refine CallC.pure (name_spec hG l (by omega)) ?_
            simp (config := { maxSteps := 1000000 }) (disch := ((try simp only [awL]); omega)) only [QR, QS, QT, QU, QV, QW, QX, QY, QZ, Q0, Q1, Q2, gl, ↓awU, awV, awF, Qa, Qb, Qc, Qd, forall_const, ↓reduceIte, ↓reduceDIte, ↓Qe, Qf, Qg, Qh, Qi, Qj, Qk, Ql, Qm, Qn, Qo, Qp, Qq, Qr, Qs, implies_true, Qt, Qu, Qv, Qw, Qx, Qy, Qz, QA, QB, QC, QD, QE, QF, QG, QH, QI, QJ, QK, QL, QM, QN, QO, QP, QQ]
            refine CallC.pure (name_spec hG l (by omega)) ?_
            cases e2 : nameB l
            · rw [e2, Bool.not_false, Bool.true_or] at hq
              rw [e2] at hp
              have hin : True := trivial
              subst hp hq
              simp (config := { maxSteps := 1000000 }) (disch := ((try simp only [awL]); omega)) only [QR, QS, QT, QU, QV, QW, QX, QY, QZ, Q0, Q1, Q2, gl, ok1, hl, hin, ↓awU, awV, awF, Qa, Qb, Qc, Qd, forall_const, ↓reduceIte, ↓reduceDIte, ↓Qe, Qf, Qg, Qh, Qi, Qj, Qk, Ql, Qm, Qn, Qo, Qp, Qq, Qr, Qs, implies_true, Qt, Qu, Qv, Qw, Qx, Qy, Qz, QA, QB, QC, QD, QE, QF, QG, QH, QI, QJ, QK, QL, QM, QN, QO, QP, QQ]
              exact ⟨(k + 1, updE mp (S l) (.bool true)), EvI.s (by omega) hm1 hm3 hl0, by simp only; omega, ⟨[some 0, some 1, some 2, some 3], rfl, by simp, by simp [setsA, keepA, SWeak, AWeak], by simp [HWeak, BWeak, SWeak, AWeak, c1, c2]⟩⟩
            · rw [e2, Bool.not_true, Bool.false_or] at hq
              rw [e2] at hp
              cases hin : decide (l ∈ lastR g m k)
              · rw [hin] at hq hl
                subst hp hq
                simp (config := { maxSteps := 1000000 }) (disch := ((try simp only [awL]); omega)) only [QR, QS, QT, QU, QV, QW, QX, QY, QZ, Q0, Q1, Q2, gl, ok1, hl, hin, ↓awU, awV, awF, Qa, Qb, Qc, Qd, forall_const, ↓reduceIte, ↓reduceDIte, ↓Qe, Qf, Qg, Qh, Qi, Qj, Qk, Ql, Qm, Qn, Qo, Qp, Qq, Qr, Qs, implies_true, Qt, Qu, Qv, Qw, Qx, Qy, Qz, QA, QB, QC, QD, QE, QF, QG, QH, QI, QJ, QK, QL, QM, QN, QO, QP, QQ]
                exact ⟨(k + 1, updE mp (S l) (.bool true)), EvI.s (by omega) hm1 hm3 hl0, by simp only; omega, ⟨[some 0, some 1, some 2, some 3], rfl, by simp, by simp [setsA, keepA, SWeak, AWeak], by simp [HWeak, BWeak, SWeak, AWeak, c1, c2]⟩⟩
              · rw [hin] at hq hl
                subst hp hq
                simp (config := { maxSteps := 1000000 }) (disch := ((try simp only [awL]); omega)) only [QR, QS, QT, QU, QV, QW, QX, QY, QZ, Q0, Q1, Q2, gl, ok1, hl, hin, ↓awU, awV, awF, Qa, Qb, Qc, Qd, forall_const, ↓reduceIte, ↓reduceDIte, ↓Qe, Qf, Qg, Qh, Qi, Qj, Qk, Ql, Qm, Qn, Qo, Qp, Qq, Qr, Qs, implies_true, Qt, Qu, Qv, Qw, Qx, Qy, Qz, QA, QB, QC, QD, QE, QF, QG, QH, QI, QJ, QK, QL, QM, QN, QO, QP, QQ]
                exact ⟨(k + 1, updE mp (S l) (.bool true)), EvI.s (by omega) hm1 hm3 hl0, by simp only; omega, ⟨[some 0, some 1, some 2, some 3], rfl, by simp, by simp [setsA, keepA, SWeak, AWeak], by simp [HWeak, BWeak, SWeak, AWeak, c1, c2]⟩⟩
      · subst hr
        have ek : k = widG g := by omega
        subst ek
        simp (config := { maxSteps := 1000000 }) (disch := ((try simp only [awL]); omega)) only [QR, QS, QT, QU, QV, QW, QX, QY, QZ, Q0, Q1, Q2, gl, ↓awU, awV, awF, Qa, Qb, Qc, Qd, forall_const, ↓reduceIte, ↓reduceDIte, ↓Qe, Qf, Qg, Qh, Qi, Qj, Qk, Ql, Qm, Qn, Qo, Qp, Qq, Qr, Qs, implies_true, Qt, Qu, Qv, Qw, Qx, Qy, Qz, QA, QB, QC, QD, QE, QF, QG, QH, QI, QJ, QK, QL, QM, QN, QO, QP, QQ]
        first | done | rfl
end Go.Proofs.YthbnileadffpiaaGreatDoor

namespace Go.Proofs.YthbnileadffpiaaGreatDoor
open Go Go.Proofs Go.Abs
variable {G : Globals}
/-! The reference's Evidence. -/
end Go.Proofs.YthbnileadffpiaaGreatDoor

namespace Go.Proofs.YthbnileadffpiaaGreatDoor
open Go Go.Proofs Go.Abs
variable {G : Globals}
/-! Stable sorting of a few options by any comparison. -/
def OkOp (o : Opt) : Prop := o.fr ≤ 1000000000 ∧ o.ag ≤ 1000000000
def CmpF (G : Globals) (f : Nat) (bf : Opt → Opt → Bool) : Prop := ∀ a b, OkOp a → OkOp b → ∃ c : Int, -1 ≤ c ∧ c ≤ 1 ∧ Ctr Tryz.prog G f [.d (.agg a.cells), .d (.agg b.cells)] [] (.d (.int .i64 c)) [] ∧ decide (c < 0) = bf a b
def posB (bf : Opt → Opt → Bool) (o : Opt) (s : List Opt) : Nat → Nat
  | 0 => 0
  | j + 1 => if bf o (s.getD j noO) = true then posB bf o s j else j + 1
def insB (bf : Opt → Opt → Bool) (o : Opt) (s : List Opt) : List Opt := s.take (posB bf o s s.length) ++ o :: s.drop (posB bf o s s.length)
def sortB (bf : Opt → Opt → Bool) (l : List Opt) : List Opt := l.foldl (fun s o => insB bf o s) []
theorem insB_len (bf : Opt → Opt → Bool) (o : Opt) (s : List Opt) : (insB bf o s).length = s.length + 1 := by
  unfold insB
  rw [List.length_append, List.length_cons, List.length_take, List.length_drop]; omega
theorem sortB_snoc (bf : Opt → Opt → Bool) (l : List Opt) (o : Opt) : sortB bf (l ++ [o]) = insB bf o (sortB bf l) := by simp [sortB, List.foldl_append]
theorem sortB_take (bf : Opt → Opt → Bool) {l : List Opt} {i : Nat} (h : i < l.length) : sortB bf (l.take (i + 1)) = insB bf (l.getD i noO) (sortB bf (l.take i)) := by
  rw [List.take_add_one, getD_some (d := noO) h]
  exact sortB_snoc bf _ _
theorem sortB_len (bf : Opt → Opt → Bool) (l : List Opt) : (sortB bf l).length = l.length := by
  have : ∀ (l : List Opt) (s : List Opt), (l.foldl (fun s o => insB bf o s) s).length = s.length + l.length := by
    intro l
    induction l with
    | nil => intro s; simp
    | cons o l ih => intro s; rw [List.foldl_cons, ih, insB_len, List.length_cons]; omega
  rw [sortB, this]; simp
theorem insB_mem {bf : Opt → Opt → Bool} {o x : Opt} {s : List Opt} (h : x ∈ insB bf o s) : x = o ∨ x ∈ s := by
  unfold insB at h
  rcases List.mem_append.1 h with h | h
  · exact .inr (List.mem_of_mem_take h)
  · rcases List.mem_cons.1 h with h | h
    · exact .inl h
    · exact .inr (List.mem_of_mem_drop h)
theorem sortB_mem {bf : Opt → Opt → Bool} : ∀ {l : List Opt} {x : Opt}, x ∈ sortB bf l → x ∈ l := by
  have : ∀ (l s : List Opt) (x : Opt), x ∈ l.foldl (fun s o => insB bf o s) s → x ∈ s ∨ x ∈ l := by
    intro l
    induction l with
    | nil => intro s x h; exact .inl h
    | cons o l ih =>
      intro s x h
      rw [List.foldl_cons] at h
      rcases ih _ _ h with h | h
      · rcases insB_mem h with rfl | h
        · exact .inr (by simp)
        · exact .inl h
      · exact .inr (by simp [h])
  intro l x h
  rcases this l [] x h with h | h
  · cases h
  · exact h
set_option maxHeartbeats 8000000 in
set_option maxRecDepth 100000 in
theorem insSortB_spec (f : Nat) (bf : Opt → Opt → Bool) (hf : CmpF G f bf) (l : List Opt) (hn : l.length ≤ 1000) (hl : ∀ o ∈ l, OkOp o) :
    Ctr Tryz.prog G 95 [.lsl 0 3 0 l.length, .d (.int .i64 0), .d (.int .i64 l.length), .d (.fn (.func f) [] [])] [.row false (optC l)] .undef [.row false (optC (sortB bf l))] := by
  refine Ctr.body (M := M0) hmix Tryz.func95 rfl go95 ?_
  simp (config := { maxSteps := 1000000 }) (disch := ((try simp only [awL]); omega)) only [QR, QS, QT, QU, QV, QW, QX, QY, QZ, Q0, Q1, Q2, Tryz.f95, ↓awU, awV, awF, Qa, Qb, Qc, Qd, forall_const, ↓reduceIte, ↓reduceDIte, ↓Qe, Qf, Qg, Qh, Qi, Qj, Qk, Ql, Qm, Qn, Qo, Qp, Qq, Qr, Qs, implies_true, Qt, Qu, Qv, Qw, Qx, Qy, Qz, QA, QB, QC, QD, QE, QF, QG, QH, QI, QJ, QK, QL, QM, QN, QO, QP, QQ]
  refine LoopC.fr 15 (α := Nat × List Opt) (fun x => l.length - x.1) (fun x => [(8, .d (.int .i64 x.1))]) (fun x => [.row false (optC x.2)])
    (fun x => 1 ≤ x.1 ∧ x.2.length = l.length ∧ x.2 = sortB bf (l.take x.1) ++ l.drop x.1) (1, l) ⟨Nat.le_refl _, rfl, by cases l <;> simp [sortB, insB, posB]⟩ ?_ ?_
  · exact ⟨[some 0], rfl, by simp, by simp [setsA, keepA, SWeak, AWeak], by simp [HWeak, BWeak, SWeak, AWeak]⟩
  · rintro ⟨i, d⟩ ⟨i1, i2, i3⟩
    simp only at i1 i2 i3
    simp only [awK, Nat.reduceMod, Nat.reduceDiv, reduceIte]
    rcases Nat.lt_or_ge i l.length with h | h
    · have hS : (sortB bf (l.take i)).length = i := by rw [sortB_len, List.length_take]; omega
      have hst := sortB_take bf h
      have ho := hl _ (memD (d := noO) h)
      have hSm : ∀ x ∈ sortB bf (l.take i), OkOp x := fun x hx => hl x (List.mem_of_mem_take (sortB_mem hx))
      have ed : l.drop i = l.getD i noO :: l.drop (i + 1) := by
        rw [List.drop_eq_getElem_cons h, List.getD_eq_getElem?_getD, List.getElem?_eq_getElem h]; rfl
      rw [ed] at i3
      clear ed
      have hr : (l.drop (i + 1)).length = l.length - (i + 1) := List.length_drop ..
      obtain ⟨rest, hrest⟩ : ∃ rest, rest = l.drop (i + 1) := ⟨_, rfl⟩
      rw [← hrest] at hr i3
      generalize l.getD i noO = o at *
      generalize sortB bf (l.take i) = st at *
      simp (config := { maxSteps := 1000000 }) (disch := ((try simp only [awL]); omega)) only [QR, QS, QT, QU, QV, QW, QX, QY, QZ, Q0, Q1, Q2, ↓awU, awV, awF, Qa, Qb, Qc, Qd, forall_const, ↓reduceIte, ↓reduceDIte, ↓Qe, Qf, Qg, Qh, Qi, Qj, Qk, Ql, Qm, Qn, Qo, Qp, Qq, Qr, Qs, implies_true, Qt, Qu, Qv, Qw, Qx, Qy, Qz, QA, QB, QC, QD, QE, QF, QG, QH, QI, QJ, QK, QL, QM, QN, QO, QP, QQ]
      refine LoopC.fr 271 (α := Nat × List Opt) (fun x => x.1) (fun x => [(9, .d (.int .i64 x.1))]) (fun x => [.row false (optC x.2)])
        (fun x => x.1 ≤ i ∧ x.2 = st.take x.1 ++ o :: (st.drop x.1 ++ rest) ∧ posB bf o st st.length = posB bf o st x.1) (i, d) ⟨Nat.le_refl _, by rw [i3, ← hS, List.take_length, List.drop_length]; rfl, by rw [hS]⟩ ?_ ?_
      · exact ⟨[some 0], rfl, by simp, by simp [setsA, keepA, SWeak, AWeak], by simp [HWeak, BWeak, SWeak, AWeak]⟩
      · rintro ⟨j, e⟩ ⟨j1, j2, j3⟩
        simp only at j1 j2 j3
        simp only [awK, Nat.reduceMod, Nat.reduceDiv, reduceIte]
        rcases Nat.eq_zero_or_pos j with h0 | h0
        · subst h0
          rw [show posB bf o st 0 = 0 from rfl] at j3
          have fin : e = sortB bf (l.take (i + 1)) ++ rest := by
            rw [j2, hst, insB, j3]; simp
          simp (config := { maxSteps := 1000000 }) (disch := ((try simp only [awL]); omega)) only [QR, QS, QT, QU, QV, QW, QX, QY, QZ, Q0, Q1, Q2, ↓awU, awV, awF, Qa, Qb, Qc, Qd, forall_const, ↓reduceIte, ↓reduceDIte, ↓Qe, Qf, Qg, Qh, Qi, Qj, Qk, Ql, Qm, Qn, Qo, Qp, Qq, Qr, Qs, implies_true, Qt, Qu, Qv, Qw, Qx, Qy, Qz, QA, QB, QC, QD, QE, QF, QG, QH, QI, QJ, QK, QL, QM, QN, QO, QP, QQ]
          exact ⟨by rfl, (i + 1, e), ⟨by simp only; omega, by rw [fin, hst, List.length_append, insB_len, hr]; omega, by rw [fin, hrest]⟩, by simp only; omega, ⟨[some 0], rfl, by simp, by simp [setsA, keepA, SWeak, AWeak], by simp [HWeak, BWeak, SWeak, AWeak]⟩⟩
        · obtain ⟨q, rfl⟩ : ∃ q, j = q + 1 := ⟨j - 1, by omega⟩
          have oel := optC_length e
          have el : e.length = l.length := by rw [j2]; simp; omega
          have gj := optC_get (l := e) (k := q + 1) (by omega)
          have gq := optC_get (l := e) (k := q) (by omega)
          have e1 : e.getD (q + 1) noO = o := by
            rw [j2, List.getD_eq_getElem?_getD, List.getElem?_append_right (by rw [List.length_take]; omega), List.length_take, show q + 1 - min (q + 1) st.length = 0 by omega]; rfl
          have e2 : e.getD q noO = st.getD q noO := by
            rw [j2, List.getD_eq_getElem?_getD, List.getElem?_append_left (by rw [List.length_take]; omega), List.getElem?_take, if_pos (by omega), List.getD_eq_getElem?_getD]
          rw [e1] at gj
          rw [e2] at gq
          have hp := hSm _ (memD (d := noO) (l := st) (i := q) (by omega))
          rw [show posB bf o st (q + 1) = if bf o (st.getD q noO) = true then posB bf o st q else q + 1 from rfl] at j3
          obtain ⟨pp, hpp⟩ : ∃ pp, pp = st.getD q noO := ⟨_, rfl⟩
          rw [← hpp] at gq hp j3 e2
          have eq1 : (((q + 1 : Nat) : Int) - 1) = (q : Int) := by omega
          have eq2 : (((q + 1 : Nat) : Int) - 1).toNat = q := by omega
          simp (config := { maxSteps := 1000000 }) (disch := ((try simp only [awL]); omega)) only [QR, QS, QT, QU, QV, QW, QX, QY, QZ, Q0, Q1, Q2, oel, gj, gq, eq2, ↓awU, awV, awF, Qa, Qb, Qc, Qd, forall_const, ↓reduceIte, ↓reduceDIte, ↓Qe, Qf, Qg, Qh, Qi, Qj, Qk, Ql, Qm, Qn, Qo, Qp, Qq, Qr, Qs, implies_true, Qt, Qu, Qv, Qw, Qx, Qy, Qz, QA, QB, QC, QD, QE, QF, QG, QH, QI, QJ, QK, QL, QM, QN, QO, QP, QQ]
          obtain ⟨c, c1, c2, hcs, hb⟩ := hf o pp ho hp
          refine CallC.by (L := []) hcs (by rfl) (by rfl) (by simp) ?_
          cases hbb : bf o pp
          · rw [hbb] at hb j3
            have hc := of_decide_eq_false hb
            have fin : e = sortB bf (l.take (i + 1)) ++ rest := by
              rw [if_neg (by decide)] at j3
              rw [j2, hst, insB, j3]; simp
            simp (config := { maxSteps := 1000000 }) (disch := ((try simp only [awL]); omega)) only [QR, QS, QT, QU, QV, QW, QX, QY, QZ, Q0, Q1, Q2, ↓awU, awV, awF, Qa, Qb, Qc, Qd, forall_const, ↓reduceIte, ↓reduceDIte, ↓Qe, Qf, Qg, Qh, Qi, Qj, Qk, Ql, Qm, Qn, Qo, Qp, Qq, Qr, Qs, implies_true, Qt, Qu, Qv, Qw, Qx, Qy, Qz, QA, QB, QC, QD, QE, QF, QG, QH, QI, QJ, QK, QL, QM, QN, QO, QP, QQ]
            exact ⟨by rfl, (i + 1, e), ⟨by simp only; omega, by rw [fin, hst, List.length_append, insB_len, hr]; omega, by rw [fin, hrest]⟩, by simp only; omega, ⟨[some 0], rfl, by simp, by simp [setsA, keepA, SWeak, AWeak], by simp [HWeak, BWeak, SWeak, AWeak]⟩⟩
          · rw [hbb] at hb j3
            have hc := of_decide_eq_true hb
            rw [if_pos rfl] at j3
            have s1 := optC_set (l := e) (k := q + 1) pp (by omega)
            have s2 := optC_set (l := e.set (q + 1) pp) (k := q) o (by rw [List.length_set]; omega)
            have fin : (e.set (q + 1) pp).set q o = st.take q ++ o :: (st.drop q ++ rest) := by
              have d1 : st.drop q = pp :: st.drop (q + 1) := by
                rw [List.drop_eq_getElem_cons (show q < st.length by omega), hpp, List.getD_eq_getElem?_getD, List.getElem?_eq_getElem (show q < st.length by omega)]; rfl
              have t1 : st.take (q + 1) = st.take q ++ [pp] := by
                rw [List.take_add_one, getD_some (d := noO) (show q < st.length by omega), ← hpp]; rfl
              have tl : (st.take q).length = q := by rw [List.length_take]; omega
              rw [j2, t1, d1, List.append_assoc, List.set_append_right _ _ (by omega), tl, show q + 1 - q = 1 by omega, List.set_append_right _ _ (by omega), tl, Nat.sub_self]
              rfl
            have oel2 := optC_length (e.set (q + 1) pp)
            rw [List.length_set] at oel2
            simp (config := { maxSteps := 1000000 }) (disch := ((try simp only [awL]); omega)) only [QR, QS, QT, QU, QV, QW, QX, QY, QZ, Q0, Q1, Q2, oel, gj, gq, eq2, s1, oel2, s2, ↓awU, awV, awF, Qa, Qb, Qc, Qd, forall_const, ↓reduceIte, ↓reduceDIte, ↓Qe, Qf, Qg, Qh, Qi, Qj, Qk, Ql, Qm, Qn, Qo, Qp, Qq, Qr, Qs, implies_true, Qt, Qu, Qv, Qw, Qx, Qy, Qz, QA, QB, QC, QD, QE, QF, QG, QH, QI, QJ, QK, QL, QM, QN, QO, QP, QQ]
            refine ⟨by rfl, by rfl, ?_⟩
            exact ⟨(q, (e.set (q + 1) pp).set q o), ⟨by simp only; omega, fin, j3⟩, by simp only; omega, ⟨[some 0], rfl, by simp, by simp [setsA, keepA, SWeak, AWeak], by simp [HWeak, BWeak, SWeak, AWeak]⟩⟩
    · rw [List.take_of_length_le h, List.drop_of_length_le h, List.append_nil] at i3
      subst i3
      simp (config := { maxSteps := 1000000 }) (disch := ((try simp only [awL]); omega)) only [QR, QS, QT, QU, QV, QW, QX, QY, QZ, Q0, Q1, Q2, ↓awU, awV, awF, Qa, Qb, Qc, Qd, forall_const, ↓reduceIte, ↓reduceDIte, ↓Qe, Qf, Qg, Qh, Qi, Qj, Qk, Ql, Qm, Qn, Qo, Qp, Qq, Qr, Qs, implies_true, Qt, Qu, Qv, Qw, Qx, Qy, Qz, QA, QB, QC, QD, QE, QF, QG, QH, QI, QJ, QK, QL, QM, QN, QO, QP, QQ]
      exact ⟨[some 0], rfl, by simp, by simp [HWeak, BWeak, SWeak, AWeak], .inl (by simp [AWeak, SWeak])⟩
end Go.Proofs.YthbnileadffpiaaGreatDoor

namespace Go.Proofs.YthbnileadffpiaaGreatDoor
open Go Go.Proofs Go.Abs
variable {G : Globals}
/-! The options of all numbers of header rows, sorted stably. -/
def scO (o : Opt) : Int := (o.fr : Int) - o.ag
def befH (a b : Opt) : Bool := decide (scO b < scO a)
set_option maxHeartbeats 4000000 in
set_option maxRecDepth 100000 in
theorem cmpH : CmpF G 33 befH := fun a b ha hb => by
  obtain ⟨a1, a2⟩ := ha
  obtain ⟨b1, b2⟩ := hb
  refine ⟨cmpI ((b.fr : Int) - b.ag) ((a.fr : Int) - a.ag), by unfold cmpI; split <;> (try split) <;> omega, by unfold cmpI; split <;> (try split) <;> omega, ?_, ?_⟩
  · refine Ctr.pure (M := M0) hmix Tryz.func33 rfl go33 ?_
    simp (config := { maxSteps := 1000000 }) (disch := ((try simp only [awL]); omega)) only [QR, QS, QT, QU, QV, QW, QX, QY, QZ, Q0, Q1, Q2, Tryz.f33, ↓awU, awV, awF, Qa, Qb, Qc, Qd, forall_const, ↓reduceIte, ↓reduceDIte, ↓Qe, Qf, Qg, Qh, Qi, Qj, Qk, Ql, Qm, Qn, Qo, Qp, Qq, Qr, Qs, implies_true, Qt, Qu, Qv, Qw, Qx, Qy, Qz, QA, QB, QC, QD, QE, QF, QG, QH, QI, QJ, QK, QL, QM, QN, QO, QP, QQ]
    refine CallC.pure (compare_spec ((b.fr : Int) - b.ag) ((a.fr : Int) - a.ag)) ?_
    simp (config := { maxSteps := 1000000 }) (disch := ((try simp only [awL]); omega)) only [QR, QS, QT, QU, QV, QW, QX, QY, QZ, Q0, Q1, Q2, ↓awU, awV, awF, Qa, Qb, Qc, Qd, forall_const, ↓reduceIte, ↓reduceDIte, ↓Qe, Qf, Qg, Qh, Qi, Qj, Qk, Ql, Qm, Qn, Qo, Qp, Qq, Qr, Qs, implies_true, Qt, Qu, Qv, Qw, Qx, Qy, Qz, QA, QB, QC, QD, QE, QF, QG, QH, QI, QJ, QK, QL, QM, QN, QO, QP, QQ]
    first | done | rfl
  · unfold cmpI befH scO
    apply decide_eq_decide.2
    split <;> (try split) <;> omega
def MSt2 : Muts := fun k => k == 95 || k == 57 || k == 32
theorem MSt2_a : MSt2 95 = true := rfl
theorem MSt2_b : MSt2 57 = true := rfl
theorem MSt2_c : MSt2 32 = true := rfl
theorem MSt2_n {k : Nat} (h : k ≠ 95 ∧ k ≠ 57 ∧ k ≠ 32) : MSt2 k = false := by
  simp only [MSt2, Bool.or_eq_false_iff, beq_eq_false_iff_ne]; exact ⟨⟨h.1, h.2.1⟩, h.2.2⟩
set_option maxHeartbeats 4000000 in
set_option maxRecDepth 100000 in
theorem stable_spec (f : Nat) (bf : Opt → Opt → Bool) (hf : CmpF G f bf) (l : List Opt) (hn : l.length < 20) (hl : ∀ o ∈ l, OkOp o) :
    Ctr Tryz.prog G 57 [.lsl 0 3 0 l.length, .d (.int .i64 l.length), .d (.fn (.func f) [] [])] [.row false (optC l)] .undef [.row false (optC (sortB bf l))] := by
  refine Ctr.body (M := MSt2) hmix Tryz.func57 rfl go57 ?_
  simp (config := { maxSteps := 1000000 }) (disch := ((try simp only [awL]); omega)) only [QR, QS, QT, QU, QV, QW, QX, QY, QZ, Q0, Q1, Q2, MSt2_a, MSt2_n, Tryz.f57, ↓awU, awV, awF, Qa, Qb, Qc, Qd, forall_const, ↓reduceIte, ↓reduceDIte, ↓Qe, Qf, Qg, Qh, Qi, Qj, Qk, Ql, Qm, Qn, Qo, Qp, Qq, Qr, Qs, implies_true, Qt, Qu, Qv, Qw, Qx, Qy, Qz, QA, QB, QC, QD, QE, QF, QG, QH, QI, QJ, QK, QL, QM, QN, QO, QP, QQ]
  refine LoopC.fx 71 (α := Unit) (β := Unit) (fun _ => 0) (fun _ => [(7, .d (.int .i64 0)), (8, .d (.int .i64 20))]) (fun _ => [.row false (optC l)]) (fun _ => True) 71 (fun _ => [(7, .d (.int .i64 0))]) (fun _ => [.row false (optC l)]) (fun _ => True) () trivial ?_ ?_ ?_
  · exact ⟨[some 0], rfl, by simp, by simp [setsA, keepA, SWeak, AWeak], by simp [HWeak, BWeak, SWeak, AWeak]⟩
  · rintro ⟨⟩ -
    simp only [awK, Nat.reduceMod, Nat.reduceDiv, reduceIte]
    simp (config := { maxSteps := 1000000 }) (disch := ((try simp only [awL]); omega)) only [QR, QS, QT, QU, QV, QW, QX, QY, QZ, Q0, Q1, Q2, MSt2_a, MSt2_n, ↓awU, awV, awF, Qa, Qb, Qc, Qd, forall_const, ↓reduceIte, ↓reduceDIte, ↓Qe, Qf, Qg, Qh, Qi, Qj, Qk, Ql, Qm, Qn, Qo, Qp, Qq, Qr, Qs, implies_true, Qt, Qu, Qv, Qw, Qx, Qy, Qz, QA, QB, QC, QD, QE, QF, QG, QH, QI, QJ, QK, QL, QM, QN, QO, QP, QQ]
    exact ⟨(), trivial, ⟨[some 0], rfl, by simp, by simp [setsA, keepA, SWeak, AWeak], by simp [HWeak, BWeak, SWeak, AWeak]⟩⟩
  · rintro ⟨⟩ -
    simp only [awK, Nat.reduceMod, Nat.reduceDiv, reduceIte]
    simp (config := { maxSteps := 1000000 }) (disch := ((try simp only [awL]); omega)) only [QR, QS, QT, QU, QV, QW, QX, QY, QZ, Q0, Q1, Q2, MSt2_a, MSt2_n, ↓awU, awV, awF, Qa, Qb, Qc, Qd, forall_const, ↓reduceIte, ↓reduceDIte, ↓Qe, Qf, Qg, Qh, Qi, Qj, Qk, Ql, Qm, Qn, Qo, Qp, Qq, Qr, Qs, implies_true, Qt, Qu, Qv, Qw, Qx, Qy, Qz, QA, QB, QC, QD, QE, QF, QG, QH, QI, QJ, QK, QL, QM, QN, QO, QP, QQ]
    refine CallC.by (insSortB_spec f bf hf l (by omega) hl) (by first | rfl | simp) (by rfl) (by simp) ?_
    simp (config := { maxSteps := 1000000 }) (disch := ((try simp only [awL]); omega)) only [QR, QS, QT, QU, QV, QW, QX, QY, QZ, Q0, Q1, Q2, MSt2_a, MSt2_n, ↓awU, awV, awF, Qa, Qb, Qc, Qd, forall_const, ↓reduceIte, ↓reduceDIte, ↓Qe, Qf, Qg, Qh, Qi, Qj, Qk, Ql, Qm, Qn, Qo, Qp, Qq, Qr, Qs, implies_true, Qt, Qu, Qv, Qw, Qx, Qy, Qz, QA, QB, QC, QD, QE, QF, QG, QH, QI, QJ, QK, QL, QM, QN, QO, QP, QQ]
    refine LoopC.fr 7 (α := Unit) (fun _ => 0) (fun _ => [(6, .d (.int .i64 20))]) (fun _ => [.row false (optC (sortB bf l))]) (fun _ => True) () trivial ?_ ?_
    · exact ⟨[some 0], rfl, by simp, by simp [setsA, keepA, SWeak, AWeak], by simp [HWeak, BWeak, SWeak, AWeak]⟩
    · rintro ⟨⟩ -
      simp only [awK, Nat.reduceMod, Nat.reduceDiv, reduceIte]
      simp (config := { maxSteps := 1000000 }) (disch := ((try simp only [awL]); omega)) only [QR, QS, QT, QU, QV, QW, QX, QY, QZ, Q0, Q1, Q2, MSt2_a, MSt2_n, ↓awU, awV, awF, Qa, Qb, Qc, Qd, forall_const, ↓reduceIte, ↓reduceDIte, ↓Qe, Qf, Qg, Qh, Qi, Qj, Qk, Ql, Qm, Qn, Qo, Qp, Qq, Qr, Qs, implies_true, Qt, Qu, Qv, Qw, Qx, Qy, Qz, QA, QB, QC, QD, QE, QF, QG, QH, QI, QJ, QK, QL, QM, QN, QO, QP, QQ]
      exact ⟨[some 0], rfl, by simp, by simp [HWeak, BWeak, SWeak, AWeak], .inl (by simp [AWeak, SWeak])⟩
set_option maxHeartbeats 4000000 in
set_option maxRecDepth 100000 in
theorem sortStable_spec (f : Nat) (bf : Opt → Opt → Bool) (hf : CmpF G f bf) (l : List Opt) (hn : l.length < 20) (hl : ∀ o ∈ l, OkOp o) :
    Ctr Tryz.prog G 32 [.lsl 0 3 0 l.length, .d (.fn (.func f) [] [])] [.row false (optC l)] .undef [.row false (optC (sortB bf l))] := by
  refine Ctr.body (M := MSt2) hmix Tryz.func32 rfl go32 ?_
  simp (config := { maxSteps := 1000000 }) (disch := ((try simp only [awL]); omega)) only [QR, QS, QT, QU, QV, QW, QX, QY, QZ, Q0, Q1, Q2, MSt2_b, MSt2_n, Tryz.f32, ↓awU, awV, awF, Qa, Qb, Qc, Qd, forall_const, ↓reduceIte, ↓reduceDIte, ↓Qe, Qf, Qg, Qh, Qi, Qj, Qk, Ql, Qm, Qn, Qo, Qp, Qq, Qr, Qs, implies_true, Qt, Qu, Qv, Qw, Qx, Qy, Qz, QA, QB, QC, QD, QE, QF, QG, QH, QI, QJ, QK, QL, QM, QN, QO, QP, QQ]
  refine CallC.by (stable_spec f bf hf l hn hl) (by first | rfl | simp) (by rfl) (by simp) ?_
  simp (config := { maxSteps := 1000000 }) (disch := ((try simp only [awL]); omega)) only [QR, QS, QT, QU, QV, QW, QX, QY, QZ, Q0, Q1, Q2, MSt2_b, MSt2_n, ↓awU, awV, awF, Qa, Qb, Qc, Qd, forall_const, ↓reduceIte, ↓reduceDIte, ↓Qe, Qf, Qg, Qh, Qi, Qj, Qk, Ql, Qm, Qn, Qo, Qp, Qq, Qr, Qs, implies_true, Qt, Qu, Qv, Qw, Qx, Qy, Qz, QA, QB, QC, QD, QE, QF, QG, QH, QI, QJ, QK, QL, QM, QN, QO, QP, QQ]
  exact ⟨[some 0], rfl, by simp, by simp [HWeak, BWeak, SWeak, AWeak], .inl (by simp [AWeak, SWeak])⟩
def hs4 : List Nat := [1, 0, 2, 3]
def preH (g : List Row) (i : Nat) : List Opt := ((hs4.take i).filter fun n => decide (n ≤ g.length)).map (evN g)
def optsH (g : List Row) : List Opt := sortB befH (preH g 4)
theorem evN_ok {g : List Row} (hg : okGrid g) (n : Nat) : OkOp (evN g n) := ⟨Nat.le_trans (cntB_le _ _) hg.wid, Nat.le_trans (cntB_le _ _) hg.wid⟩
theorem evG_nat {g : List Row} {n : Nat} (h : n ≤ 3) (h2 : n ≤ g.length) : evG g (n : Nat) = evN g n := by unfold evG; rw [if_neg (by omega), Int.toNat_natCast]
theorem preH_len (g : List Row) (i : Nat) : (preH g i).length ≤ 4 := by
  unfold preH
  rw [List.length_map]
  refine Nat.le_trans (List.length_filter_le _ _) ?_
  rw [List.length_take]; simp [hs4]; omega
theorem preH_ok {g : List Row} (hg : okGrid g) (i : Nat) : ∀ o ∈ preH g i, OkOp o := fun o ho => by
  obtain ⟨n, _, rfl⟩ := List.mem_map.1 ho
  exact evN_ok hg n
theorem preH_step (g : List Row) {i : Nat} (h : i < 4) : preH g (i + 1) = if hs4.getD i 0 ≤ g.length then preH g i ++ [evN g (hs4.getD i 0)] else preH g i := by
  have e : hs4.take (i + 1) = hs4.take i ++ [hs4.getD i 0] := by rw [List.take_add_one, getD_some (d := 0) (show i < hs4.length from h)]; rfl
  unfold preH
  rw [e, List.filter_append]
  by_cases q : hs4.getD i 0 ≤ g.length
  · rw [if_pos q, List.filter_cons, if_pos (by simpa using q), List.map_append]; rfl
  · rw [if_neg q, List.filter_cons, if_neg (by simpa using q), List.filter_nil, List.append_nil]
theorem hs4_le {i : Nat} : hs4.getD i 0 ≤ 3 := by
  rcases (by omega : i = 0 ∨ i = 1 ∨ i = 2 ∨ i = 3 ∨ 4 ≤ i) with h | h | h | h | h
  · subst h; decide
  · subst h; decide
  · subst h; decide
  · subst h; decide
  · rw [List.getD_eq_getElem?_getD, List.getElem?_eq_none (by simpa [hs4] using h)]; simp
set_option maxHeartbeats 16000000 in
set_option maxRecDepth 100000 in
theorem hoptions_spec (hG : Num.HG G) (hI : HI G) (g : List Row) (full : Bool) (hg : okGrid g) : Ctr Tryz.prog G 12 [.d (.agg [Gr g full])] [] (.d (.sl (optsH g).length false (optC (optsH g)))) [] := by
  refine Ctr.pure (M := MSt2) hmix Tryz.func12 rfl go12 ?_
  have gl := @rowsD_length g
  have hgl := hg.1
  simp (config := { maxSteps := 1000000 }) (disch := ((try simp only [awL]); omega)) only [QR, QS, QT, QU, QV, QW, QX, QY, QZ, Q0, Q1, Q2, gl, MSt2_c, MSt2_n, Tryz.f12, ↓awU, awV, awF, Qa, Qb, Qc, Qd, forall_const, ↓reduceIte, ↓reduceDIte, ↓Qe, Qf, Qg, Qh, Qi, Qj, Qk, Ql, Qm, Qn, Qo, Qp, Qq, Qr, Qs, implies_true, Qt, Qu, Qv, Qw, Qx, Qy, Qz, QA, QB, QC, QD, QE, QF, QG, QH, QI, QJ, QK, QL, QM, QN, QO, QP, QQ]
  refine LoopC.fx 194 (α := Nat) (β := Unit) (fun i => 4 - i) (fun i => [(3, .lsl 2 3 0 (preH g i).length), (8, .d (.int .i64 (i : Nat)))]) (fun i => [.box [.d (Gr g full)], .row false (nats .i64 hs4), .row false (optC (preH g i))]) (fun i => i ≤ 4)
    0 (fun _ => [(3, .lsl 0 3 0 (preH g 4).length)]) (fun _ => [.row false (optC (preH g 4))]) (fun _ => True) 0 (Nat.zero_le _) ?_ ?_ ?_
  · exact ⟨[some 0, some 1, none], rfl, by simp, by simp [setsA, keepA, SWeak, AWeak, preH], by simp [HWeak, BWeak, SWeak, AWeak, preH, optC, nats, hs4]⟩
  · intro i hi
    have ol := optC_length (preH g i)
    have pl := preH_len g i
    have nl := nats_length (k := .i64) (l := hs4)
    have h4 : hs4.length = 4 := rfl
    simp only [awK, Nat.reduceMod, Nat.reduceDiv, reduceIte]
    rcases Nat.lt_or_ge i 4 with h | h
    · have st := preH_step g h
      have le := @hs4_le i
      have gi := nats_getD (k := .i64) (l := hs4) (i := i) (d := .nilp) (by omega)
      obtain ⟨n, hn⟩ : ∃ n, n = hs4.getD i 0 := ⟨_, rfl⟩
      rw [← hn] at st le gi
      by_cases hl : n ≤ g.length
      · rw [if_pos hl] at st
        simp (config := { maxSteps := 1000000 }) (disch := ((try simp only [awL]); omega)) only [QR, QS, QT, QU, QV, QW, QX, QY, QZ, Q0, Q1, Q2, gl, ol, nl, h4, gi, MSt2_c, MSt2_n, ↓awU, awV, awF, Qa, Qb, Qc, Qd, forall_const, ↓reduceIte, ↓reduceDIte, ↓Qe, Qf, Qg, Qh, Qi, Qj, Qk, Ql, Qm, Qn, Qo, Qp, Qq, Qr, Qs, implies_true, Qt, Qu, Qv, Qw, Qx, Qy, Qz, QA, QB, QC, QD, QE, QF, QG, QH, QI, QJ, QK, QL, QM, QN, QO, QP, QQ]
        refine CallC.pure (evidence_spec hG hI g false hg n (by omega) (by omega)) ?_
        rw [evG_nat le hl]
        have op := optC_push (preH g i) (evN g n)
        rw [← st] at op
        generalize evN g n = o at *
        simp (config := { maxSteps := 1000000 }) (disch := ((try simp only [awL]); omega)) only [QR, QS, QT, QU, QV, QW, QX, QY, QZ, Q0, Q1, Q2, gl, ol, nl, h4, gi, MSt2_c, MSt2_n, ↓awU, awV, awF, Qa, Qb, Qc, Qd, forall_const, ↓reduceIte, ↓reduceDIte, ↓Qe, Qf, Qg, Qh, Qi, Qj, Qk, Ql, Qm, Qn, Qo, Qp, Qq, Qr, Qs, implies_true, Qt, Qu, Qv, Qw, Qx, Qy, Qz, QA, QB, QC, QD, QE, QF, QG, QH, QI, QJ, QK, QL, QM, QN, QO, QP, QQ]
        have sl : (preH g (i + 1)).length = (preH g i).length + 1 := by rw [st, List.length_append]; rfl
        exact ⟨by rfl, i + 1, h, by simp only; omega, ⟨[some 0, some 1, some 4], rfl, by simp, by simp [setsA, keepA, SWeak, AWeak, sl], by simp [HWeak, BWeak, SWeak, AWeak, cut, ← op]⟩⟩
      · rw [if_neg hl] at st
        simp (config := { maxSteps := 1000000 }) (disch := ((try simp only [awL]); omega)) only [QR, QS, QT, QU, QV, QW, QX, QY, QZ, Q0, Q1, Q2, gl, ol, nl, h4, gi, MSt2_c, MSt2_n, ↓awU, awV, awF, Qa, Qb, Qc, Qd, forall_const, ↓reduceIte, ↓reduceDIte, ↓Qe, Qf, Qg, Qh, Qi, Qj, Qk, Ql, Qm, Qn, Qo, Qp, Qq, Qr, Qs, implies_true, Qt, Qu, Qv, Qw, Qx, Qy, Qz, QA, QB, QC, QD, QE, QF, QG, QH, QI, QJ, QK, QL, QM, QN, QO, QP, QQ]
        exact ⟨i + 1, h, by simp only; omega, ⟨[some 0, some 1, some 2], rfl, by simp, by simp [setsA, keepA, SWeak, AWeak, st], by simp [HWeak, BWeak, SWeak, AWeak, st]⟩⟩
    · have e : i = 4 := by omega
      subst e
      simp (config := { maxSteps := 1000000 }) (disch := ((try simp only [awL]); omega)) only [QR, QS, QT, QU, QV, QW, QX, QY, QZ, Q0, Q1, Q2, gl, ol, nl, h4, MSt2_c, MSt2_n, ↓awU, awV, awF, Qa, Qb, Qc, Qd, forall_const, ↓reduceIte, ↓reduceDIte, ↓Qe, Qf, Qg, Qh, Qi, Qj, Qk, Ql, Qm, Qn, Qo, Qp, Qq, Qr, Qs, implies_true, Qt, Qu, Qv, Qw, Qx, Qy, Qz, QA, QB, QC, QD, QE, QF, QG, QH, QI, QJ, QK, QL, QM, QN, QO, QP, QQ]
      exact ⟨(), trivial, ⟨[some 2], rfl, by simp, by simp [setsA, keepA, SWeak, AWeak], by simp [HWeak, BWeak, SWeak, AWeak]⟩⟩
  · rintro ⟨⟩ -
    simp only [awK, Nat.reduceMod, Nat.reduceDiv, reduceIte]
    have ol := optC_length (preH g 4)
    have pl := preH_len g 4
    have sl := sortB_len befH (preH g 4)
    simp (config := { maxSteps := 1000000 }) (disch := ((try simp only [awL]); omega)) only [QR, QS, QT, QU, QV, QW, QX, QY, QZ, Q0, Q1, Q2, gl, ol, MSt2_c, MSt2_n, ↓awU, awV, awF, Qa, Qb, Qc, Qd, forall_const, ↓reduceIte, ↓reduceDIte, ↓Qe, Qf, Qg, Qh, Qi, Qj, Qk, Ql, Qm, Qn, Qo, Qp, Qq, Qr, Qs, implies_true, Qt, Qu, Qv, Qw, Qx, Qy, Qz, QA, QB, QC, QD, QE, QF, QG, QH, QI, QJ, QK, QL, QM, QN, QO, QP, QQ]
    refine CallC.by (sortStable_spec 33 befH cmpH (preH g 4) (by omega) (preH_ok hg 4)) (by first | rfl | simp) (by rfl) (by simp) ?_
    rw [← sl, show sortB befH (preH g 4) = optsH g from rfl] at *
    simp (config := { maxSteps := 1000000 }) (disch := ((try simp only [awL]); omega)) only [QR, QS, QT, QU, QV, QW, QX, QY, QZ, Q0, Q1, Q2, gl, ol, MSt2_c, MSt2_n, ↓awU, awV, awF, Qa, Qb, Qc, Qd, forall_const, ↓reduceIte, ↓reduceDIte, ↓Qe, Qf, Qg, Qh, Qi, Qj, Qk, Ql, Qm, Qn, Qo, Qp, Qq, Qr, Qs, implies_true, Qt, Qu, Qv, Qw, Qx, Qy, Qz, QA, QB, QC, QD, QE, QF, QG, QH, QI, QJ, QK, QL, QM, QN, QO, QP, QQ]
    have ob := optC_length (optsH g)
    rw [cut, List.drop_zero, List.take_of_length_le (by omega)]
end Go.Proofs.YthbnileadffpiaaGreatDoor

namespace Go.Proofs.YthbnileadffpiaaGreatDoor
open Go Go.Proofs Go.Abs
variable {G : Globals}
/-! The reference's options of all numbers of header rows. -/
end Go.Proofs.YthbnileadffpiaaGreatDoor

namespace Go.Proofs.YthbnileadffpiaaGreatDoor
open Go Go.Proofs Go.Abs
/-! The names of the columns (plain). -/
def okH (g : List Row) : Prop := g.length ≤ 100 ∧ ∀ r ∈ g, r.length ≤ 1000 ∧ ∀ s ∈ r, s.length ≤ 1048576
theorem okH.ok {g : List Row} (h : okH g) : okGrid g := ⟨by have := h.1; omega, fun r hr => ⟨by have := (h.2 r hr).1; omega, fun s hs => by have := (h.2 r hr).2 s hs; omega⟩⟩
theorem okH.at {g : List Row} (h : okH g) (i k : Int) : (atG g i k).length ≤ 1048576 := atG_len (fun r hr s hs => (h.2 r hr).2 s hs) i k
theorem okH.wid {g : List Row} (h : okH g) : widG g ≤ 1000 := widG_le fun r hr => (h.2 r hr).1
def partsG (g : List Row) (k m : Nat) : Row := ((List.range m).map fun (i : Nat) => Lib.trimB (atG g i k) 32).filter fun s => !decide (s = [])
theorem partsG_succ (g : List Row) (k m : Nat) : partsG g k (m + 1) = if Lib.trimB (atG g m k) 32 = [] then partsG g k m else partsG g k m ++ [Lib.trimB (atG g m k) 32] := by
  unfold partsG
  rw [List.range_succ, List.map_append, List.filter_append]
  by_cases h : Lib.trimB (atG g m k) 32 = []
  · rw [if_pos h]; simp [h]
  · rw [if_neg h]; simp [h]
theorem partsG_len (g : List Row) (k m : Nat) : (partsG g k m).length ≤ m := by
  unfold partsG
  refine Nat.le_trans (List.length_filter_le _ _) ?_
  simp
theorem partsG_le {g : List Row} (h : okH g) {k m : Nat} {s : List UInt8} (hs : s ∈ partsG g k m) : s.length ≤ 1048576 := by
  obtain ⟨i, _, rfl⟩ := List.mem_map.1 (List.mem_filter.1 hs).1
  exact Nat.le_trans (trimB_len _) (h.at _ _)
abbrev colT : List UInt8 := [99, 111, 108, 117, 109, 110]
/-- The texts whose join is a column's name, if that is free. -/
def baseP (g : List Row) (k m : Nat) : Row := if partsG g k m = [] then [colT, Lib.decDigits (k + 1)] else partsG g k m
def baseG (g : List Row) (k m : Nat) : List UInt8 := Lib.join (baseP g k m) [32]
theorem baseG_len {g : List Row} (h : okH g) {k m : Nat} (hk : k < 1000) (hm : m ≤ 100) : (baseG g k m).length ≤ 200000000 := by
  have j := join_len [32] 1048576 (Nat.le_refl _) (baseP g k m) fun s hs => by
    unfold baseP at hs
    split at hs
    · rcases List.mem_cons.1 hs with rfl | hs
      · simp
      · rw [List.mem_singleton.1 hs]; have := dec_len (n := k + 1) (by omega); omega
    · exact partsG_le h hs
  have l : (baseP g k m).length ≤ 102 := by
    unfold baseP
    split
    · simp
    · have := partsG_len g k m; omega
  have : (baseP g k m).length * (1048576 + 1) ≤ 102 * (1048576 + 1) := Nat.mul_le_mul_right _ l
  unfold baseG; omega
def cand (b : List UInt8) (n : Nat) : List UInt8 := b ++ [32] ++ Lib.decDigits n
theorem dec_inj {a b : Nat} (ha : a < 100000000) (hb : b < 100000000) (h : Lib.decDigits a = Lib.decDigits b) : a = b := by
  have e := natO_dec ha
  rw [h, natO_dec hb] at e
  exact (Option.some.inj e).symm
theorem cand_inj {b : List UInt8} {m n : Nat} (hm : m < 100000000) (hn : n < 100000000) (h : cand b m = cand b n) : m = n := dec_inj hm hn (List.append_cancel_left h)
theorem cand_ne (b : List UInt8) (n : Nat) : cand b n ≠ b := fun h => by
  have := congrArg List.length h
  simp [cand] at this
theorem cand_len {b : List UInt8} {n : Nat} (h : n ≤ 1048576) : (cand b n).length ≤ b.length + 22 := by
  have := dec_len h
  simp only [cand, List.length_append, List.length_cons, List.length_nil]; omega
/-- The texts base, base 2, .. base n. -/
def cands (b : List UInt8) : Nat → List (List UInt8)
  | 0 => [b]
  | n + 1 => cand b (n + 2) :: cands b n
theorem cands_len (b : List UInt8) : ∀ n, (cands b n).length = n + 1
  | 0 => rfl
  | n + 1 => by rw [cands, List.length_cons, cands_len b n]
theorem cands_mem {b s : List UInt8} : ∀ {n}, s ∈ cands b n → s = b ∨ ∃ j, 2 ≤ j ∧ j ≤ n + 1 ∧ s = cand b j
  | 0, h => .inl (List.mem_singleton.1 h)
  | n + 1, h => by
    rcases List.mem_cons.1 h with h | h
    · exact .inr ⟨n + 2, by omega, by omega, h⟩
    · rcases cands_mem h with h | ⟨j, h1, h2, h3⟩
      · exact .inl h
      · exact .inr ⟨j, h1, by omega, h3⟩
theorem cands_nodup (b : List UInt8) : ∀ n, n < 1000000 → (cands b n).Nodup
  | 0, _ => List.nodup_cons.2 ⟨by simp, List.nodup_nil⟩
  | n + 1, hn => List.nodup_cons.2 ⟨fun h => by
      rcases cands_mem h with h | ⟨j, h1, h2, h3⟩
      · exact cand_ne _ _ h
      · have := cand_inj (by omega) (by omega) h3; omega, cands_nodup b n (by omega)⟩
theorem nodup_le : ∀ {l out : List (List UInt8)}, l.Nodup → (∀ s ∈ l, s ∈ out) → l.length ≤ out.length
  | [], _, _, _ => Nat.zero_le _
  | x :: l, out, h, hs => by
    obtain ⟨h1, h2⟩ := List.nodup_cons.1 h
    have hx := hs x (by simp)
    have i := nodup_le (l := l) (out := out.erase x) h2 fun s q => by
      refine (List.mem_erase_of_ne (fun e => ?_)).2 (hs s (List.mem_cons_of_mem _ q))
      subst e; exact h1 q
    rw [List.length_erase_of_mem hx] at i
    have := List.length_pos_of_mem hx
    simp only [List.length_cons]; omega
/-- All candidates ahead of n are taken. -/
def TakenTo (out : Row) (b : List UInt8) (n : Nat) : Prop := ∀ j, 2 ≤ j → j < n → cand b j ∈ out
theorem takenTo_le {out : Row} {b : List UInt8} {n : Nat} (hb : b ∈ out) (h : TakenTo out b n) (hn : n < 100000) : n ≤ out.length + 1 := by
  rcases Nat.lt_or_ge n 2 with h2 | h2
  · omega
  · have := nodup_le (cands_nodup b (n - 2) (by omega)) (out := out) fun s hs => by
      rcases cands_mem hs with rfl | ⟨j, h1, h3, rfl⟩
      · exact hb
      · exact h j h1 (by omega)
    rw [cands_len] at this
    omega
/-- A name for a column. -/
def IsFree (out : Row) (b s : List UInt8) : Prop := s ∉ out ∧ (s = b ∨ (b ∈ out ∧ ∃ n, 2 ≤ n ∧ s = cand b n ∧ TakenTo out b n))
theorem IsFree.uniq {out : Row} {b s t : List UInt8} (h1 : IsFree out b s) (h2 : IsFree out b t) : s = t := by
  obtain ⟨a1, a2⟩ := h1
  obtain ⟨b1, b2⟩ := h2
  rcases a2 with rfl | ⟨a2, n, a3, rfl, a4⟩
  · rcases b2 with rfl | ⟨b2, _⟩
    · rfl
    · exact absurd b2 a1
  · rcases b2 with rfl | ⟨b2, m, b3, rfl, b4⟩
    · exact absurd a2 b1
    · rcases Nat.lt_trichotomy n m with q | q | q
      · exact absurd (b4 n a3 q) a1
      · rw [q]
      · exact absurd (a4 m b3 q) b1
def pickN (out : Row) (b : List UInt8) : Nat → Nat → List UInt8
  | 0, n => cand b n
  | f + 1, n => if cand b n ∈ out then pickN out b f (n + 1) else cand b n
def nameN (out : Row) (b : List UInt8) : List UInt8 := if b ∈ out then pickN out b out.length 2 else b
theorem pickN_free {out : Row} {b : List UInt8} (hb : b ∈ out) (ho : out.length < 10000) : ∀ (f n : Nat), 2 ≤ n → TakenTo out b n → out.length + 2 ≤ f + n → n ≤ out.length + 2 → IsFree out b (pickN out b f n)
  | 0, n, h2, ht, hf, hn => by
    rw [pickN]
    refine ⟨fun h => ?_, .inr ⟨hb, n, h2, rfl, ht⟩⟩
    have := takenTo_le hb (n := n + 1) (fun j h1 h3 => by
      rcases Nat.lt_or_ge j n with q | q
      · exact ht j h1 q
      · rw [show j = n by omega]; exact h) (by omega)
    omega
  | f + 1, n, h2, ht, hf, hn => by
    rw [pickN]
    by_cases h : cand b n ∈ out
    · rw [if_pos h]
      have t2 : TakenTo out b (n + 1) := fun j h1 h3 => by
        rcases Nat.lt_or_ge j n with q | q
        · exact ht j h1 q
        · rw [show j = n by omega]; exact h
      have := takenTo_le hb t2 (by omega)
      exact pickN_free hb ho f (n + 1) (by omega) t2 (by omega) (by omega)
    · rw [if_neg h]
      exact ⟨h, .inr ⟨hb, n, h2, rfl, ht⟩⟩
theorem nameN_free {out : Row} {b : List UInt8} (ho : out.length < 10000) : IsFree out b (nameN out b) := by
  unfold nameN
  by_cases h : b ∈ out
  · rw [if_pos h]
    exact pickN_free h ho _ _ (by omega) (fun j h1 h2 => by omega) (by omega) (by omega)
  · rw [if_neg h]; exact ⟨h, .inl rfl⟩
def namesG (g : List Row) (m : Nat) : Nat → Row
  | 0 => []
  | k + 1 => namesG g m k ++ [nameN (namesG g m k) (baseG g k m)]
theorem namesG_len (g : List Row) (m : Nat) : ∀ k, (namesG g m k).length = k
  | 0 => rfl
  | k + 1 => by rw [namesG, List.length_append, namesG_len g m k]; rfl
def mRows (g : List Row) (n : Int) : Nat := (min n g.length).toNat
end Go.Proofs.YthbnileadffpiaaGreatDoor

namespace Go.Proofs.YthbnileadffpiaaGreatDoor
open Go Go.Proofs Go.Abs
variable {G : Globals}
/-! header.Names. -/
theorem TakenTo.app {out o2 : Row} {b : List UInt8} {n : Nat} (h : TakenTo out b n) : TakenTo (out ++ o2) b n := fun j h1 h2 => List.mem_append_left _ (h j h1 h2)
def NxI (out : Row) (mn : List (D × D)) : Prop := KeyS mn ∧ ∀ b, ∃ nx : Nat, lookV (.int .i64 0) mn (S b) false = .int .i64 nx ∧ nx ≤ 100000 ∧ TakenTo out b nx
theorem NxI.nil (out : Row) : NxI out [] := ⟨KeyS.nil, fun b => ⟨0, rfl, by omega, fun j h1 h2 => by omega⟩⟩
theorem NxI.app {out o2 : Row} {mn : List (D × D)} (h : NxI out mn) : NxI (out ++ o2) mn := ⟨h.1, fun b => by
  obtain ⟨nx, h1, h2, h3⟩ := h.2 b
  exact ⟨nx, h1, h2, h3.app⟩⟩
theorem NxI.upd {out : Row} {mn : List (D × D)} (h : NxI out mn) {b : List UInt8} {n : Nat} (hn : n ≤ 100000) (ht : TakenTo out b n) : NxI out (updE mn (S b) (.int .i64 n)) := ⟨h.1.upd _ _, fun c => by
  rw [look_upd h.1]
  by_cases e : c = b
  · rw [if_pos e]; subst e; exact ⟨n, rfl, hn, ht⟩
  · rw [if_neg e]; exact h.2 c⟩
def TkI (out : Row) (mt : List (D × D)) : Prop := KeyS mt ∧ ∀ s, lookV (.bool false) mt (S s) false = .bool (decide (s ∈ out))
theorem TkI.nil : TkI [] [] := ⟨KeyS.nil, fun s => rfl⟩
theorem TkI.upd {out : Row} {mt : List (D × D)} (h : TkI out mt) (t : List UInt8) : TkI (out ++ [t]) (updE mt (S t) (.bool true)) := ⟨h.1.upd _ _, fun s => by
  rw [look_upd h.1]
  by_cases e : s = t
  · rw [if_pos e, decide_eq_true (by simp [e])]
  · rw [if_neg e, h.2 s]; congr 1; exact decide_eq_decide.2 (by simp [e])⟩
/-- Where the search for a free name stands. -/
def CurI (out : Row) (b : List UInt8) (n : Nat) (s : List UInt8) : Prop := 2 ≤ n ∧ n ≤ 100001 ∧ ((s = b ∧ TakenTo out b n) ∨ (b ∈ out ∧ 3 ≤ n ∧ s = cand b (n - 1) ∧ TakenTo out b (n - 1)))
theorem CurI.step {out : Row} {b s : List UInt8} {n : Nat} (h : CurI out b n s) (hs : s ∈ out) (ho : out.length ≤ 1000) : n ≤ 1001 ∧ TakenTo out b n ∧ CurI out b (n + 1) (cand b n) := by
  obtain ⟨h1, h0, h2⟩ := h
  have key : b ∈ out ∧ TakenTo out b n := by
    rcases h2 with ⟨rfl, h3⟩ | ⟨h3, h4, rfl, h5⟩
    · exact ⟨hs, h3⟩
    · refine ⟨h3, fun j j1 j2 => ?_⟩
      rcases Nat.lt_or_ge j (n - 1) with q | q
      · exact h5 j j1 q
      · rw [show j = n - 1 by omega]; exact hs
  have le : n ≤ 1001 := by
    rcases Nat.lt_or_ge n 100000 with q | q
    · have := takenTo_le key.1 key.2 q; omega
    · have := takenTo_le (n := 99999) key.1 (fun j j1 j2 => key.2 j j1 (by omega)) (by omega); omega
  exact ⟨le, key.2, by omega, by omega, .inr ⟨key.1, by omega, by rw [Nat.add_sub_cancel], by rw [Nat.add_sub_cancel]; exact key.2⟩⟩
theorem CurI.fin {out : Row} {b s : List UInt8} {n : Nat} (h : CurI out b n s) (hs : s ∉ out) (ho : out.length ≤ 1000) : s = nameN out b := by
  refine IsFree.uniq (out := out) (b := b) ⟨hs, ?_⟩ (nameN_free (by omega))
  obtain ⟨h1, h0, h2⟩ := h
  rcases h2 with ⟨rfl, h3⟩ | ⟨h3, h4, rfl, h5⟩
  · exact .inl rfl
  · exact .inr ⟨h3, n - 1, by omega, rfl, h5⟩
theorem strs_snoc (a : Row) (s : List UInt8) : strs a ++ [S s] = strs (a ++ [s]) := by simp [strs]
def NmI (g : List Row) (m : Nat) (x : Nat × List (D × D) × List (D × D)) : Prop := x.1 ≤ widG g ∧ TkI (namesG g m x.1) x.2.1 ∧ NxI (namesG g m x.1) x.2.2
set_option maxHeartbeats 16000000 in
set_option maxRecDepth 100000 in
theorem names_spec (hI : HI G) (g : List Row) (full : Bool) (hg : okH g) (n : Int) (n1 : -9223372036854775808 ≤ n) (n2 : n ≤ 9223372036854775807) :
    Ctr Tryz.prog G 17 [.d (.agg [Gr g full]), .d (.int .i64 n)] [] (.d (Ss (namesG g (mRows g n) (widG g)) false)) [] := by
  refine Ctr.pure (M := M0) hmix Tryz.func17 rfl go17 ?_
  have gl := @rowsD_length g
  have hgl := hg.1
  have hw := hg.wid
  have hm : (if (if (g.length : Int) < n then (g.length : Int) else n) > 0 then (if (g.length : Int) < n then (g.length : Int) else n) else 0) = ((mRows g n : Nat) : Int) := by
    unfold mRows; split <;> split at * <;> omega
  have hm2 : mRows g n ≤ g.length := by unfold mRows; omega
  simp (config := { maxSteps := 1000000 }) (disch := ((try simp only [awL]); omega)) only [QR, QS, QT, QU, QV, QW, QX, QY, QZ, Q0, Q1, Q2, gl, Tryz.f17, ↓awU, awV, awF, Qa, Qb, Qc, Qd, forall_const, ↓reduceIte, ↓reduceDIte, ↓Qe, Qf, Qg, Qh, Qi, Qj, Qk, Ql, Qm, Qn, Qo, Qp, Qq, Qr, Qs, implies_true, Qt, Qu, Qv, Qw, Qx, Qy, Qz, QA, QB, QC, QD, QE, QF, QG, QH, QI, QJ, QK, QL, QM, QN, QO, QP, QQ]
  rw [hm]
  clear hm
  generalize mRows g n = m at *
  refine CallC.pure (width_spec g false hg.ok.w) ?_
  simp (config := { maxSteps := 1000000 }) (disch := ((try simp only [awL]); omega)) only [QR, QS, QT, QU, QV, QW, QX, QY, QZ, Q0, Q1, Q2, gl, ↓awU, awV, awF, Qa, Qb, Qc, Qd, forall_const, ↓reduceIte, ↓reduceDIte, ↓Qe, Qf, Qg, Qh, Qi, Qj, Qk, Ql, Qm, Qn, Qo, Qp, Qq, Qr, Qs, implies_true, Qt, Qu, Qv, Qw, Qx, Qy, Qz, QA, QB, QC, QD, QE, QF, QG, QH, QI, QJ, QK, QL, QM, QN, QO, QP, QQ]
  refine LoopC.fr 16777414 (α := Nat × List (D × D) × List (D × D)) (fun x => widG g - x.1) (fun x => [(5, .lsl 3 1 0 x.1), (25, .d (.int .i64 (x.1 : Nat)))])
    (fun x => [.box [.d (Gr g full)], .map x.2.1, .map x.2.2, .row false (strs (namesG g m x.1))]) (NmI g m) (0, [], []) ⟨Nat.zero_le _, TkI.nil, NxI.nil _⟩ ?_ ?_
  · exact ⟨[some 0, some 1, some 2, none], rfl, by simp, by simp [setsA, keepA, SWeak, AWeak], by simp [HWeak, BWeak, SWeak, AWeak, namesG, strs]⟩
  · rintro ⟨k, mt, mn⟩ ⟨hk, ht, hx⟩
    simp only at hk ht hx
    have nl := namesG_len g m k
    have sl := @strs_length (namesG g m k)
    rw [nl] at sl
    simp only [awK, Nat.reduceMod, Nat.reduceDiv, reduceIte]
    rcases Nat.lt_or_ge k (widG g) with h3 | h3
    · have hst : namesG g m (k + 1) = namesG g m k ++ [nameN (namesG g m k) (baseG g k m)] := rfl
      simp (config := { maxSteps := 1000000 }) (disch := ((try simp only [awL]); omega)) only [QR, QS, QT, QU, QV, QW, QX, QY, QZ, Q0, Q1, Q2, gl, ↓awU, awV, awF, Qa, Qb, Qc, Qd, forall_const, ↓reduceIte, ↓reduceDIte, ↓Qe, Qf, Qg, Qh, Qi, Qj, Qk, Ql, Qm, Qn, Qo, Qp, Qq, Qr, Qs, implies_true, Qt, Qu, Qv, Qw, Qx, Qy, Qz, QA, QB, QC, QD, QE, QF, QG, QH, QI, QJ, QK, QL, QM, QN, QO, QP, QQ]
      refine LoopC.fx 318767590 (α := Nat) (β := Unit) (fun i => m - i) (fun i => [(9, .lsl 4 1 0 (partsG g k i).length), (29, .d (.int .i64 (i : Nat)))]) (fun i => [.box [.d (Gr g full)], .map mt, .map mn, .row false (strs (namesG g m k)), .row false (strs (partsG g k i))])
        (fun i => i ≤ m) 50332134 (fun _ => [(9, .lsl 4 1 0 (partsG g k m).length)]) (fun _ => [.box [.d (Gr g full)], .map mt, .map mn, .row false (strs (namesG g m k)), .row false (strs (partsG g k m))]) (fun _ => True) 0 (Nat.zero_le _) ?_ ?_ ?_
      · exact ⟨[some 0, some 1, some 2, some 3, none], rfl, by simp, by simp [setsA, keepA, SWeak, AWeak, partsG], by simp [HWeak, BWeak, SWeak, AWeak, partsG, strs]⟩
      · intro i hi
        have pl := partsG_len g k i
        have sp := @strs_length (partsG g k i)
        simp only [awK, Nat.reduceMod, Nat.reduceDiv, reduceIte]
        rcases Nat.lt_or_ge i m with h4 | h4
        · have ps := partsG_succ g k i
          have al := hg.at i k
          have tl := trimB_len (atG g i k)
          simp (config := { maxSteps := 1000000 }) (disch := ((try simp only [awL]); omega)) only [QR, QS, QT, QU, QV, QW, QX, QY, QZ, Q0, Q1, Q2, gl, ↓awU, awV, awF, Qa, Qb, Qc, Qd, forall_const, ↓reduceIte, ↓reduceDIte, ↓Qe, Qf, Qg, Qh, Qi, Qj, Qk, Ql, Qm, Qn, Qo, Qp, Qq, Qr, Qs, implies_true, Qt, Qu, Qv, Qw, Qx, Qy, Qz, QA, QB, QC, QD, QE, QF, QG, QH, QI, QJ, QK, QL, QM, QN, QO, QP, QQ]
          refine CallC.pure (gat_spec g false hg.ok.w i k (by omega) (by omega) (by omega) (by omega)) ?_
          simp (config := { maxSteps := 1000000 }) (disch := ((try simp only [awL]); omega)) only [QR, QS, QT, QU, QV, QW, QX, QY, QZ, Q0, Q1, Q2, gl, ↓awU, awV, awF, Qa, Qb, Qc, Qd, forall_const, ↓reduceIte, ↓reduceDIte, ↓Qe, Qf, Qg, Qh, Qi, Qj, Qk, Ql, Qm, Qn, Qo, Qp, Qq, Qr, Qs, implies_true, Qt, Qu, Qv, Qw, Qx, Qy, Qz, QA, QB, QC, QD, QE, QF, QG, QH, QI, QJ, QK, QL, QM, QN, QO, QP, QQ]
          refine CallC.pure (ttrim_spec (atG g i k) (by omega)) ?_
          generalize Lib.trimB (atG g i k) 32 = s at *
          by_cases h5 : s = []
          · rw [if_pos h5] at ps
            rw [h5]
            simp (config := { maxSteps := 1000000 }) (disch := ((try simp only [awL]); omega)) only [QR, QS, QT, QU, QV, QW, QX, QY, QZ, Q0, Q1, Q2, gl, ↓awU, awV, awF, Qa, Qb, Qc, Qd, forall_const, ↓reduceIte, ↓reduceDIte, ↓Qe, Qf, Qg, Qh, Qi, Qj, Qk, Ql, Qm, Qn, Qo, Qp, Qq, Qr, Qs, implies_true, Qt, Qu, Qv, Qw, Qx, Qy, Qz, QA, QB, QC, QD, QE, QF, QG, QH, QI, QJ, QK, QL, QM, QN, QO, QP, QQ]
            exact ⟨i + 1, h4, by simp only; omega, ⟨[some 0, some 1, some 2, some 3, some 4], rfl, by simp, by simp [setsA, keepA, SWeak, AWeak, ps], by simp [HWeak, BWeak, SWeak, AWeak, ps]⟩⟩
          · rw [if_neg h5] at ps
            have pll : (partsG g k (i + 1)).length = (partsG g k i).length + 1 := by rw [ps, List.length_append]; rfl
            have psn := strs_snoc (partsG g k i) s
            rw [← ps] at psn
            simp (config := { maxSteps := 1000000 }) (disch := ((try simp only [awL]); omega)) only [QR, QS, QT, QU, QV, QW, QX, QY, QZ, Q0, Q1, Q2, gl, h5, sp, ↓awU, awV, awF, Qa, Qb, Qc, Qd, forall_const, ↓reduceIte, ↓reduceDIte, ↓Qe, Qf, Qg, Qh, Qi, Qj, Qk, Ql, Qm, Qn, Qo, Qp, Qq, Qr, Qs, implies_true, Qt, Qu, Qv, Qw, Qx, Qy, Qz, QA, QB, QC, QD, QE, QF, QG, QH, QI, QJ, QK, QL, QM, QN, QO, QP, QQ]
            exact ⟨i + 1, h4, by simp only; omega, ⟨[some 0, some 1, some 2, some 3, some 6], rfl, by simp, by simp [setsA, keepA, SWeak, AWeak, pll], by simp [HWeak, BWeak, SWeak, AWeak, ← psn]⟩⟩
        · have e : i = m := by omega
          subst e
          simp (config := { maxSteps := 1000000 }) (disch := ((try simp only [awL]); omega)) only [QR, QS, QT, QU, QV, QW, QX, QY, QZ, Q0, Q1, Q2, gl, ↓awU, awV, awF, Qa, Qb, Qc, Qd, forall_const, ↓reduceIte, ↓reduceDIte, ↓Qe, Qf, Qg, Qh, Qi, Qj, Qk, Ql, Qm, Qn, Qo, Qp, Qq, Qr, Qs, implies_true, Qt, Qu, Qv, Qw, Qx, Qy, Qz, QA, QB, QC, QD, QE, QF, QG, QH, QI, QJ, QK, QL, QM, QN, QO, QP, QQ]
          exact ⟨(), trivial, ⟨[some 0, some 1, some 2, some 3, some 4], rfl, by simp, by simp [setsA, keepA, SWeak, AWeak], by simp [HWeak, BWeak, SWeak, AWeak]⟩⟩
      · rintro ⟨⟩ -
        simp only [awK, Nat.reduceMod, Nat.reduceDiv, reduceIte]
        have pl := partsG_len g k m
        have sp := @strs_length (partsG g k m)
        simp (config := { maxSteps := 1000000 }) (disch := ((try simp only [awL]); omega)) only [QR, QS, QT, QU, QV, QW, QX, QY, QZ, Q0, Q1, Q2, gl, sp, ↓awU, awV, awF, Qa, Qb, Qc, Qd, forall_const, ↓reduceIte, ↓reduceDIte, ↓Qe, Qf, Qg, Qh, Qi, Qj, Qk, Ql, Qm, Qn, Qo, Qp, Qq, Qr, Qs, implies_true, Qt, Qu, Qv, Qw, Qx, Qy, Qz, QA, QB, QC, QD, QE, QF, QG, QH, QI, QJ, QK, QL, QM, QN, QO, QP, QQ]
        refine ⟨fun h5 => ?_, fun h5 => ?_⟩
        · have e0 : partsG g k m = [] := List.eq_nil_of_length_eq_zero (by omega)
          refine CallC.pure (hI (k + 1) (by omega)) ?_
          simp (config := { maxSteps := 1000000 }) (disch := ((try simp only [awL]); omega)) only [QR, QS, QT, QU, QV, QW, QX, QY, QZ, Q0, Q1, Q2, gl, sp, ↓awU, awV, awF, Qa, Qb, Qc, Qd, forall_const, ↓reduceIte, ↓reduceDIte, ↓Qe, Qf, Qg, Qh, Qi, Qj, Qk, Ql, Qm, Qn, Qo, Qp, Qq, Qr, Qs, implies_true, Qt, Qu, Qv, Qw, Qx, Qy, Qz, QA, QB, QC, QD, QE, QF, QG, QH, QI, QJ, QK, QL, QM, QN, QO, QP, QQ]
          refine CallC.frozenE (join_spec [colT, Lib.decDigits (k + 1)] false [32] (by simp) (by simp) (by have := dec_len (n := k + 1) (by omega); simp [Lib.join_cons, Lib.joinTail]; try omega)) (by rfl) ?_
          rw [show Lib.join ([colT, Lib.decDigits (k + 1)]) [32] = baseG g k m by rw [baseG, baseP, if_pos e0]]
          have bl := baseG_len hg (k := k) (m := m) (by omega) (by omega)
          obtain ⟨nx, nx1, nx2, nx3⟩ := hx.2 (baseG g k m)
          have okx := hx.1.ok
          generalize baseG g k m = b at *
          have hmx : (if (nx : Int) > 2 then (nx : Int) else 2) = ((max 2 nx : Nat) : Int) := by split <;> omega
          simp (config := { maxSteps := 1000000 }) (disch := ((try simp only [awL]); omega)) only [QR, QS, QT, QU, QV, QW, QX, QY, QZ, Q0, Q1, Q2, gl, okx, nx1, hmx, ↓awU, awV, awF, Qa, Qb, Qc, Qd, forall_const, ↓reduceIte, ↓reduceDIte, ↓Qe, Qf, Qg, Qh, Qi, Qj, Qk, Ql, Qm, Qn, Qo, Qp, Qq, Qr, Qs, implies_true, Qt, Qu, Qv, Qw, Qx, Qy, Qz, QA, QB, QC, QD, QE, QF, QG, QH, QI, QJ, QK, QL, QM, QN, QO, QP, QQ]
          have okt := ht.1.ok
          refine LoopC.fx 50335974 (α := Nat × List UInt8 × List (D × D)) (β := List UInt8 × List (D × D)) (fun y => 200000 - y.1) (fun y => [(13, .d (S y.2.1)), (14, .d (.int .i64 (y.1 : Nat)))]) (fun y => [.box [.d (Gr g full)], .map mt, .map y.2.2, .row false (strs (namesG g m k))])
            (fun y => CurI (namesG g m k) b y.1 y.2.1 ∧ NxI (namesG g m k) y.2.2) 50331878 (fun y => [(13, .d (S y.1))]) (fun y => [.box [.d (Gr g full)], .map mt, .map y.2, .row false (strs (namesG g m k))]) (fun y => y.1 ∉ namesG g m k ∧ y.1 = nameN (namesG g m k) b ∧ NxI (namesG g m k) y.2)
            (max 2 nx, b, mn) ⟨⟨by simp only; omega, by simp only; omega, .inl ⟨rfl, fun j j1 j2 => nx3 j j1 (by simp only at j2; omega)⟩⟩, hx⟩ ?_ ?_ ?_
          · exact ⟨[some 0, some 1, some 2, some 3], rfl, by simp, by simp [setsA, keepA, SWeak, AWeak], by simp [HWeak, BWeak, SWeak, AWeak]⟩
          · rintro ⟨n3, s, mq⟩ ⟨hc, hq⟩
            simp only at hc hq
            simp only [awK, Nat.reduceMod, Nat.reduceDiv, reduceIte]
            have lk := ht.2 s
            have okq := hq.1.ok
            by_cases h6 : s ∈ namesG g m k
            · rw [decide_eq_true h6] at lk
              obtain ⟨c1, c2, c3⟩ := hc.step h6 (by omega)
              have dl := dec_len (n := n3) (by omega)
              simp (config := { maxSteps := 1000000 }) (disch := ((try simp only [awL]); omega)) only [QR, QS, QT, QU, QV, QW, QX, QY, QZ, Q0, Q1, Q2, gl, okt, okq, lk, ↓awU, awV, awF, Qa, Qb, Qc, Qd, forall_const, ↓reduceIte, ↓reduceDIte, ↓Qe, Qf, Qg, Qh, Qi, Qj, Qk, Ql, Qm, Qn, Qo, Qp, Qq, Qr, Qs, implies_true, Qt, Qu, Qv, Qw, Qx, Qy, Qz, QA, QB, QC, QD, QE, QF, QG, QH, QI, QJ, QK, QL, QM, QN, QO, QP, QQ]
              refine CallC.pure (hI n3 (by omega)) ?_
              simp (config := { maxSteps := 1000000 }) (disch := ((try simp only [awL]); omega)) only [QR, QS, QT, QU, QV, QW, QX, QY, QZ, Q0, Q1, Q2, gl, okt, okq, lk, ↓awU, awV, awF, Qa, Qb, Qc, Qd, forall_const, ↓reduceIte, ↓reduceDIte, ↓Qe, Qf, Qg, Qh, Qi, Qj, Qk, Ql, Qm, Qn, Qo, Qp, Qq, Qr, Qs, implies_true, Qt, Qu, Qv, Qw, Qx, Qy, Qz, QA, QB, QC, QD, QE, QF, QG, QH, QI, QJ, QK, QL, QM, QN, QO, QP, QQ]
              exact ⟨(n3 + 1, cand b n3, updE mq (S b) (.int .i64 n3)), ⟨c3, hq.upd (by omega) c2⟩, by simp only; omega, ⟨[some 0, some 1, some 2, some 3], rfl, by simp, by simp [setsA, keepA, SWeak, AWeak, cand], by simp [HWeak, BWeak, SWeak, AWeak]⟩⟩
            · rw [decide_eq_false h6] at lk
              have hf := hc.fin h6 (by omega)
              simp (config := { maxSteps := 1000000 }) (disch := ((try simp only [awL]); omega)) only [QR, QS, QT, QU, QV, QW, QX, QY, QZ, Q0, Q1, Q2, gl, okt, lk, ↓awU, awV, awF, Qa, Qb, Qc, Qd, forall_const, ↓reduceIte, ↓reduceDIte, ↓Qe, Qf, Qg, Qh, Qi, Qj, Qk, Ql, Qm, Qn, Qo, Qp, Qq, Qr, Qs, implies_true, Qt, Qu, Qv, Qw, Qx, Qy, Qz, QA, QB, QC, QD, QE, QF, QG, QH, QI, QJ, QK, QL, QM, QN, QO, QP, QQ]
              exact ⟨(s, mq), ⟨h6, hf, hq⟩, ⟨[some 0, some 1, some 2, some 3], rfl, by simp, by simp [setsA, keepA, SWeak, AWeak], by simp [HWeak, BWeak, SWeak, AWeak]⟩⟩
          · rintro ⟨s, mq⟩ ⟨h6, hf, hq⟩
            simp only at h6 hf hq
            simp only [awK, Nat.reduceMod, Nat.reduceDiv, reduceIte]
            have okq := hq.1.ok
            rw [← hf] at hst
            have ssn := strs_snoc (namesG g m k) s
            rw [← hst] at ssn
            have htk := ht.upd s
            have hqk := hq.app (o2 := [s])
            rw [← hst] at htk hqk
            simp (config := { maxSteps := 1000000 }) (disch := ((try simp only [awL]); omega)) only [QR, QS, QT, QU, QV, QW, QX, QY, QZ, Q0, Q1, Q2, gl, okt, sl, ↓awU, awV, awF, Qa, Qb, Qc, Qd, forall_const, ↓reduceIte, ↓reduceDIte, ↓Qe, Qf, Qg, Qh, Qi, Qj, Qk, Ql, Qm, Qn, Qo, Qp, Qq, Qr, Qs, implies_true, Qt, Qu, Qv, Qw, Qx, Qy, Qz, QA, QB, QC, QD, QE, QF, QG, QH, QI, QJ, QK, QL, QM, QN, QO, QP, QQ]
            exact ⟨(k + 1, updE mt (S s) (.bool true), mq), ⟨h3, htk, hqk⟩, by simp only; omega, ⟨[some 0, some 1, some 2, some 5], rfl, by simp, by simp [setsA, keepA, SWeak, AWeak], by simp [HWeak, BWeak, SWeak, AWeak, ← ssn]⟩⟩
        · have e0 : ¬ partsG g k m = [] := fun q => h5 (by rw [q]; rfl)
          have jl := baseG_len hg (k := k) (m := m) (by omega) (by omega)
          rw [baseG, baseP, if_neg e0] at jl
          refine CallC.frozenE (join_spec (partsG g k m) false [32] (by omega) (by omega) (by omega)) (by rw [cut_all (by rw [sp])]) ?_
          rw [show Lib.join (partsG g k m) [32] = baseG g k m by rw [baseG, baseP, if_neg e0]]
          have bl := baseG_len hg (k := k) (m := m) (by omega) (by omega)
          obtain ⟨nx, nx1, nx2, nx3⟩ := hx.2 (baseG g k m)
          have okx := hx.1.ok
          generalize baseG g k m = b at *
          have hmx : (if (nx : Int) > 2 then (nx : Int) else 2) = ((max 2 nx : Nat) : Int) := by split <;> omega
          simp (config := { maxSteps := 1000000 }) (disch := ((try simp only [awL]); omega)) only [QR, QS, QT, QU, QV, QW, QX, QY, QZ, Q0, Q1, Q2, gl, okx, nx1, hmx, ↓awU, awV, awF, Qa, Qb, Qc, Qd, forall_const, ↓reduceIte, ↓reduceDIte, ↓Qe, Qf, Qg, Qh, Qi, Qj, Qk, Ql, Qm, Qn, Qo, Qp, Qq, Qr, Qs, implies_true, Qt, Qu, Qv, Qw, Qx, Qy, Qz, QA, QB, QC, QD, QE, QF, QG, QH, QI, QJ, QK, QL, QM, QN, QO, QP, QQ]
          have okt := ht.1.ok
          refine LoopC.fx 50335974 (α := Nat × List UInt8 × List (D × D)) (β := List UInt8 × List (D × D)) (fun y => 200000 - y.1) (fun y => [(13, .d (S y.2.1)), (14, .d (.int .i64 (y.1 : Nat)))]) (fun y => [.box [.d (Gr g full)], .map mt, .map y.2.2, .row false (strs (namesG g m k))])
            (fun y => CurI (namesG g m k) b y.1 y.2.1 ∧ NxI (namesG g m k) y.2.2) 50331878 (fun y => [(13, .d (S y.1))]) (fun y => [.box [.d (Gr g full)], .map mt, .map y.2, .row false (strs (namesG g m k))]) (fun y => y.1 ∉ namesG g m k ∧ y.1 = nameN (namesG g m k) b ∧ NxI (namesG g m k) y.2)
            (max 2 nx, b, mn) ⟨⟨by simp only; omega, by simp only; omega, .inl ⟨rfl, fun j j1 j2 => nx3 j j1 (by simp only at j2; omega)⟩⟩, hx⟩ ?_ ?_ ?_
          · exact ⟨[some 0, some 1, some 2, some 3], rfl, by simp, by simp [setsA, keepA, SWeak, AWeak], by simp [HWeak, BWeak, SWeak, AWeak]⟩
          · rintro ⟨n3, s, mq⟩ ⟨hc, hq⟩
            simp only at hc hq
            simp only [awK, Nat.reduceMod, Nat.reduceDiv, reduceIte]
            have lk := ht.2 s
            have okq := hq.1.ok
            by_cases h6 : s ∈ namesG g m k
            · rw [decide_eq_true h6] at lk
              obtain ⟨c1, c2, c3⟩ := hc.step h6 (by omega)
              have dl := dec_len (n := n3) (by omega)
              simp (config := { maxSteps := 1000000 }) (disch := ((try simp only [awL]); omega)) only [QR, QS, QT, QU, QV, QW, QX, QY, QZ, Q0, Q1, Q2, gl, okt, okq, lk, ↓awU, awV, awF, Qa, Qb, Qc, Qd, forall_const, ↓reduceIte, ↓reduceDIte, ↓Qe, Qf, Qg, Qh, Qi, Qj, Qk, Ql, Qm, Qn, Qo, Qp, Qq, Qr, Qs, implies_true, Qt, Qu, Qv, Qw, Qx, Qy, Qz, QA, QB, QC, QD, QE, QF, QG, QH, QI, QJ, QK, QL, QM, QN, QO, QP, QQ]
              refine CallC.pure (hI n3 (by omega)) ?_
              simp (config := { maxSteps := 1000000 }) (disch := ((try simp only [awL]); omega)) only [QR, QS, QT, QU, QV, QW, QX, QY, QZ, Q0, Q1, Q2, gl, okt, okq, lk, ↓awU, awV, awF, Qa, Qb, Qc, Qd, forall_const, ↓reduceIte, ↓reduceDIte, ↓Qe, Qf, Qg, Qh, Qi, Qj, Qk, Ql, Qm, Qn, Qo, Qp, Qq, Qr, Qs, implies_true, Qt, Qu, Qv, Qw, Qx, Qy, Qz, QA, QB, QC, QD, QE, QF, QG, QH, QI, QJ, QK, QL, QM, QN, QO, QP, QQ]
              exact ⟨(n3 + 1, cand b n3, updE mq (S b) (.int .i64 n3)), ⟨c3, hq.upd (by omega) c2⟩, by simp only; omega, ⟨[some 0, some 1, some 2, some 3], rfl, by simp, by simp [setsA, keepA, SWeak, AWeak, cand], by simp [HWeak, BWeak, SWeak, AWeak]⟩⟩
            · rw [decide_eq_false h6] at lk
              have hf := hc.fin h6 (by omega)
              simp (config := { maxSteps := 1000000 }) (disch := ((try simp only [awL]); omega)) only [QR, QS, QT, QU, QV, QW, QX, QY, QZ, Q0, Q1, Q2, gl, okt, lk, ↓awU, awV, awF, Qa, Qb, Qc, Qd, forall_const, ↓reduceIte, ↓reduceDIte, ↓Qe, Qf, Qg, Qh, Qi, Qj, Qk, Ql, Qm, Qn, Qo, Qp, Qq, Qr, Qs, implies_true, Qt, Qu, Qv, Qw, Qx, Qy, Qz, QA, QB, QC, QD, QE, QF, QG, QH, QI, QJ, QK, QL, QM, QN, QO, QP, QQ]
              exact ⟨(s, mq), ⟨h6, hf, hq⟩, ⟨[some 0, some 1, some 2, some 3], rfl, by simp, by simp [setsA, keepA, SWeak, AWeak], by simp [HWeak, BWeak, SWeak, AWeak]⟩⟩
          · rintro ⟨s, mq⟩ ⟨h6, hf, hq⟩
            simp only at h6 hf hq
            simp only [awK, Nat.reduceMod, Nat.reduceDiv, reduceIte]
            have okq := hq.1.ok
            rw [← hf] at hst
            have ssn := strs_snoc (namesG g m k) s
            rw [← hst] at ssn
            have htk := ht.upd s
            have hqk := hq.app (o2 := [s])
            rw [← hst] at htk hqk
            simp (config := { maxSteps := 1000000 }) (disch := ((try simp only [awL]); omega)) only [QR, QS, QT, QU, QV, QW, QX, QY, QZ, Q0, Q1, Q2, gl, okt, sl, ↓awU, awV, awF, Qa, Qb, Qc, Qd, forall_const, ↓reduceIte, ↓reduceDIte, ↓Qe, Qf, Qg, Qh, Qi, Qj, Qk, Ql, Qm, Qn, Qo, Qp, Qq, Qr, Qs, implies_true, Qt, Qu, Qv, Qw, Qx, Qy, Qz, QA, QB, QC, QD, QE, QF, QG, QH, QI, QJ, QK, QL, QM, QN, QO, QP, QQ]
            exact ⟨(k + 1, updE mt (S s) (.bool true), mq), ⟨h3, htk, hqk⟩, by simp only; omega, ⟨[some 0, some 1, some 2, some 5], rfl, by simp, by simp [setsA, keepA, SWeak, AWeak], by simp [HWeak, BWeak, SWeak, AWeak, ← ssn]⟩⟩
    · have e : k = widG g := by omega
      subst e
      simp (config := { maxSteps := 1000000 }) (disch := ((try simp only [awL]); omega)) only [QR, QS, QT, QU, QV, QW, QX, QY, QZ, Q0, Q1, Q2, gl, sl, ↓awU, awV, awF, Qa, Qb, Qc, Qd, forall_const, ↓reduceIte, ↓reduceDIte, ↓Qe, Qf, Qg, Qh, Qi, Qj, Qk, Ql, Qm, Qn, Qo, Qp, Qq, Qr, Qs, implies_true, Qt, Qu, Qv, Qw, Qx, Qy, Qz, QA, QB, QC, QD, QE, QF, QG, QH, QI, QJ, QK, QL, QM, QN, QO, QP, QQ]
      rw [cut_all (by rw [sl])]
      unfold Ss
      rw [nl]
end Go.Proofs.YthbnileadffpiaaGreatDoor

namespace Go.Proofs.YthbnileadffpiaaGreatDoor
open Go Go.Proofs Go.Abs
variable {G : Globals}
/-! The reference's Names. -/
end Go.Proofs.YthbnileadffpiaaGreatDoor

namespace Go.Proofs.YthbnileadffpiaaGreatDoor
open Go Go.Proofs Go.Abs
variable {G : Globals}
/-! The dice's Grid. -/
end Go.Proofs.YthbnileadffpiaaGreatDoor

namespace Go.Proofs.YthbnileadffpiaaGreatDoor
open Go Go.Proofs Go.Abs
variable {G : Globals}
/-! Tables: cells, columns; which texts and cells may stand there. -/
abbrev Cel := List UInt8 × Bool
abbrev CelC (c : Cel) : List D := [.bool c.2, S c.1]
def celsD (l : List Cel) : List D := l.flatMap CelC
abbrev CelS (l : List Cel) (full : Bool) : D := .sl l.length full (celsD l)
structure Col where
  name : List UInt8
  cells : List Cel
abbrev ColC (c : Col) : List D := [S c.name, CelS c.cells false]
def colsD (l : List Col) : List D := l.flatMap ColC
abbrev ColS (l : List Col) (full : Bool) : D := .sl l.length full (colsD l)
structure Tab where
  id : Int
  name : List UInt8
  cols : List Col
abbrev TabD (t : Tab) (full : Bool) : D := .agg [.int .i64 t.id, S t.name, ColS t.cols full]
theorem celsD_length : ∀ l : List Cel, (celsD l).length = 2 * l.length
  | [] => rfl
  | o :: l => by
    have ih := celsD_length l
    simp only [celsD, List.flatMap_cons, List.length_append, List.length_cons, List.length_nil] at ih ⊢
    omega
theorem colsD_length : ∀ l : List Col, (colsD l).length = 2 * l.length
  | [] => rfl
  | o :: l => by
    have ih := colsD_length l
    simp only [colsD, List.flatMap_cons, List.length_append, List.length_cons, List.length_nil] at ih ⊢
    omega
theorem celsD_app (a b : List Cel) : celsD (a ++ b) = celsD a ++ celsD b := by simp [celsD]
theorem colsD_app (a b : List Col) : colsD (a ++ b) = colsD a ++ colsD b := by simp [colsD]
def fineB (s : List UInt8) : Bool := decide (s.length ≤ 1024) && Lib.validD s
def okCel (c : Cel) : Bool := fineB c.1 && !(c.2 && !decide (c.1 = []))
set_option maxHeartbeats 1000000 in
theorem fine_spec (hT : HT G) (s : List UInt8) (hs : s.length ≤ 1000000000) : Ctr Tryz.prog G 63 [.d (S s)] [] (.d (.bool (fineB s))) [] := by
  refine Ctr.pure (M := M0) hmix Tryz.func63 rfl go63 ?_
  unfold fineB
  by_cases h : s.length ≤ 1024
  · rw [decide_eq_true h, Bool.true_and]
    simp (config := { maxSteps := 1000000 }) (disch := ((try simp only [awL]); omega)) only [QR, QS, QT, QU, QV, QW, QX, QY, QZ, Q0, Q1, Q2, Tryz.f63, ↓awU, awV, awF, Qa, Qb, Qc, Qd, forall_const, ↓reduceIte, ↓reduceDIte, ↓Qe, Qf, Qg, Qh, Qi, Qj, Qk, Ql, Qm, Qn, Qo, Qp, Qq, Qr, Qs, implies_true, Qt, Qu, Qv, Qw, Qx, Qy, Qz, QA, QB, QC, QD, QE, QF, QG, QH, QI, QJ, QK, QL, QM, QN, QO, QP, QQ]
    refine CallC.pure (tvalid_spec hT s (by omega)) ?_
    simp (config := { maxSteps := 1000000 }) (disch := ((try simp only [awL]); omega)) only [QR, QS, QT, QU, QV, QW, QX, QY, QZ, Q0, Q1, Q2, ↓awU, awV, awF, Qa, Qb, Qc, Qd, forall_const, ↓reduceIte, ↓reduceDIte, ↓Qe, Qf, Qg, Qh, Qi, Qj, Qk, Ql, Qm, Qn, Qo, Qp, Qq, Qr, Qs, implies_true, Qt, Qu, Qv, Qw, Qx, Qy, Qz, QA, QB, QC, QD, QE, QF, QG, QH, QI, QJ, QK, QL, QM, QN, QO, QP, QQ]
    first | done | rfl
  · rw [decide_eq_false h, Bool.false_and]
    simp (config := { maxSteps := 1000000 }) (disch := ((try simp only [awL]); omega)) only [QR, QS, QT, QU, QV, QW, QX, QY, QZ, Q0, Q1, Q2, Tryz.f63, ↓awU, awV, awF, Qa, Qb, Qc, Qd, forall_const, ↓reduceIte, ↓reduceDIte, ↓Qe, Qf, Qg, Qh, Qi, Qj, Qk, Ql, Qm, Qn, Qo, Qp, Qq, Qr, Qs, implies_true, Qt, Qu, Qv, Qw, Qx, Qy, Qz, QA, QB, QC, QD, QE, QF, QG, QH, QI, QJ, QK, QL, QM, QN, QO, QP, QQ]
    first | done | rfl
set_option maxHeartbeats 1000000 in
theorem validCell_spec (hT : HT G) (c : Cel) (hs : c.1.length ≤ 1000000000) : Ctr Tryz.prog G 68 [.d (.agg (CelC c))] [] (.d (.bool (okCel c))) [] := by
  obtain ⟨s, b⟩ := c
  refine Ctr.pure (M := M0) hmix Tryz.func68 rfl go68 ?_
  unfold okCel
  simp only at hs ⊢
  simp (config := { maxSteps := 1000000 }) (disch := ((try simp only [awL]); omega)) only [QR, QS, QT, QU, QV, QW, QX, QY, QZ, Q0, Q1, Q2, Tryz.f68, ↓awU, awV, awF, Qa, Qb, Qc, Qd, forall_const, ↓reduceIte, ↓reduceDIte, ↓Qe, Qf, Qg, Qh, Qi, Qj, Qk, Ql, Qm, Qn, Qo, Qp, Qq, Qr, Qs, implies_true, Qt, Qu, Qv, Qw, Qx, Qy, Qz, QA, QB, QC, QD, QE, QF, QG, QH, QI, QJ, QK, QL, QM, QN, QO, QP, QQ]
  refine CallC.pure (fine_spec hT s hs) ?_
  cases hv : fineB s
  · rw [Bool.false_and]
    simp (config := { maxSteps := 1000000 }) (disch := ((try simp only [awL]); omega)) only [QR, QS, QT, QU, QV, QW, QX, QY, QZ, Q0, Q1, Q2, ↓awU, awV, awF, Qa, Qb, Qc, Qd, forall_const, ↓reduceIte, ↓reduceDIte, ↓Qe, Qf, Qg, Qh, Qi, Qj, Qk, Ql, Qm, Qn, Qo, Qp, Qq, Qr, Qs, implies_true, Qt, Qu, Qv, Qw, Qx, Qy, Qz, QA, QB, QC, QD, QE, QF, QG, QH, QI, QJ, QK, QL, QM, QN, QO, QP, QQ]
    first | done | rfl | exact ⟨by rfl, by rfl⟩
  · rw [Bool.true_and]
    cases b
    · rw [Bool.false_and, Bool.not_false]
      simp (config := { maxSteps := 1000000 }) (disch := ((try simp only [awL]); omega)) only [QR, QS, QT, QU, QV, QW, QX, QY, QZ, Q0, Q1, Q2, ↓awU, awV, awF, Qa, Qb, Qc, Qd, forall_const, ↓reduceIte, ↓reduceDIte, ↓Qe, Qf, Qg, Qh, Qi, Qj, Qk, Ql, Qm, Qn, Qo, Qp, Qq, Qr, Qs, implies_true, Qt, Qu, Qv, Qw, Qx, Qy, Qz, QA, QB, QC, QD, QE, QF, QG, QH, QI, QJ, QK, QL, QM, QN, QO, QP, QQ]
      first | done | rfl | exact ⟨by rfl, by rfl⟩
    · rw [Bool.true_and]
      by_cases h : s = []
      · subst h
        simp (config := { maxSteps := 1000000 }) (disch := ((try simp only [awL]); omega)) only [QR, QS, QT, QU, QV, QW, QX, QY, QZ, Q0, Q1, Q2, ↓awU, awV, awF, Qa, Qb, Qc, Qd, forall_const, ↓reduceIte, ↓reduceDIte, ↓Qe, Qf, Qg, Qh, Qi, Qj, Qk, Ql, Qm, Qn, Qo, Qp, Qq, Qr, Qs, implies_true, Qt, Qu, Qv, Qw, Qx, Qy, Qz, QA, QB, QC, QD, QE, QF, QG, QH, QI, QJ, QK, QL, QM, QN, QO, QP, QQ]
        first | done | rfl | exact ⟨by rfl, by rfl⟩
      · simp (config := { maxSteps := 1000000 }) (disch := ((try simp only [awL]); omega)) only [QR, QS, QT, QU, QV, QW, QX, QY, QZ, Q0, Q1, Q2, h, ↓awU, awV, awF, Qa, Qb, Qc, Qd, forall_const, ↓reduceIte, ↓reduceDIte, ↓Qe, Qf, Qg, Qh, Qi, Qj, Qk, Ql, Qm, Qn, Qo, Qp, Qq, Qr, Qs, implies_true, Qt, Qu, Qv, Qw, Qx, Qy, Qz, QA, QB, QC, QD, QE, QF, QG, QH, QI, QJ, QK, QL, QM, QN, QO, QP, QQ]
        first | done | rfl | simp [h] | exact ⟨by rfl, by simp [h]⟩
/-- A text that may not be in a table. -/
def badB (s : List UInt8) : Bool := !fineB s
set_option maxHeartbeats 1000000 in
theorem bad_spec9 (hT : HT G) (s : List UInt8) (hs : s.length ≤ 1000000000) : Ctr Tryz.prog G 47 [.d (S s)] [] (.d (.bool (badB s))) [] := by
  refine Ctr.pure (M := M0) hmix Tryz.func47 rfl go47 ?_
  simp (config := { maxSteps := 1000000 }) (disch := ((try simp only [awL]); omega)) only [QR, QS, QT, QU, QV, QW, QX, QY, QZ, Q0, Q1, Q2, Tryz.f47, ↓awU, awV, awF, Qa, Qb, Qc, Qd, forall_const, ↓reduceIte, ↓reduceDIte, ↓Qe, Qf, Qg, Qh, Qi, Qj, Qk, Ql, Qm, Qn, Qo, Qp, Qq, Qr, Qs, implies_true, Qt, Qu, Qv, Qw, Qx, Qy, Qz, QA, QB, QC, QD, QE, QF, QG, QH, QI, QJ, QK, QL, QM, QN, QO, QP, QQ]
  refine CallC.of (validCell_spec hT (s, false) hs) (by rfl) ?_
  rw [show badB s = !okCel (s, false) by unfold badB okCel; simp]
  generalize okCel (s, false) = b
  simp (config := { maxSteps := 1000000 }) (disch := ((try simp only [awL]); omega)) only [QR, QS, QT, QU, QV, QW, QX, QY, QZ, Q0, Q1, Q2, ↓awU, awV, awF, Qa, Qb, Qc, Qd, forall_const, ↓reduceIte, ↓reduceDIte, ↓Qe, Qf, Qg, Qh, Qi, Qj, Qk, Ql, Qm, Qn, Qo, Qp, Qq, Qr, Qs, implies_true, Qt, Qu, Qv, Qw, Qx, Qy, Qz, QA, QB, QC, QD, QE, QF, QG, QH, QI, QJ, QK, QL, QM, QN, QO, QP, QQ]
  first | done | rfl
set_option maxHeartbeats 1000000 in
theorem badRow_spec (hT : HT G) (r : Row) (hr : r.length ≤ 1000000000 ∧ ∀ s ∈ r, s.length ≤ 1000000000) : Ctr Tryz.prog G 49 [.d (Ss r false)] [] (.d (.bool (r.any badB))) [] := by
  refine Ctr.pure (M := M0) hmix Tryz.func49 rfl go49 ?_
  simp (config := { maxSteps := 1000000 }) (disch := ((try simp only [awL]); omega)) only [QR, QS, QT, QU, QV, QW, QX, QY, QZ, Q0, Q1, Q2, Tryz.f49, ↓awU, awV, awF, Qa, Qb, Qc, Qd, forall_const, ↓reduceIte, ↓reduceDIte, ↓Qe, Qf, Qg, Qh, Qi, Qj, Qk, Ql, Qm, Qn, Qo, Qp, Qq, Qr, Qs, implies_true, Qt, Qu, Qv, Qw, Qx, Qy, Qz, QA, QB, QC, QD, QE, QF, QG, QH, QI, QJ, QK, QL, QM, QN, QO, QP, QQ]
  refine CallC.of (containsFunc_spec 47 badB r false hr.1 fun s hm => bad_spec9 hT s (hr.2 s hm)) (by rfl) ?_
  simp (config := { maxSteps := 1000000 }) (disch := ((try simp only [awL]); omega)) only [QR, QS, QT, QU, QV, QW, QX, QY, QZ, Q0, Q1, Q2, ↓awU, awV, awF, Qa, Qb, Qc, Qd, forall_const, ↓reduceIte, ↓reduceDIte, ↓Qe, Qf, Qg, Qh, Qi, Qj, Qk, Ql, Qm, Qn, Qo, Qp, Qq, Qr, Qs, implies_true, Qt, Qu, Qv, Qw, Qx, Qy, Qz, QA, QB, QC, QD, QE, QF, QG, QH, QI, QJ, QK, QL, QM, QN, QO, QP, QQ]
  first | done | rfl
def rowsT (t : Tab) : Nat := match t.cols with | [] => 0 | c :: _ => c.cells.length
set_option maxHeartbeats 1000000 in
theorem rows_spec (t : Tab) (full : Bool) (hc : t.cols.length ≤ 1000000000) (h2 : ∀ c ∈ t.cols, c.cells.length ≤ 1000000000) : Ctr Tryz.prog G 64 [.d (TabD t full)] [] (.d (.int .i64 (rowsT t))) [] := by
  obtain ⟨id, name, cols⟩ := t
  simp only at hc h2
  refine Ctr.pure (M := M0) hmix Tryz.func64 rfl go64 ?_
  rcases cols with _ | ⟨c, r⟩
  · simp (config := { maxSteps := 1000000 }) (disch := ((try simp only [awL]); omega)) only [QR, QS, QT, QU, QV, QW, QX, QY, QZ, Q0, Q1, Q2, Tryz.f64, List.length_nil, ↓awU, awV, awF, Qa, Qb, Qc, Qd, forall_const, ↓reduceIte, ↓reduceDIte, ↓Qe, Qf, Qg, Qh, Qi, Qj, Qk, Ql, Qm, Qn, Qo, Qp, Qq, Qr, Qs, implies_true, Qt, Qu, Qv, Qw, Qx, Qy, Qz, QA, QB, QC, QD, QE, QF, QG, QH, QI, QJ, QK, QL, QM, QN, QO, QP, QQ]
    first | done | rfl | exact ⟨by rfl, by rfl⟩
  · have cl := colsD_length (c :: r)
    have e1 : (colsD (c :: r)).getD 1 .nilp = CelS c.cells false := rfl
    have hcl := celsD_length c.cells
    have h3 := h2 c (by simp)
    have ll : (c :: r).length = r.length + 1 := rfl
    simp (config := { maxSteps := 1000000 }) (disch := ((try simp only [awL]); omega)) only [QR, QS, QT, QU, QV, QW, QX, QY, QZ, Q0, Q1, Q2, Tryz.f64, e1, cl, ll, ↓awU, awV, awF, Qa, Qb, Qc, Qd, forall_const, ↓reduceIte, ↓reduceDIte, ↓Qe, Qf, Qg, Qh, Qi, Qj, Qk, Ql, Qm, Qn, Qo, Qp, Qq, Qr, Qs, implies_true, Qt, Qu, Qv, Qw, Qx, Qy, Qz, QA, QB, QC, QD, QE, QF, QG, QH, QI, QJ, QK, QL, QM, QN, QO, QP, QQ]
    first | done | rfl | exact ⟨by rfl, by rfl⟩
set_option maxHeartbeats 1000000 in
theorem ixNone_spec (f : Bool) (fv : AV) (a b c : D) (hf : fv = .fn (.func 66) [] [.ptr 0 0]) : Ctr Tryz.prog G 101 [.d (.sl 0 f []), fv] [.box [.d a, .d b, .d c]] (.d (.int .i64 (-1))) [.box [.d a, .d b, .d c]] := by
  subst hf
  refine Ctr.body (M := M0) hmix Tryz.func101 rfl go101 ?_
  simp (config := { maxSteps := 1000000 }) (disch := ((try simp only [awL]); omega)) only [QR, QS, QT, QU, QV, QW, QX, QY, QZ, Q0, Q1, Q2, Tryz.f101, ↓awU, awV, awF, Qa, Qb, Qc, Qd, forall_const, ↓reduceIte, ↓reduceDIte, ↓Qe, Qf, Qg, Qh, Qi, Qj, Qk, Ql, Qm, Qn, Qo, Qp, Qq, Qr, Qs, implies_true, Qt, Qu, Qv, Qw, Qx, Qy, Qz, QA, QB, QC, QD, QE, QF, QG, QH, QI, QJ, QK, QL, QM, QN, QO, QP, QQ]
  refine LoopC.fr 131 (α := Unit) (fun _ => 0) (fun _ => [(8, .d (.int .i64 0))]) (fun _ => [.box [.d a, .d b, .d c]]) (fun _ => True) () trivial ?_ ?_
  · exact ⟨[some 0], rfl, by simp, by simp [setsA, keepA, SWeak, AWeak], by simp [HWeak, BWeak, SWeak, AWeak]⟩
  · rintro ⟨⟩ -
    simp only [awK, Nat.reduceMod, Nat.reduceDiv, reduceIte]
    simp (config := { maxSteps := 1000000 }) (disch := ((try simp only [awL]); omega)) only [QR, QS, QT, QU, QV, QW, QX, QY, QZ, Q0, Q1, Q2, ↓awU, awV, awF, Qa, Qb, Qc, Qd, forall_const, ↓reduceIte, ↓reduceDIte, ↓Qe, Qf, Qg, Qh, Qi, Qj, Qk, Ql, Qm, Qn, Qo, Qp, Qq, Qr, Qs, implies_true, Qt, Qu, Qv, Qw, Qx, Qy, Qz, QA, QB, QC, QD, QE, QF, QG, QH, QI, QJ, QK, QL, QM, QN, QO, QP, QQ]
    exact ⟨[some 0], rfl, by simp, by simp [HWeak, BWeak, SWeak, AWeak], .inl (by simp [AWeak, SWeak])⟩
set_option maxHeartbeats 1000000 in
theorem cfNone_spec (f : Bool) (a b c : D) : Ctr Tryz.prog G 65 [.d (.sl 0 f []), .fn (.func 66) [] [.ptr 0 0]] [.box [.d a, .d b, .d c]] (.d (.bool false)) [.box [.d a, .d b, .d c]] := by
  refine Ctr.body (M := M0) hmix Tryz.func65 rfl go65 ?_
  simp (config := { maxSteps := 1000000 }) (disch := ((try simp only [awL]); omega)) only [QR, QS, QT, QU, QV, QW, QX, QY, QZ, Q0, Q1, Q2, Tryz.f65, ↓awU, awV, awF, Qa, Qb, Qc, Qd, forall_const, ↓reduceIte, ↓reduceDIte, ↓Qe, Qf, Qg, Qh, Qi, Qj, Qk, Ql, Qm, Qn, Qo, Qp, Qq, Qr, Qs, implies_true, Qt, Qu, Qv, Qw, Qx, Qy, Qz, QA, QB, QC, QD, QE, QF, QG, QH, QI, QJ, QK, QL, QM, QN, QO, QP, QQ]
  refine CallC.by (ixNone_spec false _ a b c rfl) (by rfl) (by rfl) (by simp) ?_
  simp (config := { maxSteps := 1000000 }) (disch := ((try simp only [awL]); omega)) only [QR, QS, QT, QU, QV, QW, QX, QY, QZ, Q0, Q1, Q2, ↓awU, awV, awF, Qa, Qb, Qc, Qd, forall_const, ↓reduceIte, ↓reduceDIte, ↓Qe, Qf, Qg, Qh, Qi, Qj, Qk, Ql, Qm, Qn, Qo, Qp, Qq, Qr, Qs, implies_true, Qt, Qu, Qv, Qw, Qx, Qy, Qz, QA, QB, QC, QD, QE, QF, QG, QH, QI, QJ, QK, QL, QM, QN, QO, QP, QQ]
  exact ⟨[some 0], rfl, by simp, by simp [HWeak, BWeak, SWeak, AWeak], .inl (by simp [AWeak, SWeak])⟩
/-- Which identifiers and names a table may have. -/
def okId (id : Int) (name : List UInt8) : Bool := decide (0 ≤ id ∧ id ≤ 1073741824) && fineB name
set_option maxHeartbeats 4000000 in
set_option maxRecDepth 100000 in
theorem validNone_spec (hT : HT G) (id : Int) (name : List UInt8) (hs : name.length ≤ 1000000000) (f : Bool) (i1 : -9223372036854775808 ≤ id) (i2 : id ≤ 9223372036854775807) :
    Ctr Tryz.prog G 45 [.d (.agg [.int .i64 id, S name, .sl 0 f []])] [] (.d (.bool (okId id name))) [] := by
  obtain ⟨r, hr⟩ : ∃ r, r = okId id name := ⟨_, rfl⟩
  rw [← hr]
  unfold okId at hr
  refine Ctr.pure (M := M0) hmix Tryz.func45 rfl go45 ?_
  rcases (by omega : id < 0 ∨ 1073741824 < id ∨ (0 ≤ id ∧ id ≤ 1073741824)) with h | h | h
  · rw [decide_eq_false (by omega), Bool.false_and] at hr
    subst hr
    simp (config := { maxSteps := 1000000 }) (disch := ((try simp only [awL]); omega)) only [QR, QS, QT, QU, QV, QW, QX, QY, QZ, Q0, Q1, Q2, Tryz.f45, ↓awU, awV, awF, Qa, Qb, Qc, Qd, forall_const, ↓reduceIte, ↓reduceDIte, ↓Qe, Qf, Qg, Qh, Qi, Qj, Qk, Ql, Qm, Qn, Qo, Qp, Qq, Qr, Qs, implies_true, Qt, Qu, Qv, Qw, Qx, Qy, Qz, QA, QB, QC, QD, QE, QF, QG, QH, QI, QJ, QK, QL, QM, QN, QO, QP, QQ]
    first | done | rfl | exact ⟨by rfl, by rfl⟩
  · rw [decide_eq_false (by omega), Bool.false_and] at hr
    subst hr
    simp (config := { maxSteps := 1000000 }) (disch := ((try simp only [awL]); omega)) only [QR, QS, QT, QU, QV, QW, QX, QY, QZ, Q0, Q1, Q2, Tryz.f45, ↓awU, awV, awF, Qa, Qb, Qc, Qd, forall_const, ↓reduceIte, ↓reduceDIte, ↓Qe, Qf, Qg, Qh, Qi, Qj, Qk, Ql, Qm, Qn, Qo, Qp, Qq, Qr, Qs, implies_true, Qt, Qu, Qv, Qw, Qx, Qy, Qz, QA, QB, QC, QD, QE, QF, QG, QH, QI, QJ, QK, QL, QM, QN, QO, QP, QQ]
    first | done | rfl | exact ⟨by rfl, by rfl⟩
  · rw [decide_eq_true h, Bool.true_and] at hr
    simp (config := { maxSteps := 1000000 }) (disch := ((try simp only [awL]); omega)) only [QR, QS, QT, QU, QV, QW, QX, QY, QZ, Q0, Q1, Q2, Tryz.f45, ↓awU, awV, awF, Qa, Qb, Qc, Qd, forall_const, ↓reduceIte, ↓reduceDIte, ↓Qe, Qf, Qg, Qh, Qi, Qj, Qk, Ql, Qm, Qn, Qo, Qp, Qq, Qr, Qs, implies_true, Qt, Qu, Qv, Qw, Qx, Qy, Qz, QA, QB, QC, QD, QE, QF, QG, QH, QI, QJ, QK, QL, QM, QN, QO, QP, QQ]
    refine CallC.pure (fine_spec hT name hs) ?_
    rw [← hr]
    cases r
    · simp (config := { maxSteps := 1000000 }) (disch := ((try simp only [awL]); omega)) only [QR, QS, QT, QU, QV, QW, QX, QY, QZ, Q0, Q1, Q2, ↓awU, awV, awF, Qa, Qb, Qc, Qd, forall_const, ↓reduceIte, ↓reduceDIte, ↓Qe, Qf, Qg, Qh, Qi, Qj, Qk, Ql, Qm, Qn, Qo, Qp, Qq, Qr, Qs, implies_true, Qt, Qu, Qv, Qw, Qx, Qy, Qz, QA, QB, QC, QD, QE, QF, QG, QH, QI, QJ, QK, QL, QM, QN, QO, QP, QQ]
      first | done | rfl | exact ⟨by rfl, by rfl⟩
    · simp (config := { maxSteps := 1000000 }) (disch := ((try simp only [awL]); omega)) only [QR, QS, QT, QU, QV, QW, QX, QY, QZ, Q0, Q1, Q2, ↓awU, awV, awF, Qa, Qb, Qc, Qd, forall_const, ↓reduceIte, ↓reduceDIte, ↓Qe, Qf, Qg, Qh, Qi, Qj, Qk, Ql, Qm, Qn, Qo, Qp, Qq, Qr, Qs, implies_true, Qt, Qu, Qv, Qw, Qx, Qy, Qz, QA, QB, QC, QD, QE, QF, QG, QH, QI, QJ, QK, QL, QM, QN, QO, QP, QQ]
      refine CallC.of (rows_spec ⟨id, name, []⟩ false (Nat.zero_le _) (fun c hc => by cases hc)) (by rfl) ?_
      rw [show rowsT ⟨id, name, []⟩ = 0 from rfl]
      simp (config := { maxSteps := 1000000 }) (disch := ((try simp only [awL]); omega)) only [QR, QS, QT, QU, QV, QW, QX, QY, QZ, Q0, Q1, Q2, ↓awU, awV, awF, Qa, Qb, Qc, Qd, forall_const, ↓reduceIte, ↓reduceDIte, ↓Qe, Qf, Qg, Qh, Qi, Qj, Qk, Ql, Qm, Qn, Qo, Qp, Qq, Qr, Qs, implies_true, Qt, Qu, Qv, Qw, Qx, Qy, Qz, QA, QB, QC, QD, QE, QF, QG, QH, QI, QJ, QK, QL, QM, QN, QO, QP, QQ]
      refine CallC.by (cfNone_spec false _ _ _) (by rfl) (by rfl) (by simp) ?_
      simp (config := { maxSteps := 1000000 }) (disch := ((try simp only [awL]); omega)) only [QR, QS, QT, QU, QV, QW, QX, QY, QZ, Q0, Q1, Q2, ↓awU, awV, awF, Qa, Qb, Qc, Qd, forall_const, ↓reduceIte, ↓reduceDIte, ↓Qe, Qf, Qg, Qh, Qi, Qj, Qk, Ql, Qm, Qn, Qo, Qp, Qq, Qr, Qs, implies_true, Qt, Qu, Qv, Qw, Qx, Qy, Qz, QA, QB, QC, QD, QE, QF, QG, QH, QI, QJ, QK, QL, QM, QN, QO, QP, QQ]
      first | done | rfl | exact ⟨by rfl, by rfl⟩
end Go.Proofs.YthbnileadffpiaaGreatDoor
