/-
  A world that lays the variables of typesDays.
-/
import Derived.Test.YtjecgoddmkaboaaGreatDoorMb1
import Derived.Lib.Strings
import Derived.Lib.Slices
import Derived.Lib.Walk
import Derived.Lib.Bytealg
import Derived.Lib.ValidLaws
import Derived.Shelf.Unicode.ValidAny
import Derived.Ground.NamesProg
import Derived.Lib.DecodeN
import Derived.Shelf.Strings.OnBuilder
import Derived.Shelf.Strings.Trim
import Derived.Shelf.Strings.Replace
import Derived.Shelf.Strings.Repeat
import Derived.Shelf.Strings.Builder1
set_option linter.all false
open Go.Abs renaming ofVal → Qa, ofVal0 → Qb, isShift → Qc, aggK → Qd, purePost → Qe, combine → Qf, idsA → Qg, cellsA → Qh, numsOf → Qi, srcA → Qj, calleeA → Qk, refsA → Ql, isScalar → Qm, scalarD → Qn, scalar0 → Qo, putL → Qr, unfA → Qs, sidsB → QJ, keyKD → QL, isIntK → QM, aggD → QN, aggL → QO, eqKs → QP, boxRow → QQ, nextC_more → QT, nextC_over → QU, bs_size → QV, bs_extract → QW, bs_toList → QX, bs_append → QY, byteAt_bs → QZ, bs_cells → Q0, nums_length → Q1, nums_getD → Q2
open Go.Abs.AV renaming one → Qp
open Go.Abs.D renaming one → Qq
open Go.IntKind renaming signed → Qt
open Nat renaming reduceAdd → Qu, reduceSub → Qv, reduceMul → Qw, reducePow → Qx, reduceDiv → Qy, reduceMod → Qz, reduceEqDiff → QI, reduceBEq → QK
open Int renaming reduceAdd → QA, reduceSub → QB, reduceMul → QC, reducePow → QD, reduceNeg → QE, reduceToNat → QF, reduceLT → QG, reduceLE → QH
open Option renaming toList_some → QR, toList_none → QS

namespace Go.Proofs.YtjecgoddmkaboaaGreatDoor
open Go Go.Proofs Go.Abs Go.RowKit Go.ChangeShapes Go.WideShapes Go.ChangeAt
noncomputable def laidWorld_typesDays (os : Os) : World :=
  { World.holding Tryz.prog os ⟨#[.cells #[.string ⟨#[118, 97, 108, 117, 101, 32, 111, 117, 116, 32, 111, 102, 32, 114, 97, 110, 103, 101]⟩] 162, .cells #[.string ⟨#[105, 110, 118, 97, 108, 105, 100, 32, 115, 121, 110, 116, 97, 120]⟩] 162, .cells #[.int .u32 1] 58], #[], []⟩ with heap := (((((((((World.holding Tryz.prog os ⟨#[.cells #[.string ⟨#[118, 97, 108, 117, 101, 32, 111, 117, 116, 32, 111, 102, 32, 114, 97, 110, 103, 101]⟩] 162, .cells #[.string ⟨#[105, 110, 118, 97, 108, 105, 100, 32, 115, 121, 110, 116, 97, 120]⟩] 162, .cells #[.int .u32 1] 58], #[], []⟩).heap.modify 8 fun
      | .cells _ t frozen => .cells #[.int .u8 0, .int .u8 1, .int .u8 28, .int .u8 2, .int .u8 29, .int .u8 14, .int .u8 24, .int .u8 3, .int .u8 30, .int .u8 22, .int .u8 20, .int .u8 15, .int .u8 25, .int .u8 17, .int .u8 4, .int .u8 8, .int .u8 31, .int .u8 27, .int .u8 13, .int .u8 23, .int .u8 21, .int .u8 19, .int .u8 16, .int .u8 7, .int .u8 26, .int .u8 12, .int .u8 18, .int .u8 6, .int .u8 11, .int .u8 5, .int .u8 10, .int .u8 9] t frozen
      | o => o).modify 9 fun
      | .cells _ t frozen => .cells #[.int .u8 0, .int .u8 1, .int .u8 56, .int .u8 2, .int .u8 57, .int .u8 49, .int .u8 28, .int .u8 3, .int .u8 61, .int .u8 58, .int .u8 42, .int .u8 50, .int .u8 38, .int .u8 29, .int .u8 17, .int .u8 4, .int .u8 62, .int .u8 47, .int .u8 59, .int .u8 36, .int .u8 45, .int .u8 43, .int .u8 51, .int .u8 22, .int .u8 53, .int .u8 39, .int .u8 33, .int .u8 30, .int .u8 24, .int .u8 18, .int .u8 12, .int .u8 5, .int .u8 63, .int .u8 55, .int .u8 48, .int .u8 27, .int .u8 60, .int .u8 41, .int .u8 37, .int .u8 16, .int .u8 46, .int .u8 35, .int .u8 44, .int .u8 21, .int .u8 52, .int .u8 32, .int .u8 23, .int .u8 11, .int .u8 54, .int .u8 26, .int .u8 40, .int .u8 15, .int .u8 34, .int .u8 20, .int .u8 31, .int .u8 10, .int .u8 25, .int .u8 14, .int .u8 19, .int .u8 9, .int .u8 13, .int .u8 8, .int .u8 7, .int .u8 6] t frozen
      | o => o).modify 7 fun
      | .cells _ t frozen => .cells #[.int .u64 1, .int .u64 10, .int .u64 100, .int .u64 1000, .int .u64 10000, .int .u64 100000, .int .u64 1000000, .int .u64 10000000, .int .u64 100000000, .int .u64 1000000000, .int .u64 10000000000, .int .u64 100000000000, .int .u64 1000000000000, .int .u64 10000000000000, .int .u64 100000000000000, .int .u64 1000000000000000, .int .u64 10000000000000000, .int .u64 100000000000000000, .int .u64 1000000000000000000, .int .u64 10000000000000000000] t frozen
      | o => o).modify 5 fun
      | .cells _ t frozen => .cells #[.int .u8 128, .int .u8 191, .int .u8 160, .int .u8 191, .int .u8 128, .int .u8 159, .int .u8 144, .int .u8 191, .int .u8 128, .int .u8 143, .int .u8 0, .int .u8 0, .int .u8 0, .int .u8 0, .int .u8 0, .int .u8 0, .int .u8 0, .int .u8 0, .int .u8 0, .int .u8 0, .int .u8 0, .int .u8 0, .int .u8 0, .int .u8 0, .int .u8 0, .int .u8 0, .int .u8 0, .int .u8 0, .int .u8 0, .int .u8 0, .int .u8 0, .int .u8 0] t frozen
      | o => o).modify 3 fun
      | .cells _ t frozen => .cells #[.iface 160 (.pointer (some ⟨(World.settled Tryz.prog os).heap.size, 0, none⟩))] t frozen
      | o => o).modify 2 fun
      | .cells _ t frozen => .cells #[.iface 160 (.pointer (some ⟨(World.settled Tryz.prog os).heap.size + 1, 0, none⟩))] t frozen
      | o => o).modify 0 fun
      | .cells _ t frozen => .cells #[.slice (some ⟨(World.settled Tryz.prog os).heap.size + 2, 0, none⟩) 1 1] t frozen
      | o => o).modify 4 fun
      | .cells _ t frozen => .cells (Go.Pinned.utf8FirstZ.map fun (n : Nat) => Value.int .u8 (n : Int)).toArray t frozen
      | o => o) }
set_option maxRecDepth 100000 in
theorem laid_met_typesDays (os : Os) (args : Array Value) : laidMet Tryz.prog [("math/bits.deBruijn32tab", Rows.laid_math_bits_deBruijn32tab), ("math/bits.deBruijn64tab", Rows.laid_math_bits_deBruijn64tab), ("internal/strconv.uint64pow10", Rows.laid_internal_strconv_uint64pow10), ("unicode/utf8.acceptRanges", Rows.laid_unicode_utf8_acceptRanges), ("strconv.ErrRange", Rows.laid_strconv_ErrRange), ("strconv.ErrSyntax", Rows.laid_strconv_ErrSyntax), ("tablefinder/fraction.one", Rows.laid_tablefinder_fraction_one), ("unicode/utf8.first", Rows.laid_unicode_utf8_first)] ((laidWorld_typesDays os).forCall (fun _ _ => 0) ⟨#[], args, []⟩).memory :=
  laidMet_of_run' 8 (by kernel_rfl) (by kernel_rfl)
end Go.Proofs.YtjecgoddmkaboaaGreatDoor

namespace Go.Proofs.YtjecgoddmkaboaaGreatDoor.Num
open Go Go.Proofs Go.Abs
variable {G : Globals}
/-! Texts: prefixes, cutting, the place of a byte. -/
abbrev S (l : List UInt8) : D := .str (bs l)
def hasP (s p : List UInt8) : Bool := decide (s.take p.length = p)
theorem hasP_le {s p : List UInt8} (h : hasP s p = true) : p.length ≤ s.length := by
  have := of_decide_eq_true h
  have h2 := congrArg List.length this
  simp at h2; omega
theorem hasPrefix_spec (s p : List UInt8) : Ctr Tryz.prog G 76 [.d (S s), .d (S p)] [] (.d (.bool (hasP s p))) [] := by
  refine Ctr.pure (M := M0) hmix Tryz.func76 rfl go76 ?_
  simp (config := { maxSteps := 1000000 }) (disch := ((try simp only [awL]); omega)) only [QR, QS, QT, QU, QV, QW, QX, QY, QZ, Q0, Q1, Q2, Tryz.f76, ↓awU, awV, awF, Qa, Qb, Qc, Qd, forall_const, ↓reduceIte, ↓reduceDIte, ↓Qe, Qf, Qg, Qh, Qi, Qj, Qk, Ql, Qm, Qn, Qo, Qp, Qq, Qr, Qs, implies_true, Qt, Qu, Qv, Qw, Qx, Qy, Qz, QA, QB, QC, QD, QE, QF, QG, QH, QI, QJ, QK, QL, QM, QN, QO, QP, QQ]
  refine ⟨fun _ => rfl, fun h => (decide_eq_false fun e => h ?_).symm⟩
  have := congrArg List.length e
  simp at this
  omega
theorem cutPrefixL_spec (s p : List UInt8) : Ctr Tryz.prog G 56 [.d (S s), .d (S p)] [] (.d (.tup [S (if hasP s p then s.drop p.length else s), .bool (hasP s p)])) [] := by
  refine Ctr.pure (M := M0) hmix Tryz.func56 rfl go56 ?_
  simp (config := { maxSteps := 1000000 }) (disch := ((try simp only [awL]); omega)) only [QR, QS, QT, QU, QV, QW, QX, QY, QZ, Q0, Q1, Q2, Tryz.f56, ↓awU, awV, awF, Qa, Qb, Qc, Qd, forall_const, ↓reduceIte, ↓reduceDIte, ↓Qe, Qf, Qg, Qh, Qi, Qj, Qk, Ql, Qm, Qn, Qo, Qp, Qq, Qr, Qs, implies_true, Qt, Qu, Qv, Qw, Qx, Qy, Qz, QA, QB, QC, QD, QE, QF, QG, QH, QI, QJ, QK, QL, QM, QN, QO, QP, QQ]
  refine CallC.pure (hasPrefix_spec s p) ?_
  cases h : hasP s p
  · simp (config := { maxSteps := 1000000 }) (disch := ((try simp only [awL]); omega)) only [QR, QS, QT, QU, QV, QW, QX, QY, QZ, Q0, Q1, Q2, ↓awU, awV, awF, Qa, Qb, Qc, Qd, forall_const, ↓reduceIte, ↓reduceDIte, ↓Qe, Qf, Qg, Qh, Qi, Qj, Qk, Ql, Qm, Qn, Qo, Qp, Qq, Qr, Qs, implies_true, Qt, Qu, Qv, Qw, Qx, Qy, Qz, QA, QB, QC, QD, QE, QF, QG, QH, QI, QJ, QK, QL, QM, QN, QO, QP, QQ]
  · have := hasP_le h
    simp (config := { maxSteps := 1000000 }) (disch := ((try simp only [awL]); omega)) only [QR, QS, QT, QU, QV, QW, QX, QY, QZ, Q0, Q1, Q2, ↓awU, awV, awF, Qa, Qb, Qc, Qd, forall_const, ↓reduceIte, ↓reduceDIte, ↓Qe, Qf, Qg, Qh, Qi, Qj, Qk, Ql, Qm, Qn, Qo, Qp, Qq, Qr, Qs, implies_true, Qt, Qu, Qv, Qw, Qx, Qy, Qz, QA, QB, QC, QD, QE, QF, QG, QH, QI, QJ, QK, QL, QM, QN, QO, QP, QQ]
theorem cutPrefix_spec (s p : List UInt8) : Ctr Tryz.prog G 30 [.d (S s), .d (S p)] [] (.d (.tup [S (if hasP s p then s.drop p.length else s), .bool (hasP s p)])) [] := by
  refine Ctr.pure (M := M0) hmix Tryz.func30 rfl go30 ?_
  simp (config := { maxSteps := 1000000 }) (disch := ((try simp only [awL]); omega)) only [QR, QS, QT, QU, QV, QW, QX, QY, QZ, Q0, Q1, Q2, Tryz.f30, ↓awU, awV, awF, Qa, Qb, Qc, Qd, forall_const, ↓reduceIte, ↓reduceDIte, ↓Qe, Qf, Qg, Qh, Qi, Qj, Qk, Ql, Qm, Qn, Qo, Qp, Qq, Qr, Qs, implies_true, Qt, Qu, Qv, Qw, Qx, Qy, Qz, QA, QB, QC, QD, QE, QF, QG, QH, QI, QJ, QK, QL, QM, QN, QO, QP, QQ]
  refine CallC.pure (cutPrefixL_spec s p) ?_
  simp (config := { maxSteps := 1000000 }) (disch := ((try simp only [awL]); omega)) only [QR, QS, QT, QU, QV, QW, QX, QY, QZ, Q0, Q1, Q2, ↓awU, awV, awF, Qa, Qb, Qc, Qd, forall_const, ↓reduceIte, ↓reduceDIte, ↓Qe, Qf, Qg, Qh, Qi, Qj, Qk, Ql, Qm, Qn, Qo, Qp, Qq, Qr, Qs, implies_true, Qt, Qu, Qv, Qw, Qx, Qy, Qz, QA, QB, QC, QD, QE, QF, QG, QH, QI, QJ, QK, QL, QM, QN, QO, QP, QQ]
theorem trimPrefixL_spec (s p : List UInt8) : Ctr Tryz.prog G 57 [.d (S s), .d (S p)] [] (.d (S (if hasP s p then s.drop p.length else s))) [] := by
  refine Ctr.pure (M := M0) hmix Tryz.func57 rfl go57 ?_
  simp (config := { maxSteps := 1000000 }) (disch := ((try simp only [awL]); omega)) only [QR, QS, QT, QU, QV, QW, QX, QY, QZ, Q0, Q1, Q2, Tryz.f57, ↓awU, awV, awF, Qa, Qb, Qc, Qd, forall_const, ↓reduceIte, ↓reduceDIte, ↓Qe, Qf, Qg, Qh, Qi, Qj, Qk, Ql, Qm, Qn, Qo, Qp, Qq, Qr, Qs, implies_true, Qt, Qu, Qv, Qw, Qx, Qy, Qz, QA, QB, QC, QD, QE, QF, QG, QH, QI, QJ, QK, QL, QM, QN, QO, QP, QQ]
  refine CallC.pure (hasPrefix_spec s p) ?_
  cases h : hasP s p
  · simp (config := { maxSteps := 1000000 }) (disch := ((try simp only [awL]); omega)) only [QR, QS, QT, QU, QV, QW, QX, QY, QZ, Q0, Q1, Q2, ↓awU, awV, awF, Qa, Qb, Qc, Qd, forall_const, ↓reduceIte, ↓reduceDIte, ↓Qe, Qf, Qg, Qh, Qi, Qj, Qk, Ql, Qm, Qn, Qo, Qp, Qq, Qr, Qs, implies_true, Qt, Qu, Qv, Qw, Qx, Qy, Qz, QA, QB, QC, QD, QE, QF, QG, QH, QI, QJ, QK, QL, QM, QN, QO, QP, QQ]
  · have := hasP_le h
    simp (config := { maxSteps := 1000000 }) (disch := ((try simp only [awL]); omega)) only [QR, QS, QT, QU, QV, QW, QX, QY, QZ, Q0, Q1, Q2, ↓awU, awV, awF, Qa, Qb, Qc, Qd, forall_const, ↓reduceIte, ↓reduceDIte, ↓Qe, Qf, Qg, Qh, Qi, Qj, Qk, Ql, Qm, Qn, Qo, Qp, Qq, Qr, Qs, implies_true, Qt, Qu, Qv, Qw, Qx, Qy, Qz, QA, QB, QC, QD, QE, QF, QG, QH, QI, QJ, QK, QL, QM, QN, QO, QP, QQ]
theorem trimPrefix_spec (s p : List UInt8) : Ctr Tryz.prog G 31 [.d (S s), .d (S p)] [] (.d (S (if hasP s p then s.drop p.length else s))) [] := by
  refine Ctr.pure (M := M0) hmix Tryz.func31 rfl go31 ?_
  simp (config := { maxSteps := 1000000 }) (disch := ((try simp only [awL]); omega)) only [QR, QS, QT, QU, QV, QW, QX, QY, QZ, Q0, Q1, Q2, Tryz.f31, ↓awU, awV, awF, Qa, Qb, Qc, Qd, forall_const, ↓reduceIte, ↓reduceDIte, ↓Qe, Qf, Qg, Qh, Qi, Qj, Qk, Ql, Qm, Qn, Qo, Qp, Qq, Qr, Qs, implies_true, Qt, Qu, Qv, Qw, Qx, Qy, Qz, QA, QB, QC, QD, QE, QF, QG, QH, QI, QJ, QK, QL, QM, QN, QO, QP, QQ]
  refine CallC.pure (trimPrefixL_spec s p) ?_
  simp (config := { maxSteps := 1000000 }) (disch := ((try simp only [awL]); omega)) only [QR, QS, QT, QU, QV, QW, QX, QY, QZ, Q0, Q1, Q2, ↓awU, awV, awF, Qa, Qb, Qc, Qd, forall_const, ↓reduceIte, ↓reduceDIte, ↓Qe, Qf, Qg, Qh, Qi, Qj, Qk, Ql, Qm, Qn, Qo, Qp, Qq, Qr, Qs, implies_true, Qt, Qu, Qv, Qw, Qx, Qy, Qz, QA, QB, QC, QD, QE, QF, QG, QH, QI, QJ, QK, QL, QM, QN, QO, QP, QQ]
set_option maxHeartbeats 1000000 in
set_option maxRecDepth 100000 in
theorem indexByte_calls (s : ByteArray) (c : Int) (w : World) :
    Calls Tryz.prog 100 #[.string s, .int .u8 c] w fun e w' => e = .returned (.int .i64 (Lib.indexByte s.data.toList c.toNat.toUInt8)) ∧ w' = w := by
  go_enter Tryz.func100, Tryz.ntmps100
  go_wp2
  rw [run_callFunc_extern Tryz.func122 (by kernel_rfl) (by kernel_rfl) (by kernel_rfl) (e := Extern.BytealgIndexByte.indexByte) (by kernel_rfl), Lib.run_indexByteString]
  simp only [Result.andThen]
  rw [Oper.upon_value]
  go_wp2
  go_ret
  exact ⟨rfl, rfl⟩
theorem indexByte_spec (s : List UInt8) (c : UInt8) : Ctr Tryz.prog G 100 [.d (S s), .d (.int .u8 c.toNat)] [] (.d (.int .i64 (Lib.indexByte s c))) [] := by
  refine Ctr.of_calls go100 fun h ρ w vs q r => ?_
  obtain ⟨v, u, rfl, hv, hu⟩ := r.inv2
  rw [hv.str_inv, hu.int_inv]
  refine (indexByte_calls (bs s) c.toNat w).mono ?_
  rintro e w' ⟨rfl, rfl⟩
  refine ⟨_, rfl, ?_, .refl _ _⟩
  have : ((c.toNat : Int)).toNat.toUInt8 = c := by simp
  rw [this]
  exact .int _ _
/-- Where a text is cut: in front of the byte, behind it. -/
def cutL (c : UInt8) : List UInt8 → List UInt8
  | [] => []
  | b :: l => if b = c then [] else b :: cutL c l
def cutR (c : UInt8) : List UInt8 → List UInt8
  | [] => []
  | b :: l => if b = c then l else cutR c l
theorem cut_index (c : UInt8) : ∀ s : List UInt8, (c ∈ s → ∃ k : Nat, Lib.indexByte s c = k ∧ k < s.length ∧ s.take k = cutL c s ∧ s.drop (k + 1) = cutR c s) ∧ (c ∉ s → Lib.indexByte s c = -1 ∧ cutL c s = s ∧ cutR c s = [])
  | [] => ⟨fun h => absurd h List.not_mem_nil, fun _ => ⟨rfl, rfl, rfl⟩⟩
  | b :: l => by
    obtain ⟨i1, i2⟩ := cut_index c l
    by_cases e : b = c
    · subst e
      refine ⟨fun _ => ⟨0, ?_, by simp, by simp [cutL], by simp [cutR]⟩, fun h => absurd (List.mem_cons_self ..) h⟩
      simp [Lib.indexByte]
    · have e2 : ¬ c = b := fun h => e h.symm
      refine ⟨fun h => ?_, fun h => ?_⟩
      · obtain ⟨k, h1, h2, h3, h4⟩ := i1 ((List.mem_cons.1 h).resolve_left e2)
        refine ⟨k + 1, ?_, by simpa using h2, by simp [cutL, e, h3], by simp [cutR, e, h4]⟩
        simp only [Lib.indexByte, h1]
        rw [if_neg (by simpa using e), if_neg (by simp)]
        omega
      · obtain ⟨h1, h2, h3⟩ := i2 (fun h2 => h (List.mem_cons_of_mem _ h2))
        refine ⟨?_, by simp [cutL, e, h2], by simp [cutR, e, h3]⟩
        simp only [Lib.indexByte, h1]
        rw [if_neg (by simpa using e), if_pos (by decide)]
theorem index1_spec (s : List UInt8) (c : UInt8) (hs : s.length < 2 ^ 62) : Ctr Tryz.prog G 75 [.d (S s), .d (S [c])] [] (.d (.int .i64 (Lib.indexByte s c))) [] := by
  refine Ctr.pure (M := M0) hmix Tryz.func75 rfl go75 ?_
  simp (config := { maxSteps := 1000000 }) (disch := ((try simp only [awL]); omega)) only [QR, QS, QT, QU, QV, QW, QX, QY, QZ, Q0, Q1, Q2, Tryz.f75, ↓awU, awV, awF, Qa, Qb, Qc, Qd, forall_const, ↓reduceIte, ↓reduceDIte, ↓Qe, Qf, Qg, Qh, Qi, Qj, Qk, Ql, Qm, Qn, Qo, Qp, Qq, Qr, Qs, implies_true, Qt, Qu, Qv, Qw, Qx, Qy, Qz, QA, QB, QC, QD, QE, QF, QG, QH, QI, QJ, QK, QL, QM, QN, QO, QP, QQ]
  refine ⟨fun h => ?_, fun h => ?_⟩
  · rw [← h]; simp [Lib.indexByte]
  · refine CallC.pure (indexByte_spec s c) ?_
    simp (config := { maxSteps := 1000000 }) (disch := ((try simp only [awL]); omega)) only [QR, QS, QT, QU, QV, QW, QX, QY, QZ, Q0, Q1, Q2, ↓awU, awV, awF, Qa, Qb, Qc, Qd, forall_const, ↓reduceIte, ↓reduceDIte, ↓Qe, Qf, Qg, Qh, Qi, Qj, Qk, Ql, Qm, Qn, Qo, Qp, Qq, Qr, Qs, implies_true, Qt, Qu, Qv, Qw, Qx, Qy, Qz, QA, QB, QC, QD, QE, QF, QG, QH, QI, QJ, QK, QL, QM, QN, QO, QP, QQ]
theorem cutS_spec (s : List UInt8) (c : UInt8) (hs : s.length < 2 ^ 62) : Ctr Tryz.prog G 58 [.d (S s), .d (S [c])] [] (.d (.tup [S (cutL c s), S (cutR c s), .bool (decide (c ∈ s))])) [] := by
  refine Ctr.pure (M := M0) hmix Tryz.func58 rfl go58 ?_
  simp (config := { maxSteps := 1000000 }) (disch := ((try simp only [awL]); omega)) only [QR, QS, QT, QU, QV, QW, QX, QY, QZ, Q0, Q1, Q2, Tryz.f58, ↓awU, awV, awF, Qa, Qb, Qc, Qd, forall_const, ↓reduceIte, ↓reduceDIte, ↓Qe, Qf, Qg, Qh, Qi, Qj, Qk, Ql, Qm, Qn, Qo, Qp, Qq, Qr, Qs, implies_true, Qt, Qu, Qv, Qw, Qx, Qy, Qz, QA, QB, QC, QD, QE, QF, QG, QH, QI, QJ, QK, QL, QM, QN, QO, QP, QQ]
  refine CallC.pure (index1_spec s c hs) ?_
  obtain ⟨i1, i2⟩ := cut_index c s
  by_cases h : c ∈ s
  · obtain ⟨k, h1, h2, h3, h4⟩ := i1 h
    rw [h1, decide_eq_true h, ← h3, ← h4]
    simp (config := { maxSteps := 1000000 }) (disch := ((try simp only [awL]); omega)) only [QR, QS, QT, QU, QV, QW, QX, QY, QZ, Q0, Q1, Q2, ↓awU, awV, awF, Qa, Qb, Qc, Qd, forall_const, ↓reduceIte, ↓reduceDIte, ↓Qe, Qf, Qg, Qh, Qi, Qj, Qk, Ql, Qm, Qn, Qo, Qp, Qq, Qr, Qs, implies_true, Qt, Qu, Qv, Qw, Qx, Qy, Qz, QA, QB, QC, QD, QE, QF, QG, QH, QI, QJ, QK, QL, QM, QN, QO, QP, QQ]
    rfl
  · obtain ⟨h1, h3, h4⟩ := i2 h
    rw [h1, decide_eq_false h, h3, h4]
    simp (config := { maxSteps := 1000000 }) (disch := ((try simp only [awL]); omega)) only [QR, QS, QT, QU, QV, QW, QX, QY, QZ, Q0, Q1, Q2, ↓awU, awV, awF, Qa, Qb, Qc, Qd, forall_const, ↓reduceIte, ↓reduceDIte, ↓Qe, Qf, Qg, Qh, Qi, Qj, Qk, Ql, Qm, Qn, Qo, Qp, Qq, Qr, Qs, implies_true, Qt, Qu, Qv, Qw, Qx, Qy, Qz, QA, QB, QC, QD, QE, QF, QG, QH, QI, QJ, QK, QL, QM, QN, QO, QP, QQ]
theorem cut_spec (s : List UInt8) (c : UInt8) (hs : s.length < 2 ^ 62) : Ctr Tryz.prog G 32 [.d (S s), .d (S [c])] [] (.d (.tup [S (cutL c s), S (cutR c s), .bool (decide (c ∈ s))])) [] := by
  refine Ctr.pure (M := M0) hmix Tryz.func32 rfl go32 ?_
  simp (config := { maxSteps := 1000000 }) (disch := ((try simp only [awL]); omega)) only [QR, QS, QT, QU, QV, QW, QX, QY, QZ, Q0, Q1, Q2, Tryz.f32, ↓awU, awV, awF, Qa, Qb, Qc, Qd, forall_const, ↓reduceIte, ↓reduceDIte, ↓Qe, Qf, Qg, Qh, Qi, Qj, Qk, Ql, Qm, Qn, Qo, Qp, Qq, Qr, Qs, implies_true, Qt, Qu, Qv, Qw, Qx, Qy, Qz, QA, QB, QC, QD, QE, QF, QG, QH, QI, QJ, QK, QL, QM, QN, QO, QP, QQ]
  refine CallC.pure (cutS_spec s c hs) ?_
  simp (config := { maxSteps := 1000000 }) (disch := ((try simp only [awL]); omega)) only [QR, QS, QT, QU, QV, QW, QX, QY, QZ, Q0, Q1, Q2, ↓awU, awV, awF, Qa, Qb, Qc, Qd, forall_const, ↓reduceIte, ↓reduceDIte, ↓Qe, Qf, Qg, Qh, Qi, Qj, Qk, Ql, Qm, Qn, Qo, Qp, Qq, Qr, Qs, implies_true, Qt, Qu, Qv, Qw, Qx, Qy, Qz, QA, QB, QC, QD, QE, QF, QG, QH, QI, QJ, QK, QL, QM, QN, QO, QP, QQ]
end Go.Proofs.YtjecgoddmkaboaaGreatDoor.Num

namespace Go.Proofs.YtjecgoddmkaboaaGreatDoor.Num
open Go Go.Proofs Go.Abs
variable {G : Globals}
/-! Trimming by a set of bytes below 128. -/
def setD (l : List UInt8) : List D := (List.range 256).map fun i => .bool (l.any fun b => b.toNat == i)
def setB (l : List UInt8) : List AV := (setD l).map .d
theorem setB_length {l : List UInt8} : (setB l).length = 256 := by simp [setB, setD]
theorem setD_length {l : List UInt8} : (setD l).length = 256 := by simp [setD]
set_option maxRecDepth 10000 in
theorem setB_nil : setB [] = List.replicate 256 (.d (.bool false)) := by rfl
theorem setD_get {l : List UInt8} {c : UInt8} {d : D} : (setD l).getD c.toNat d = .bool (l.contains c) := by
  have hc := c.toNat_lt
  simp only [setD, List.getD_eq_getElem?_getD, List.getElem?_map, List.getElem?_range (show c.toNat < 256 by omega), Option.map_some, Option.getD_some]
  rw [List.contains_eq_any_beq]
  refine congrArg (fun f => D.bool (l.any f)) ?_
  funext b
  show (b.toNat == c.toNat) = _
  by_cases h : b = c
  · subst h; simp
  · have : ¬ b.toNat = c.toNat := fun e => h (UInt8.toNat_inj.1 e)
    have h' : ¬ c = b := fun e => h e.symm
    rw [beq_eq_false_iff_ne.2 this]; exact (beq_eq_false_iff_ne.2 h').symm
theorem setB_get {l : List UInt8} {c : UInt8} {d : AV} : (setB l).getD c.toNat d = .d (.bool (l.contains c)) := by
  have hc := c.toNat_lt
  have := @setD_get l c .nilp
  rw [List.getD_eq_getElem?_getD, List.getElem?_eq_getElem (by rw [setD_length]; omega)] at this
  rw [setB, List.getD_eq_getElem?_getD, List.getElem?_map, List.getElem?_eq_getElem (by rw [setD_length]; omega)]
  simp only [Option.getD_some] at this
  rw [Option.map_some, Option.getD_some, this]
theorem setB_set {l : List UInt8} {c : UInt8} : (setB l).set c.toNat (.d (.bool true)) = setB (l ++ [c]) := by
  have hc := c.toNat_lt
  apply List.ext_getElem
  · rw [List.length_set, setB_length, setB_length]
  · intro i h1 h2
    rw [List.length_set, setB_length] at h1
    rw [List.getElem_set]
    simp only [setB, setD, List.getElem_map, List.getElem_range, List.any_append, List.any_cons, List.any_nil, Bool.or_false]
    split
    · rename_i e; subst e; simp
    · rename_i e
      have : (c.toNat == i) = false := by simpa using e
      rw [this, Bool.or_false]
theorem SWeak_map {fl : List (Option Nat)} : ∀ l : List D, SWeak fl (l.map .d) (l.map .d)
  | [] => by simp [SWeak]
  | x :: l => by simp only [List.map_cons, SWeak]; exact ⟨by simp [AWeak], SWeak_map l⟩
theorem setB_weak {fl : List (Option Nat)} {l : List UInt8} : SWeak fl (setB l) (setB l) = True := eq_true (SWeak_map _)
theorem mem_getDU {α : Type} {l : List α} {i : Nat} {d : α} (h : i < l.length) : l.getD i d ∈ l := by
  rw [List.getD_eq_getElem?_getD, List.getElem?_eq_getElem h]; exact List.getElem_mem h
theorem setB_two (l : List UInt8) : ∃ a b cs, setB l = a :: b :: cs := by
  have := @setB_length l
  match h : setB l with
  | [] => rw [h] at this; cases this
  | [_] => rw [h] at this; cases this
  | a :: b :: cs => exact ⟨a, b, cs, rfl⟩
theorem setB_one {l : List UInt8} : (setB l).all AV.one = true := by
  simp [setB, setD, AV.one, D.one]
theorem setB_seal {H : List ABlk} {l : List UInt8} : sealL H (setB l) = some (setD l) := by
  have : ∀ m : List D, sealL H (m.map .d) = some m := fun m => by
    induction m with
    | nil => rfl
    | cons x m ih => simp only [List.map_cons, sealL, sealA, ih]
  exact this _
theorem setB_refs {l : List UInt8} : refsL (setB l) = [] := by
  have : ∀ m : List D, refsL (m.map .d) = [] := fun m => by
    induction m with
    | nil => rfl
    | cons x m ih => simp only [List.map_cons, refsL, refsA, ih, List.append_nil]
  exact this _
theorem setB_pass {H : List ABlk} {L : List Nat} {l : List UInt8} : passL H L (setB l) = some (setB l) := by
  have : ∀ m : List D, passL H L (m.map .d) = some (m.map .d) := fun m => by
    induction m with
    | nil => rfl
    | cons x m ih => simp only [List.map_cons, passL, passA, ih]
  exact this _
theorem setB_sids {H : List ABlk} {L : List Nat} {l : List UInt8} : sidsL H L (setB l) = [] := by
  have : ∀ m : List D, sidsL H L (m.map .d) = [] := fun m => by
    induction m with
    | nil => rfl
    | cons x m ih => simp only [List.map_cons, sidsL, sidsA, ih, List.append_nil]
  exact this _
theorem setB_ren {f : Nat → Nat} {l : List UInt8} : renL f (setB l) = setB l := by
  have : ∀ m : List D, renL f (m.map .d) = m.map .d := fun m => by
    induction m with
    | nil => rfl
    | cons x m ih => simp only [List.map_cons, renL, renA, ih]
  exact this _
theorem take_succ_getD {s : List UInt8} {i : Nat} (h : i < s.length) : s.take i ++ [s.getD i 0] = s.take (i + 1) := by
  rw [List.take_add_one, List.getElem?_eq_getElem h, List.getD_eq_getElem?_getD, List.getElem?_eq_getElem h]; rfl
theorem contains_spec (l : List UInt8) (c : UInt8) : Ctr Tryz.prog G 69 [.ptr 0 0, .d (.int .u8 c.toNat)] [.box (setB l)] (.d (.bool (l.contains c))) [.box (setB l)] := by
  have hc := c.toNat_lt
  have hl := @setB_length l
  refine Ctr.body (M := M0) hmix Tryz.func69 rfl go69 ?_
  simp (config := { maxSteps := 1000000 }) (disch := ((try simp only [awL]); omega)) only [QR, QS, QT, QU, QV, QW, QX, QY, QZ, Q0, Q1, Q2, hl, setB_get, Tryz.f69, ↓awU, awV, awF, Qa, Qb, Qc, Qd, forall_const, ↓reduceIte, ↓reduceDIte, ↓Qe, Qf, Qg, Qh, Qi, Qj, Qk, Ql, Qm, Qn, Qo, Qp, Qq, Qr, Qs, implies_true, Qt, Qu, Qv, Qw, Qx, Qy, Qz, QA, QB, QC, QD, QE, QF, QG, QH, QI, QJ, QK, QL, QM, QN, QO, QP, QQ]
  exact ⟨[some 0], rfl, by simp, by simp [HWeak, BWeak, setB_weak], .inl (by simp [AWeak])⟩
set_option maxRecDepth 100000 in
theorem makeSet_spec (l : List UInt8) (hl : l.length < 2 ^ 62) (ha : ∀ b ∈ l, b.toNat < 128) : Ctr Tryz.prog G 49 [.d (S l)] [] (.d (.tup [.agg (setD l), .bool true])) [] := by
  refine Ctr.pure (M := M0) hmix Tryz.func49 rfl go49 ?_
  simp (config := { maxSteps := 1000000 }) (disch := ((try simp only [awL]); omega)) only [QR, QS, QT, QU, QV, QW, QX, QY, QZ, Q0, Q1, Q2, Tryz.f49, ↓awU, awV, awF, Qa, Qb, Qc, Qd, forall_const, ↓reduceIte, ↓reduceDIte, ↓Qe, Qf, Qg, Qh, Qi, Qj, Qk, Ql, Qm, Qn, Qo, Qp, Qq, Qr, Qs, implies_true, Qt, Qu, Qv, Qw, Qx, Qy, Qz, QA, QB, QC, QD, QE, QF, QG, QH, QI, QJ, QK, QL, QM, QN, QO, QP, QQ]
  refine LoopC.fr 5 (α := Nat) (fun i => l.length - i) (fun i => [(4, .d (.int .i64 i))]) (fun i => [.box (setB (l.take i))]) (fun i => i ≤ l.length) 0 (Nat.zero_le _) ?_ ?_
  · refine ⟨[some 0], rfl, by simp, by simp [setsA, keepA, SWeak, AWeak], ?_⟩
    rw [List.take_zero, setB_nil]
    simp only [HWeak, BWeak, List.getElem?_cons_zero]
    refine ⟨SWeak_map (List.replicate 256 (.bool false)), trivial⟩
  · intro i hi
    have sl := @setB_length (l.take i)
    simp only [awK, Nat.reduceMod, Nat.reduceDiv, reduceIte]
    rcases Nat.lt_or_ge i l.length with h1 | h1
    · have hb := ha _ (mem_getDU (d := 0) h1)
      have hs := take_succ_getD h1
      simp (config := { maxSteps := 1000000 }) (disch := ((try simp only [awL]); omega)) only [QR, QS, QT, QU, QV, QW, QX, QY, QZ, Q0, Q1, Q2, sl, ↓awU, awV, awF, Qa, Qb, Qc, Qd, forall_const, ↓reduceIte, ↓reduceDIte, ↓Qe, Qf, Qg, Qh, Qi, Qj, Qk, Ql, Qm, Qn, Qo, Qp, Qq, Qr, Qs, implies_true, Qt, Qu, Qv, Qw, Qx, Qy, Qz, QA, QB, QC, QD, QE, QF, QG, QH, QI, QJ, QK, QL, QM, QN, QO, QP, QQ]
      exact ⟨i + 1, h1, by simp only; omega, [some 0], rfl, by simp, by simp [setsA, keepA, SWeak, AWeak], by simp only [HWeak, BWeak, List.getElem?_cons_zero]; rw [setB_set, hs]; exact ⟨by rw [setB_weak]; trivial, trivial⟩⟩
    · have sl := @setB_length l
      have tk : (setB l).take 256 = setB l := List.take_of_length_le (by omega)
      obtain ⟨a, b, cs, e⟩ := setB_two l
      have lc : cs.length = 254 := by rw [e] at sl; simpa using sl
      have tc : cs.take 254 = cs := List.take_of_length_le (by omega)
      have dc : cs.drop cs.length = [] := List.drop_length
      simp (config := { maxSteps := 1000000 }) (disch := ((try simp only [awL]); omega)) only [QR, QS, QT, QU, QV, QW, QX, QY, QZ, Q0, Q1, Q2, sl, tk, ↓awU, awV, awF, Qa, Qb, Qc, Qd, forall_const, ↓reduceIte, ↓reduceDIte, ↓Qe, Qf, Qg, Qh, Qi, Qj, Qk, Ql, Qm, Qn, Qo, Qp, Qq, Qr, Qs, implies_true, Qt, Qu, Qv, Qw, Qx, Qy, Qz, QA, QB, QC, QD, QE, QF, QG, QH, QI, QJ, QK, QL, QM, QN, QO, QP, QQ]
      refine ⟨setB_one, ?_⟩
      have pm : putL (setB l) 0 (setB l) = setB l := by
        rw [e]
        simp only [putL, putL, List.take_zero, List.nil_append, Nat.zero_add, List.length_cons, List.drop_succ_cons, dc, List.append_nil]
      simp only [putL, putL, List.take_zero, List.nil_append, Nat.zero_add] at pm
      rw [pm, sl, tk]
      simp only [Nat.le_refl, if_true, sealA, sealL, setB_seal]
      rfl
end Go.Proofs.YtjecgoddmkaboaaGreatDoor.Num

namespace Go.Proofs.YtjecgoddmkaboaaGreatDoor.Num
open Go Go.Proofs Go.Abs
variable {G : Globals}
/-! Trimming by a set of bytes below 128. -/
def trimL (l s : List UInt8) : List UInt8 := s.dropWhile l.contains
def trimR (l s : List UInt8) : List UInt8 := (s.reverse.dropWhile l.contains).reverse
theorem drop_cons' {s : List UInt8} {k : Nat} (h : k < s.length) : s.drop k = s.getD k 0 :: s.drop (k + 1) := by
  rw [List.drop_eq_getElem_cons h, List.getD_eq_getElem?_getD, List.getElem?_eq_getElem h]; rfl
theorem drop_head {s : List UInt8} {k : Nat} : (s.drop k).getD 0 0 = s.getD k 0 := by
  simp [List.getD_eq_getElem?_getD]
theorem take_snoc {s : List UInt8} {k : Nat} (h : k < s.length) : s.take (k + 1) = s.take k ++ [s.getD k 0] := (take_succ_getD h).symm
theorem trimR_snoc {l s : List UInt8} {c : UInt8} : trimR l (s ++ [c]) = if l.contains c then trimR l s else s ++ [c] := by
  simp only [trimR, List.reverse_append, List.reverse_cons, List.reverse_nil, List.nil_append, List.singleton_append, List.dropWhile_cons]
  split <;> simp
theorem trimLA_spec (l s : List UInt8) (hs : s.length < 2 ^ 62) : Ctr Tryz.prog G 50 [.d (S s), .ptr 0 0] [.box (setB l)] (.d (S (trimL l s))) [.box (setB l)] := by
  refine Ctr.body (M := M0) hmix Tryz.func50 rfl go50 ?_
  simp (config := { maxSteps := 1000000 }) (disch := ((try simp only [awL]); omega)) only [QR, QS, QT, QU, QV, QW, QX, QY, QZ, Q0, Q1, Q2, setB_refs, setB_pass, setB_sids, setB_ren, Tryz.f50, ↓awU, awV, awF, Qa, Qb, Qc, Qd, forall_const, ↓reduceIte, ↓reduceDIte, ↓Qe, Qf, Qg, Qh, Qi, Qj, Qk, Ql, Qm, Qn, Qo, Qp, Qq, Qr, Qs, implies_true, Qt, Qu, Qv, Qw, Qx, Qy, Qz, QA, QB, QC, QD, QE, QF, QG, QH, QI, QJ, QK, QL, QM, QN, QO, QP, QQ]
  refine LoopC.fr 2 (α := Nat) (fun k => s.length - k) (fun k => [(0, .d (S (s.drop k)))]) (fun _ => [.box (setB l)]) (fun k => k ≤ s.length ∧ trimL l (s.drop k) = trimL l s) 0 ⟨Nat.zero_le _, by rw [List.drop_zero]⟩ ?_ ?_
  · exact ⟨[some 0], rfl, by simp, by simp [setsA, keepA, SWeak, AWeak], by simp [HWeak, BWeak, setB_weak]⟩
  · rintro k ⟨hk, ht⟩
    simp only [awK, Nat.reduceMod, Nat.reduceDiv, reduceIte]
    rcases Nat.lt_or_ge k s.length with h1 | h1
    · have hd := drop_cons' h1
      simp (config := { maxSteps := 1000000 }) (disch := ((try simp only [awL]); omega)) only [QR, QS, QT, QU, QV, QW, QX, QY, QZ, Q0, Q1, Q2, setB_refs, setB_pass, setB_sids, setB_ren, drop_head, ↓awU, awV, awF, Qa, Qb, Qc, Qd, forall_const, ↓reduceIte, ↓reduceDIte, ↓Qe, Qf, Qg, Qh, Qi, Qj, Qk, Ql, Qm, Qn, Qo, Qp, Qq, Qr, Qs, implies_true, Qt, Qu, Qv, Qw, Qx, Qy, Qz, QA, QB, QC, QD, QE, QF, QG, QH, QI, QJ, QK, QL, QM, QN, QO, QP, QQ]
      refine CallC.by (contains_spec l (s.getD k 0)) (by rfl) (by rfl) (Nat.le_refl _) ?_
      cases hc : l.contains (s.getD k 0)
      · simp (config := { maxSteps := 1000000 }) (disch := ((try simp only [awL]); omega)) only [QR, QS, QT, QU, QV, QW, QX, QY, QZ, Q0, Q1, Q2, setB_refs, setB_pass, setB_sids, setB_ren, ↓awU, awV, awF, Qa, Qb, Qc, Qd, forall_const, ↓reduceIte, ↓reduceDIte, ↓Qe, Qf, Qg, Qh, Qi, Qj, Qk, Ql, Qm, Qn, Qo, Qp, Qq, Qr, Qs, implies_true, Qt, Qu, Qv, Qw, Qx, Qy, Qz, QA, QB, QC, QD, QE, QF, QG, QH, QI, QJ, QK, QL, QM, QN, QO, QP, QQ]
        rw [← ht, trimL, hd, List.dropWhile_cons, hc]
        exact ⟨[some 0], rfl, by simp, by simp [HWeak, BWeak, setB_weak], .inl (by simp [AWeak])⟩
      · simp (config := { maxSteps := 1000000 }) (disch := ((try simp only [awL]); omega)) only [QR, QS, QT, QU, QV, QW, QX, QY, QZ, Q0, Q1, Q2, setB_refs, setB_pass, setB_sids, setB_ren, ↓awU, awV, awF, Qa, Qb, Qc, Qd, forall_const, ↓reduceIte, ↓reduceDIte, ↓Qe, Qf, Qg, Qh, Qi, Qj, Qk, Ql, Qm, Qn, Qo, Qp, Qq, Qr, Qs, implies_true, Qt, Qu, Qv, Qw, Qx, Qy, Qz, QA, QB, QC, QD, QE, QF, QG, QH, QI, QJ, QK, QL, QM, QN, QO, QP, QQ]
        exact ⟨k + 1, ⟨h1, by rw [← ht, trimL, trimL, hd, List.dropWhile_cons, hc]; rfl⟩, by simp only; omega, [some 0], rfl, by simp, by simp [setsA, keepA, SWeak, AWeak], by simp [HWeak, BWeak, setB_weak]⟩
    · simp (config := { maxSteps := 1000000 }) (disch := ((try simp only [awL]); omega)) only [QR, QS, QT, QU, QV, QW, QX, QY, QZ, Q0, Q1, Q2, setB_refs, setB_pass, setB_sids, setB_ren, ↓awU, awV, awF, Qa, Qb, Qc, Qd, forall_const, ↓reduceIte, ↓reduceDIte, ↓Qe, Qf, Qg, Qh, Qi, Qj, Qk, Ql, Qm, Qn, Qo, Qp, Qq, Qr, Qs, implies_true, Qt, Qu, Qv, Qw, Qx, Qy, Qz, QA, QB, QC, QD, QE, QF, QG, QH, QI, QJ, QK, QL, QM, QN, QO, QP, QQ]
      have : s.drop k = [] := List.drop_eq_nil_of_le h1
      rw [← ht, this]
      exact ⟨[some 0], rfl, by simp, by simp [HWeak, BWeak, setB_weak], .inl (by simp [AWeak, trimL])⟩
theorem trimRA_spec (l s : List UInt8) (hs : s.length < 2 ^ 62) : Ctr Tryz.prog G 51 [.d (S s), .ptr 0 0] [.box (setB l)] (.d (S (trimR l s))) [.box (setB l)] := by
  refine Ctr.body (M := M0) hmix Tryz.func51 rfl go51 ?_
  simp (config := { maxSteps := 1000000 }) (disch := ((try simp only [awL]); omega)) only [QR, QS, QT, QU, QV, QW, QX, QY, QZ, Q0, Q1, Q2, setB_refs, setB_pass, setB_sids, setB_ren, Tryz.f51, ↓awU, awV, awF, Qa, Qb, Qc, Qd, forall_const, ↓reduceIte, ↓reduceDIte, ↓Qe, Qf, Qg, Qh, Qi, Qj, Qk, Ql, Qm, Qn, Qo, Qp, Qq, Qr, Qs, implies_true, Qt, Qu, Qv, Qw, Qx, Qy, Qz, QA, QB, QC, QD, QE, QF, QG, QH, QI, QJ, QK, QL, QM, QN, QO, QP, QQ]
  refine LoopC.fr 2 (α := Nat) (fun k => k) (fun k => [(0, .d (S (s.take k)))]) (fun _ => [.box (setB l)]) (fun k => k ≤ s.length ∧ trimR l (s.take k) = trimR l s) s.length ⟨Nat.le_refl _, by rw [List.take_length]⟩ ?_ ?_
  · exact ⟨[some 0], rfl, by simp, by simp [setsA, keepA, SWeak, AWeak], by simp [HWeak, BWeak, setB_weak]⟩
  · rintro k ⟨hk, ht⟩
    have lk : (s.take k).length = k := by rw [List.length_take]; omega
    simp only [awK, Nat.reduceMod, Nat.reduceDiv, reduceIte]
    rcases k with _ | k
    · rw [List.take_zero] at *
      simp (config := { maxSteps := 1000000 }) (disch := ((try simp only [awL]); omega)) only [QR, QS, QT, QU, QV, QW, QX, QY, QZ, Q0, Q1, Q2, setB_refs, setB_pass, setB_sids, setB_ren, ↓awU, awV, awF, Qa, Qb, Qc, Qd, forall_const, ↓reduceIte, ↓reduceDIte, ↓Qe, Qf, Qg, Qh, Qi, Qj, Qk, Ql, Qm, Qn, Qo, Qp, Qq, Qr, Qs, implies_true, Qt, Qu, Qv, Qw, Qx, Qy, Qz, QA, QB, QC, QD, QE, QF, QG, QH, QI, QJ, QK, QL, QM, QN, QO, QP, QQ]
      rw [← ht]
      exact ⟨[some 0], rfl, by simp, by simp [HWeak, BWeak, setB_weak], .inl (by simp [AWeak, trimR])⟩
    · have hd := take_snoc (show k < s.length by omega)
      have hg : (s.take (k + 1)).getD k 0 = s.getD k 0 := by
        rw [List.getD_eq_getElem?_getD, List.getElem?_take, if_pos (by omega), ← List.getD_eq_getElem?_getD]
      have hx : (s.take (k + 1)).take k = s.take k := by rw [List.take_take]; congr 1; omega
      simp (config := { maxSteps := 1000000 }) (disch := ((try simp only [awL]); omega)) only [QR, QS, QT, QU, QV, QW, QX, QY, QZ, Q0, Q1, Q2, setB_refs, setB_pass, setB_sids, setB_ren, lk, hg, ↓awU, awV, awF, Qa, Qb, Qc, Qd, forall_const, ↓reduceIte, ↓reduceDIte, ↓Qe, Qf, Qg, Qh, Qi, Qj, Qk, Ql, Qm, Qn, Qo, Qp, Qq, Qr, Qs, implies_true, Qt, Qu, Qv, Qw, Qx, Qy, Qz, QA, QB, QC, QD, QE, QF, QG, QH, QI, QJ, QK, QL, QM, QN, QO, QP, QQ]
      refine CallC.by (contains_spec l (s.getD k 0)) (by rfl) (by rfl) (Nat.le_refl _) ?_
      cases hc : l.contains (s.getD k 0)
      · simp (config := { maxSteps := 1000000 }) (disch := ((try simp only [awL]); omega)) only [QR, QS, QT, QU, QV, QW, QX, QY, QZ, Q0, Q1, Q2, setB_refs, setB_pass, setB_sids, setB_ren, ↓awU, awV, awF, Qa, Qb, Qc, Qd, forall_const, ↓reduceIte, ↓reduceDIte, ↓Qe, Qf, Qg, Qh, Qi, Qj, Qk, Ql, Qm, Qn, Qo, Qp, Qq, Qr, Qs, implies_true, Qt, Qu, Qv, Qw, Qx, Qy, Qz, QA, QB, QC, QD, QE, QF, QG, QH, QI, QJ, QK, QL, QM, QN, QO, QP, QQ]
        rw [← ht, hd, trimR_snoc, hc]
        exact ⟨[some 0], rfl, by simp, by simp [HWeak, BWeak, setB_weak], .inl (by simp [AWeak])⟩
      · simp (config := { maxSteps := 1000000 }) (disch := ((try simp only [awL]); omega)) only [QR, QS, QT, QU, QV, QW, QX, QY, QZ, Q0, Q1, Q2, setB_refs, setB_pass, setB_sids, setB_ren, lk, hx, ↓awU, awV, awF, Qa, Qb, Qc, Qd, forall_const, ↓reduceIte, ↓reduceDIte, ↓Qe, Qf, Qg, Qh, Qi, Qj, Qk, Ql, Qm, Qn, Qo, Qp, Qq, Qr, Qs, implies_true, Qt, Qu, Qv, Qw, Qx, Qy, Qz, QA, QB, QC, QD, QE, QF, QG, QH, QI, QJ, QK, QL, QM, QN, QO, QP, QQ]
        exact ⟨k, ⟨by omega, by rw [← ht, hd, trimR_snoc, hc]; rfl⟩, by simp only; omega, [some 0], rfl, by simp, by simp [setsA, keepA, SWeak, AWeak], by simp [HWeak, BWeak, setB_weak]⟩
end Go.Proofs.YtjecgoddmkaboaaGreatDoor.Num

namespace Go.Proofs.YtjecgoddmkaboaaGreatDoor.Num
open Go Go.Proofs Go.Abs
variable {G : Globals}
/-! Trim, and which texts are digits. -/
theorem setB_fold {l : List UInt8} : (setD l).map AV.d = setB l := rfl
theorem setB_putL {L : List AV} {l : List UInt8} (h : L.length = 256) : putL L 0 ((setD l).map AV.d) = setB l := by
  rw [setB_fold]
  obtain ⟨a, b, cs, e⟩ := setB_two l
  have q := @setB_length l
  rw [e] at q ⊢
  have hd : L.drop (0 + (a :: b :: cs).length) = [] := List.drop_eq_nil_of_le (by omega)
  simp only [putL, hd, List.take_zero, List.nil_append, List.append_nil]
set_option maxRecDepth 10000 in
theorem setB_putL' {l : List UInt8} : putL ([.d (.bool false), .d (.bool false), .d (.bool false), .d (.bool false), .d (.bool false), .d (.bool false), .d (.bool false), .d (.bool false), .d (.bool false), .d (.bool false), .d (.bool false), .d (.bool false), .d (.bool false), .d (.bool false), .d (.bool false), .d (.bool false), .d (.bool false), .d (.bool false), .d (.bool false), .d (.bool false), .d (.bool false), .d (.bool false), .d (.bool false), .d (.bool false), .d (.bool false), .d (.bool false), .d (.bool false), .d (.bool false), .d (.bool false), .d (.bool false), .d (.bool false), .d (.bool false), .d (.bool false), .d (.bool false), .d (.bool false), .d (.bool false), .d (.bool false), .d (.bool false), .d (.bool false), .d (.bool false), .d (.bool false), .d (.bool false), .d (.bool false), .d (.bool false), .d (.bool false), .d (.bool false), .d (.bool false), .d (.bool false), .d (.bool false), .d (.bool false), .d (.bool false), .d (.bool false), .d (.bool false), .d (.bool false), .d (.bool false), .d (.bool false), .d (.bool false), .d (.bool false), .d (.bool false), .d (.bool false), .d (.bool false), .d (.bool false), .d (.bool false), .d (.bool false), .d (.bool false), .d (.bool false), .d (.bool false), .d (.bool false), .d (.bool false), .d (.bool false), .d (.bool false), .d (.bool false), .d (.bool false), .d (.bool false), .d (.bool false), .d (.bool false), .d (.bool false), .d (.bool false), .d (.bool false), .d (.bool false), .d (.bool false), .d (.bool false), .d (.bool false), .d (.bool false), .d (.bool false), .d (.bool false), .d (.bool false), .d (.bool false), .d (.bool false), .d (.bool false), .d (.bool false), .d (.bool false), .d (.bool false), .d (.bool false), .d (.bool false), .d (.bool false), .d (.bool false), .d (.bool false), .d (.bool false), .d (.bool false), .d (.bool false), .d (.bool false), .d (.bool false), .d (.bool false), .d (.bool false), .d (.bool false), .d (.bool false), .d (.bool false), .d (.bool false), .d (.bool false), .d (.bool false), .d (.bool false), .d (.bool false), .d (.bool false), .d (.bool false), .d (.bool false), .d (.bool false), .d (.bool false), .d (.bool false), .d (.bool false), .d (.bool false), .d (.bool false), .d (.bool false), .d (.bool false), .d (.bool false), .d (.bool false), .d (.bool false), .d (.bool false), .d (.bool false), .d (.bool false), .d (.bool false), .d (.bool false), .d (.bool false), .d (.bool false), .d (.bool false), .d (.bool false), .d (.bool false), .d (.bool false), .d (.bool false), .d (.bool false), .d (.bool false), .d (.bool false), .d (.bool false), .d (.bool false), .d (.bool false), .d (.bool false), .d (.bool false), .d (.bool false), .d (.bool false), .d (.bool false), .d (.bool false), .d (.bool false), .d (.bool false), .d (.bool false), .d (.bool false), .d (.bool false), .d (.bool false), .d (.bool false), .d (.bool false), .d (.bool false), .d (.bool false), .d (.bool false), .d (.bool false), .d (.bool false), .d (.bool false), .d (.bool false), .d (.bool false), .d (.bool false), .d (.bool false), .d (.bool false), .d (.bool false), .d (.bool false), .d (.bool false), .d (.bool false), .d (.bool false), .d (.bool false), .d (.bool false), .d (.bool false), .d (.bool false), .d (.bool false), .d (.bool false), .d (.bool false), .d (.bool false), .d (.bool false), .d (.bool false), .d (.bool false), .d (.bool false), .d (.bool false), .d (.bool false), .d (.bool false), .d (.bool false), .d (.bool false), .d (.bool false), .d (.bool false), .d (.bool false), .d (.bool false), .d (.bool false), .d (.bool false), .d (.bool false), .d (.bool false), .d (.bool false), .d (.bool false), .d (.bool false), .d (.bool false), .d (.bool false), .d (.bool false), .d (.bool false), .d (.bool false), .d (.bool false), .d (.bool false), .d (.bool false), .d (.bool false), .d (.bool false), .d (.bool false), .d (.bool false), .d (.bool false), .d (.bool false), .d (.bool false), .d (.bool false), .d (.bool false), .d (.bool false), .d (.bool false), .d (.bool false), .d (.bool false), .d (.bool false), .d (.bool false), .d (.bool false), .d (.bool false), .d (.bool false), .d (.bool false), .d (.bool false), .d (.bool false), .d (.bool false), .d (.bool false), .d (.bool false), .d (.bool false), .d (.bool false), .d (.bool false), .d (.bool false), .d (.bool false), .d (.bool false), .d (.bool false), .d (.bool false), .d (.bool false), .d (.bool false), .d (.bool false), .d (.bool false), .d (.bool false), .d (.bool false), .d (.bool false), .d (.bool false), .d (.bool false), .d (.bool false), .d (.bool false), .d (.bool false), .d (.bool false)] : List AV) 0 (setB l) = setB l := setB_putL rfl
set_option maxHeartbeats 4000000 in
set_option maxRecDepth 100000 in
theorem trim_spec (s l : List UInt8) (hs : s.length < 2 ^ 62) (hl : l.length < 2 ^ 62) (h2 : 2 ≤ l.length) (ha : ∀ b ∈ l, b.toNat < 128) : Ctr Tryz.prog G 26 [.d (S s), .d (S l)] [] (.d (S (trimL l (trimR l s)))) [] := by
  refine Ctr.pure (M := M0) hmix Tryz.func26 rfl go26 ?_
  have q := @setB_length l
  have tr : (trimR l s).length ≤ s.length := by
    simp only [trimR, List.length_reverse]
    exact Nat.le_trans (List.dropWhile_sublist _).length_le (by simp)
  simp (config := { maxSteps := 1000000 }) (disch := ((try simp only [awL]); omega)) only [QR, QS, QT, QU, QV, QW, QX, QY, QZ, Q0, Q1, Q2, setB_refs, setB_pass, setB_sids, setB_ren, Tryz.f26, ↓awU, awV, awF, Qa, Qb, Qc, Qd, forall_const, ↓reduceIte, ↓reduceDIte, ↓Qe, Qf, Qg, Qh, Qi, Qj, Qk, Ql, Qm, Qn, Qo, Qp, Qq, Qr, Qs, implies_true, Qt, Qu, Qv, Qw, Qx, Qy, Qz, QA, QB, QC, QD, QE, QF, QG, QH, QI, QJ, QK, QL, QM, QN, QO, QP, QQ]
  refine ⟨fun h => ⟨fun h3 => ?_, fun h3 => ?_⟩, fun h => ?_⟩
  · subst h3; simp at h2
  · refine CallC.pure (makeSet_spec l hl ha) ?_
    have tk : (setD l).take 256 = setD l := List.take_of_length_le (by rw [setD_length]; omega)
    simp (config := { maxSteps := 1000000 }) (disch := ((try simp only [awL]); omega)) only [QR, QS, QT, QU, QV, QW, QX, QY, QZ, Q0, Q1, Q2, ↓ setB_putL', setB_putL', setB_fold, q, setB_refs, setB_pass, setB_sids, setB_ren, ↓awU, awV, awF, Qa, Qb, Qc, Qd, forall_const, ↓reduceIte, ↓reduceDIte, ↓Qe, Qf, Qg, Qh, Qi, Qj, Qk, Ql, Qm, Qn, Qo, Qp, Qq, Qr, Qs, implies_true, Qt, Qu, Qv, Qw, Qx, Qy, Qz, QA, QB, QC, QD, QE, QF, QG, QH, QI, QJ, QK, QL, QM, QN, QO, QP, QQ]
    refine ⟨setB_one, ?_⟩
    refine CallC.by (trimRA_spec l s hs) (by rfl) (by rfl) (Nat.le_refl _) ?_
    simp (config := { maxSteps := 1000000 }) (disch := ((try simp only [awL]); omega)) only [QR, QS, QT, QU, QV, QW, QX, QY, QZ, Q0, Q1, Q2, setB_fold, setB_refs, setB_pass, setB_sids, setB_ren, ↓awU, awV, awF, Qa, Qb, Qc, Qd, forall_const, ↓reduceIte, ↓reduceDIte, ↓Qe, Qf, Qg, Qh, Qi, Qj, Qk, Ql, Qm, Qn, Qo, Qp, Qq, Qr, Qs, implies_true, Qt, Qu, Qv, Qw, Qx, Qy, Qz, QA, QB, QC, QD, QE, QF, QG, QH, QI, QJ, QK, QL, QM, QN, QO, QP, QQ]
    refine CallC.by (trimLA_spec l (trimR l s) (by omega)) (by rfl) (by rfl) (Nat.le_refl _) ?_
    simp (config := { maxSteps := 1000000 }) (disch := ((try simp only [awL]); omega)) only [QR, QS, QT, QU, QV, QW, QX, QY, QZ, Q0, Q1, Q2, setB_fold, setB_refs, setB_pass, setB_sids, setB_ren, ↓awU, awV, awF, Qa, Qb, Qc, Qd, forall_const, ↓reduceIte, ↓reduceDIte, ↓Qe, Qf, Qg, Qh, Qi, Qj, Qk, Ql, Qm, Qn, Qo, Qp, Qq, Qr, Qs, implies_true, Qt, Qu, Qv, Qw, Qx, Qy, Qz, QA, QB, QC, QD, QE, QF, QG, QH, QI, QJ, QK, QL, QM, QN, QO, QP, QQ]
  · subst h; rfl
theorem dropWhile_nil {l : List UInt8} {p : UInt8 → Bool} : l.dropWhile p = [] ↔ l.all p = true := by
  induction l with
  | nil => simp
  | cons b l ih =>
    rw [List.dropWhile_cons, List.all_cons]
    cases h : p b <;> simp [ih]
theorem trim_nil {l s : List UInt8} : trimL l (trimR l s) = [] ↔ s.all l.contains = true := by
  rw [trimL, dropWhile_nil, trimR]
  rw [List.all_reverse]
  constructor
  · intro h
    by_cases e : s.reverse.dropWhile l.contains = []
    · have := dropWhile_nil.1 e
      rwa [List.all_reverse] at this
    · exfalso
      have h1 := List.head_dropWhile_not l.contains e
      have h2 := List.all_eq_true.1 h _ (List.head_mem e)
      rw [h1] at h2; cases h2
  · intro h
    have : s.reverse.dropWhile l.contains = [] := dropWhile_nil.2 (by rwa [List.all_reverse])
    rw [this]; rfl
abbrev dig10 : List UInt8 := [48, 49, 50, 51, 52, 53, 54, 55, 56, 57]
def digB (s : List UInt8) (m : Int) : Bool := decide (1 ≤ s.length ∧ (s.length : Int) ≤ m) && s.all dig10.contains
theorem digits_spec (s : List UInt8) (m : Int) (hs : s.length < 2 ^ 62) : Ctr Tryz.prog G 33 [.d (S s), .d (.int .i64 m)] [] (.d (.bool (digB s m))) [] := by
  refine Ctr.pure (M := M0) hmix Tryz.func33 rfl go33 ?_
  simp (config := { maxSteps := 1000000 }) (disch := ((try simp only [awL]); omega)) only [QR, QS, QT, QU, QV, QW, QX, QY, QZ, Q0, Q1, Q2, Tryz.f33, ↓awU, awV, awF, Qa, Qb, Qc, Qd, forall_const, ↓reduceIte, ↓reduceDIte, ↓Qe, Qf, Qg, Qh, Qi, Qj, Qk, Ql, Qm, Qn, Qo, Qp, Qq, Qr, Qs, implies_true, Qt, Qu, Qv, Qw, Qx, Qy, Qz, QA, QB, QC, QD, QE, QF, QG, QH, QI, QJ, QK, QL, QM, QN, QO, QP, QQ]
  refine ⟨fun h1 => ⟨fun h2 => ?_, fun h2 => ?_⟩, fun h1 => ?_⟩
  · refine CallC.pure (trim_spec s dig10 hs (by decide) (by decide) (by decide)) ?_
    simp (config := { maxSteps := 1000000 }) (disch := ((try simp only [awL]); omega)) only [QR, QS, QT, QU, QV, QW, QX, QY, QZ, Q0, Q1, Q2, ↓awU, awV, awF, Qa, Qb, Qc, Qd, forall_const, ↓reduceIte, ↓reduceDIte, ↓Qe, Qf, Qg, Qh, Qi, Qj, Qk, Ql, Qm, Qn, Qo, Qp, Qq, Qr, Qs, implies_true, Qt, Qu, Qv, Qw, Qx, Qy, Qz, QA, QB, QC, QD, QE, QF, QG, QH, QI, QJ, QK, QL, QM, QN, QO, QP, QQ]
    rw [digB, decide_eq_true (show 1 ≤ s.length ∧ (s.length : Int) ≤ m by omega), Bool.true_and]
    cases h : s.all dig10.contains
    · rw [decide_eq_false fun e => by rw [trim_nil, h] at e; cases e]
    · rw [decide_eq_true (trim_nil.2 h)]
  · rw [digB, decide_eq_false (by omega)]; rfl
  · rw [digB, decide_eq_false (by omega)]; rfl
end Go.Proofs.YtjecgoddmkaboaaGreatDoor.Num

namespace Go.Proofs.YtjecgoddmkaboaaGreatDoor.Num
open Go Go.Proofs Go.Abs
variable {G : Globals}
/-! strings.TrimLeft with a set of ASCII bytes. -/
set_option maxHeartbeats 4000000 in
set_option maxRecDepth 100000 in
theorem trimLeftSet_spec (s l : List UInt8) (hs : s.length < 2 ^ 62) (hl : l.length < 2 ^ 62) (h2 : 2 ≤ l.length) (ha : ∀ b ∈ l, b.toNat < 128) : Ctr Tryz.prog G 40 [.d (S s), .d (S l)] [] (.d (S (trimL l s))) [] := by
  refine Ctr.pure (M := M0) hmix Tryz.func40 rfl go40 ?_
  have q := @setB_length l
  simp (config := { maxSteps := 1000000 }) (disch := ((try simp only [awL]); omega)) only [QR, QS, QT, QU, QV, QW, QX, QY, QZ, Q0, Q1, Q2, setB_refs, setB_pass, setB_sids, setB_ren, Tryz.f40, ↓awU, awV, awF, Qa, Qb, Qc, Qd, forall_const, ↓reduceIte, ↓reduceDIte, ↓Qe, Qf, Qg, Qh, Qi, Qj, Qk, Ql, Qm, Qn, Qo, Qp, Qq, Qr, Qs, implies_true, Qt, Qu, Qv, Qw, Qx, Qy, Qz, QA, QB, QC, QD, QE, QF, QG, QH, QI, QJ, QK, QL, QM, QN, QO, QP, QQ]
  refine ⟨fun h => ⟨fun h3 => ?_, fun h3 => ?_⟩, fun h => ?_⟩
  · subst h3; simp at h2
  · refine CallC.pure (makeSet_spec l hl ha) ?_
    have tk : (setD l).take 256 = setD l := List.take_of_length_le (by rw [setD_length]; omega)
    simp (config := { maxSteps := 1000000 }) (disch := ((try simp only [awL]); omega)) only [QR, QS, QT, QU, QV, QW, QX, QY, QZ, Q0, Q1, Q2, ↓ setB_putL', setB_putL', setB_fold, q, setB_refs, setB_pass, setB_sids, setB_ren, ↓awU, awV, awF, Qa, Qb, Qc, Qd, forall_const, ↓reduceIte, ↓reduceDIte, ↓Qe, Qf, Qg, Qh, Qi, Qj, Qk, Ql, Qm, Qn, Qo, Qp, Qq, Qr, Qs, implies_true, Qt, Qu, Qv, Qw, Qx, Qy, Qz, QA, QB, QC, QD, QE, QF, QG, QH, QI, QJ, QK, QL, QM, QN, QO, QP, QQ]
    refine ⟨setB_one, ?_⟩
    refine CallC.by (trimLA_spec l s hs) (by rfl) (by rfl) (Nat.le_refl _) ?_
    simp (config := { maxSteps := 1000000 }) (disch := ((try simp only [awL]); omega)) only [QR, QS, QT, QU, QV, QW, QX, QY, QZ, Q0, Q1, Q2, setB_fold, setB_refs, setB_pass, setB_sids, setB_ren, ↓awU, awV, awF, Qa, Qb, Qc, Qd, forall_const, ↓reduceIte, ↓reduceDIte, ↓Qe, Qf, Qg, Qh, Qi, Qj, Qk, Ql, Qm, Qn, Qo, Qp, Qq, Qr, Qs, implies_true, Qt, Qu, Qv, Qw, Qx, Qy, Qz, QA, QB, QC, QD, QE, QF, QG, QH, QI, QJ, QK, QL, QM, QN, QO, QP, QQ]
  · subst h; rfl
end Go.Proofs.YtjecgoddmkaboaaGreatDoor.Num

namespace Go.Proofs.YtjecgoddmkaboaaGreatDoor.Num
open Go Go.Proofs Go.Abs
variable {G : Globals}
/-! The decimal digits of a number. -/
end Go.Proofs.YtjecgoddmkaboaaGreatDoor.Num

namespace Go.Proofs.YtjecgoddmkaboaaGreatDoor.Num
open Go Go.Proofs Go.Abs
variable {G : Globals}
/-! The texts of big integers and of fractions. -/
end Go.Proofs.YtjecgoddmkaboaaGreatDoor.Num

namespace Go.Proofs.YtjecgoddmkaboaaGreatDoor.Num
open Go Go.Proofs Go.Abs
variable {G : Globals}
/-! Decimals. -/
def decNeg (s : List UInt8) : Bool := hasP s [45]
def decBody (s : List UInt8) : List UInt8 := if hasP s [45] then s.drop 1 else if hasP s [43] then s.drop 1 else s
def decF (s : List UInt8) : List UInt8 := cutL 46 (decBody s)
def decB (s : List UInt8) : List UInt8 := cutR 46 (decBody s)
def decOk (s : List UInt8) : Bool := digB (decF s) 15 && (!decide (46 ∈ decBody s) || digB (decB s) 9)
def decNum (l : List UInt8) : Nat := l.foldl (fun v b => v * 10 + (b.toNat - 48)) 0
def decVal (s : List UInt8) : Rat := Rat.divInt (if decNeg s then -(decNum (decF s ++ decB s) : Int) else (decNum (decF s ++ decB s) : Int)) ((10 ^ (decB s).length : Nat) : Int)
theorem decNum_push {l : List UInt8} {i : Nat} (h : i < l.length) : decNum (l.take i) * 10 + ((l.getD i 0).toNat - 48) = decNum (l.take (i + 1)) := by
  rw [take_snoc h, decNum, decNum, List.foldl_append]; rfl
theorem cutL_len {c : UInt8} : ∀ s : List UInt8, (cutL c s).length ≤ s.length
  | [] => Nat.le_refl _
  | b :: l => by
    have := cutL_len (c := c) l
    rw [cutL]; split <;> simp; exact this
theorem cutR_none {c : UInt8} {s : List UInt8} (h : c ∉ s) : cutR c s = [] := ((cut_index c s).2 h).2.2
theorem cutR_len {c : UInt8} : ∀ s : List UInt8, (cutR c s).length ≤ s.length
  | [] => Nat.le_refl _
  | b :: l => by
    have := cutR_len (c := c) l
    rw [cutR]; split <;> simp; omega
theorem dig_range {b : UInt8} (h : dig10.contains b = true) : 48 ≤ b.toNat ∧ b.toNat ≤ 57 := by
  have : b ∈ dig10 := by simpa using h
  simp only [dig10, List.mem_cons, List.not_mem_nil, or_false] at this
  rcases this with rfl | rfl | rfl | rfl | rfl | rfl | rfl | rfl | rfl | rfl <;> decide
theorem decNum_lt {l : List UInt8} (h : ∀ b ∈ l, dig10.contains b = true) : decNum l < 10 ^ l.length := by
  have key : ∀ (l : List UInt8) (v : Nat), (∀ b ∈ l, dig10.contains b = true) → l.foldl (fun v b => v * 10 + (b.toNat - 48)) v < (v + 1) * 10 ^ l.length := by
    intro l
    induction l with
    | nil => intro v _; simp
    | cons b l ih =>
      intro v hl
      have hb := dig_range (hl b (List.mem_cons_self ..))
      have := ih (v * 10 + (b.toNat - 48)) (fun c hc => hl c (List.mem_cons_of_mem _ hc))
      rw [List.foldl_cons, List.length_cons, Nat.pow_succ]
      refine Nat.lt_of_lt_of_le this ?_
      rw [Nat.mul_comm (10 ^ l.length) 10, ← Nat.mul_assoc]
      exact Nat.mul_le_mul_right _ (by omega)
  have := key l 0 h
  rw [Nat.zero_add, Nat.one_mul] at this
  exact this
theorem cells_nums {l : List UInt8} : (l.map fun b => D.int .u8 (b.toNat : Int)) = ints .u8 (nums l) := by simp [ints, nums]
theorem decOk_facts {s : List UInt8} (h : decOk s = true) : (∀ b ∈ decF s ++ decB s, dig10.contains b = true) ∧ (decF s ++ decB s).length ≤ 24 ∧ (decB s).length ≤ 9 := by
  unfold decOk at h
  rw [Bool.and_eq_true, Bool.or_eq_true] at h
  obtain ⟨h1, h2⟩ := h
  unfold digB at h1
  rw [Bool.and_eq_true, decide_eq_true_eq] at h1
  have hb : (decB s).length ≤ 9 ∧ ∀ b ∈ decB s, dig10.contains b = true := by
    rcases h2 with h2 | h2
    · have e : decB s = [] := cutR_none (by simpa using h2)
      rw [e]; exact ⟨by simp, fun b hb => by cases hb⟩
    · unfold digB at h2
      rw [Bool.and_eq_true, decide_eq_true_eq] at h2
      exact ⟨by omega, fun b hb => List.all_eq_true.1 h2.2 b hb⟩
  refine ⟨fun b hb' => ?_, by rw [List.length_append]; omega, hb.1⟩
  rcases List.mem_append.1 hb' with h | h
  · exact List.all_eq_true.1 h1.2 b h
  · exact hb.2 b h
theorem toW_10 : toW 10 = [10] := by rw [toW_pos (by decide), show 10 / B = 0 from rfl, toW_zero]; rfl
theorem sz_small {n k : Nat} (h : n < 10 ^ k) : (toW n).length ≤ k := toW_length_le (Nat.lt_of_lt_of_le h (Nat.pow_le_pow_left (by decide) _))
set_option maxHeartbeats 4000000 in
set_option maxRecDepth 100000 in
theorem decimalF_spec (hG : HG G) (s : List UInt8) (hs : s.length ≤ 1000000000) : Ctr Tryz.prog G 22 [.d (S s)] [] (.d (.tup [if decOk s = true then Frac (decVal s) else Zf, .bool (decOk s)])) [] := by
  have hG' := hG
  unfold HG at hG
  refine Ctr.pure (M := M0) hmix Tryz.func22 rfl go22 ?_
  simp (config := { maxSteps := 1000000 }) (disch := ((try simp only [awL]); omega)) only [QR, QS, QT, QU, QV, QW, QX, QY, QZ, Q0, Q1, Q2, Tryz.f22, ↓awU, awV, awF, Qa, Qb, Qc, Qd, forall_const, ↓reduceIte, ↓reduceDIte, ↓Qe, Qf, Qg, Qh, Qi, Qj, Qk, Ql, Qm, Qn, Qo, Qp, Qq, Qr, Qs, implies_true, Qt, Qu, Qv, Qw, Qx, Qy, Qz, QA, QB, QC, QD, QE, QF, QG, QH, QI, QJ, QK, QL, QM, QN, QO, QP, QQ]
  refine CallC.pure (cutPrefix_spec s [45]) ?_
  have hbody : (decBody s).length ≤ s.length := by
    unfold decBody
    split
    · simp
    · split <;> simp
  have l1 := cutL_len (c := 46) (decBody s)
  have l2 := cutR_len (c := 46) (decBody s)
  have hno : decide (46 ∈ decBody s) = false → decB s = [] := fun h => cutR_none (of_decide_eq_false h)
  have hok : decOk s = (digB (decF s) 15 && (!decide (46 ∈ decBody s) || digB (decB s) 9)) := rfl
  have hdv : decVal s = Rat.divInt (if decNeg s then -(decNum (decF s ++ decB s) : Int) else (decNum (decF s ++ decB s) : Int)) ((10 ^ (decB s).length : Nat) : Int) := rfl
  have f1 : cutL 46 (decBody s) = decF s := rfl
  have f2 : cutR 46 (decBody s) = decB s := rfl
  rw [f1] at l1
  rw [f2] at l2
  cases h45 : hasP s [45]
  · simp (config := { maxSteps := 1000000 }) (disch := ((try simp only [awL]); omega)) only [QR, QS, QT, QU, QV, QW, QX, QY, QZ, Q0, Q1, Q2, ↓awU, awV, awF, Qa, Qb, Qc, Qd, forall_const, ↓reduceIte, ↓reduceDIte, ↓Qe, Qf, Qg, Qh, Qi, Qj, Qk, Ql, Qm, Qn, Qo, Qp, Qq, Qr, Qs, implies_true, Qt, Qu, Qv, Qw, Qx, Qy, Qz, QA, QB, QC, QD, QE, QF, QG, QH, QI, QJ, QK, QL, QM, QN, QO, QP, QQ]
    refine CallC.pure (trimPrefix_spec s [43]) ?_
    have eb : (if hasP s [43] then s.drop ([43] : List UInt8).length else s) = decBody s := by rw [decBody, h45]; rfl
    have en : decNeg s = false := h45
    rw [eb]
    rw [en] at hdv
    simp (config := { maxSteps := 1000000 }) (disch := ((try simp only [awL]); omega)) only [QR, QS, QT, QU, QV, QW, QX, QY, QZ, Q0, Q1, Q2, ↓awU, awV, awF, Qa, Qb, Qc, Qd, forall_const, ↓reduceIte, ↓reduceDIte, ↓Qe, Qf, Qg, Qh, Qi, Qj, Qk, Ql, Qm, Qn, Qo, Qp, Qq, Qr, Qs, implies_true, Qt, Qu, Qv, Qw, Qx, Qy, Qz, QA, QB, QC, QD, QE, QF, QG, QH, QI, QJ, QK, QL, QM, QN, QO, QP, QQ]
    refine CallC.pure (cut_spec (decBody s) 46 (by omega)) ?_
    rw [f1, f2]
    simp (config := { maxSteps := 1000000 }) (disch := ((try simp only [awL]); omega)) only [QR, QS, QT, QU, QV, QW, QX, QY, QZ, Q0, Q1, Q2, ↓awU, awV, awF, Qa, Qb, Qc, Qd, forall_const, ↓reduceIte, ↓reduceDIte, ↓Qe, Qf, Qg, Qh, Qi, Qj, Qk, Ql, Qm, Qn, Qo, Qp, Qq, Qr, Qs, implies_true, Qt, Qu, Qv, Qw, Qx, Qy, Qz, QA, QB, QC, QD, QE, QF, QG, QH, QI, QJ, QK, QL, QM, QN, QO, QP, QQ]
    refine CallC.pure (digits_spec (decF s) 15 (by omega)) ?_
    cases d1 : digB (decF s) 15
    · rw [hok, d1, Bool.false_and]
      simp (config := { maxSteps := 1000000 }) (disch := ((try simp only [awL]); omega)) only [QR, QS, QT, QU, QV, QW, QX, QY, QZ, Q0, Q1, Q2, ↓awU, awV, awF, Qa, Qb, Qc, Qd, forall_const, ↓reduceIte, ↓reduceDIte, ↓Qe, Qf, Qg, Qh, Qi, Qj, Qk, Ql, Qm, Qn, Qo, Qp, Qq, Qr, Qs, implies_true, Qt, Qu, Qv, Qw, Qx, Qy, Qz, QA, QB, QC, QD, QE, QF, QG, QH, QI, QJ, QK, QL, QM, QN, QO, QP, QQ]
      first | done | rfl
    · rw [d1, Bool.true_and] at hok
      cases dp : decide (46 ∈ decBody s)
      · rw [dp, Bool.not_false, Bool.true_or] at hok
        obtain ⟨hall, hlen, hlb⟩ := decOk_facts hok
        have hsm : ∀ i, i ≤ (decF s ++ decB s).length → (toW (decNum ((decF s ++ decB s).take i))).length ≤ 30 := fun i hi => by
          have h := decNum_lt (l := (decF s ++ decB s).take i) fun b hb => hall b (List.mem_of_mem_take hb)
          exact sz_small (Nat.lt_of_lt_of_le h (Nat.pow_le_pow_right (by decide) (by rw [List.length_take]; omega)))
        have hlt : ∀ i, i ≤ (decF s ++ decB s).length → decNum ((decF s ++ decB s).take i) * 10 < 10 ^ 30 := fun i hi => by
          have h := decNum_lt (l := (decF s ++ decB s).take i) fun b hb => hall b (List.mem_of_mem_take hb)
          have h2 : 10 ^ ((decF s ++ decB s).take i).length ≤ 10 ^ 29 := Nat.pow_le_pow_right (by decide) (by rw [List.length_take]; omega)
          have h3 : (10 : Nat) ^ 30 = 10 ^ 29 * 10 := rfl
          omega
        rw [if_pos hok, hok]
        generalize hL : decF s ++ decB s = L at *
        simp (config := { maxSteps := 1000000 }) (disch := ((try simp only [awL]); omega)) only [hG, QR, QS, QT, QU, QV, QW, QX, QY, QZ, Q0, Q1, Q2, ↓awU, awV, awF, Qa, Qb, Qc, Qd, forall_const, ↓reduceIte, ↓reduceDIte, ↓Qe, Qf, Qg, Qh, Qi, Qj, Qk, Ql, Qm, Qn, Qo, Qp, Qq, Qr, Qs, implies_true, Qt, Qu, Qv, Qw, Qx, Qy, Qz, QA, QB, QC, QD, QE, QF, QG, QH, QI, QJ, QK, QL, QM, QN, QO, QP, QQ]
        refine CallC.of (clone_spec [1] (by decide)) (by rfl) ?_
        simp (config := { maxSteps := 1000000 }) (disch := ((try simp only [awL]); omega)) only [hG, QR, QS, QT, QU, QV, QW, QX, QY, QZ, Q0, Q1, Q2, hL, cells_nums, ↓awU, awV, awF, Qa, Qb, Qc, Qd, forall_const, ↓reduceIte, ↓reduceDIte, ↓Qe, Qf, Qg, Qh, Qi, Qj, Qk, Ql, Qm, Qn, Qo, Qp, Qq, Qr, Qs, implies_true, Qt, Qu, Qv, Qw, Qx, Qy, Qz, QA, QB, QC, QD, QE, QF, QG, QH, QI, QJ, QK, QL, QM, QN, QO, QP, QQ]
        refine LoopC.fr 422212465069220 (α := Nat) (fun i => L.length - i) (fun i => [(9, .d (W (toW (decNum (L.take i))))), (49, .d (.int .i64 i))])
          (fun _ => [.box [.d (.bool false), .d (.sl 0 true []), .d (.bool false), .d (.sl 0 true [])], .row true (nats .u32 [10]), .row false (ints .u8 (nums L))]) (fun i => i ≤ L.length) 0 (Nat.zero_le _) ?_ ?_
        · exact ⟨[some 0, some 1, some 2], rfl, by simp, by simp [setsA, keepA, SWeak, AWeak, decNum, toW_zero, nats], by simp [HWeak, BWeak, SWeak, AWeak, nats]⟩
        · intro i hi
          have lt := hsm i hi
          have nl := @nums_length L
          simp only [awK, Nat.reduceMod, Nat.reduceDiv, reduceIte]
          rcases Nat.lt_or_ge i L.length with h1 | h1
          · have hb := dig_range (hall _ (mem_getDU (d := 0) h1))
            have hp := decNum_push h1
            have ls := sz_small (n := (L.getD i 0).toNat - 48) (k := 2) (by omega)
            have e48 : ((L.getD i 0).toNat : Int) - 48 = (((L.getD i 0).toNat - 48 : Nat) : Int) := by omega
            have lm : (toW (decNum (L.take i) * 10)).length ≤ 40 := sz_small (Nat.lt_of_lt_of_le (hlt i hi) (by decide))
            simp (config := { maxSteps := 1000000 }) (disch := ((try simp only [awL]); omega)) only [hG, QR, QS, QT, QU, QV, QW, QX, QY, QZ, Q0, Q1, Q2, nl, ↓awU, awV, awF, Qa, Qb, Qc, Qd, forall_const, ↓reduceIte, ↓reduceDIte, ↓Qe, Qf, Qg, Qh, Qi, Qj, Qk, Ql, Qm, Qn, Qo, Qp, Qq, Qr, Qs, implies_true, Qt, Qu, Qv, Qw, Qx, Qy, Qz, QA, QB, QC, QD, QE, QF, QG, QH, QI, QJ, QK, QL, QM, QN, QO, QP, QQ]
            refine CallC.frozenE (times_spec (decNum (L.take i)) 10 (by omega) (by rw [toW_10]; decide)) (by rw [toW_10]; rfl) ?_
            simp (config := { maxSteps := 1000000 }) (disch := ((try simp only [awL]); omega)) only [hG, QR, QS, QT, QU, QV, QW, QX, QY, QZ, Q0, Q1, Q2, nl, e48, ↓awU, awV, awF, Qa, Qb, Qc, Qd, forall_const, ↓reduceIte, ↓reduceDIte, ↓Qe, Qf, Qg, Qh, Qi, Qj, Qk, Ql, Qm, Qn, Qo, Qp, Qq, Qr, Qs, implies_true, Qt, Qu, Qv, Qw, Qx, Qy, Qz, QA, QB, QC, QD, QE, QF, QG, QH, QI, QJ, QK, QL, QM, QN, QO, QP, QQ]
            refine CallC.pure (natural_spec ((L.getD i 0).toNat - 48) (by omega)) ?_
            simp (config := { maxSteps := 1000000 }) (disch := ((try simp only [awL]); omega)) only [hG, QR, QS, QT, QU, QV, QW, QX, QY, QZ, Q0, Q1, Q2, nl, ↓awU, awV, awF, Qa, Qb, Qc, Qd, forall_const, ↓reduceIte, ↓reduceDIte, ↓Qe, Qf, Qg, Qh, Qi, Qj, Qk, Ql, Qm, Qn, Qo, Qp, Qq, Qr, Qs, implies_true, Qt, Qu, Qv, Qw, Qx, Qy, Qz, QA, QB, QC, QD, QE, QF, QG, QH, QI, QJ, QK, QL, QM, QN, QO, QP, QQ]
            refine CallC.pure (plus_spec (decNum (L.take i) * 10) ((L.getD i 0).toNat - 48) (by omega) (by omega)) ?_
            rw [hp]
            simp (config := { maxSteps := 1000000 }) (disch := ((try simp only [awL]); omega)) only [hG, QR, QS, QT, QU, QV, QW, QX, QY, QZ, Q0, Q1, Q2, nl, ↓awU, awV, awF, Qa, Qb, Qc, Qd, forall_const, ↓reduceIte, ↓reduceDIte, ↓Qe, Qf, Qg, Qh, Qi, Qj, Qk, Ql, Qm, Qn, Qo, Qp, Qq, Qr, Qs, implies_true, Qt, Qu, Qv, Qw, Qx, Qy, Qz, QA, QB, QC, QD, QE, QF, QG, QH, QI, QJ, QK, QL, QM, QN, QO, QP, QQ]
            exact ⟨i + 1, h1, by simp only; omega, ⟨[some 0, some 1, some 2], rfl, by simp, by simp [setsA, keepA, SWeak, AWeak], by simp [HWeak, BWeak, SWeak, AWeak]⟩⟩
          · obtain rfl : i = L.length := by omega
            rw [List.take_length] at *
            simp (config := { maxSteps := 1000000 }) (disch := ((try simp only [awL]); omega)) only [hG, QR, QS, QT, QU, QV, QW, QX, QY, QZ, Q0, Q1, Q2, nl, ↓awU, awV, awF, Qa, Qb, Qc, Qd, forall_const, ↓reduceIte, ↓reduceDIte, ↓Qe, Qf, Qg, Qh, Qi, Qj, Qk, Ql, Qm, Qn, Qo, Qp, Qq, Qr, Qs, implies_true, Qt, Qu, Qv, Qw, Qx, Qy, Qz, QA, QB, QC, QD, QE, QF, QG, QH, QI, QJ, QK, QL, QM, QN, QO, QP, QQ]
            refine LoopC.fr 9223372036854777380 (α := Nat) (fun j => (decB s).length - j) (fun j => [(11, .d (W (toW (10 ^ j)))), (64, .d (.int .i64 j))])
              (fun _ => [.box [.d (.bool false), .d (.sl 0 true []), .d (.bool false), .d (.sl 0 true [])], .row true (nats .u32 [10]), .row false (ints .u8 (nums L))]) (fun j => j ≤ (decB s).length) 0 (Nat.zero_le _) ?_ ?_
            · exact ⟨[some 0, some 1, some 2], rfl, by simp, by simp [setsA, keepA, SWeak, AWeak, toW_one], by simp [HWeak, BWeak, SWeak, AWeak, nats]⟩
            · intro j hj
              have lj : (toW (10 ^ j)).length ≤ 10 := sz_small (Nat.pow_lt_pow_right (by decide) (by omega))
              simp only [awK, Nat.reduceMod, Nat.reduceDiv, reduceIte]
              rcases Nat.lt_or_ge j (decB s).length with h2 | h2
              · simp (config := { maxSteps := 1000000 }) (disch := ((try simp only [awL]); omega)) only [hG, QR, QS, QT, QU, QV, QW, QX, QY, QZ, Q0, Q1, Q2, ↓awU, awV, awF, Qa, Qb, Qc, Qd, forall_const, ↓reduceIte, ↓reduceDIte, ↓Qe, Qf, Qg, Qh, Qi, Qj, Qk, Ql, Qm, Qn, Qo, Qp, Qq, Qr, Qs, implies_true, Qt, Qu, Qv, Qw, Qx, Qy, Qz, QA, QB, QC, QD, QE, QF, QG, QH, QI, QJ, QK, QL, QM, QN, QO, QP, QQ]
                refine CallC.frozenE (times_spec (10 ^ j) 10 (by omega) (by rw [toW_10]; decide)) (by rw [toW_10]; rfl) ?_
                rw [← Nat.pow_succ]
                simp (config := { maxSteps := 1000000 }) (disch := ((try simp only [awL]); omega)) only [hG, QR, QS, QT, QU, QV, QW, QX, QY, QZ, Q0, Q1, Q2, ↓awU, awV, awF, Qa, Qb, Qc, Qd, forall_const, ↓reduceIte, ↓reduceDIte, ↓Qe, Qf, Qg, Qh, Qi, Qj, Qk, Ql, Qm, Qn, Qo, Qp, Qq, Qr, Qs, implies_true, Qt, Qu, Qv, Qw, Qx, Qy, Qz, QA, QB, QC, QD, QE, QF, QG, QH, QI, QJ, QK, QL, QM, QN, QO, QP, QQ]
                exact ⟨j + 1, h2, by simp only; omega, ⟨[some 0, some 1, some 2], rfl, by simp, by simp [setsA, keepA, SWeak, AWeak], by simp [HWeak, BWeak, SWeak, AWeak]⟩⟩
              · obtain rfl : j = (decB s).length := by omega
                have hd0 : ((10 ^ (decB s).length : Nat) : Int) ≠ 0 := by
                  have : 0 < 10 ^ (decB s).length := Nat.pow_pos (by decide)
                  omega
                simp (config := { maxSteps := 1000000 }) (disch := ((try simp only [awL]); omega)) only [hG, QR, QS, QT, QU, QV, QW, QX, QY, QZ, Q0, Q1, Q2, ↓awU, awV, awF, Qa, Qb, Qc, Qd, forall_const, ↓reduceIte, ↓reduceDIte, ↓Qe, Qf, Qg, Qh, Qi, Qj, Qk, Ql, Qm, Qn, Qo, Qp, Qq, Qr, Qs, implies_true, Qt, Qu, Qv, Qw, Qx, Qy, Qz, QA, QB, QC, QD, QE, QF, QG, QH, QI, QJ, QK, QL, QM, QN, QO, QP, QQ]
                refine CallC.pure (signed_spec false (decNum L) (by omega)) ?_
                simp (config := { maxSteps := 1000000 }) (disch := ((try simp only [awL]); omega)) only [hG, QR, QS, QT, QU, QV, QW, QX, QY, QZ, Q0, Q1, Q2, ↓awU, awV, awF, Qa, Qb, Qc, Qd, forall_const, ↓reduceIte, ↓reduceDIte, ↓Qe, Qf, Qg, Qh, Qi, Qj, Qk, Ql, Qm, Qn, Qo, Qp, Qq, Qr, Qs, implies_true, Qt, Qu, Qv, Qw, Qx, Qy, Qz, QA, QB, QC, QD, QE, QF, QG, QH, QI, QJ, QK, QL, QM, QN, QO, QP, QQ]
                refine CallC.pure (signed_spec false (10 ^ (decB s).length) (by omega)) ?_
                simp (config := { maxSteps := 1000000 }) (disch := ((try simp only [awL]); omega)) only [hG, QR, QS, QT, QU, QV, QW, QX, QY, QZ, Q0, Q1, Q2, ↓awU, awV, awF, Qa, Qb, Qc, Qd, forall_const, ↓reduceIte, ↓reduceDIte, ↓Qe, Qf, Qg, Qh, Qi, Qj, Qk, Ql, Qm, Qn, Qo, Qp, Qq, Qr, Qs, implies_true, Qt, Qu, Qv, Qw, Qx, Qy, Qz, QA, QB, QC, QD, QE, QF, QG, QH, QI, QJ, QK, QL, QM, QN, QO, QP, QQ]
                refine CallC.of (reduced_spec (if false = true then -(decNum L : Int) else (decNum L : Int)) ((10 ^ (decB s).length : Nat) : Int) hd0 (by simp only [sz]; split <;> simp <;> omega) (by simp only [sz, Int.natAbs_natCast]; omega)) (by rfl) ?_
                rw [← hdv]
                simp (config := { maxSteps := 1000000 }) (disch := ((try simp only [awL]); omega)) only [hG, QR, QS, QT, QU, QV, QW, QX, QY, QZ, Q0, Q1, Q2, ↓awU, awV, awF, Qa, Qb, Qc, Qd, forall_const, ↓reduceIte, ↓reduceDIte, ↓Qe, Qf, Qg, Qh, Qi, Qj, Qk, Ql, Qm, Qn, Qo, Qp, Qq, Qr, Qs, implies_true, Qt, Qu, Qv, Qw, Qx, Qy, Qz, QA, QB, QC, QD, QE, QF, QG, QH, QI, QJ, QK, QL, QM, QN, QO, QP, QQ]
                first | done | rfl
      · rw [dp, Bool.not_true, Bool.false_or] at hok
        simp (config := { maxSteps := 1000000 }) (disch := ((try simp only [awL]); omega)) only [QR, QS, QT, QU, QV, QW, QX, QY, QZ, Q0, Q1, Q2, ↓awU, awV, awF, Qa, Qb, Qc, Qd, forall_const, ↓reduceIte, ↓reduceDIte, ↓Qe, Qf, Qg, Qh, Qi, Qj, Qk, Ql, Qm, Qn, Qo, Qp, Qq, Qr, Qs, implies_true, Qt, Qu, Qv, Qw, Qx, Qy, Qz, QA, QB, QC, QD, QE, QF, QG, QH, QI, QJ, QK, QL, QM, QN, QO, QP, QQ]
        refine CallC.pure (digits_spec (decB s) 9 (by omega)) ?_
        cases d2 : digB (decB s) 9
        · rw [hok, d2]
          simp (config := { maxSteps := 1000000 }) (disch := ((try simp only [awL]); omega)) only [QR, QS, QT, QU, QV, QW, QX, QY, QZ, Q0, Q1, Q2, ↓awU, awV, awF, Qa, Qb, Qc, Qd, forall_const, ↓reduceIte, ↓reduceDIte, ↓Qe, Qf, Qg, Qh, Qi, Qj, Qk, Ql, Qm, Qn, Qo, Qp, Qq, Qr, Qs, implies_true, Qt, Qu, Qv, Qw, Qx, Qy, Qz, QA, QB, QC, QD, QE, QF, QG, QH, QI, QJ, QK, QL, QM, QN, QO, QP, QQ]
          first | done | rfl
        · rw [d2] at hok
          obtain ⟨hall, hlen, hlb⟩ := decOk_facts hok
          have hsm : ∀ i, i ≤ (decF s ++ decB s).length → (toW (decNum ((decF s ++ decB s).take i))).length ≤ 30 := fun i hi => by
            have h := decNum_lt (l := (decF s ++ decB s).take i) fun b hb => hall b (List.mem_of_mem_take hb)
            exact sz_small (Nat.lt_of_lt_of_le h (Nat.pow_le_pow_right (by decide) (by rw [List.length_take]; omega)))
          have hlt : ∀ i, i ≤ (decF s ++ decB s).length → decNum ((decF s ++ decB s).take i) * 10 < 10 ^ 30 := fun i hi => by
            have h := decNum_lt (l := (decF s ++ decB s).take i) fun b hb => hall b (List.mem_of_mem_take hb)
            have h2 : 10 ^ ((decF s ++ decB s).take i).length ≤ 10 ^ 29 := Nat.pow_le_pow_right (by decide) (by rw [List.length_take]; omega)
            have h3 : (10 : Nat) ^ 30 = 10 ^ 29 * 10 := rfl
            omega
          rw [if_pos hok, hok]
          generalize hL : decF s ++ decB s = L at *
          simp (config := { maxSteps := 1000000 }) (disch := ((try simp only [awL]); omega)) only [hG, QR, QS, QT, QU, QV, QW, QX, QY, QZ, Q0, Q1, Q2, ↓awU, awV, awF, Qa, Qb, Qc, Qd, forall_const, ↓reduceIte, ↓reduceDIte, ↓Qe, Qf, Qg, Qh, Qi, Qj, Qk, Ql, Qm, Qn, Qo, Qp, Qq, Qr, Qs, implies_true, Qt, Qu, Qv, Qw, Qx, Qy, Qz, QA, QB, QC, QD, QE, QF, QG, QH, QI, QJ, QK, QL, QM, QN, QO, QP, QQ]
          refine CallC.of (clone_spec [1] (by decide)) (by rfl) ?_
          simp (config := { maxSteps := 1000000 }) (disch := ((try simp only [awL]); omega)) only [hG, QR, QS, QT, QU, QV, QW, QX, QY, QZ, Q0, Q1, Q2, hL, cells_nums, ↓awU, awV, awF, Qa, Qb, Qc, Qd, forall_const, ↓reduceIte, ↓reduceDIte, ↓Qe, Qf, Qg, Qh, Qi, Qj, Qk, Ql, Qm, Qn, Qo, Qp, Qq, Qr, Qs, implies_true, Qt, Qu, Qv, Qw, Qx, Qy, Qz, QA, QB, QC, QD, QE, QF, QG, QH, QI, QJ, QK, QL, QM, QN, QO, QP, QQ]
          refine LoopC.fr 422212465069220 (α := Nat) (fun i => L.length - i) (fun i => [(9, .d (W (toW (decNum (L.take i))))), (49, .d (.int .i64 i))])
            (fun _ => [.box [.d (.bool false), .d (.sl 0 true []), .d (.bool false), .d (.sl 0 true [])], .row true (nats .u32 [10]), .row false (ints .u8 (nums L))]) (fun i => i ≤ L.length) 0 (Nat.zero_le _) ?_ ?_
          · exact ⟨[some 0, some 1, some 2], rfl, by simp, by simp [setsA, keepA, SWeak, AWeak, decNum, toW_zero, nats], by simp [HWeak, BWeak, SWeak, AWeak, nats]⟩
          · intro i hi
            have lt := hsm i hi
            have nl := @nums_length L
            simp only [awK, Nat.reduceMod, Nat.reduceDiv, reduceIte]
            rcases Nat.lt_or_ge i L.length with h1 | h1
            · have hb := dig_range (hall _ (mem_getDU (d := 0) h1))
              have hp := decNum_push h1
              have ls := sz_small (n := (L.getD i 0).toNat - 48) (k := 2) (by omega)
              have e48 : ((L.getD i 0).toNat : Int) - 48 = (((L.getD i 0).toNat - 48 : Nat) : Int) := by omega
              have lm : (toW (decNum (L.take i) * 10)).length ≤ 40 := sz_small (Nat.lt_of_lt_of_le (hlt i hi) (by decide))
              simp (config := { maxSteps := 1000000 }) (disch := ((try simp only [awL]); omega)) only [hG, QR, QS, QT, QU, QV, QW, QX, QY, QZ, Q0, Q1, Q2, nl, ↓awU, awV, awF, Qa, Qb, Qc, Qd, forall_const, ↓reduceIte, ↓reduceDIte, ↓Qe, Qf, Qg, Qh, Qi, Qj, Qk, Ql, Qm, Qn, Qo, Qp, Qq, Qr, Qs, implies_true, Qt, Qu, Qv, Qw, Qx, Qy, Qz, QA, QB, QC, QD, QE, QF, QG, QH, QI, QJ, QK, QL, QM, QN, QO, QP, QQ]
              refine CallC.frozenE (times_spec (decNum (L.take i)) 10 (by omega) (by rw [toW_10]; decide)) (by rw [toW_10]; rfl) ?_
              simp (config := { maxSteps := 1000000 }) (disch := ((try simp only [awL]); omega)) only [hG, QR, QS, QT, QU, QV, QW, QX, QY, QZ, Q0, Q1, Q2, nl, e48, ↓awU, awV, awF, Qa, Qb, Qc, Qd, forall_const, ↓reduceIte, ↓reduceDIte, ↓Qe, Qf, Qg, Qh, Qi, Qj, Qk, Ql, Qm, Qn, Qo, Qp, Qq, Qr, Qs, implies_true, Qt, Qu, Qv, Qw, Qx, Qy, Qz, QA, QB, QC, QD, QE, QF, QG, QH, QI, QJ, QK, QL, QM, QN, QO, QP, QQ]
              refine CallC.pure (natural_spec ((L.getD i 0).toNat - 48) (by omega)) ?_
              simp (config := { maxSteps := 1000000 }) (disch := ((try simp only [awL]); omega)) only [hG, QR, QS, QT, QU, QV, QW, QX, QY, QZ, Q0, Q1, Q2, nl, ↓awU, awV, awF, Qa, Qb, Qc, Qd, forall_const, ↓reduceIte, ↓reduceDIte, ↓Qe, Qf, Qg, Qh, Qi, Qj, Qk, Ql, Qm, Qn, Qo, Qp, Qq, Qr, Qs, implies_true, Qt, Qu, Qv, Qw, Qx, Qy, Qz, QA, QB, QC, QD, QE, QF, QG, QH, QI, QJ, QK, QL, QM, QN, QO, QP, QQ]
              refine CallC.pure (plus_spec (decNum (L.take i) * 10) ((L.getD i 0).toNat - 48) (by omega) (by omega)) ?_
              rw [hp]
              simp (config := { maxSteps := 1000000 }) (disch := ((try simp only [awL]); omega)) only [hG, QR, QS, QT, QU, QV, QW, QX, QY, QZ, Q0, Q1, Q2, nl, ↓awU, awV, awF, Qa, Qb, Qc, Qd, forall_const, ↓reduceIte, ↓reduceDIte, ↓Qe, Qf, Qg, Qh, Qi, Qj, Qk, Ql, Qm, Qn, Qo, Qp, Qq, Qr, Qs, implies_true, Qt, Qu, Qv, Qw, Qx, Qy, Qz, QA, QB, QC, QD, QE, QF, QG, QH, QI, QJ, QK, QL, QM, QN, QO, QP, QQ]
              exact ⟨i + 1, h1, by simp only; omega, ⟨[some 0, some 1, some 2], rfl, by simp, by simp [setsA, keepA, SWeak, AWeak], by simp [HWeak, BWeak, SWeak, AWeak]⟩⟩
            · obtain rfl : i = L.length := by omega
              rw [List.take_length] at *
              simp (config := { maxSteps := 1000000 }) (disch := ((try simp only [awL]); omega)) only [hG, QR, QS, QT, QU, QV, QW, QX, QY, QZ, Q0, Q1, Q2, nl, ↓awU, awV, awF, Qa, Qb, Qc, Qd, forall_const, ↓reduceIte, ↓reduceDIte, ↓Qe, Qf, Qg, Qh, Qi, Qj, Qk, Ql, Qm, Qn, Qo, Qp, Qq, Qr, Qs, implies_true, Qt, Qu, Qv, Qw, Qx, Qy, Qz, QA, QB, QC, QD, QE, QF, QG, QH, QI, QJ, QK, QL, QM, QN, QO, QP, QQ]
              refine LoopC.fr 9223372036854777380 (α := Nat) (fun j => (decB s).length - j) (fun j => [(11, .d (W (toW (10 ^ j)))), (64, .d (.int .i64 j))])
                (fun _ => [.box [.d (.bool false), .d (.sl 0 true []), .d (.bool false), .d (.sl 0 true [])], .row true (nats .u32 [10]), .row false (ints .u8 (nums L))]) (fun j => j ≤ (decB s).length) 0 (Nat.zero_le _) ?_ ?_
              · exact ⟨[some 0, some 1, some 2], rfl, by simp, by simp [setsA, keepA, SWeak, AWeak, toW_one], by simp [HWeak, BWeak, SWeak, AWeak, nats]⟩
              · intro j hj
                have lj : (toW (10 ^ j)).length ≤ 10 := sz_small (Nat.pow_lt_pow_right (by decide) (by omega))
                simp only [awK, Nat.reduceMod, Nat.reduceDiv, reduceIte]
                rcases Nat.lt_or_ge j (decB s).length with h2 | h2
                · simp (config := { maxSteps := 1000000 }) (disch := ((try simp only [awL]); omega)) only [hG, QR, QS, QT, QU, QV, QW, QX, QY, QZ, Q0, Q1, Q2, ↓awU, awV, awF, Qa, Qb, Qc, Qd, forall_const, ↓reduceIte, ↓reduceDIte, ↓Qe, Qf, Qg, Qh, Qi, Qj, Qk, Ql, Qm, Qn, Qo, Qp, Qq, Qr, Qs, implies_true, Qt, Qu, Qv, Qw, Qx, Qy, Qz, QA, QB, QC, QD, QE, QF, QG, QH, QI, QJ, QK, QL, QM, QN, QO, QP, QQ]
                  refine CallC.frozenE (times_spec (10 ^ j) 10 (by omega) (by rw [toW_10]; decide)) (by rw [toW_10]; rfl) ?_
                  rw [← Nat.pow_succ]
                  simp (config := { maxSteps := 1000000 }) (disch := ((try simp only [awL]); omega)) only [hG, QR, QS, QT, QU, QV, QW, QX, QY, QZ, Q0, Q1, Q2, ↓awU, awV, awF, Qa, Qb, Qc, Qd, forall_const, ↓reduceIte, ↓reduceDIte, ↓Qe, Qf, Qg, Qh, Qi, Qj, Qk, Ql, Qm, Qn, Qo, Qp, Qq, Qr, Qs, implies_true, Qt, Qu, Qv, Qw, Qx, Qy, Qz, QA, QB, QC, QD, QE, QF, QG, QH, QI, QJ, QK, QL, QM, QN, QO, QP, QQ]
                  exact ⟨j + 1, h2, by simp only; omega, ⟨[some 0, some 1, some 2], rfl, by simp, by simp [setsA, keepA, SWeak, AWeak], by simp [HWeak, BWeak, SWeak, AWeak]⟩⟩
                · obtain rfl : j = (decB s).length := by omega
                  have hd0 : ((10 ^ (decB s).length : Nat) : Int) ≠ 0 := by
                    have : 0 < 10 ^ (decB s).length := Nat.pow_pos (by decide)
                    omega
                  simp (config := { maxSteps := 1000000 }) (disch := ((try simp only [awL]); omega)) only [hG, QR, QS, QT, QU, QV, QW, QX, QY, QZ, Q0, Q1, Q2, ↓awU, awV, awF, Qa, Qb, Qc, Qd, forall_const, ↓reduceIte, ↓reduceDIte, ↓Qe, Qf, Qg, Qh, Qi, Qj, Qk, Ql, Qm, Qn, Qo, Qp, Qq, Qr, Qs, implies_true, Qt, Qu, Qv, Qw, Qx, Qy, Qz, QA, QB, QC, QD, QE, QF, QG, QH, QI, QJ, QK, QL, QM, QN, QO, QP, QQ]
                  refine CallC.pure (signed_spec false (decNum L) (by omega)) ?_
                  simp (config := { maxSteps := 1000000 }) (disch := ((try simp only [awL]); omega)) only [hG, QR, QS, QT, QU, QV, QW, QX, QY, QZ, Q0, Q1, Q2, ↓awU, awV, awF, Qa, Qb, Qc, Qd, forall_const, ↓reduceIte, ↓reduceDIte, ↓Qe, Qf, Qg, Qh, Qi, Qj, Qk, Ql, Qm, Qn, Qo, Qp, Qq, Qr, Qs, implies_true, Qt, Qu, Qv, Qw, Qx, Qy, Qz, QA, QB, QC, QD, QE, QF, QG, QH, QI, QJ, QK, QL, QM, QN, QO, QP, QQ]
                  refine CallC.pure (signed_spec false (10 ^ (decB s).length) (by omega)) ?_
                  simp (config := { maxSteps := 1000000 }) (disch := ((try simp only [awL]); omega)) only [hG, QR, QS, QT, QU, QV, QW, QX, QY, QZ, Q0, Q1, Q2, ↓awU, awV, awF, Qa, Qb, Qc, Qd, forall_const, ↓reduceIte, ↓reduceDIte, ↓Qe, Qf, Qg, Qh, Qi, Qj, Qk, Ql, Qm, Qn, Qo, Qp, Qq, Qr, Qs, implies_true, Qt, Qu, Qv, Qw, Qx, Qy, Qz, QA, QB, QC, QD, QE, QF, QG, QH, QI, QJ, QK, QL, QM, QN, QO, QP, QQ]
                  refine CallC.of (reduced_spec (if false = true then -(decNum L : Int) else (decNum L : Int)) ((10 ^ (decB s).length : Nat) : Int) hd0 (by simp only [sz]; split <;> simp <;> omega) (by simp only [sz, Int.natAbs_natCast]; omega)) (by rfl) ?_
                  rw [← hdv]
                  simp (config := { maxSteps := 1000000 }) (disch := ((try simp only [awL]); omega)) only [hG, QR, QS, QT, QU, QV, QW, QX, QY, QZ, Q0, Q1, Q2, ↓awU, awV, awF, Qa, Qb, Qc, Qd, forall_const, ↓reduceIte, ↓reduceDIte, ↓Qe, Qf, Qg, Qh, Qi, Qj, Qk, Ql, Qm, Qn, Qo, Qp, Qq, Qr, Qs, implies_true, Qt, Qu, Qv, Qw, Qx, Qy, Qz, QA, QB, QC, QD, QE, QF, QG, QH, QI, QJ, QK, QL, QM, QN, QO, QP, QQ]
                  first | done | rfl
  · have eb : s.drop 1 = decBody s := by rw [decBody, h45]; rfl
    have en : decNeg s = true := h45
    rw [en] at hdv
    simp (config := { maxSteps := 1000000 }) (disch := ((try simp only [awL]); omega)) only [QR, QS, QT, QU, QV, QW, QX, QY, QZ, Q0, Q1, Q2, eb, ↓awU, awV, awF, Qa, Qb, Qc, Qd, forall_const, ↓reduceIte, ↓reduceDIte, ↓Qe, Qf, Qg, Qh, Qi, Qj, Qk, Ql, Qm, Qn, Qo, Qp, Qq, Qr, Qs, implies_true, Qt, Qu, Qv, Qw, Qx, Qy, Qz, QA, QB, QC, QD, QE, QF, QG, QH, QI, QJ, QK, QL, QM, QN, QO, QP, QQ]
    refine CallC.pure (cut_spec (decBody s) 46 (by omega)) ?_
    rw [f1, f2]
    simp (config := { maxSteps := 1000000 }) (disch := ((try simp only [awL]); omega)) only [QR, QS, QT, QU, QV, QW, QX, QY, QZ, Q0, Q1, Q2, ↓awU, awV, awF, Qa, Qb, Qc, Qd, forall_const, ↓reduceIte, ↓reduceDIte, ↓Qe, Qf, Qg, Qh, Qi, Qj, Qk, Ql, Qm, Qn, Qo, Qp, Qq, Qr, Qs, implies_true, Qt, Qu, Qv, Qw, Qx, Qy, Qz, QA, QB, QC, QD, QE, QF, QG, QH, QI, QJ, QK, QL, QM, QN, QO, QP, QQ]
    refine CallC.pure (digits_spec (decF s) 15 (by omega)) ?_
    cases d1 : digB (decF s) 15
    · rw [hok, d1, Bool.false_and]
      simp (config := { maxSteps := 1000000 }) (disch := ((try simp only [awL]); omega)) only [QR, QS, QT, QU, QV, QW, QX, QY, QZ, Q0, Q1, Q2, ↓awU, awV, awF, Qa, Qb, Qc, Qd, forall_const, ↓reduceIte, ↓reduceDIte, ↓Qe, Qf, Qg, Qh, Qi, Qj, Qk, Ql, Qm, Qn, Qo, Qp, Qq, Qr, Qs, implies_true, Qt, Qu, Qv, Qw, Qx, Qy, Qz, QA, QB, QC, QD, QE, QF, QG, QH, QI, QJ, QK, QL, QM, QN, QO, QP, QQ]
      first | done | rfl
    · rw [d1, Bool.true_and] at hok
      cases dp : decide (46 ∈ decBody s)
      · rw [dp, Bool.not_false, Bool.true_or] at hok
        obtain ⟨hall, hlen, hlb⟩ := decOk_facts hok
        have hsm : ∀ i, i ≤ (decF s ++ decB s).length → (toW (decNum ((decF s ++ decB s).take i))).length ≤ 30 := fun i hi => by
          have h := decNum_lt (l := (decF s ++ decB s).take i) fun b hb => hall b (List.mem_of_mem_take hb)
          exact sz_small (Nat.lt_of_lt_of_le h (Nat.pow_le_pow_right (by decide) (by rw [List.length_take]; omega)))
        have hlt : ∀ i, i ≤ (decF s ++ decB s).length → decNum ((decF s ++ decB s).take i) * 10 < 10 ^ 30 := fun i hi => by
          have h := decNum_lt (l := (decF s ++ decB s).take i) fun b hb => hall b (List.mem_of_mem_take hb)
          have h2 : 10 ^ ((decF s ++ decB s).take i).length ≤ 10 ^ 29 := Nat.pow_le_pow_right (by decide) (by rw [List.length_take]; omega)
          have h3 : (10 : Nat) ^ 30 = 10 ^ 29 * 10 := rfl
          omega
        rw [if_pos hok, hok]
        generalize hL : decF s ++ decB s = L at *
        simp (config := { maxSteps := 1000000 }) (disch := ((try simp only [awL]); omega)) only [hG, QR, QS, QT, QU, QV, QW, QX, QY, QZ, Q0, Q1, Q2, ↓awU, awV, awF, Qa, Qb, Qc, Qd, forall_const, ↓reduceIte, ↓reduceDIte, ↓Qe, Qf, Qg, Qh, Qi, Qj, Qk, Ql, Qm, Qn, Qo, Qp, Qq, Qr, Qs, implies_true, Qt, Qu, Qv, Qw, Qx, Qy, Qz, QA, QB, QC, QD, QE, QF, QG, QH, QI, QJ, QK, QL, QM, QN, QO, QP, QQ]
        refine CallC.of (clone_spec [1] (by decide)) (by rfl) ?_
        simp (config := { maxSteps := 1000000 }) (disch := ((try simp only [awL]); omega)) only [hG, QR, QS, QT, QU, QV, QW, QX, QY, QZ, Q0, Q1, Q2, hL, cells_nums, ↓awU, awV, awF, Qa, Qb, Qc, Qd, forall_const, ↓reduceIte, ↓reduceDIte, ↓Qe, Qf, Qg, Qh, Qi, Qj, Qk, Ql, Qm, Qn, Qo, Qp, Qq, Qr, Qs, implies_true, Qt, Qu, Qv, Qw, Qx, Qy, Qz, QA, QB, QC, QD, QE, QF, QG, QH, QI, QJ, QK, QL, QM, QN, QO, QP, QQ]
        refine LoopC.fr 422212465069220 (α := Nat) (fun i => L.length - i) (fun i => [(9, .d (W (toW (decNum (L.take i))))), (49, .d (.int .i64 i))])
          (fun _ => [.box [.d (.bool false), .d (.sl 0 true []), .d (.bool false), .d (.sl 0 true [])], .row true (nats .u32 [10]), .row false (ints .u8 (nums L))]) (fun i => i ≤ L.length) 0 (Nat.zero_le _) ?_ ?_
        · exact ⟨[some 0, some 1, some 2], rfl, by simp, by simp [setsA, keepA, SWeak, AWeak, decNum, toW_zero, nats], by simp [HWeak, BWeak, SWeak, AWeak, nats]⟩
        · intro i hi
          have lt := hsm i hi
          have nl := @nums_length L
          simp only [awK, Nat.reduceMod, Nat.reduceDiv, reduceIte]
          rcases Nat.lt_or_ge i L.length with h1 | h1
          · have hb := dig_range (hall _ (mem_getDU (d := 0) h1))
            have hp := decNum_push h1
            have ls := sz_small (n := (L.getD i 0).toNat - 48) (k := 2) (by omega)
            have e48 : ((L.getD i 0).toNat : Int) - 48 = (((L.getD i 0).toNat - 48 : Nat) : Int) := by omega
            have lm : (toW (decNum (L.take i) * 10)).length ≤ 40 := sz_small (Nat.lt_of_lt_of_le (hlt i hi) (by decide))
            simp (config := { maxSteps := 1000000 }) (disch := ((try simp only [awL]); omega)) only [hG, QR, QS, QT, QU, QV, QW, QX, QY, QZ, Q0, Q1, Q2, nl, ↓awU, awV, awF, Qa, Qb, Qc, Qd, forall_const, ↓reduceIte, ↓reduceDIte, ↓Qe, Qf, Qg, Qh, Qi, Qj, Qk, Ql, Qm, Qn, Qo, Qp, Qq, Qr, Qs, implies_true, Qt, Qu, Qv, Qw, Qx, Qy, Qz, QA, QB, QC, QD, QE, QF, QG, QH, QI, QJ, QK, QL, QM, QN, QO, QP, QQ]
            refine CallC.frozenE (times_spec (decNum (L.take i)) 10 (by omega) (by rw [toW_10]; decide)) (by rw [toW_10]; rfl) ?_
            simp (config := { maxSteps := 1000000 }) (disch := ((try simp only [awL]); omega)) only [hG, QR, QS, QT, QU, QV, QW, QX, QY, QZ, Q0, Q1, Q2, nl, e48, ↓awU, awV, awF, Qa, Qb, Qc, Qd, forall_const, ↓reduceIte, ↓reduceDIte, ↓Qe, Qf, Qg, Qh, Qi, Qj, Qk, Ql, Qm, Qn, Qo, Qp, Qq, Qr, Qs, implies_true, Qt, Qu, Qv, Qw, Qx, Qy, Qz, QA, QB, QC, QD, QE, QF, QG, QH, QI, QJ, QK, QL, QM, QN, QO, QP, QQ]
            refine CallC.pure (natural_spec ((L.getD i 0).toNat - 48) (by omega)) ?_
            simp (config := { maxSteps := 1000000 }) (disch := ((try simp only [awL]); omega)) only [hG, QR, QS, QT, QU, QV, QW, QX, QY, QZ, Q0, Q1, Q2, nl, ↓awU, awV, awF, Qa, Qb, Qc, Qd, forall_const, ↓reduceIte, ↓reduceDIte, ↓Qe, Qf, Qg, Qh, Qi, Qj, Qk, Ql, Qm, Qn, Qo, Qp, Qq, Qr, Qs, implies_true, Qt, Qu, Qv, Qw, Qx, Qy, Qz, QA, QB, QC, QD, QE, QF, QG, QH, QI, QJ, QK, QL, QM, QN, QO, QP, QQ]
            refine CallC.pure (plus_spec (decNum (L.take i) * 10) ((L.getD i 0).toNat - 48) (by omega) (by omega)) ?_
            rw [hp]
            simp (config := { maxSteps := 1000000 }) (disch := ((try simp only [awL]); omega)) only [hG, QR, QS, QT, QU, QV, QW, QX, QY, QZ, Q0, Q1, Q2, nl, ↓awU, awV, awF, Qa, Qb, Qc, Qd, forall_const, ↓reduceIte, ↓reduceDIte, ↓Qe, Qf, Qg, Qh, Qi, Qj, Qk, Ql, Qm, Qn, Qo, Qp, Qq, Qr, Qs, implies_true, Qt, Qu, Qv, Qw, Qx, Qy, Qz, QA, QB, QC, QD, QE, QF, QG, QH, QI, QJ, QK, QL, QM, QN, QO, QP, QQ]
            exact ⟨i + 1, h1, by simp only; omega, ⟨[some 0, some 1, some 2], rfl, by simp, by simp [setsA, keepA, SWeak, AWeak], by simp [HWeak, BWeak, SWeak, AWeak]⟩⟩
          · obtain rfl : i = L.length := by omega
            rw [List.take_length] at *
            simp (config := { maxSteps := 1000000 }) (disch := ((try simp only [awL]); omega)) only [hG, QR, QS, QT, QU, QV, QW, QX, QY, QZ, Q0, Q1, Q2, nl, ↓awU, awV, awF, Qa, Qb, Qc, Qd, forall_const, ↓reduceIte, ↓reduceDIte, ↓Qe, Qf, Qg, Qh, Qi, Qj, Qk, Ql, Qm, Qn, Qo, Qp, Qq, Qr, Qs, implies_true, Qt, Qu, Qv, Qw, Qx, Qy, Qz, QA, QB, QC, QD, QE, QF, QG, QH, QI, QJ, QK, QL, QM, QN, QO, QP, QQ]
            refine LoopC.fr 9223372036854777380 (α := Nat) (fun j => (decB s).length - j) (fun j => [(11, .d (W (toW (10 ^ j)))), (64, .d (.int .i64 j))])
              (fun _ => [.box [.d (.bool false), .d (.sl 0 true []), .d (.bool false), .d (.sl 0 true [])], .row true (nats .u32 [10]), .row false (ints .u8 (nums L))]) (fun j => j ≤ (decB s).length) 0 (Nat.zero_le _) ?_ ?_
            · exact ⟨[some 0, some 1, some 2], rfl, by simp, by simp [setsA, keepA, SWeak, AWeak, toW_one], by simp [HWeak, BWeak, SWeak, AWeak, nats]⟩
            · intro j hj
              have lj : (toW (10 ^ j)).length ≤ 10 := sz_small (Nat.pow_lt_pow_right (by decide) (by omega))
              simp only [awK, Nat.reduceMod, Nat.reduceDiv, reduceIte]
              rcases Nat.lt_or_ge j (decB s).length with h2 | h2
              · simp (config := { maxSteps := 1000000 }) (disch := ((try simp only [awL]); omega)) only [hG, QR, QS, QT, QU, QV, QW, QX, QY, QZ, Q0, Q1, Q2, ↓awU, awV, awF, Qa, Qb, Qc, Qd, forall_const, ↓reduceIte, ↓reduceDIte, ↓Qe, Qf, Qg, Qh, Qi, Qj, Qk, Ql, Qm, Qn, Qo, Qp, Qq, Qr, Qs, implies_true, Qt, Qu, Qv, Qw, Qx, Qy, Qz, QA, QB, QC, QD, QE, QF, QG, QH, QI, QJ, QK, QL, QM, QN, QO, QP, QQ]
                refine CallC.frozenE (times_spec (10 ^ j) 10 (by omega) (by rw [toW_10]; decide)) (by rw [toW_10]; rfl) ?_
                rw [← Nat.pow_succ]
                simp (config := { maxSteps := 1000000 }) (disch := ((try simp only [awL]); omega)) only [hG, QR, QS, QT, QU, QV, QW, QX, QY, QZ, Q0, Q1, Q2, ↓awU, awV, awF, Qa, Qb, Qc, Qd, forall_const, ↓reduceIte, ↓reduceDIte, ↓Qe, Qf, Qg, Qh, Qi, Qj, Qk, Ql, Qm, Qn, Qo, Qp, Qq, Qr, Qs, implies_true, Qt, Qu, Qv, Qw, Qx, Qy, Qz, QA, QB, QC, QD, QE, QF, QG, QH, QI, QJ, QK, QL, QM, QN, QO, QP, QQ]
                exact ⟨j + 1, h2, by simp only; omega, ⟨[some 0, some 1, some 2], rfl, by simp, by simp [setsA, keepA, SWeak, AWeak], by simp [HWeak, BWeak, SWeak, AWeak]⟩⟩
              · obtain rfl : j = (decB s).length := by omega
                have hd0 : ((10 ^ (decB s).length : Nat) : Int) ≠ 0 := by
                  have : 0 < 10 ^ (decB s).length := Nat.pow_pos (by decide)
                  omega
                simp (config := { maxSteps := 1000000 }) (disch := ((try simp only [awL]); omega)) only [hG, QR, QS, QT, QU, QV, QW, QX, QY, QZ, Q0, Q1, Q2, ↓awU, awV, awF, Qa, Qb, Qc, Qd, forall_const, ↓reduceIte, ↓reduceDIte, ↓Qe, Qf, Qg, Qh, Qi, Qj, Qk, Ql, Qm, Qn, Qo, Qp, Qq, Qr, Qs, implies_true, Qt, Qu, Qv, Qw, Qx, Qy, Qz, QA, QB, QC, QD, QE, QF, QG, QH, QI, QJ, QK, QL, QM, QN, QO, QP, QQ]
                refine CallC.pure (signed_spec true (decNum L) (by omega)) ?_
                simp (config := { maxSteps := 1000000 }) (disch := ((try simp only [awL]); omega)) only [hG, QR, QS, QT, QU, QV, QW, QX, QY, QZ, Q0, Q1, Q2, ↓awU, awV, awF, Qa, Qb, Qc, Qd, forall_const, ↓reduceIte, ↓reduceDIte, ↓Qe, Qf, Qg, Qh, Qi, Qj, Qk, Ql, Qm, Qn, Qo, Qp, Qq, Qr, Qs, implies_true, Qt, Qu, Qv, Qw, Qx, Qy, Qz, QA, QB, QC, QD, QE, QF, QG, QH, QI, QJ, QK, QL, QM, QN, QO, QP, QQ]
                refine CallC.pure (signed_spec false (10 ^ (decB s).length) (by omega)) ?_
                simp (config := { maxSteps := 1000000 }) (disch := ((try simp only [awL]); omega)) only [hG, QR, QS, QT, QU, QV, QW, QX, QY, QZ, Q0, Q1, Q2, ↓awU, awV, awF, Qa, Qb, Qc, Qd, forall_const, ↓reduceIte, ↓reduceDIte, ↓Qe, Qf, Qg, Qh, Qi, Qj, Qk, Ql, Qm, Qn, Qo, Qp, Qq, Qr, Qs, implies_true, Qt, Qu, Qv, Qw, Qx, Qy, Qz, QA, QB, QC, QD, QE, QF, QG, QH, QI, QJ, QK, QL, QM, QN, QO, QP, QQ]
                refine CallC.of (reduced_spec (if true = true then -(decNum L : Int) else (decNum L : Int)) ((10 ^ (decB s).length : Nat) : Int) hd0 (by simp only [sz]; split <;> simp <;> omega) (by simp only [sz, Int.natAbs_natCast]; omega)) (by rfl) ?_
                rw [← hdv]
                simp (config := { maxSteps := 1000000 }) (disch := ((try simp only [awL]); omega)) only [hG, QR, QS, QT, QU, QV, QW, QX, QY, QZ, Q0, Q1, Q2, ↓awU, awV, awF, Qa, Qb, Qc, Qd, forall_const, ↓reduceIte, ↓reduceDIte, ↓Qe, Qf, Qg, Qh, Qi, Qj, Qk, Ql, Qm, Qn, Qo, Qp, Qq, Qr, Qs, implies_true, Qt, Qu, Qv, Qw, Qx, Qy, Qz, QA, QB, QC, QD, QE, QF, QG, QH, QI, QJ, QK, QL, QM, QN, QO, QP, QQ]
                first | done | rfl
      · rw [dp, Bool.not_true, Bool.false_or] at hok
        simp (config := { maxSteps := 1000000 }) (disch := ((try simp only [awL]); omega)) only [QR, QS, QT, QU, QV, QW, QX, QY, QZ, Q0, Q1, Q2, ↓awU, awV, awF, Qa, Qb, Qc, Qd, forall_const, ↓reduceIte, ↓reduceDIte, ↓Qe, Qf, Qg, Qh, Qi, Qj, Qk, Ql, Qm, Qn, Qo, Qp, Qq, Qr, Qs, implies_true, Qt, Qu, Qv, Qw, Qx, Qy, Qz, QA, QB, QC, QD, QE, QF, QG, QH, QI, QJ, QK, QL, QM, QN, QO, QP, QQ]
        refine CallC.pure (digits_spec (decB s) 9 (by omega)) ?_
        cases d2 : digB (decB s) 9
        · rw [hok, d2]
          simp (config := { maxSteps := 1000000 }) (disch := ((try simp only [awL]); omega)) only [QR, QS, QT, QU, QV, QW, QX, QY, QZ, Q0, Q1, Q2, ↓awU, awV, awF, Qa, Qb, Qc, Qd, forall_const, ↓reduceIte, ↓reduceDIte, ↓Qe, Qf, Qg, Qh, Qi, Qj, Qk, Ql, Qm, Qn, Qo, Qp, Qq, Qr, Qs, implies_true, Qt, Qu, Qv, Qw, Qx, Qy, Qz, QA, QB, QC, QD, QE, QF, QG, QH, QI, QJ, QK, QL, QM, QN, QO, QP, QQ]
          first | done | rfl
        · rw [d2] at hok
          obtain ⟨hall, hlen, hlb⟩ := decOk_facts hok
          have hsm : ∀ i, i ≤ (decF s ++ decB s).length → (toW (decNum ((decF s ++ decB s).take i))).length ≤ 30 := fun i hi => by
            have h := decNum_lt (l := (decF s ++ decB s).take i) fun b hb => hall b (List.mem_of_mem_take hb)
            exact sz_small (Nat.lt_of_lt_of_le h (Nat.pow_le_pow_right (by decide) (by rw [List.length_take]; omega)))
          have hlt : ∀ i, i ≤ (decF s ++ decB s).length → decNum ((decF s ++ decB s).take i) * 10 < 10 ^ 30 := fun i hi => by
            have h := decNum_lt (l := (decF s ++ decB s).take i) fun b hb => hall b (List.mem_of_mem_take hb)
            have h2 : 10 ^ ((decF s ++ decB s).take i).length ≤ 10 ^ 29 := Nat.pow_le_pow_right (by decide) (by rw [List.length_take]; omega)
            have h3 : (10 : Nat) ^ 30 = 10 ^ 29 * 10 := rfl
            omega
          rw [if_pos hok, hok]
          generalize hL : decF s ++ decB s = L at *
          simp (config := { maxSteps := 1000000 }) (disch := ((try simp only [awL]); omega)) only [hG, QR, QS, QT, QU, QV, QW, QX, QY, QZ, Q0, Q1, Q2, ↓awU, awV, awF, Qa, Qb, Qc, Qd, forall_const, ↓reduceIte, ↓reduceDIte, ↓Qe, Qf, Qg, Qh, Qi, Qj, Qk, Ql, Qm, Qn, Qo, Qp, Qq, Qr, Qs, implies_true, Qt, Qu, Qv, Qw, Qx, Qy, Qz, QA, QB, QC, QD, QE, QF, QG, QH, QI, QJ, QK, QL, QM, QN, QO, QP, QQ]
          refine CallC.of (clone_spec [1] (by decide)) (by rfl) ?_
          simp (config := { maxSteps := 1000000 }) (disch := ((try simp only [awL]); omega)) only [hG, QR, QS, QT, QU, QV, QW, QX, QY, QZ, Q0, Q1, Q2, hL, cells_nums, ↓awU, awV, awF, Qa, Qb, Qc, Qd, forall_const, ↓reduceIte, ↓reduceDIte, ↓Qe, Qf, Qg, Qh, Qi, Qj, Qk, Ql, Qm, Qn, Qo, Qp, Qq, Qr, Qs, implies_true, Qt, Qu, Qv, Qw, Qx, Qy, Qz, QA, QB, QC, QD, QE, QF, QG, QH, QI, QJ, QK, QL, QM, QN, QO, QP, QQ]
          refine LoopC.fr 422212465069220 (α := Nat) (fun i => L.length - i) (fun i => [(9, .d (W (toW (decNum (L.take i))))), (49, .d (.int .i64 i))])
            (fun _ => [.box [.d (.bool false), .d (.sl 0 true []), .d (.bool false), .d (.sl 0 true [])], .row true (nats .u32 [10]), .row false (ints .u8 (nums L))]) (fun i => i ≤ L.length) 0 (Nat.zero_le _) ?_ ?_
          · exact ⟨[some 0, some 1, some 2], rfl, by simp, by simp [setsA, keepA, SWeak, AWeak, decNum, toW_zero, nats], by simp [HWeak, BWeak, SWeak, AWeak, nats]⟩
          · intro i hi
            have lt := hsm i hi
            have nl := @nums_length L
            simp only [awK, Nat.reduceMod, Nat.reduceDiv, reduceIte]
            rcases Nat.lt_or_ge i L.length with h1 | h1
            · have hb := dig_range (hall _ (mem_getDU (d := 0) h1))
              have hp := decNum_push h1
              have ls := sz_small (n := (L.getD i 0).toNat - 48) (k := 2) (by omega)
              have e48 : ((L.getD i 0).toNat : Int) - 48 = (((L.getD i 0).toNat - 48 : Nat) : Int) := by omega
              have lm : (toW (decNum (L.take i) * 10)).length ≤ 40 := sz_small (Nat.lt_of_lt_of_le (hlt i hi) (by decide))
              simp (config := { maxSteps := 1000000 }) (disch := ((try simp only [awL]); omega)) only [hG, QR, QS, QT, QU, QV, QW, QX, QY, QZ, Q0, Q1, Q2, nl, ↓awU, awV, awF, Qa, Qb, Qc, Qd, forall_const, ↓reduceIte, ↓reduceDIte, ↓Qe, Qf, Qg, Qh, Qi, Qj, Qk, Ql, Qm, Qn, Qo, Qp, Qq, Qr, Qs, implies_true, Qt, Qu, Qv, Qw, Qx, Qy, Qz, QA, QB, QC, QD, QE, QF, QG, QH, QI, QJ, QK, QL, QM, QN, QO, QP, QQ]
              refine CallC.frozenE (times_spec (decNum (L.take i)) 10 (by omega) (by rw [toW_10]; decide)) (by rw [toW_10]; rfl) ?_
              simp (config := { maxSteps := 1000000 }) (disch := ((try simp only [awL]); omega)) only [hG, QR, QS, QT, QU, QV, QW, QX, QY, QZ, Q0, Q1, Q2, nl, e48, ↓awU, awV, awF, Qa, Qb, Qc, Qd, forall_const, ↓reduceIte, ↓reduceDIte, ↓Qe, Qf, Qg, Qh, Qi, Qj, Qk, Ql, Qm, Qn, Qo, Qp, Qq, Qr, Qs, implies_true, Qt, Qu, Qv, Qw, Qx, Qy, Qz, QA, QB, QC, QD, QE, QF, QG, QH, QI, QJ, QK, QL, QM, QN, QO, QP, QQ]
              refine CallC.pure (natural_spec ((L.getD i 0).toNat - 48) (by omega)) ?_
              simp (config := { maxSteps := 1000000 }) (disch := ((try simp only [awL]); omega)) only [hG, QR, QS, QT, QU, QV, QW, QX, QY, QZ, Q0, Q1, Q2, nl, ↓awU, awV, awF, Qa, Qb, Qc, Qd, forall_const, ↓reduceIte, ↓reduceDIte, ↓Qe, Qf, Qg, Qh, Qi, Qj, Qk, Ql, Qm, Qn, Qo, Qp, Qq, Qr, Qs, implies_true, Qt, Qu, Qv, Qw, Qx, Qy, Qz, QA, QB, QC, QD, QE, QF, QG, QH, QI, QJ, QK, QL, QM, QN, QO, QP, QQ]
              refine CallC.pure (plus_spec (decNum (L.take i) * 10) ((L.getD i 0).toNat - 48) (by omega) (by omega)) ?_
              rw [hp]
              simp (config := { maxSteps := 1000000 }) (disch := ((try simp only [awL]); omega)) only [hG, QR, QS, QT, QU, QV, QW, QX, QY, QZ, Q0, Q1, Q2, nl, ↓awU, awV, awF, Qa, Qb, Qc, Qd, forall_const, ↓reduceIte, ↓reduceDIte, ↓Qe, Qf, Qg, Qh, Qi, Qj, Qk, Ql, Qm, Qn, Qo, Qp, Qq, Qr, Qs, implies_true, Qt, Qu, Qv, Qw, Qx, Qy, Qz, QA, QB, QC, QD, QE, QF, QG, QH, QI, QJ, QK, QL, QM, QN, QO, QP, QQ]
              exact ⟨i + 1, h1, by simp only; omega, ⟨[some 0, some 1, some 2], rfl, by simp, by simp [setsA, keepA, SWeak, AWeak], by simp [HWeak, BWeak, SWeak, AWeak]⟩⟩
            · obtain rfl : i = L.length := by omega
              rw [List.take_length] at *
              simp (config := { maxSteps := 1000000 }) (disch := ((try simp only [awL]); omega)) only [hG, QR, QS, QT, QU, QV, QW, QX, QY, QZ, Q0, Q1, Q2, nl, ↓awU, awV, awF, Qa, Qb, Qc, Qd, forall_const, ↓reduceIte, ↓reduceDIte, ↓Qe, Qf, Qg, Qh, Qi, Qj, Qk, Ql, Qm, Qn, Qo, Qp, Qq, Qr, Qs, implies_true, Qt, Qu, Qv, Qw, Qx, Qy, Qz, QA, QB, QC, QD, QE, QF, QG, QH, QI, QJ, QK, QL, QM, QN, QO, QP, QQ]
              refine LoopC.fr 9223372036854777380 (α := Nat) (fun j => (decB s).length - j) (fun j => [(11, .d (W (toW (10 ^ j)))), (64, .d (.int .i64 j))])
                (fun _ => [.box [.d (.bool false), .d (.sl 0 true []), .d (.bool false), .d (.sl 0 true [])], .row true (nats .u32 [10]), .row false (ints .u8 (nums L))]) (fun j => j ≤ (decB s).length) 0 (Nat.zero_le _) ?_ ?_
              · exact ⟨[some 0, some 1, some 2], rfl, by simp, by simp [setsA, keepA, SWeak, AWeak, toW_one], by simp [HWeak, BWeak, SWeak, AWeak, nats]⟩
              · intro j hj
                have lj : (toW (10 ^ j)).length ≤ 10 := sz_small (Nat.pow_lt_pow_right (by decide) (by omega))
                simp only [awK, Nat.reduceMod, Nat.reduceDiv, reduceIte]
                rcases Nat.lt_or_ge j (decB s).length with h2 | h2
                · simp (config := { maxSteps := 1000000 }) (disch := ((try simp only [awL]); omega)) only [hG, QR, QS, QT, QU, QV, QW, QX, QY, QZ, Q0, Q1, Q2, ↓awU, awV, awF, Qa, Qb, Qc, Qd, forall_const, ↓reduceIte, ↓reduceDIte, ↓Qe, Qf, Qg, Qh, Qi, Qj, Qk, Ql, Qm, Qn, Qo, Qp, Qq, Qr, Qs, implies_true, Qt, Qu, Qv, Qw, Qx, Qy, Qz, QA, QB, QC, QD, QE, QF, QG, QH, QI, QJ, QK, QL, QM, QN, QO, QP, QQ]
                  refine CallC.frozenE (times_spec (10 ^ j) 10 (by omega) (by rw [toW_10]; decide)) (by rw [toW_10]; rfl) ?_
                  rw [← Nat.pow_succ]
                  simp (config := { maxSteps := 1000000 }) (disch := ((try simp only [awL]); omega)) only [hG, QR, QS, QT, QU, QV, QW, QX, QY, QZ, Q0, Q1, Q2, ↓awU, awV, awF, Qa, Qb, Qc, Qd, forall_const, ↓reduceIte, ↓reduceDIte, ↓Qe, Qf, Qg, Qh, Qi, Qj, Qk, Ql, Qm, Qn, Qo, Qp, Qq, Qr, Qs, implies_true, Qt, Qu, Qv, Qw, Qx, Qy, Qz, QA, QB, QC, QD, QE, QF, QG, QH, QI, QJ, QK, QL, QM, QN, QO, QP, QQ]
                  exact ⟨j + 1, h2, by simp only; omega, ⟨[some 0, some 1, some 2], rfl, by simp, by simp [setsA, keepA, SWeak, AWeak], by simp [HWeak, BWeak, SWeak, AWeak]⟩⟩
                · obtain rfl : j = (decB s).length := by omega
                  have hd0 : ((10 ^ (decB s).length : Nat) : Int) ≠ 0 := by
                    have : 0 < 10 ^ (decB s).length := Nat.pow_pos (by decide)
                    omega
                  simp (config := { maxSteps := 1000000 }) (disch := ((try simp only [awL]); omega)) only [hG, QR, QS, QT, QU, QV, QW, QX, QY, QZ, Q0, Q1, Q2, ↓awU, awV, awF, Qa, Qb, Qc, Qd, forall_const, ↓reduceIte, ↓reduceDIte, ↓Qe, Qf, Qg, Qh, Qi, Qj, Qk, Ql, Qm, Qn, Qo, Qp, Qq, Qr, Qs, implies_true, Qt, Qu, Qv, Qw, Qx, Qy, Qz, QA, QB, QC, QD, QE, QF, QG, QH, QI, QJ, QK, QL, QM, QN, QO, QP, QQ]
                  refine CallC.pure (signed_spec true (decNum L) (by omega)) ?_
                  simp (config := { maxSteps := 1000000 }) (disch := ((try simp only [awL]); omega)) only [hG, QR, QS, QT, QU, QV, QW, QX, QY, QZ, Q0, Q1, Q2, ↓awU, awV, awF, Qa, Qb, Qc, Qd, forall_const, ↓reduceIte, ↓reduceDIte, ↓Qe, Qf, Qg, Qh, Qi, Qj, Qk, Ql, Qm, Qn, Qo, Qp, Qq, Qr, Qs, implies_true, Qt, Qu, Qv, Qw, Qx, Qy, Qz, QA, QB, QC, QD, QE, QF, QG, QH, QI, QJ, QK, QL, QM, QN, QO, QP, QQ]
                  refine CallC.pure (signed_spec false (10 ^ (decB s).length) (by omega)) ?_
                  simp (config := { maxSteps := 1000000 }) (disch := ((try simp only [awL]); omega)) only [hG, QR, QS, QT, QU, QV, QW, QX, QY, QZ, Q0, Q1, Q2, ↓awU, awV, awF, Qa, Qb, Qc, Qd, forall_const, ↓reduceIte, ↓reduceDIte, ↓Qe, Qf, Qg, Qh, Qi, Qj, Qk, Ql, Qm, Qn, Qo, Qp, Qq, Qr, Qs, implies_true, Qt, Qu, Qv, Qw, Qx, Qy, Qz, QA, QB, QC, QD, QE, QF, QG, QH, QI, QJ, QK, QL, QM, QN, QO, QP, QQ]
                  refine CallC.of (reduced_spec (if true = true then -(decNum L : Int) else (decNum L : Int)) ((10 ^ (decB s).length : Nat) : Int) hd0 (by simp only [sz]; split <;> simp <;> omega) (by simp only [sz, Int.natAbs_natCast]; omega)) (by rfl) ?_
                  rw [← hdv]
                  simp (config := { maxSteps := 1000000 }) (disch := ((try simp only [awL]); omega)) only [hG, QR, QS, QT, QU, QV, QW, QX, QY, QZ, Q0, Q1, Q2, ↓awU, awV, awF, Qa, Qb, Qc, Qd, forall_const, ↓reduceIte, ↓reduceDIte, ↓Qe, Qf, Qg, Qh, Qi, Qj, Qk, Ql, Qm, Qn, Qo, Qp, Qq, Qr, Qs, implies_true, Qt, Qu, Qv, Qw, Qx, Qy, Qz, QA, QB, QC, QD, QE, QF, QG, QH, QI, QJ, QK, QL, QM, QN, QO, QP, QQ]
                  first | done | rfl
end Go.Proofs.YtjecgoddmkaboaaGreatDoor.Num

namespace Go.Proofs.YtjecgoddmkaboaaGreatDoor.Num
open Go Go.Proofs Go.Abs
variable {G : Globals}
/-! The reference's parts of a decimal. -/
end Go.Proofs.YtjecgoddmkaboaaGreatDoor.Num

namespace Go.Proofs.YtjecgoddmkaboaaGreatDoor.Num
open Go Go.Proofs Go.Abs
variable {G : Globals}
end Go.Proofs.YtjecgoddmkaboaaGreatDoor.Num

namespace Go.Proofs.YtjecgoddmkaboaaGreatDoor.Num
open Go Go.Proofs Go.Abs
variable {G : Globals}
end Go.Proofs.YtjecgoddmkaboaaGreatDoor.Num

namespace Go.Proofs.YtjecgoddmkaboaaGreatDoor.Num
open Go Go.Proofs Go.Abs
variable {G : Globals}
end Go.Proofs.YtjecgoddmkaboaaGreatDoor.Num

namespace Go.Proofs.YtjecgoddmkaboaaGreatDoor.Num
open Go Go.Proofs Go.Abs
variable {G : Globals}
end Go.Proofs.YtjecgoddmkaboaaGreatDoor.Num

namespace Go.Proofs.YtjecgoddmkaboaaGreatDoor.Num
open Go Go.Proofs Go.Abs
variable {G : Globals}
end Go.Proofs.YtjecgoddmkaboaaGreatDoor.Num

namespace Go.Proofs.YtjecgoddmkaboaaGreatDoor.Num
open Go Go.Proofs Go.Abs
variable {G : Globals}
end Go.Proofs.YtjecgoddmkaboaaGreatDoor.Num

namespace Go.Proofs.YtjecgoddmkaboaaGreatDoor.Num
open Go Go.Proofs Go.Abs
variable {G : Globals}
end Go.Proofs.YtjecgoddmkaboaaGreatDoor.Num

namespace Go.Proofs.YtjecgoddmkaboaaGreatDoor.Num
open Go Go.Proofs Go.Abs
variable {G : Globals}
/-! The reference's Decimal. -/
end Go.Proofs.YtjecgoddmkaboaaGreatDoor.Num

namespace Go.Proofs.YtjecgoddmkaboaaGreatDoor
/-! Files with a delimiter: what is read. -/
structure Dia where
  del : UInt8
  quo : UInt8
  trim : Bool
def trimR (d : Dia) (l : List UInt8) : List UInt8 := if d.trim then (l.reverse.dropWhile (· == 32)).reverse else l
end Go.Proofs.YtjecgoddmkaboaaGreatDoor

namespace Go.Proofs.YtjecgoddmkaboaaGreatDoor
open Go.Lib
/-! Valid texts: what they are made of. -/
end Go.Proofs.YtjecgoddmkaboaaGreatDoor

namespace Go.Proofs.YtjecgoddmkaboaaGreatDoor
open Go Go.Proofs Go.Abs Go.RowKit Go.Shelf
variable {G : Globals}
/-! utf8.ValidString, out of the kit's contract; its tables. -/
abbrev M0 : Muts := fun _ => false
abbrev S (l : List UInt8) : D := .str (bs l)
end Go.Proofs.YtjecgoddmkaboaaGreatDoor

namespace Go.Proofs.YtjecgoddmkaboaaGreatDoor
open Go Go.Proofs Go.Abs Go.RowKit Go.Shelf
variable {G : Globals}
/-! Texts: prefixes, cutting, the place of a byte, trimming, replacing. -/
def hasP (s p : List UInt8) : Bool := decide (s.take p.length = p)
theorem hasP_le {s p : List UInt8} (h : hasP s p = true) : p.length ≤ s.length := by
  have := of_decide_eq_true h
  have h2 := congrArg List.length this
  simp at h2; omega
theorem hasPrefix_spec (s p : List UInt8) : Ctr Tryz.prog G 76 [.d (S s), .d (S p)] [] (.d (.bool (hasP s p))) [] := by
  refine Ctr.pure (M := M0) hmix Tryz.func76 rfl go76 ?_
  simp (config := { maxSteps := 1000000 }) (disch := ((try simp only [awL]); omega)) only [QR, QS, QT, QU, QV, QW, QX, QY, QZ, Q0, Q1, Q2, Tryz.f76, ↓awU, awV, awF, Qa, Qb, Qc, Qd, forall_const, ↓reduceIte, ↓reduceDIte, ↓Qe, Qf, Qg, Qh, Qi, Qj, Qk, Ql, Qm, Qn, Qo, Qp, Qq, Qr, Qs, implies_true, Qt, Qu, Qv, Qw, Qx, Qy, Qz, QA, QB, QC, QD, QE, QF, QG, QH, QI, QJ, QK, QL, QM, QN, QO, QP, QQ]
  refine ⟨fun _ => rfl, fun h => (decide_eq_false fun e => h ?_).symm⟩
  have := congrArg List.length e
  simp at this
  omega
set_option maxHeartbeats 1000000 in
set_option maxRecDepth 100000 in
theorem indexByte_calls (s : ByteArray) (c : Int) (w : World) :
    Calls Tryz.prog 100 #[.string s, .int .u8 c] w fun e w' => e = .returned (.int .i64 (Lib.indexByte s.data.toList c.toNat.toUInt8)) ∧ w' = w := by
  go_enter Tryz.func100, Tryz.ntmps100
  go_wp2
  rw [run_callFunc_extern Tryz.func122 (by kernel_rfl) (by kernel_rfl) (by kernel_rfl) (e := Extern.BytealgIndexByte.indexByte) (by kernel_rfl), Lib.run_indexByteString]
  simp only [Result.andThen]
  rw [Oper.upon_value]
  go_wp2
  go_ret
  exact ⟨rfl, rfl⟩
theorem indexByte_spec (s : List UInt8) (c : UInt8) : Ctr Tryz.prog G 100 [.d (S s), .d (.int .u8 c.toNat)] [] (.d (.int .i64 (Lib.indexByte s c))) [] := by
  refine Ctr.of_calls go100 fun h ρ w vs q r => ?_
  obtain ⟨v, u, rfl, hv, hu⟩ := r.inv2
  rw [hv.str_inv, hu.int_inv]
  refine (indexByte_calls (bs s) c.toNat w).mono ?_
  rintro e w' ⟨rfl, rfl⟩
  refine ⟨_, rfl, ?_, .refl _ _⟩
  have : ((c.toNat : Int)).toNat.toUInt8 = c := by simp
  rw [this]
  exact .int _ _
/-- Where a text is cut: in front of the byte, behind it. -/
def cutL (c : UInt8) : List UInt8 → List UInt8
  | [] => []
  | b :: l => if b = c then [] else b :: cutL c l
def cutR (c : UInt8) : List UInt8 → List UInt8
  | [] => []
  | b :: l => if b = c then l else cutR c l
theorem cut_index (c : UInt8) : ∀ s : List UInt8, (c ∈ s → ∃ k : Nat, Lib.indexByte s c = k ∧ k < s.length ∧ s.take k = cutL c s ∧ s.drop (k + 1) = cutR c s) ∧ (c ∉ s → Lib.indexByte s c = -1 ∧ cutL c s = s ∧ cutR c s = [])
  | [] => ⟨fun h => absurd h List.not_mem_nil, fun _ => ⟨rfl, rfl, rfl⟩⟩
  | b :: l => by
    obtain ⟨i1, i2⟩ := cut_index c l
    by_cases e : b = c
    · subst e
      refine ⟨fun _ => ⟨0, ?_, by simp, by simp [cutL], by simp [cutR]⟩, fun h => absurd (List.mem_cons_self ..) h⟩
      simp [Lib.indexByte]
    · have e2 : ¬ c = b := fun h => e h.symm
      refine ⟨fun h => ?_, fun h => ?_⟩
      · obtain ⟨k, h1, h2, h3, h4⟩ := i1 ((List.mem_cons.1 h).resolve_left e2)
        refine ⟨k + 1, ?_, by simpa using h2, by simp [cutL, e, h3], by simp [cutR, e, h4]⟩
        simp only [Lib.indexByte, h1]
        rw [if_neg (by simpa using e), if_neg (by simp)]
        omega
      · obtain ⟨h1, h2, h3⟩ := i2 (fun h2 => h (List.mem_cons_of_mem _ h2))
        refine ⟨?_, by simp [cutL, e, h2], by simp [cutR, e, h3]⟩
        simp only [Lib.indexByte, h1]
        rw [if_neg (by simpa using e), if_pos (by decide)]
theorem index1_spec (s : List UInt8) (c : UInt8) (hs : s.length < 2 ^ 62) : Ctr Tryz.prog G 75 [.d (S s), .d (S [c])] [] (.d (.int .i64 (Lib.indexByte s c))) [] := by
  refine Ctr.pure (M := M0) hmix Tryz.func75 rfl go75 ?_
  simp (config := { maxSteps := 1000000 }) (disch := ((try simp only [awL]); omega)) only [QR, QS, QT, QU, QV, QW, QX, QY, QZ, Q0, Q1, Q2, Tryz.f75, ↓awU, awV, awF, Qa, Qb, Qc, Qd, forall_const, ↓reduceIte, ↓reduceDIte, ↓Qe, Qf, Qg, Qh, Qi, Qj, Qk, Ql, Qm, Qn, Qo, Qp, Qq, Qr, Qs, implies_true, Qt, Qu, Qv, Qw, Qx, Qy, Qz, QA, QB, QC, QD, QE, QF, QG, QH, QI, QJ, QK, QL, QM, QN, QO, QP, QQ]
  refine ⟨fun h => ?_, fun h => ?_⟩
  · rw [← h]; simp [Lib.indexByte]
  · refine CallC.pure (indexByte_spec s c) ?_
    simp (config := { maxSteps := 1000000 }) (disch := ((try simp only [awL]); omega)) only [QR, QS, QT, QU, QV, QW, QX, QY, QZ, Q0, Q1, Q2, ↓awU, awV, awF, Qa, Qb, Qc, Qd, forall_const, ↓reduceIte, ↓reduceDIte, ↓Qe, Qf, Qg, Qh, Qi, Qj, Qk, Ql, Qm, Qn, Qo, Qp, Qq, Qr, Qs, implies_true, Qt, Qu, Qv, Qw, Qx, Qy, Qz, QA, QB, QC, QD, QE, QF, QG, QH, QI, QJ, QK, QL, QM, QN, QO, QP, QQ]
theorem cutS_spec (s : List UInt8) (c : UInt8) (hs : s.length < 2 ^ 62) : Ctr Tryz.prog G 58 [.d (S s), .d (S [c])] [] (.d (.tup [S (cutL c s), S (cutR c s), .bool (decide (c ∈ s))])) [] := by
  refine Ctr.pure (M := M0) hmix Tryz.func58 rfl go58 ?_
  simp (config := { maxSteps := 1000000 }) (disch := ((try simp only [awL]); omega)) only [QR, QS, QT, QU, QV, QW, QX, QY, QZ, Q0, Q1, Q2, Tryz.f58, ↓awU, awV, awF, Qa, Qb, Qc, Qd, forall_const, ↓reduceIte, ↓reduceDIte, ↓Qe, Qf, Qg, Qh, Qi, Qj, Qk, Ql, Qm, Qn, Qo, Qp, Qq, Qr, Qs, implies_true, Qt, Qu, Qv, Qw, Qx, Qy, Qz, QA, QB, QC, QD, QE, QF, QG, QH, QI, QJ, QK, QL, QM, QN, QO, QP, QQ]
  refine CallC.pure (index1_spec s c hs) ?_
  obtain ⟨i1, i2⟩ := cut_index c s
  by_cases h : c ∈ s
  · obtain ⟨k, h1, h2, h3, h4⟩ := i1 h
    rw [h1, decide_eq_true h, ← h3, ← h4]
    simp (config := { maxSteps := 1000000 }) (disch := ((try simp only [awL]); omega)) only [QR, QS, QT, QU, QV, QW, QX, QY, QZ, Q0, Q1, Q2, ↓awU, awV, awF, Qa, Qb, Qc, Qd, forall_const, ↓reduceIte, ↓reduceDIte, ↓Qe, Qf, Qg, Qh, Qi, Qj, Qk, Ql, Qm, Qn, Qo, Qp, Qq, Qr, Qs, implies_true, Qt, Qu, Qv, Qw, Qx, Qy, Qz, QA, QB, QC, QD, QE, QF, QG, QH, QI, QJ, QK, QL, QM, QN, QO, QP, QQ]
    rfl
  · obtain ⟨h1, h3, h4⟩ := i2 h
    rw [h1, decide_eq_false h, h3, h4]
    simp (config := { maxSteps := 1000000 }) (disch := ((try simp only [awL]); omega)) only [QR, QS, QT, QU, QV, QW, QX, QY, QZ, Q0, Q1, Q2, ↓awU, awV, awF, Qa, Qb, Qc, Qd, forall_const, ↓reduceIte, ↓reduceDIte, ↓Qe, Qf, Qg, Qh, Qi, Qj, Qk, Ql, Qm, Qn, Qo, Qp, Qq, Qr, Qs, implies_true, Qt, Qu, Qv, Qw, Qx, Qy, Qz, QA, QB, QC, QD, QE, QF, QG, QH, QI, QJ, QK, QL, QM, QN, QO, QP, QQ]
theorem cut_spec (s : List UInt8) (c : UInt8) (hs : s.length < 2 ^ 62) : Ctr Tryz.prog G 32 [.d (S s), .d (S [c])] [] (.d (.tup [S (cutL c s), S (cutR c s), .bool (decide (c ∈ s))])) [] := by
  refine Ctr.pure (M := M0) hmix Tryz.func32 rfl go32 ?_
  simp (config := { maxSteps := 1000000 }) (disch := ((try simp only [awL]); omega)) only [QR, QS, QT, QU, QV, QW, QX, QY, QZ, Q0, Q1, Q2, Tryz.f32, ↓awU, awV, awF, Qa, Qb, Qc, Qd, forall_const, ↓reduceIte, ↓reduceDIte, ↓Qe, Qf, Qg, Qh, Qi, Qj, Qk, Ql, Qm, Qn, Qo, Qp, Qq, Qr, Qs, implies_true, Qt, Qu, Qv, Qw, Qx, Qy, Qz, QA, QB, QC, QD, QE, QF, QG, QH, QI, QJ, QK, QL, QM, QN, QO, QP, QQ]
  refine CallC.pure (cutS_spec s c hs) ?_
  simp (config := { maxSteps := 1000000 }) (disch := ((try simp only [awL]); omega)) only [QR, QS, QT, QU, QV, QW, QX, QY, QZ, Q0, Q1, Q2, ↓awU, awV, awF, Qa, Qb, Qc, Qd, forall_const, ↓reduceIte, ↓reduceDIte, ↓Qe, Qf, Qg, Qh, Qi, Qj, Qk, Ql, Qm, Qn, Qo, Qp, Qq, Qr, Qs, implies_true, Qt, Qu, Qv, Qw, Qx, Qy, Qz, QA, QB, QC, QD, QE, QF, QG, QH, QI, QJ, QK, QL, QM, QN, QO, QP, QQ]
def Tryz.laysTrimLeft_ren : Go.Shelf.Ren := ⟨fun | 161 => 40 | 231 => 47 | 227 => 49 | 233 => 50 | 235 => 52 | 228 => 69 | 197 => 70 | 151 => 71 | 260 => 96 | 152 => 97 | 137 => 119 | 119 => 120 | 224 => 102 | 225 => 101 | 217 => 100 | 266 => 122 | n => n, fun | 9 => 9 | 4 => 4 | 3 => 3 | 5 => 5 | 117 => 81 | 116 => 80 | 0 => 0 | 124 => 84 | 105 => 100 | 21 => 21 | 119 => 141 | 46 => 89 | 139 => 144 | 138 => 143 | n => n, fun | 3 => 4 | 4 => 5 | n => n⟩
theorem Tryz.laysTrimLeft : Go.Proofs.Lays.n161 Tryz.prog Tryz.laysTrimLeft_ren where
  mixed := by kernel_rfl
  f119 := Tryz.func120.trans (congrArg some (by kernel_rfl))
  f137 := Tryz.func119.trans (congrArg some (by kernel_rfl))
  f151 := Tryz.func71.trans (congrArg some (by kernel_rfl))
  f152 := Tryz.func97.trans (congrArg some (by kernel_rfl))
  f161 := Tryz.func40.trans (congrArg some (by kernel_rfl))
  f197 := Tryz.func70.trans (congrArg some (by kernel_rfl))
  f217 := Tryz.func100.trans (congrArg some (by kernel_rfl))
  f224 := Tryz.func102.trans (congrArg some (by kernel_rfl))
  f225 := Tryz.func101.trans (congrArg some (by kernel_rfl))
  f227 := Tryz.func49.trans (congrArg some (by kernel_rfl))
  f228 := Tryz.func69.trans (congrArg some (by kernel_rfl))
  f231 := Tryz.func47.trans (congrArg some (by kernel_rfl))
  f233 := Tryz.func50.trans (congrArg some (by kernel_rfl))
  f235 := Tryz.func52.trans (congrArg some (by kernel_rfl))
  f260 := Tryz.func96.trans (congrArg some (by kernel_rfl))
  f266 := Tryz.func122.trans (congrArg some (by kernel_rfl))
  t0 := Tryz.underlying0
  a0 := Tryz.isAgg0
  z0 := Tryz.sizeOf0
  v0 := Tryz.zeroValue0
  t3 := Tryz.underlying3
  a3 := Tryz.isAgg3
  z3 := Tryz.sizeOf3
  v3 := Tryz.zeroValue3
  t4 := Tryz.underlying4
  a4 := Tryz.isAgg4
  z4 := Tryz.sizeOf4
  v4 := Tryz.zeroValue4
  t5 := Tryz.underlying5
  a5 := Tryz.isAgg5
  z5 := Tryz.sizeOf5
  v5 := Tryz.zeroValue5
  t9 := Tryz.underlying9
  a9 := Tryz.isAgg9
  z9 := Tryz.sizeOf9
  v9 := Tryz.zeroValue9
  t21 := Tryz.underlying21
  a21 := Tryz.isAgg21
  z21 := Tryz.sizeOf21
  v21 := Tryz.zeroValue21
  t46 := Tryz.underlying89
  a46 := Tryz.isAgg89
  z46 := Tryz.sizeOf89
  v46 := Tryz.zeroValue89
  t105 := Tryz.underlying100
  a105 := Tryz.isAgg100
  z105 := Tryz.sizeOf100
  v105 := Tryz.zeroValue100
  t116 := Tryz.underlying80
  a116 := Tryz.isAgg80
  z116 := Tryz.sizeOf80
  t117 := Tryz.underlying81
  a117 := Tryz.isAgg81
  z117 := Tryz.sizeOf81
  v117 := Tryz.zeroValue81
  t119 := Tryz.underlying141
  a119 := Tryz.isAgg141
  z119 := Tryz.sizeOf141
  t124 := Tryz.underlying84
  a124 := Tryz.isAgg84
  z124 := Tryz.sizeOf84
  v124 := Tryz.zeroValue84
  t138 := Tryz.underlying143
  a138 := Tryz.isAgg143
  z138 := Tryz.sizeOf143
  v138 := Tryz.zeroValue143
  t139 := Tryz.underlying144
  a139 := Tryz.isAgg144
  z139 := Tryz.sizeOf144
  v139 := Tryz.zeroValue144
  g3 := by kernel_rfl
  g4 := by kernel_rfl

def Tryz.laysTrimRight_ren : Go.Shelf.Ren := ⟨fun | 162 => 41 | 232 => 48 | 227 => 49 | 234 => 51 | 236 => 53 | 228 => 69 | 271 => 72 | 151 => 71 | 120 => 98 | 197 => 70 | 152 => 97 | 260 => 96 | 137 => 119 | 119 => 120 | 224 => 102 | 225 => 101 | 217 => 100 | 266 => 122 | n => n, fun | 9 => 9 | 4 => 4 | 3 => 3 | 5 => 5 | 117 => 81 | 116 => 80 | 0 => 0 | 124 => 84 | 21 => 21 | 105 => 100 | 46 => 89 | 119 => 141 | 139 => 144 | 138 => 143 | n => n, fun | 3 => 4 | 4 => 5 | n => n⟩
theorem Tryz.laysTrimRight : Go.Proofs.Lays.n162 Tryz.prog Tryz.laysTrimRight_ren where
  mixed := by kernel_rfl
  f119 := Tryz.func120.trans (congrArg some (by kernel_rfl))
  f120 := Tryz.func98.trans (congrArg some (by kernel_rfl))
  f137 := Tryz.func119.trans (congrArg some (by kernel_rfl))
  f151 := Tryz.func71.trans (congrArg some (by kernel_rfl))
  f152 := Tryz.func97.trans (congrArg some (by kernel_rfl))
  f162 := Tryz.func41.trans (congrArg some (by kernel_rfl))
  f197 := Tryz.func70.trans (congrArg some (by kernel_rfl))
  f217 := Tryz.func100.trans (congrArg some (by kernel_rfl))
  f224 := Tryz.func102.trans (congrArg some (by kernel_rfl))
  f225 := Tryz.func101.trans (congrArg some (by kernel_rfl))
  f227 := Tryz.func49.trans (congrArg some (by kernel_rfl))
  f228 := Tryz.func69.trans (congrArg some (by kernel_rfl))
  f232 := Tryz.func48.trans (congrArg some (by kernel_rfl))
  f234 := Tryz.func51.trans (congrArg some (by kernel_rfl))
  f236 := Tryz.func53.trans (congrArg some (by kernel_rfl))
  f260 := Tryz.func96.trans (congrArg some (by kernel_rfl))
  f266 := Tryz.func122.trans (congrArg some (by kernel_rfl))
  f271 := Tryz.func72.trans (congrArg some (by kernel_rfl))
  t0 := Tryz.underlying0
  a0 := Tryz.isAgg0
  z0 := Tryz.sizeOf0
  v0 := Tryz.zeroValue0
  t3 := Tryz.underlying3
  a3 := Tryz.isAgg3
  z3 := Tryz.sizeOf3
  v3 := Tryz.zeroValue3
  t4 := Tryz.underlying4
  a4 := Tryz.isAgg4
  z4 := Tryz.sizeOf4
  v4 := Tryz.zeroValue4
  t5 := Tryz.underlying5
  a5 := Tryz.isAgg5
  z5 := Tryz.sizeOf5
  v5 := Tryz.zeroValue5
  t9 := Tryz.underlying9
  a9 := Tryz.isAgg9
  z9 := Tryz.sizeOf9
  v9 := Tryz.zeroValue9
  t21 := Tryz.underlying21
  a21 := Tryz.isAgg21
  z21 := Tryz.sizeOf21
  v21 := Tryz.zeroValue21
  t46 := Tryz.underlying89
  a46 := Tryz.isAgg89
  z46 := Tryz.sizeOf89
  v46 := Tryz.zeroValue89
  t105 := Tryz.underlying100
  a105 := Tryz.isAgg100
  z105 := Tryz.sizeOf100
  v105 := Tryz.zeroValue100
  t116 := Tryz.underlying80
  a116 := Tryz.isAgg80
  z116 := Tryz.sizeOf80
  t117 := Tryz.underlying81
  a117 := Tryz.isAgg81
  z117 := Tryz.sizeOf81
  v117 := Tryz.zeroValue81
  t119 := Tryz.underlying141
  a119 := Tryz.isAgg141
  z119 := Tryz.sizeOf141
  t124 := Tryz.underlying84
  a124 := Tryz.isAgg84
  z124 := Tryz.sizeOf84
  v124 := Tryz.zeroValue84
  t138 := Tryz.underlying143
  a138 := Tryz.isAgg143
  z138 := Tryz.sizeOf143
  v138 := Tryz.zeroValue143
  t139 := Tryz.underlying144
  a139 := Tryz.isAgg144
  z139 := Tryz.sizeOf144
  v139 := Tryz.zeroValue144
  g3 := by kernel_rfl
  g4 := by kernel_rfl

def Tryz.laysTrim_ren : Go.Shelf.Ren := ⟨fun | 160 => 26 | 232 => 48 | 231 => 47 | 227 => 49 | 234 => 51 | 233 => 50 | 236 => 53 | 235 => 52 | 228 => 69 | 271 => 72 | 151 => 71 | 197 => 70 | 120 => 98 | 152 => 97 | 260 => 96 | 137 => 119 | 119 => 120 | 224 => 102 | 225 => 101 | 217 => 100 | 266 => 122 | n => n, fun | 9 => 9 | 4 => 4 | 3 => 3 | 5 => 5 | 117 => 81 | 116 => 80 | 0 => 0 | 124 => 84 | 21 => 21 | 105 => 100 | 46 => 89 | 119 => 141 | 139 => 144 | 138 => 143 | n => n, fun | 3 => 4 | 4 => 5 | n => n⟩
theorem Tryz.laysTrim : Go.Proofs.Lays.n160 Tryz.prog Tryz.laysTrim_ren where
  mixed := by kernel_rfl
  f119 := Tryz.func120.trans (congrArg some (by kernel_rfl))
  f120 := Tryz.func98.trans (congrArg some (by kernel_rfl))
  f137 := Tryz.func119.trans (congrArg some (by kernel_rfl))
  f151 := Tryz.func71.trans (congrArg some (by kernel_rfl))
  f152 := Tryz.func97.trans (congrArg some (by kernel_rfl))
  f160 := Tryz.func26.trans (congrArg some (by kernel_rfl))
  f197 := Tryz.func70.trans (congrArg some (by kernel_rfl))
  f217 := Tryz.func100.trans (congrArg some (by kernel_rfl))
  f224 := Tryz.func102.trans (congrArg some (by kernel_rfl))
  f225 := Tryz.func101.trans (congrArg some (by kernel_rfl))
  f227 := Tryz.func49.trans (congrArg some (by kernel_rfl))
  f228 := Tryz.func69.trans (congrArg some (by kernel_rfl))
  f231 := Tryz.func47.trans (congrArg some (by kernel_rfl))
  f232 := Tryz.func48.trans (congrArg some (by kernel_rfl))
  f233 := Tryz.func50.trans (congrArg some (by kernel_rfl))
  f234 := Tryz.func51.trans (congrArg some (by kernel_rfl))
  f235 := Tryz.func52.trans (congrArg some (by kernel_rfl))
  f236 := Tryz.func53.trans (congrArg some (by kernel_rfl))
  f260 := Tryz.func96.trans (congrArg some (by kernel_rfl))
  f266 := Tryz.func122.trans (congrArg some (by kernel_rfl))
  f271 := Tryz.func72.trans (congrArg some (by kernel_rfl))
  t0 := Tryz.underlying0
  a0 := Tryz.isAgg0
  z0 := Tryz.sizeOf0
  v0 := Tryz.zeroValue0
  t3 := Tryz.underlying3
  a3 := Tryz.isAgg3
  z3 := Tryz.sizeOf3
  v3 := Tryz.zeroValue3
  t4 := Tryz.underlying4
  a4 := Tryz.isAgg4
  z4 := Tryz.sizeOf4
  v4 := Tryz.zeroValue4
  t5 := Tryz.underlying5
  a5 := Tryz.isAgg5
  z5 := Tryz.sizeOf5
  v5 := Tryz.zeroValue5
  t9 := Tryz.underlying9
  a9 := Tryz.isAgg9
  z9 := Tryz.sizeOf9
  v9 := Tryz.zeroValue9
  t21 := Tryz.underlying21
  a21 := Tryz.isAgg21
  z21 := Tryz.sizeOf21
  v21 := Tryz.zeroValue21
  t46 := Tryz.underlying89
  a46 := Tryz.isAgg89
  z46 := Tryz.sizeOf89
  v46 := Tryz.zeroValue89
  t105 := Tryz.underlying100
  a105 := Tryz.isAgg100
  z105 := Tryz.sizeOf100
  v105 := Tryz.zeroValue100
  t116 := Tryz.underlying80
  a116 := Tryz.isAgg80
  z116 := Tryz.sizeOf80
  t117 := Tryz.underlying81
  a117 := Tryz.isAgg81
  z117 := Tryz.sizeOf81
  v117 := Tryz.zeroValue81
  t119 := Tryz.underlying141
  a119 := Tryz.isAgg141
  z119 := Tryz.sizeOf141
  t124 := Tryz.underlying84
  a124 := Tryz.isAgg84
  z124 := Tryz.sizeOf84
  v124 := Tryz.zeroValue84
  t138 := Tryz.underlying143
  a138 := Tryz.isAgg143
  z138 := Tryz.sizeOf143
  v138 := Tryz.zeroValue143
  t139 := Tryz.underlying144
  a139 := Tryz.isAgg144
  z139 := Tryz.sizeOf144
  v139 := Tryz.zeroValue144
  g3 := by kernel_rfl
  g4 := by kernel_rfl

theorem trim_spec (s : List UInt8) (hs : s.length ≤ 9223372036854775807) : Ctr Tryz.prog G 26 [.d (S s), .d (S [32])] [] (.d (S (Lib.trimB s 32))) [] :=
  Ctr.of_calls_ss go26 fun h w => (Any.strings_Trim_one Tryz.laysTrim (bs s) 32 (by decide) w (by rw [bs_size]; exact hs)).mono (by
    rintro e w' ⟨rfl, h | h⟩
    · subst h; exact ⟨_, rfl, .str _, .refl _ _⟩
    · subst h; exact ⟨_, rfl, .str _, Below.drew (.refl _ _)⟩)
theorem ttrim_spec (s : List UInt8) (hs : s.length ≤ 9223372036854775807) : Ctr Tryz.prog G 16 [.d (S s)] [] (.d (S (Lib.trimB s 32))) [] := by
  refine Ctr.pure (M := M0) hmix Tryz.func16 rfl go16 ?_
  simp (config := { maxSteps := 1000000 }) (disch := ((try simp only [awL]); omega)) only [QR, QS, QT, QU, QV, QW, QX, QY, QZ, Q0, Q1, Q2, Tryz.f16, ↓awU, awV, awF, Qa, Qb, Qc, Qd, forall_const, ↓reduceIte, ↓reduceDIte, ↓Qe, Qf, Qg, Qh, Qi, Qj, Qk, Ql, Qm, Qn, Qo, Qp, Qq, Qr, Qs, implies_true, Qt, Qu, Qv, Qw, Qx, Qy, Qz, QA, QB, QC, QD, QE, QF, QG, QH, QI, QJ, QK, QL, QM, QN, QO, QP, QQ]
  refine CallC.of (trim_spec s hs) (by rfl) ?_
  simp (config := { maxSteps := 1000000 }) (disch := ((try simp only [awL]); omega)) only [QR, QS, QT, QU, QV, QW, QX, QY, QZ, Q0, Q1, Q2, ↓awU, awV, awF, Qa, Qb, Qc, Qd, forall_const, ↓reduceIte, ↓reduceDIte, ↓Qe, Qf, Qg, Qh, Qi, Qj, Qk, Ql, Qm, Qn, Qo, Qp, Qq, Qr, Qs, implies_true, Qt, Qu, Qv, Qw, Qx, Qy, Qz, QA, QB, QC, QD, QE, QF, QG, QH, QI, QJ, QK, QL, QM, QN, QO, QP, QQ]
end Go.Proofs.YtjecgoddmkaboaaGreatDoor

namespace Go.Proofs.YtjecgoddmkaboaaGreatDoor
open Go Go.Proofs Go.Abs Go.RowKit Go.Shelf Go.Lib
variable {G : Globals}
/-! strings.Builder: contracts over the machine's blocks. -/
/-- What a reading of a builder leaves. -/
structure BldR (v : Value) (w w' : World) : Prop where
  os : w'.os = w.os
  tape : w'.tape = w.tape
  output : w'.output = w.output
  size : w.heap.size ≤ w'.heap.size
  keep : ∀ k, k < w.heap.size → some k ≠ v.ownBlock → w'.heap[k]? = w.heap[k]?
theorem BldR.of {v : Value} {w w' : World} (h : Below w.heap.size w w') : BldR v w w' := ⟨h.os, h.tape, h.output, h.size, fun k hk _ => h.block k hk⟩
end Go.Proofs.YtjecgoddmkaboaaGreatDoor

namespace Go.Proofs.YtjecgoddmkaboaaGreatDoor
open Go Go.Proofs Go.Abs Go.RowKit Go.Shelf Go.Lib
variable {G : Globals}
/-! strings.Builder: the contracts. -/
theorem ptr_inv {h : Held} {ρ : Abs.Place} {u : Value} {g S : Nat} (r : R h ρ u (.ptr 0 0)) (hρ : ρ 0 = some (g, S)) : u = .pointer (some ⟨g, 0, none⟩) := by
  cases r with
  | ptr b off g' S' h1 => rw [hρ] at h1; cases h1; rfl
end Go.Proofs.YtjecgoddmkaboaaGreatDoor

namespace Go.Proofs.YtjecgoddmkaboaaGreatDoor
open Go Go.Proofs Go.Abs Go.RowKit Go.Shelf Go.Lib
variable {G : Globals}
/-! strings.Builder: WriteString, WriteByte, Len, String. -/
end Go.Proofs.YtjecgoddmkaboaaGreatDoor

namespace Go.Proofs.YtjecgoddmkaboaaGreatDoor
open Go Go.Proofs Go.Abs Go.RowKit Go.Shelf Go.Lib
variable {G : Globals}
/-! strings.Builder: WriteByte, String. -/
end Go.Proofs.YtjecgoddmkaboaaGreatDoor

namespace Go.Proofs.YtjecgoddmkaboaaGreatDoor
open Go Go.Proofs Go.Abs
variable {G : Globals}
/-! The dice; the words. -/
end Go.Proofs.YtjecgoddmkaboaaGreatDoor

namespace Go.Proofs.YtjecgoddmkaboaaGreatDoor
open Go Go.Proofs Go.Abs Go.RowKit Go.Shelf
variable {G : Globals}
/-! types.decimal: the canonical text of a decimal. -/
theorem trimLeftC_spec (c : UInt8) (hc : c.toNat < 128) (s : List UInt8) : Ctr Tryz.prog G 40 [.d (S s), .d (S [c])] [] (.d (S (Lib.trimLeftB s c))) [] :=
  Ctr.of_calls_ss go40 fun h w => (Any.strings_TrimLeft_one Tryz.laysTrimLeft (bs s) c hc w).mono (by rintro e w' ⟨rfl, rfl⟩; exact ⟨_, rfl, .str _, .refl _ _⟩)
theorem trimRightC_spec (c : UInt8) (hc : c.toNat < 128) (s : List UInt8) (hs : s.length ≤ 9223372036854775807) : Ctr Tryz.prog G 41 [.d (S s), .d (S [c])] [] (.d (S (Lib.trimRightB s c))) [] :=
  Ctr.of_calls_ss go41 fun h w => (Any.strings_TrimRight_one Tryz.laysTrimRight (bs s) c hc w (by rw [bs_size]; exact hs)).mono (by rintro e w' ⟨rfl, rfl⟩; exact ⟨_, rfl, .str _, .refl _ _⟩)
def OrI (x y : List UInt8) (i : Nat) : Prop := i ≤ 2 ∧ (1 ≤ i → x = []) ∧ (2 ≤ i → y = [])
theorem trimRB_le (l : List UInt8) (c : UInt8) : (Lib.trimRightB l c).length ≤ l.length := by
  unfold Lib.trimRightB
  rw [List.length_reverse]
  have := (List.dropWhile_sublist (p := (· == c)) (l := l.reverse)).length_le
  rwa [List.length_reverse] at this
theorem orS_spec (x y : List UInt8) (full : Bool) : Ctr Tryz.prog G 42 [.d (.sl 2 full [S x, S y])] [] (.d (S (if x = [] then y else x))) [] := by
  obtain ⟨r, hr⟩ : ∃ r, r = if x = [] then y else x := ⟨_, rfl⟩
  rw [← hr]
  refine Ctr.pure (M := M0) hmix Tryz.func42 rfl go42 ?_
  have hb0 : ByteArray.empty = bs [] := rfl
  simp (config := { maxSteps := 1000000 }) (disch := ((try simp only [awL]); omega)) only [QR, QS, QT, QU, QV, QW, QX, QY, QZ, Q0, Q1, Q2, Tryz.f42, ↓awU, awV, awF, Qa, Qb, Qc, Qd, forall_const, ↓reduceIte, ↓reduceDIte, ↓Qe, Qf, Qg, Qh, Qi, Qj, Qk, Ql, Qm, Qn, Qo, Qp, Qq, Qr, Qs, implies_true, Qt, Qu, Qv, Qw, Qx, Qy, Qz, QA, QB, QC, QD, QE, QF, QG, QH, QI, QJ, QK, QL, QM, QN, QO, QP, QQ]
  refine LoopC.fr 200 (α := Nat) (fun i => 2 - i) (fun i => [(8, .d (.int .i64 (i : Nat)))]) (fun _ => []) (OrI x y) 0 ⟨by omega, fun h => absurd h (by omega), fun h => absurd h (by omega)⟩ ?_ ?_
  · exact ⟨[], rfl, by simp, by simp [setsA, keepA, SWeak, AWeak], by simp [HWeak, BWeak, SWeak, AWeak]⟩
  · intro i hI
    obtain ⟨h1, h2, h3⟩ := hI
    simp only [awK, Nat.reduceMod, Nat.reduceDiv, reduceIte]
    rcases (by omega : i = 0 ∨ i = 1 ∨ i = 2) with e | e | e
    · subst e
      by_cases q : x = []
      · have q' : (x = []) = True := eq_true q
        simp (config := { maxSteps := 1000000 }) (disch := ((try simp only [awL]); omega)) only [QR, QS, QT, QU, QV, QW, QX, QY, QZ, Q0, Q1, Q2, q', ↓awU, awV, awF, Qa, Qb, Qc, Qd, forall_const, ↓reduceIte, ↓reduceDIte, ↓Qe, Qf, Qg, Qh, Qi, Qj, Qk, Ql, Qm, Qn, Qo, Qp, Qq, Qr, Qs, implies_true, Qt, Qu, Qv, Qw, Qx, Qy, Qz, QA, QB, QC, QD, QE, QF, QG, QH, QI, QJ, QK, QL, QM, QN, QO, QP, QQ]
        exact ⟨0 + 1, (⟨by omega, fun _ => q, fun h => absurd h (by omega)⟩ : OrI x y (0 + 1)), by simp only; omega, ⟨[], rfl, by simp, by simp [setsA, keepA, SWeak, AWeak], by simp [HWeak, BWeak, SWeak, AWeak]⟩⟩
      · have q' : (x = []) = False := eq_false q
        rw [if_neg q] at hr
        subst hr
        simp (config := { maxSteps := 1000000 }) (disch := ((try simp only [awL]); omega)) only [QR, QS, QT, QU, QV, QW, QX, QY, QZ, Q0, Q1, Q2, q', ↓awU, awV, awF, Qa, Qb, Qc, Qd, forall_const, ↓reduceIte, ↓reduceDIte, ↓Qe, Qf, Qg, Qh, Qi, Qj, Qk, Ql, Qm, Qn, Qo, Qp, Qq, Qr, Qs, implies_true, Qt, Qu, Qv, Qw, Qx, Qy, Qz, QA, QB, QC, QD, QE, QF, QG, QH, QI, QJ, QK, QL, QM, QN, QO, QP, QQ]
        first | done | rfl
    · subst e
      have x0 := h2 (by omega)
      rw [if_pos x0] at hr
      by_cases q : y = []
      · have q' : (y = []) = True := eq_true q
        simp (config := { maxSteps := 1000000 }) (disch := ((try simp only [awL]); omega)) only [QR, QS, QT, QU, QV, QW, QX, QY, QZ, Q0, Q1, Q2, q', ↓awU, awV, awF, Qa, Qb, Qc, Qd, forall_const, ↓reduceIte, ↓reduceDIte, ↓Qe, Qf, Qg, Qh, Qi, Qj, Qk, Ql, Qm, Qn, Qo, Qp, Qq, Qr, Qs, implies_true, Qt, Qu, Qv, Qw, Qx, Qy, Qz, QA, QB, QC, QD, QE, QF, QG, QH, QI, QJ, QK, QL, QM, QN, QO, QP, QQ]
        exact ⟨1 + 1, (⟨by omega, fun _ => x0, fun _ => q⟩ : OrI x y (1 + 1)), by simp only; omega, ⟨[], rfl, by simp, by simp [setsA, keepA, SWeak, AWeak], by simp [HWeak, BWeak, SWeak, AWeak]⟩⟩
      · have q' : (y = []) = False := eq_false q
        subst hr
        simp (config := { maxSteps := 1000000 }) (disch := ((try simp only [awL]); omega)) only [QR, QS, QT, QU, QV, QW, QX, QY, QZ, Q0, Q1, Q2, q', ↓awU, awV, awF, Qa, Qb, Qc, Qd, forall_const, ↓reduceIte, ↓reduceDIte, ↓Qe, Qf, Qg, Qh, Qi, Qj, Qk, Ql, Qm, Qn, Qo, Qp, Qq, Qr, Qs, implies_true, Qt, Qu, Qv, Qw, Qx, Qy, Qz, QA, QB, QC, QD, QE, QF, QG, QH, QI, QJ, QK, QL, QM, QN, QO, QP, QQ]
        first | done | rfl
    · subst e
      have x0 := h2 (by omega)
      rw [if_pos x0, h3 (by omega)] at hr
      subst hr
      simp (config := { maxSteps := 1000000 }) (disch := ((try simp only [awL]); omega)) only [QR, QS, QT, QU, QV, QW, QX, QY, QZ, Q0, Q1, Q2, ↓awU, awV, awF, Qa, Qb, Qc, Qd, forall_const, ↓reduceIte, ↓reduceDIte, ↓Qe, Qf, Qg, Qh, Qi, Qj, Qk, Ql, Qm, Qn, Qo, Qp, Qq, Qr, Qs, implies_true, Qt, Qu, Qv, Qw, Qx, Qy, Qz, QA, QB, QC, QD, QE, QF, QG, QH, QI, QJ, QK, QL, QM, QN, QO, QP, QQ]
      first | done | rfl
/-- The canonical text. -/
def canO (f b : List UInt8) : List UInt8 := (if f = [] then [48] else f) ++ (if b = [] then [] else 46 :: b)
def canS (neg : Bool) (o : List UInt8) : List UInt8 := if neg = true ∧ o ≠ [48] then 45 :: o else o
def canD (t : List UInt8) : List UInt8 := canS (decide (t.getD 0 0 = 45)) (canO (Lib.trimLeftB (cutL 46 (Num.trimL [43, 45] t)) 48) (Lib.trimRightB (cutR 46 (Num.trimL [43, 45] t)) 48))
theorem trimL_len (l s : List UInt8) : (Num.trimL l s).length ≤ s.length := (List.dropWhile_sublist _).length_le
theorem cutL_len (c : UInt8) : ∀ s : List UInt8, (cutL c s).length ≤ s.length
  | [] => by simp [cutL]
  | b :: l => by
    rw [cutL]
    split
    · simp
    · have := cutL_len c l; simp only [List.length_cons]; omega
theorem cutR_len (c : UInt8) : ∀ s : List UInt8, (cutR c s).length ≤ s.length
  | [] => by simp [cutR]
  | b :: l => by
    rw [cutR]
    split
    · simp
    · have := cutR_len c l; simp only [List.length_cons]; omega
set_option maxHeartbeats 8000000 in
set_option maxRecDepth 100000 in
theorem tdecimal_spec (hG : Num.HG G) (t : List UInt8) (ht : t.length ≤ 1000000) : Ctr Tryz.prog G 23 [.d (S t)] [] (.d (.tup [S (if Num.decOk t = true then canD t else []), .bool (Num.decOk t)])) [] := by
  refine Ctr.pure (M := M0) hmix Tryz.func23 rfl go23 ?_
  have sp := Num.decimalF_spec hG t (by omega)
  cases ok : Num.decOk t
  · rw [ok] at sp
    rw [if_neg Bool.false_ne_true] at sp ⊢
    simp (config := { maxSteps := 1000000 }) (disch := ((try simp only [awL]); omega)) only [QR, QS, QT, QU, QV, QW, QX, QY, QZ, Q0, Q1, Q2, Tryz.f23, ↓awU, awV, awF, Qa, Qb, Qc, Qd, forall_const, ↓reduceIte, ↓reduceDIte, ↓Qe, Qf, Qg, Qh, Qi, Qj, Qk, Ql, Qm, Qn, Qo, Qp, Qq, Qr, Qs, implies_true, Qt, Qu, Qv, Qw, Qx, Qy, Qz, QA, QB, QC, QD, QE, QF, QG, QH, QI, QJ, QK, QL, QM, QN, QO, QP, QQ]
    refine CallC.of sp (by rfl) ?_
    simp (config := { maxSteps := 1000000 }) (disch := ((try simp only [awL]); omega)) only [QR, QS, QT, QU, QV, QW, QX, QY, QZ, Q0, Q1, Q2, ↓awU, awV, awF, Qa, Qb, Qc, Qd, forall_const, ↓reduceIte, ↓reduceDIte, ↓Qe, Qf, Qg, Qh, Qi, Qj, Qk, Ql, Qm, Qn, Qo, Qp, Qq, Qr, Qs, implies_true, Qt, Qu, Qv, Qw, Qx, Qy, Qz, QA, QB, QC, QD, QE, QF, QG, QH, QI, QJ, QK, QL, QM, QN, QO, QP, QQ]
    first | done | rfl
  · rw [ok] at sp
    rw [if_pos rfl] at sp ⊢
    have tne : 0 < t.length := by
      rcases t with _ | ⟨b, u⟩
      · exact absurd ok (by decide +kernel)
      · simp
    have l1 := trimL_len [43, 45] t
    have l2 := cutL_len 46 (Num.trimL [43, 45] t)
    have l3 := cutR_len 46 (Num.trimL [43, 45] t)
    simp (config := { maxSteps := 1000000 }) (disch := ((try simp only [awL]); omega)) only [QR, QS, QT, QU, QV, QW, QX, QY, QZ, Q0, Q1, Q2, Tryz.f23, ↓awU, awV, awF, Qa, Qb, Qc, Qd, forall_const, ↓reduceIte, ↓reduceDIte, ↓Qe, Qf, Qg, Qh, Qi, Qj, Qk, Ql, Qm, Qn, Qo, Qp, Qq, Qr, Qs, implies_true, Qt, Qu, Qv, Qw, Qx, Qy, Qz, QA, QB, QC, QD, QE, QF, QG, QH, QI, QJ, QK, QL, QM, QN, QO, QP, QQ]
    refine CallC.of sp (by rfl) ?_
    simp (config := { maxSteps := 1000000 }) (disch := ((try simp only [awL]); omega)) only [QR, QS, QT, QU, QV, QW, QX, QY, QZ, Q0, Q1, Q2, ↓awU, awV, awF, Qa, Qb, Qc, Qd, forall_const, ↓reduceIte, ↓reduceDIte, ↓Qe, Qf, Qg, Qh, Qi, Qj, Qk, Ql, Qm, Qn, Qo, Qp, Qq, Qr, Qs, implies_true, Qt, Qu, Qv, Qw, Qx, Qy, Qz, QA, QB, QC, QD, QE, QF, QG, QH, QI, QJ, QK, QL, QM, QN, QO, QP, QQ]
    refine CallC.of (Num.trimLeftSet_spec t [43, 45] (by omega) (by decide) (by decide) (by decide)) (by rfl) ?_
    simp (config := { maxSteps := 1000000 }) (disch := ((try simp only [awL]); omega)) only [QR, QS, QT, QU, QV, QW, QX, QY, QZ, Q0, Q1, Q2, ↓awU, awV, awF, Qa, Qb, Qc, Qd, forall_const, ↓reduceIte, ↓reduceDIte, ↓Qe, Qf, Qg, Qh, Qi, Qj, Qk, Ql, Qm, Qn, Qo, Qp, Qq, Qr, Qs, implies_true, Qt, Qu, Qv, Qw, Qx, Qy, Qz, QA, QB, QC, QD, QE, QF, QG, QH, QI, QJ, QK, QL, QM, QN, QO, QP, QQ]
    refine CallC.of (cut_spec (Num.trimL [43, 45] t) 46 (by omega)) (by rfl) ?_
    simp (config := { maxSteps := 1000000 }) (disch := ((try simp only [awL]); omega)) only [QR, QS, QT, QU, QV, QW, QX, QY, QZ, Q0, Q1, Q2, ↓awU, awV, awF, Qa, Qb, Qc, Qd, forall_const, ↓reduceIte, ↓reduceDIte, ↓Qe, Qf, Qg, Qh, Qi, Qj, Qk, Ql, Qm, Qn, Qo, Qp, Qq, Qr, Qs, implies_true, Qt, Qu, Qv, Qw, Qx, Qy, Qz, QA, QB, QC, QD, QE, QF, QG, QH, QI, QJ, QK, QL, QM, QN, QO, QP, QQ]
    refine CallC.of (trimLeftC_spec 48 (by decide) (cutL 46 (Num.trimL [43, 45] t))) (by rfl) ?_
    simp (config := { maxSteps := 1000000 }) (disch := ((try simp only [awL]); omega)) only [QR, QS, QT, QU, QV, QW, QX, QY, QZ, Q0, Q1, Q2, ↓awU, awV, awF, Qa, Qb, Qc, Qd, forall_const, ↓reduceIte, ↓reduceDIte, ↓Qe, Qf, Qg, Qh, Qi, Qj, Qk, Ql, Qm, Qn, Qo, Qp, Qq, Qr, Qs, implies_true, Qt, Qu, Qv, Qw, Qx, Qy, Qz, QA, QB, QC, QD, QE, QF, QG, QH, QI, QJ, QK, QL, QM, QN, QO, QP, QQ]
    refine CallC.of (trimRightC_spec 48 (by decide) (cutR 46 (Num.trimL [43, 45] t)) (by omega)) (by rfl) ?_
    obtain ⟨r, hr⟩ : ∃ r, r = canD t := ⟨_, rfl⟩
    rw [← hr]
    unfold canD at hr
    have f1 : (Lib.trimLeftB (cutL 46 (Num.trimL [43, 45] t)) 48).length ≤ 1000000 := Nat.le_trans (List.dropWhile_sublist _).length_le (by omega)
    have f2 : (Lib.trimRightB (cutR 46 (Num.trimL [43, 45] t)) 48).length ≤ 1000000 := Nat.le_trans (trimRB_le _ _) (by omega)
    generalize Lib.trimLeftB (cutL 46 (Num.trimL [43, 45] t)) 48 = f at *
    generalize Lib.trimRightB (cutR 46 (Num.trimL [43, 45] t)) 48 = b at *
    simp (config := { maxSteps := 1000000 }) (disch := ((try simp only [awL]); omega)) only [QR, QS, QT, QU, QV, QW, QX, QY, QZ, Q0, Q1, Q2, ↓awU, awV, awF, Qa, Qb, Qc, Qd, forall_const, ↓reduceIte, ↓reduceDIte, ↓Qe, Qf, Qg, Qh, Qi, Qj, Qk, Ql, Qm, Qn, Qo, Qp, Qq, Qr, Qs, implies_true, Qt, Qu, Qv, Qw, Qx, Qy, Qz, QA, QB, QC, QD, QE, QF, QG, QH, QI, QJ, QK, QL, QM, QN, QO, QP, QQ]
    have os := orS_spec (G := G) f [48] false
    refine CallC.frozenE os (by rfl) ?_
    obtain ⟨o1, ho1⟩ : ∃ o1, o1 = if f = [] then [48] else f := ⟨_, rfl⟩
    rw [← ho1]
    have o1l : o1.length ≤ 1000001 := by
      rw [ho1]
      split
      · simp
      · omega
    unfold canO at hr
    rw [← ho1] at hr
    have g0 : t.getD 0 0 = t.getD 0 0 := rfl
    by_cases e1 : b = []
    · have e1' : (b = []) = True := eq_true e1
      rw [if_pos e1, List.append_nil] at hr
      unfold canS at hr
      by_cases e2 : t.getD 0 0 = 45
      · have e2' : (((t.getD 0 0).toNat : Int) = 45) = True := eq_true (by rw [e2]; rfl)
        rw [decide_eq_true e2] at hr
        by_cases e3 : o1 = [48]
        · have e3' : (o1 = [48]) = True := eq_true e3
          rw [if_neg (fun q => q.2 e3)] at hr
          subst hr
          simp (config := { maxSteps := 1000000 }) (disch := ((try simp only [awL]); omega)) only [QR, QS, QT, QU, QV, QW, QX, QY, QZ, Q0, Q1, Q2, e1', e2', e3', ↓awU, awV, awF, Qa, Qb, Qc, Qd, forall_const, ↓reduceIte, ↓reduceDIte, ↓Qe, Qf, Qg, Qh, Qi, Qj, Qk, Ql, Qm, Qn, Qo, Qp, Qq, Qr, Qs, implies_true, Qt, Qu, Qv, Qw, Qx, Qy, Qz, QA, QB, QC, QD, QE, QF, QG, QH, QI, QJ, QK, QL, QM, QN, QO, QP, QQ]
          first | done | rfl
        · have e3' : (o1 = [48]) = False := eq_false e3
          rw [if_pos ⟨rfl, e3⟩] at hr
          subst hr
          simp (config := { maxSteps := 1000000 }) (disch := ((try simp only [awL]); omega)) only [QR, QS, QT, QU, QV, QW, QX, QY, QZ, Q0, Q1, Q2, e1', e2', e3', ↓awU, awV, awF, Qa, Qb, Qc, Qd, forall_const, ↓reduceIte, ↓reduceDIte, ↓Qe, Qf, Qg, Qh, Qi, Qj, Qk, Ql, Qm, Qn, Qo, Qp, Qq, Qr, Qs, implies_true, Qt, Qu, Qv, Qw, Qx, Qy, Qz, QA, QB, QC, QD, QE, QF, QG, QH, QI, QJ, QK, QL, QM, QN, QO, QP, QQ]
          first | done | rfl
      · have e2' : (((t.getD 0 0).toNat : Int) = 45) = False := eq_false (fun q => e2 (UInt8.toNat_inj.1 (by show (t.getD 0 0).toNat = 45; omega)))
        rw [decide_eq_false e2, if_neg (fun q => Bool.false_ne_true q.1)] at hr
        subst hr
        simp (config := { maxSteps := 1000000 }) (disch := ((try simp only [awL]); omega)) only [QR, QS, QT, QU, QV, QW, QX, QY, QZ, Q0, Q1, Q2, e1', e2', ↓awU, awV, awF, Qa, Qb, Qc, Qd, forall_const, ↓reduceIte, ↓reduceDIte, ↓Qe, Qf, Qg, Qh, Qi, Qj, Qk, Ql, Qm, Qn, Qo, Qp, Qq, Qr, Qs, implies_true, Qt, Qu, Qv, Qw, Qx, Qy, Qz, QA, QB, QC, QD, QE, QF, QG, QH, QI, QJ, QK, QL, QM, QN, QO, QP, QQ]
        first | done | rfl
    · have e1' : (b = []) = False := eq_false e1
      rw [if_neg e1] at hr
      unfold canS at hr
      by_cases e2 : t.getD 0 0 = 45
      · have e2' : (((t.getD 0 0).toNat : Int) = 45) = True := eq_true (by rw [e2]; rfl)
        rw [decide_eq_true e2] at hr
        by_cases e3 : o1 ++ 46 :: b = [48]
        · have e3' : (o1 ++ 46 :: b = [48]) = True := eq_true e3
          rw [if_neg (fun q => q.2 e3)] at hr
          subst hr
          simp (config := { maxSteps := 1000000 }) (disch := ((try simp only [awL]); omega)) only [QR, QS, QT, QU, QV, QW, QX, QY, QZ, Q0, Q1, Q2, e1', e2', e3', ↓awU, awV, awF, Qa, Qb, Qc, Qd, forall_const, ↓reduceIte, ↓reduceDIte, ↓Qe, Qf, Qg, Qh, Qi, Qj, Qk, Ql, Qm, Qn, Qo, Qp, Qq, Qr, Qs, implies_true, Qt, Qu, Qv, Qw, Qx, Qy, Qz, QA, QB, QC, QD, QE, QF, QG, QH, QI, QJ, QK, QL, QM, QN, QO, QP, QQ]
          first | done | rfl
        · have e3' : (o1 ++ 46 :: b = [48]) = False := eq_false e3
          rw [if_pos ⟨rfl, e3⟩] at hr
          subst hr
          simp (config := { maxSteps := 1000000 }) (disch := ((try simp only [awL]); omega)) only [QR, QS, QT, QU, QV, QW, QX, QY, QZ, Q0, Q1, Q2, e1', e2', e3', ↓awU, awV, awF, Qa, Qb, Qc, Qd, forall_const, ↓reduceIte, ↓reduceDIte, ↓Qe, Qf, Qg, Qh, Qi, Qj, Qk, Ql, Qm, Qn, Qo, Qp, Qq, Qr, Qs, implies_true, Qt, Qu, Qv, Qw, Qx, Qy, Qz, QA, QB, QC, QD, QE, QF, QG, QH, QI, QJ, QK, QL, QM, QN, QO, QP, QQ]
          first | done | rfl
      · have e2' : (((t.getD 0 0).toNat : Int) = 45) = False := eq_false (fun q => e2 (UInt8.toNat_inj.1 (by show (t.getD 0 0).toNat = 45; omega)))
        rw [decide_eq_false e2, if_neg (fun q => Bool.false_ne_true q.1)] at hr
        subst hr
        simp (config := { maxSteps := 1000000 }) (disch := ((try simp only [awL]); omega)) only [QR, QS, QT, QU, QV, QW, QX, QY, QZ, Q0, Q1, Q2, e1', e2', ↓awU, awV, awF, Qa, Qb, Qc, Qd, forall_const, ↓reduceIte, ↓reduceDIte, ↓Qe, Qf, Qg, Qh, Qi, Qj, Qk, Ql, Qm, Qn, Qo, Qp, Qq, Qr, Qs, implies_true, Qt, Qu, Qv, Qw, Qx, Qy, Qz, QA, QB, QC, QD, QE, QF, QG, QH, QI, QJ, QK, QL, QM, QN, QO, QP, QQ]
        first | done | rfl
end Go.Proofs.YtjecgoddmkaboaaGreatDoor

namespace Go.Proofs.YtjecgoddmkaboaaGreatDoor
open Go Go.Proofs Go.Abs
variable {G : Globals}
/-! Days of dates (plain). -/
def leapB (y : Int) : Bool := decide (y.tmod 4 = 0) && (!decide (y.tmod 100 = 0) || decide (y.tmod 400 = 0))
def lenM (y m : Int) : Int := if m = 2 then (if leapB y = true then 29 else 28) else if m = 4 ∨ m = 6 ∨ m = 9 ∨ m = 11 then 30 else 31
def bgn (y : Int) : Int := (y - 1) * 365 + (y - 1).tdiv 4 - (y - 1).tdiv 100 + (y - 1).tdiv 400
def yrL (y : Int) : Int := if leapB y = true then 366 else 365
theorem tmod_pos {a : Int} (b : Int) (h : 0 ≤ a) : a.tmod b = a % b := Int.tmod_eq_emod_of_nonneg h
theorem tdiv_pos {a : Int} (b : Int) (h : 0 ≤ a) : a.tdiv b = a / b := Int.tdiv_eq_ediv_of_nonneg h
theorem leapB_iff {y : Int} (h : 0 ≤ y) : leapB y = true ↔ y % 4 = 0 ∧ (y % 100 ≠ 0 ∨ y % 400 = 0) := by
  unfold leapB
  rw [tmod_pos _ h, tmod_pos _ h, tmod_pos _ h]
  simp
theorem bgn_eq {y : Int} (h : 1 ≤ y) : bgn y = (y - 1) * 365 + (y - 1) / 4 - (y - 1) / 100 + (y - 1) / 400 := by
  unfold bgn
  rw [tdiv_pos _ (by omega), tdiv_pos _ (by omega), tdiv_pos _ (by omega)]
theorem bgn_succ {y : Int} (h : 1 ≤ y) : bgn (y + 1) = bgn y + yrL y := by
  rw [bgn_eq h, bgn_eq (by omega)]
  unfold yrL
  by_cases l : leapB y = true
  · rw [if_pos l]
    have := (leapB_iff (by omega)).1 l
    omega
  · rw [if_neg l]
    have : ¬ (y % 4 = 0 ∧ (y % 100 ≠ 0 ∨ y % 400 = 0)) := fun q => l ((leapB_iff (by omega)).2 q)
    omega
theorem bgn_one : bgn 1 = 0 := rfl
theorem bgn_mono : ∀ (k : Nat) {y : Int}, 1 ≤ y → bgn y + k * 365 ≤ bgn (y + k)
  | 0, y, _ => by simp
  | k + 1, y, h => by
    have ih := bgn_mono k h
    have s := bgn_succ (y := y + k) (by omega)
    have e : y + ((k + 1 : Nat) : Int) = y + k + 1 := by omega
    rw [e, s]
    have : 365 ≤ yrL (y + k) := by unfold yrL; split <;> omega
    push_cast
    omega
theorem bgn_lt {y z : Int} (h : 1 ≤ y) (hz : y < z) : bgn (y + 1) ≤ bgn z := by
  obtain ⟨k, hk⟩ : ∃ k : Nat, z = y + 1 + k := ⟨(z - (y + 1)).toNat, by omega⟩
  have := bgn_mono k (y := y + 1) (by omega)
  rw [hk]; omega
/-- The days of a year ahead of a month. -/
def monS (y : Int) : Nat → Int
  | 0 => 0
  | m + 1 => monS y m + lenM y (m + 1 : Nat)
theorem lenM_pos (y m : Int) : 28 ≤ lenM y m ∧ lenM y m ≤ 31 := by
  unfold lenM
  split
  · split <;> omega
  · split <;> omega
theorem monS_le (y : Int) : ∀ m : Nat, 0 ≤ monS y m ∧ monS y m ≤ 31 * m
  | 0 => by simp [monS]
  | m + 1 => by
    have ih := monS_le y m
    have := lenM_pos y (m + 1 : Nat)
    rw [monS]; push_cast at *; omega
theorem monS_12 (y : Int) : monS y 12 = yrL y := by
  unfold yrL
  by_cases l : leapB y = true
  · simp [monS, lenM, l]
  · simp [monS, lenM, l]
theorem monS_lt {y : Int} {a b : Nat} (h : a < b) : monS y (a + 1) ≤ monS y b := by
  obtain ⟨k, rfl⟩ : ∃ k, b = a + 1 + k := ⟨b - (a + 1), by omega⟩
  clear h
  induction k with
  | zero => exact Int.le_refl _
  | succ k ih =>
    have := lenM_pos y ((a + 1 + k + 1 : Nat) : Int)
    have e : monS y (a + 1 + (k + 1)) = monS y (a + 1 + k) + lenM y ((a + 1 + k + 1 : Nat) : Int) := rfl
    omega
/-- Which dates there are; their days. -/
def okDt (y m d : Int) : Bool := decide (1 ≤ y ∧ y ≤ 9999 ∧ 1 ≤ m ∧ m ≤ 12 ∧ 1 ≤ d ∧ d ≤ lenM y m)
def dayN (y m d : Int) : Int := bgn y + monS y (m - 1).toNat + d - 1 - 719162
/-- n days from the beginning are the date y, m, d. -/
def IsDt (n y : Int) (m : Nat) (r : Int) : Prop := 1 ≤ y ∧ y ≤ 9999 ∧ m < 12 ∧ n = bgn y + monS y m + r ∧ 0 ≤ r ∧ r < lenM y (m + 1 : Nat)
theorem IsDt.year {n y : Int} {m : Nat} {r : Int} (h : IsDt n y m r) : bgn y ≤ n ∧ n < bgn (y + 1) := by
  obtain ⟨h1, h2, h3, h4, h5, h6⟩ := h
  have a := monS_le y m
  have b := monS_lt (y := y) (show m < 12 from h3)
  rw [monS_12, monS] at b
  rw [bgn_succ h1]
  omega
theorem IsDt.uniq {n y z : Int} {m k : Nat} {r s : Int} (h : IsDt n y m r) (g : IsDt n z k s) : y = z ∧ m = k ∧ r = s := by
  have a := h.year
  have b := g.year
  have hy : y = z := by
    rcases Int.lt_trichotomy y z with q | q | q
    · have := bgn_lt h.1 q; omega
    · exact q
    · have := bgn_lt g.1 q; omega
  subst hy
  obtain ⟨h1, h2, h3, h4, h5, h6⟩ := h
  obtain ⟨g1, g2, g3, g4, g5, g6⟩ := g
  have hm : m = k := by
    rcases Nat.lt_trichotomy m k with q | q | q
    · have := monS_lt (y := y) q; rw [monS] at this; omega
    · exact q
    · have := monS_lt (y := y) q; rw [monS] at this; omega
  subst hm
  exact ⟨rfl, rfl, by omega⟩
theorem okDt_is {y m d : Int} (h : okDt y m d = true) : IsDt (dayN y m d + 719162) y (m - 1).toNat (d - 1) := by
  have h := of_decide_eq_true h
  refine ⟨h.1, h.2.1, by omega, by unfold dayN; omega, by omega, ?_⟩
  rw [show (((m - 1).toNat + 1 : Nat) : Int) = m by omega]; omega
theorem is_okDt {n y : Int} {m : Nat} {r : Int} (h : IsDt n y m r) : okDt y (m + 1 : Nat) (r + 1) = true ∧ dayN y (m + 1 : Nat) (r + 1) = n - 719162 := by
  obtain ⟨h1, h2, h3, h4, h5, h6⟩ := h
  refine ⟨decide_eq_true ⟨h1, h2, by omega, by omega, by omega, by omega⟩, ?_⟩
  unfold dayN
  rw [show ((((m + 1 : Nat) : Int)) - 1).toNat = m by omega]; omega
theorem bgn_end : bgn 10000 = 3652059 := by decide
end Go.Proofs.YtjecgoddmkaboaaGreatDoor

namespace Go.Proofs.YtjecgoddmkaboaaGreatDoor
open Go Go.Proofs Go.Abs
variable {G : Globals}
/-! Days of dates: the program's functions and the reference's. -/
theorem leap_spec (y : Int) (y1 : -9223372036854775808 ≤ y) (y2 : y ≤ 9223372036854775807) : Ctr Tryz.prog G 17 [.d (.int .i64 y)] [] (.d (.bool (leapB y))) [] := by
  refine Ctr.pure (M := M0) hmix Tryz.func17 rfl go17 ?_
  obtain ⟨r, hr⟩ : ∃ r, r = leapB y := ⟨_, rfl⟩
  rw [← hr]
  unfold leapB at hr
  have b1 : -4 < y.tmod 4 ∧ y.tmod 4 < 4 := ⟨Int.lt_tmod_of_pos y (by decide), Int.tmod_lt_of_pos y (by decide)⟩
  have b2 : -100 < y.tmod 100 ∧ y.tmod 100 < 100 := ⟨Int.lt_tmod_of_pos y (by decide), Int.tmod_lt_of_pos y (by decide)⟩
  have b3 : -400 < y.tmod 400 ∧ y.tmod 400 < 400 := ⟨Int.lt_tmod_of_pos y (by decide), Int.tmod_lt_of_pos y (by decide)⟩
  by_cases e1 : y.tmod 4 = 0
  · have f1 : (y.tmod 4 = 0) = True := eq_true e1
    rw [decide_eq_true e1] at hr
    by_cases e2 : y.tmod 100 = 0
    · have f2 : (y.tmod 100 = 0) = True := eq_true e2
      rw [decide_eq_true e2] at hr
      by_cases e3 : y.tmod 400 = 0
      · have f3 : (y.tmod 400 = 0) = True := eq_true e3
        rw [decide_eq_true e3] at hr
        subst hr
        simp (config := { maxSteps := 1000000 }) (disch := ((try simp only [awL]); omega)) only [QR, QS, QT, QU, QV, QW, QX, QY, QZ, Q0, Q1, Q2, f1, f2, f3, Tryz.f17, ↓awU, awV, awF, Qa, Qb, Qc, Qd, forall_const, ↓reduceIte, ↓reduceDIte, ↓Qe, Qf, Qg, Qh, Qi, Qj, Qk, Ql, Qm, Qn, Qo, Qp, Qq, Qr, Qs, implies_true, Qt, Qu, Qv, Qw, Qx, Qy, Qz, QA, QB, QC, QD, QE, QF, QG, QH, QI, QJ, QK, QL, QM, QN, QO, QP, QQ]
        first | done | rfl | simp [f2, f3]
      · have f3 : (y.tmod 400 = 0) = False := eq_false e3
        rw [decide_eq_false e3] at hr
        subst hr
        simp (config := { maxSteps := 1000000 }) (disch := ((try simp only [awL]); omega)) only [QR, QS, QT, QU, QV, QW, QX, QY, QZ, Q0, Q1, Q2, f1, f2, f3, Tryz.f17, ↓awU, awV, awF, Qa, Qb, Qc, Qd, forall_const, ↓reduceIte, ↓reduceDIte, ↓Qe, Qf, Qg, Qh, Qi, Qj, Qk, Ql, Qm, Qn, Qo, Qp, Qq, Qr, Qs, implies_true, Qt, Qu, Qv, Qw, Qx, Qy, Qz, QA, QB, QC, QD, QE, QF, QG, QH, QI, QJ, QK, QL, QM, QN, QO, QP, QQ]
        first | done | rfl | simp [f2, f3]
    · have f2 : (y.tmod 100 = 0) = False := eq_false e2
      rw [decide_eq_false e2] at hr
      subst hr
      simp (config := { maxSteps := 1000000 }) (disch := ((try simp only [awL]); omega)) only [QR, QS, QT, QU, QV, QW, QX, QY, QZ, Q0, Q1, Q2, f1, f2, Tryz.f17, ↓awU, awV, awF, Qa, Qb, Qc, Qd, forall_const, ↓reduceIte, ↓reduceDIte, ↓Qe, Qf, Qg, Qh, Qi, Qj, Qk, Ql, Qm, Qn, Qo, Qp, Qq, Qr, Qs, implies_true, Qt, Qu, Qv, Qw, Qx, Qy, Qz, QA, QB, QC, QD, QE, QF, QG, QH, QI, QJ, QK, QL, QM, QN, QO, QP, QQ]
      first | done | rfl | simp [f2]
  · have f1 : (y.tmod 4 = 0) = False := eq_false e1
    rw [decide_eq_false e1] at hr
    subst hr
    simp (config := { maxSteps := 1000000 }) (disch := ((try simp only [awL]); omega)) only [QR, QS, QT, QU, QV, QW, QX, QY, QZ, Q0, Q1, Q2, f1, Tryz.f17, ↓awU, awV, awF, Qa, Qb, Qc, Qd, forall_const, ↓reduceIte, ↓reduceDIte, ↓Qe, Qf, Qg, Qh, Qi, Qj, Qk, Ql, Qm, Qn, Qo, Qp, Qq, Qr, Qs, implies_true, Qt, Qu, Qv, Qw, Qx, Qy, Qz, QA, QB, QC, QD, QE, QF, QG, QH, QI, QJ, QK, QL, QM, QN, QO, QP, QQ]
    first | done | rfl | simp [f1]
theorem rleap_spec (y : Int) (y1 : -9223372036854775808 ≤ y) (y2 : y ≤ 9223372036854775807) : Ctr Tryz.prog G 14 [.d (.int .i64 y)] [] (.d (.bool (leapB y))) [] := by
  refine Ctr.pure (M := M0) hmix Tryz.func14 rfl go14 ?_
  obtain ⟨r, hr⟩ : ∃ r, r = leapB y := ⟨_, rfl⟩
  rw [← hr]
  unfold leapB at hr
  have b1 : -4 < y.tmod 4 ∧ y.tmod 4 < 4 := ⟨Int.lt_tmod_of_pos y (by decide), Int.tmod_lt_of_pos y (by decide)⟩
  have b2 : -100 < y.tmod 100 ∧ y.tmod 100 < 100 := ⟨Int.lt_tmod_of_pos y (by decide), Int.tmod_lt_of_pos y (by decide)⟩
  have b3 : -400 < y.tmod 400 ∧ y.tmod 400 < 400 := ⟨Int.lt_tmod_of_pos y (by decide), Int.tmod_lt_of_pos y (by decide)⟩
  by_cases e1 : y.tmod 4 = 0
  · have f1 : (y.tmod 4 = 0) = True := eq_true e1
    rw [decide_eq_true e1] at hr
    by_cases e2 : y.tmod 100 = 0
    · have f2 : (y.tmod 100 = 0) = True := eq_true e2
      rw [decide_eq_true e2] at hr
      by_cases e3 : y.tmod 400 = 0
      · have f3 : (y.tmod 400 = 0) = True := eq_true e3
        rw [decide_eq_true e3] at hr
        subst hr
        simp (config := { maxSteps := 1000000 }) (disch := ((try simp only [awL]); omega)) only [QR, QS, QT, QU, QV, QW, QX, QY, QZ, Q0, Q1, Q2, f1, f2, f3, Tryz.f14, ↓awU, awV, awF, Qa, Qb, Qc, Qd, forall_const, ↓reduceIte, ↓reduceDIte, ↓Qe, Qf, Qg, Qh, Qi, Qj, Qk, Ql, Qm, Qn, Qo, Qp, Qq, Qr, Qs, implies_true, Qt, Qu, Qv, Qw, Qx, Qy, Qz, QA, QB, QC, QD, QE, QF, QG, QH, QI, QJ, QK, QL, QM, QN, QO, QP, QQ]
        first | done | rfl | simp [f2, f3]
      · have f3 : (y.tmod 400 = 0) = False := eq_false e3
        rw [decide_eq_false e3] at hr
        subst hr
        simp (config := { maxSteps := 1000000 }) (disch := ((try simp only [awL]); omega)) only [QR, QS, QT, QU, QV, QW, QX, QY, QZ, Q0, Q1, Q2, f1, f2, f3, Tryz.f14, ↓awU, awV, awF, Qa, Qb, Qc, Qd, forall_const, ↓reduceIte, ↓reduceDIte, ↓Qe, Qf, Qg, Qh, Qi, Qj, Qk, Ql, Qm, Qn, Qo, Qp, Qq, Qr, Qs, implies_true, Qt, Qu, Qv, Qw, Qx, Qy, Qz, QA, QB, QC, QD, QE, QF, QG, QH, QI, QJ, QK, QL, QM, QN, QO, QP, QQ]
        first | done | rfl | simp [f2, f3]
    · have f2 : (y.tmod 100 = 0) = False := eq_false e2
      rw [decide_eq_false e2] at hr
      subst hr
      simp (config := { maxSteps := 1000000 }) (disch := ((try simp only [awL]); omega)) only [QR, QS, QT, QU, QV, QW, QX, QY, QZ, Q0, Q1, Q2, f1, f2, Tryz.f14, ↓awU, awV, awF, Qa, Qb, Qc, Qd, forall_const, ↓reduceIte, ↓reduceDIte, ↓Qe, Qf, Qg, Qh, Qi, Qj, Qk, Ql, Qm, Qn, Qo, Qp, Qq, Qr, Qs, implies_true, Qt, Qu, Qv, Qw, Qx, Qy, Qz, QA, QB, QC, QD, QE, QF, QG, QH, QI, QJ, QK, QL, QM, QN, QO, QP, QQ]
      first | done | rfl | simp [f2]
  · have f1 : (y.tmod 4 = 0) = False := eq_false e1
    rw [decide_eq_false e1] at hr
    subst hr
    simp (config := { maxSteps := 1000000 }) (disch := ((try simp only [awL]); omega)) only [QR, QS, QT, QU, QV, QW, QX, QY, QZ, Q0, Q1, Q2, f1, Tryz.f14, ↓awU, awV, awF, Qa, Qb, Qc, Qd, forall_const, ↓reduceIte, ↓reduceDIte, ↓Qe, Qf, Qg, Qh, Qi, Qj, Qk, Ql, Qm, Qn, Qo, Qp, Qq, Qr, Qs, implies_true, Qt, Qu, Qv, Qw, Qx, Qy, Qz, QA, QB, QC, QD, QE, QF, QG, QH, QI, QJ, QK, QL, QM, QN, QO, QP, QQ]
    first | done | rfl | simp [f1]
set_option maxHeartbeats 1000000 in
theorem length_spec (y m : Int) (y1 : -9223372036854775808 ≤ y) (y2 : y ≤ 9223372036854775807) (m1 : -9223372036854775808 ≤ m) (m2 : m ≤ 9223372036854775807) : Ctr Tryz.prog G 11 [.d (.int .i64 y), .d (.int .i64 m)] [] (.d (.int .i64 (lenM y m))) [] := by
  refine Ctr.pure (M := M0) hmix Tryz.func11 rfl go11 ?_
  obtain ⟨r, hr⟩ : ∃ r, r = lenM y m := ⟨_, rfl⟩
  rw [← hr]
  unfold lenM at hr
  by_cases e1 : m = 2
  · subst e1
    rw [if_pos rfl] at hr
    simp (config := { maxSteps := 1000000 }) (disch := ((try simp only [awL]); omega)) only [QR, QS, QT, QU, QV, QW, QX, QY, QZ, Q0, Q1, Q2, Tryz.f11, ↓awU, awV, awF, Qa, Qb, Qc, Qd, forall_const, ↓reduceIte, ↓reduceDIte, ↓Qe, Qf, Qg, Qh, Qi, Qj, Qk, Ql, Qm, Qn, Qo, Qp, Qq, Qr, Qs, implies_true, Qt, Qu, Qv, Qw, Qx, Qy, Qz, QA, QB, QC, QD, QE, QF, QG, QH, QI, QJ, QK, QL, QM, QN, QO, QP, QQ]
    refine CallC.of (leap_spec y y1 y2) (by rfl) ?_
    cases e2 : leapB y
    · rw [e2, if_neg Bool.false_ne_true] at hr
      subst hr
      simp (config := { maxSteps := 1000000 }) (disch := ((try simp only [awL]); omega)) only [QR, QS, QT, QU, QV, QW, QX, QY, QZ, Q0, Q1, Q2, ↓awU, awV, awF, Qa, Qb, Qc, Qd, forall_const, ↓reduceIte, ↓reduceDIte, ↓Qe, Qf, Qg, Qh, Qi, Qj, Qk, Ql, Qm, Qn, Qo, Qp, Qq, Qr, Qs, implies_true, Qt, Qu, Qv, Qw, Qx, Qy, Qz, QA, QB, QC, QD, QE, QF, QG, QH, QI, QJ, QK, QL, QM, QN, QO, QP, QQ]
      first | done | rfl
    · rw [e2, if_pos rfl] at hr
      subst hr
      simp (config := { maxSteps := 1000000 }) (disch := ((try simp only [awL]); omega)) only [QR, QS, QT, QU, QV, QW, QX, QY, QZ, Q0, Q1, Q2, ↓awU, awV, awF, Qa, Qb, Qc, Qd, forall_const, ↓reduceIte, ↓reduceDIte, ↓Qe, Qf, Qg, Qh, Qi, Qj, Qk, Ql, Qm, Qn, Qo, Qp, Qq, Qr, Qs, implies_true, Qt, Qu, Qv, Qw, Qx, Qy, Qz, QA, QB, QC, QD, QE, QF, QG, QH, QI, QJ, QK, QL, QM, QN, QO, QP, QQ]
      first | done | rfl
  · have f1 : (m = 2) = False := eq_false e1
    rw [if_neg e1] at hr
    by_cases e4 : m = 4
    · subst e4; rw [if_pos (by omega)] at hr; subst hr
      simp (config := { maxSteps := 1000000 }) (disch := ((try simp only [awL]); omega)) only [QR, QS, QT, QU, QV, QW, QX, QY, QZ, Q0, Q1, Q2, Tryz.f11, ↓awU, awV, awF, Qa, Qb, Qc, Qd, forall_const, ↓reduceIte, ↓reduceDIte, ↓Qe, Qf, Qg, Qh, Qi, Qj, Qk, Ql, Qm, Qn, Qo, Qp, Qq, Qr, Qs, implies_true, Qt, Qu, Qv, Qw, Qx, Qy, Qz, QA, QB, QC, QD, QE, QF, QG, QH, QI, QJ, QK, QL, QM, QN, QO, QP, QQ]
      first | done | rfl
    by_cases e6 : m = 6
    · subst e6; rw [if_pos (by omega)] at hr; subst hr
      simp (config := { maxSteps := 1000000 }) (disch := ((try simp only [awL]); omega)) only [QR, QS, QT, QU, QV, QW, QX, QY, QZ, Q0, Q1, Q2, Tryz.f11, ↓awU, awV, awF, Qa, Qb, Qc, Qd, forall_const, ↓reduceIte, ↓reduceDIte, ↓Qe, Qf, Qg, Qh, Qi, Qj, Qk, Ql, Qm, Qn, Qo, Qp, Qq, Qr, Qs, implies_true, Qt, Qu, Qv, Qw, Qx, Qy, Qz, QA, QB, QC, QD, QE, QF, QG, QH, QI, QJ, QK, QL, QM, QN, QO, QP, QQ]
      first | done | rfl
    by_cases e9 : m = 9
    · subst e9; rw [if_pos (by omega)] at hr; subst hr
      simp (config := { maxSteps := 1000000 }) (disch := ((try simp only [awL]); omega)) only [QR, QS, QT, QU, QV, QW, QX, QY, QZ, Q0, Q1, Q2, Tryz.f11, ↓awU, awV, awF, Qa, Qb, Qc, Qd, forall_const, ↓reduceIte, ↓reduceDIte, ↓Qe, Qf, Qg, Qh, Qi, Qj, Qk, Ql, Qm, Qn, Qo, Qp, Qq, Qr, Qs, implies_true, Qt, Qu, Qv, Qw, Qx, Qy, Qz, QA, QB, QC, QD, QE, QF, QG, QH, QI, QJ, QK, QL, QM, QN, QO, QP, QQ]
      first | done | rfl
    by_cases e11 : m = 11
    · subst e11; rw [if_pos (by omega)] at hr; subst hr
      simp (config := { maxSteps := 1000000 }) (disch := ((try simp only [awL]); omega)) only [QR, QS, QT, QU, QV, QW, QX, QY, QZ, Q0, Q1, Q2, Tryz.f11, ↓awU, awV, awF, Qa, Qb, Qc, Qd, forall_const, ↓reduceIte, ↓reduceDIte, ↓Qe, Qf, Qg, Qh, Qi, Qj, Qk, Ql, Qm, Qn, Qo, Qp, Qq, Qr, Qs, implies_true, Qt, Qu, Qv, Qw, Qx, Qy, Qz, QA, QB, QC, QD, QE, QF, QG, QH, QI, QJ, QK, QL, QM, QN, QO, QP, QQ]
      first | done | rfl
    rw [if_neg (by omega)] at hr
    subst hr
    have f4 : (m = 4) = False := eq_false e4
    have f6 : (m = 6) = False := eq_false e6
    have f9 : (m = 9) = False := eq_false e9
    have f11 : (m = 11) = False := eq_false e11
    simp (config := { maxSteps := 1000000 }) (disch := ((try simp only [awL]); omega)) only [QR, QS, QT, QU, QV, QW, QX, QY, QZ, Q0, Q1, Q2, f1, f4, f6, f9, f11, Tryz.f11, ↓awU, awV, awF, Qa, Qb, Qc, Qd, forall_const, ↓reduceIte, ↓reduceDIte, ↓Qe, Qf, Qg, Qh, Qi, Qj, Qk, Ql, Qm, Qn, Qo, Qp, Qq, Qr, Qs, implies_true, Qt, Qu, Qv, Qw, Qx, Qy, Qz, QA, QB, QC, QD, QE, QF, QG, QH, QI, QJ, QK, QL, QM, QN, QO, QP, QQ]
    first | done | rfl
set_option maxHeartbeats 1000000 in
theorem rlength_spec (y m : Int) (y1 : -9223372036854775808 ≤ y) (y2 : y ≤ 9223372036854775807) (m1 : -9223372036854775808 ≤ m) (m2 : m ≤ 9223372036854775807) : Ctr Tryz.prog G 13 [.d (.int .i64 y), .d (.int .i64 m)] [] (.d (.int .i64 (lenM y m))) [] := by
  refine Ctr.pure (M := M0) hmix Tryz.func13 rfl go13 ?_
  obtain ⟨r, hr⟩ : ∃ r, r = lenM y m := ⟨_, rfl⟩
  rw [← hr]
  unfold lenM at hr
  by_cases e1 : m = 2
  · subst e1
    rw [if_pos rfl] at hr
    simp (config := { maxSteps := 1000000 }) (disch := ((try simp only [awL]); omega)) only [QR, QS, QT, QU, QV, QW, QX, QY, QZ, Q0, Q1, Q2, Tryz.f13, ↓awU, awV, awF, Qa, Qb, Qc, Qd, forall_const, ↓reduceIte, ↓reduceDIte, ↓Qe, Qf, Qg, Qh, Qi, Qj, Qk, Ql, Qm, Qn, Qo, Qp, Qq, Qr, Qs, implies_true, Qt, Qu, Qv, Qw, Qx, Qy, Qz, QA, QB, QC, QD, QE, QF, QG, QH, QI, QJ, QK, QL, QM, QN, QO, QP, QQ]
    refine CallC.of (rleap_spec y y1 y2) (by rfl) ?_
    cases e2 : leapB y
    · rw [e2, if_neg Bool.false_ne_true] at hr
      subst hr
      simp (config := { maxSteps := 1000000 }) (disch := ((try simp only [awL]); omega)) only [QR, QS, QT, QU, QV, QW, QX, QY, QZ, Q0, Q1, Q2, ↓awU, awV, awF, Qa, Qb, Qc, Qd, forall_const, ↓reduceIte, ↓reduceDIte, ↓Qe, Qf, Qg, Qh, Qi, Qj, Qk, Ql, Qm, Qn, Qo, Qp, Qq, Qr, Qs, implies_true, Qt, Qu, Qv, Qw, Qx, Qy, Qz, QA, QB, QC, QD, QE, QF, QG, QH, QI, QJ, QK, QL, QM, QN, QO, QP, QQ]
      first | done | rfl
    · rw [e2, if_pos rfl] at hr
      subst hr
      simp (config := { maxSteps := 1000000 }) (disch := ((try simp only [awL]); omega)) only [QR, QS, QT, QU, QV, QW, QX, QY, QZ, Q0, Q1, Q2, ↓awU, awV, awF, Qa, Qb, Qc, Qd, forall_const, ↓reduceIte, ↓reduceDIte, ↓Qe, Qf, Qg, Qh, Qi, Qj, Qk, Ql, Qm, Qn, Qo, Qp, Qq, Qr, Qs, implies_true, Qt, Qu, Qv, Qw, Qx, Qy, Qz, QA, QB, QC, QD, QE, QF, QG, QH, QI, QJ, QK, QL, QM, QN, QO, QP, QQ]
      first | done | rfl
  · have f1 : (m = 2) = False := eq_false e1
    rw [if_neg e1] at hr
    by_cases e4 : m = 4
    · subst e4; rw [if_pos (by omega)] at hr; subst hr
      simp (config := { maxSteps := 1000000 }) (disch := ((try simp only [awL]); omega)) only [QR, QS, QT, QU, QV, QW, QX, QY, QZ, Q0, Q1, Q2, Tryz.f13, ↓awU, awV, awF, Qa, Qb, Qc, Qd, forall_const, ↓reduceIte, ↓reduceDIte, ↓Qe, Qf, Qg, Qh, Qi, Qj, Qk, Ql, Qm, Qn, Qo, Qp, Qq, Qr, Qs, implies_true, Qt, Qu, Qv, Qw, Qx, Qy, Qz, QA, QB, QC, QD, QE, QF, QG, QH, QI, QJ, QK, QL, QM, QN, QO, QP, QQ]
      first | done | rfl
    by_cases e6 : m = 6
    · subst e6; rw [if_pos (by omega)] at hr; subst hr
      simp (config := { maxSteps := 1000000 }) (disch := ((try simp only [awL]); omega)) only [QR, QS, QT, QU, QV, QW, QX, QY, QZ, Q0, Q1, Q2, Tryz.f13, ↓awU, awV, awF, Qa, Qb, Qc, Qd, forall_const, ↓reduceIte, ↓reduceDIte, ↓Qe, Qf, Qg, Qh, Qi, Qj, Qk, Ql, Qm, Qn, Qo, Qp, Qq, Qr, Qs, implies_true, Qt, Qu, Qv, Qw, Qx, Qy, Qz, QA, QB, QC, QD, QE, QF, QG, QH, QI, QJ, QK, QL, QM, QN, QO, QP, QQ]
      first | done | rfl
    by_cases e9 : m = 9
    · subst e9; rw [if_pos (by omega)] at hr; subst hr
      simp (config := { maxSteps := 1000000 }) (disch := ((try simp only [awL]); omega)) only [QR, QS, QT, QU, QV, QW, QX, QY, QZ, Q0, Q1, Q2, Tryz.f13, ↓awU, awV, awF, Qa, Qb, Qc, Qd, forall_const, ↓reduceIte, ↓reduceDIte, ↓Qe, Qf, Qg, Qh, Qi, Qj, Qk, Ql, Qm, Qn, Qo, Qp, Qq, Qr, Qs, implies_true, Qt, Qu, Qv, Qw, Qx, Qy, Qz, QA, QB, QC, QD, QE, QF, QG, QH, QI, QJ, QK, QL, QM, QN, QO, QP, QQ]
      first | done | rfl
    by_cases e11 : m = 11
    · subst e11; rw [if_pos (by omega)] at hr; subst hr
      simp (config := { maxSteps := 1000000 }) (disch := ((try simp only [awL]); omega)) only [QR, QS, QT, QU, QV, QW, QX, QY, QZ, Q0, Q1, Q2, Tryz.f13, ↓awU, awV, awF, Qa, Qb, Qc, Qd, forall_const, ↓reduceIte, ↓reduceDIte, ↓Qe, Qf, Qg, Qh, Qi, Qj, Qk, Ql, Qm, Qn, Qo, Qp, Qq, Qr, Qs, implies_true, Qt, Qu, Qv, Qw, Qx, Qy, Qz, QA, QB, QC, QD, QE, QF, QG, QH, QI, QJ, QK, QL, QM, QN, QO, QP, QQ]
      first | done | rfl
    rw [if_neg (by omega)] at hr
    subst hr
    have f4 : (m = 4) = False := eq_false e4
    have f6 : (m = 6) = False := eq_false e6
    have f9 : (m = 9) = False := eq_false e9
    have f11 : (m = 11) = False := eq_false e11
    simp (config := { maxSteps := 1000000 }) (disch := ((try simp only [awL]); omega)) only [QR, QS, QT, QU, QV, QW, QX, QY, QZ, Q0, Q1, Q2, f1, f4, f6, f9, f11, Tryz.f13, ↓awU, awV, awF, Qa, Qb, Qc, Qd, forall_const, ↓reduceIte, ↓reduceDIte, ↓Qe, Qf, Qg, Qh, Qi, Qj, Qk, Ql, Qm, Qn, Qo, Qp, Qq, Qr, Qs, implies_true, Qt, Qu, Qv, Qw, Qx, Qy, Qz, QA, QB, QC, QD, QE, QF, QG, QH, QI, QJ, QK, QL, QM, QN, QO, QP, QQ]
    first | done | rfl
theorem began_spec (y : Int) (y1 : 1 ≤ y) (y2 : y ≤ 100000) : Ctr Tryz.prog G 12 [.d (.int .i64 y)] [] (.d (.int .i64 (bgn y))) [] := by
  refine Ctr.pure (M := M0) hmix Tryz.func12 rfl go12 ?_
  have d1 : (y - 1).tdiv 4 = (y - 1) / 4 := tdiv_pos _ (by omega)
  have d2 : (y - 1).tdiv 100 = (y - 1) / 100 := tdiv_pos _ (by omega)
  have d3 : (y - 1).tdiv 400 = (y - 1) / 400 := tdiv_pos _ (by omega)
  rw [bgn_eq y1]
  simp (config := { maxSteps := 1000000 }) (disch := ((try simp only [awL]); omega)) only [QR, QS, QT, QU, QV, QW, QX, QY, QZ, Q0, Q1, Q2, d1, d2, d3, Tryz.f12, ↓awU, awV, awF, Qa, Qb, Qc, Qd, forall_const, ↓reduceIte, ↓reduceDIte, ↓Qe, Qf, Qg, Qh, Qi, Qj, Qk, Ql, Qm, Qn, Qo, Qp, Qq, Qr, Qs, implies_true, Qt, Qu, Qv, Qw, Qx, Qy, Qz, QA, QB, QC, QD, QE, QF, QG, QH, QI, QJ, QK, QL, QM, QN, QO, QP, QQ]
  first | done | rfl
def dayV (y m d : Int) : Int := if okDt y m d = true then dayN y m d else 0
theorem bgn_le {y : Int} (h1 : 1 ≤ y) (h2 : y ≤ 10000) : 0 ≤ bgn y ∧ bgn y ≤ 3700000 := by
  rw [bgn_eq h1]; omega
end Go.Proofs.YtjecgoddmkaboaaGreatDoor

namespace Go.Proofs.YtjecgoddmkaboaaGreatDoor
open Go Go.Proofs Go.Abs
variable {G : Globals}
/-! Day and Date. -/
set_option maxHeartbeats 4000000 in
theorem day_spec (y m d : Int) (y1 : -9223372036854775808 ≤ y) (y2 : y ≤ 9223372036854775807) (m1 : -9223372036854775808 ≤ m) (m2 : m ≤ 9223372036854775807) (d1 : -9223372036854775808 ≤ d) (d2 : d ≤ 9223372036854775807) :
    Ctr Tryz.prog G 6 [.d (.int .i64 y), .d (.int .i64 m), .d (.int .i64 d)] [] (.d (.tup [.int .i64 (dayV y m d), .bool (okDt y m d)])) [] := by
  refine Ctr.pure (M := M0) hmix Tryz.func6 rfl go6 ?_
  have lp := lenM_pos y m
  by_cases ok : 1 ≤ y ∧ y ≤ 9999 ∧ 1 ≤ m ∧ m ≤ 12 ∧ 1 ≤ d ∧ d ≤ lenM y m
  · have okd : okDt y m d = true := decide_eq_true ok
    have dv : dayV y m d = dayN y m d := by unfold dayV; rw [if_pos okd]
    rw [okd, dv]
    obtain ⟨o1, o2, o3, o4, o5, o6⟩ := ok
    have bl := bgn_le o1 (by omega)
    obtain ⟨k, hk, hk2⟩ : ∃ k : Nat, m = (k + 1 : Nat) ∧ k ≤ 11 := ⟨(m - 1).toNat, by omega, by omega⟩
    have ml := monS_le y k
    have e0 : dayN y m d = bgn y + monS y k + d - 1 - 719162 := by unfold dayN; rw [show (m - 1).toNat = k by omega]
    rw [e0]
    simp (config := { maxSteps := 1000000 }) (disch := ((try simp only [awL]); omega)) only [QR, QS, QT, QU, QV, QW, QX, QY, QZ, Q0, Q1, Q2, Tryz.f6, ↓awU, awV, awF, Qa, Qb, Qc, Qd, forall_const, ↓reduceIte, ↓reduceDIte, ↓Qe, Qf, Qg, Qh, Qi, Qj, Qk, Ql, Qm, Qn, Qo, Qp, Qq, Qr, Qs, implies_true, Qt, Qu, Qv, Qw, Qx, Qy, Qz, QA, QB, QC, QD, QE, QF, QG, QH, QI, QJ, QK, QL, QM, QN, QO, QP, QQ]
    refine CallC.of (length_spec y m y1 y2 m1 m2) (by rfl) ?_
    simp (config := { maxSteps := 1000000 }) (disch := ((try simp only [awL]); omega)) only [QR, QS, QT, QU, QV, QW, QX, QY, QZ, Q0, Q1, Q2, ↓awU, awV, awF, Qa, Qb, Qc, Qd, forall_const, ↓reduceIte, ↓reduceDIte, ↓Qe, Qf, Qg, Qh, Qi, Qj, Qk, Ql, Qm, Qn, Qo, Qp, Qq, Qr, Qs, implies_true, Qt, Qu, Qv, Qw, Qx, Qy, Qz, QA, QB, QC, QD, QE, QF, QG, QH, QI, QJ, QK, QL, QM, QN, QO, QP, QQ]
    refine CallC.of (began_spec y o1 (by omega)) (by rfl) ?_
    simp (config := { maxSteps := 1000000 }) (disch := ((try simp only [awL]); omega)) only [QR, QS, QT, QU, QV, QW, QX, QY, QZ, Q0, Q1, Q2, ↓awU, awV, awF, Qa, Qb, Qc, Qd, forall_const, ↓reduceIte, ↓reduceDIte, ↓Qe, Qf, Qg, Qh, Qi, Qj, Qk, Ql, Qm, Qn, Qo, Qp, Qq, Qr, Qs, implies_true, Qt, Qu, Qv, Qw, Qx, Qy, Qz, QA, QB, QC, QD, QE, QF, QG, QH, QI, QJ, QK, QL, QM, QN, QO, QP, QQ]
    refine LoopC.fr 3 (α := Nat) (fun i => k - i) (fun i => [(8, .d (.int .i64 (bgn y + d - 1 + monS y i))), (9, .d (.int .i64 (i + 1 : Nat)))]) (fun _ => []) (fun i => i ≤ k) 0 (Nat.zero_le _) ?_ ?_
    · exact ⟨[], rfl, by simp, by simp [setsA, keepA, SWeak, AWeak, monS], by simp [HWeak, BWeak, SWeak, AWeak]⟩
    · intro i hi
      have mi := monS_le y i
      have ms : monS y (i + 1) = monS y i + lenM y (i + 1 : Nat) := rfl
      have mi2 := monS_le y (i + 1)
      simp only [awK, Nat.reduceMod, Nat.reduceDiv, reduceIte]
      rcases Nat.lt_or_ge i k with h | h
      · simp (config := { maxSteps := 1000000 }) (disch := ((try simp only [awL]); omega)) only [QR, QS, QT, QU, QV, QW, QX, QY, QZ, Q0, Q1, Q2, ↓awU, awV, awF, Qa, Qb, Qc, Qd, forall_const, ↓reduceIte, ↓reduceDIte, ↓Qe, Qf, Qg, Qh, Qi, Qj, Qk, Ql, Qm, Qn, Qo, Qp, Qq, Qr, Qs, implies_true, Qt, Qu, Qv, Qw, Qx, Qy, Qz, QA, QB, QC, QD, QE, QF, QG, QH, QI, QJ, QK, QL, QM, QN, QO, QP, QQ]
        refine CallC.of (length_spec y ((i + 1 : Nat) : Int) y1 y2 (by omega) (by omega)) (by rfl) ?_
        have e1 : bgn y + d - 1 + monS y i + lenM y ((i + 1 : Nat) : Int) = bgn y + d - 1 + monS y (i + 1) := by omega
        have l2 := lenM_pos y ((i + 1 : Nat) : Int)
        simp (config := { maxSteps := 1000000 }) (disch := ((try simp only [awL]); omega)) only [QR, QS, QT, QU, QV, QW, QX, QY, QZ, Q0, Q1, Q2, e1, ↓awU, awV, awF, Qa, Qb, Qc, Qd, forall_const, ↓reduceIte, ↓reduceDIte, ↓Qe, Qf, Qg, Qh, Qi, Qj, Qk, Ql, Qm, Qn, Qo, Qp, Qq, Qr, Qs, implies_true, Qt, Qu, Qv, Qw, Qx, Qy, Qz, QA, QB, QC, QD, QE, QF, QG, QH, QI, QJ, QK, QL, QM, QN, QO, QP, QQ]
        first
        | exact ⟨i + 1, h, by simp only; omega, ⟨[], rfl, by simp, by simp [setsA, keepA, SWeak, AWeak], by simp [HWeak, BWeak, SWeak, AWeak]⟩⟩
      · have e : i = k := by omega
        subst e
        have e2 : bgn y + d - 1 + monS y i - 719162 = bgn y + monS y i + d - 1 - 719162 := by omega
        simp (config := { maxSteps := 1000000 }) (disch := ((try simp only [awL]); omega)) only [QR, QS, QT, QU, QV, QW, QX, QY, QZ, Q0, Q1, Q2, e2, ↓awU, awV, awF, Qa, Qb, Qc, Qd, forall_const, ↓reduceIte, ↓reduceDIte, ↓Qe, Qf, Qg, Qh, Qi, Qj, Qk, Ql, Qm, Qn, Qo, Qp, Qq, Qr, Qs, implies_true, Qt, Qu, Qv, Qw, Qx, Qy, Qz, QA, QB, QC, QD, QE, QF, QG, QH, QI, QJ, QK, QL, QM, QN, QO, QP, QQ]
        first | done | rfl
  · have okd : okDt y m d = false := decide_eq_false ok
    have dv : dayV y m d = 0 := by unfold dayV; rw [okd]; rfl
    rw [okd, dv]
    by_cases o1 : 1 ≤ y
    · by_cases o2 : y ≤ 9999
      · by_cases o3 : 1 ≤ m
        · by_cases o4 : m ≤ 12
          · by_cases o5 : 1 ≤ d
            · have o6 : ¬ d ≤ lenM y m := fun q => ok ⟨o1, o2, o3, o4, o5, q⟩
              simp (config := { maxSteps := 1000000 }) (disch := ((try simp only [awL]); omega)) only [QR, QS, QT, QU, QV, QW, QX, QY, QZ, Q0, Q1, Q2, Tryz.f6, ↓awU, awV, awF, Qa, Qb, Qc, Qd, forall_const, ↓reduceIte, ↓reduceDIte, ↓Qe, Qf, Qg, Qh, Qi, Qj, Qk, Ql, Qm, Qn, Qo, Qp, Qq, Qr, Qs, implies_true, Qt, Qu, Qv, Qw, Qx, Qy, Qz, QA, QB, QC, QD, QE, QF, QG, QH, QI, QJ, QK, QL, QM, QN, QO, QP, QQ]
              refine CallC.of (length_spec y m y1 y2 m1 m2) (by rfl) ?_
              simp (config := { maxSteps := 1000000 }) (disch := ((try simp only [awL]); omega)) only [QR, QS, QT, QU, QV, QW, QX, QY, QZ, Q0, Q1, Q2, ↓awU, awV, awF, Qa, Qb, Qc, Qd, forall_const, ↓reduceIte, ↓reduceDIte, ↓Qe, Qf, Qg, Qh, Qi, Qj, Qk, Ql, Qm, Qn, Qo, Qp, Qq, Qr, Qs, implies_true, Qt, Qu, Qv, Qw, Qx, Qy, Qz, QA, QB, QC, QD, QE, QF, QG, QH, QI, QJ, QK, QL, QM, QN, QO, QP, QQ]
              first | done | rfl
            · simp (config := { maxSteps := 1000000 }) (disch := ((try simp only [awL]); omega)) only [QR, QS, QT, QU, QV, QW, QX, QY, QZ, Q0, Q1, Q2, Tryz.f6, ↓awU, awV, awF, Qa, Qb, Qc, Qd, forall_const, ↓reduceIte, ↓reduceDIte, ↓Qe, Qf, Qg, Qh, Qi, Qj, Qk, Ql, Qm, Qn, Qo, Qp, Qq, Qr, Qs, implies_true, Qt, Qu, Qv, Qw, Qx, Qy, Qz, QA, QB, QC, QD, QE, QF, QG, QH, QI, QJ, QK, QL, QM, QN, QO, QP, QQ]
              first | done | rfl
          · simp (config := { maxSteps := 1000000 }) (disch := ((try simp only [awL]); omega)) only [QR, QS, QT, QU, QV, QW, QX, QY, QZ, Q0, Q1, Q2, Tryz.f6, ↓awU, awV, awF, Qa, Qb, Qc, Qd, forall_const, ↓reduceIte, ↓reduceDIte, ↓Qe, Qf, Qg, Qh, Qi, Qj, Qk, Ql, Qm, Qn, Qo, Qp, Qq, Qr, Qs, implies_true, Qt, Qu, Qv, Qw, Qx, Qy, Qz, QA, QB, QC, QD, QE, QF, QG, QH, QI, QJ, QK, QL, QM, QN, QO, QP, QQ]
            first | done | rfl
        · simp (config := { maxSteps := 1000000 }) (disch := ((try simp only [awL]); omega)) only [QR, QS, QT, QU, QV, QW, QX, QY, QZ, Q0, Q1, Q2, Tryz.f6, ↓awU, awV, awF, Qa, Qb, Qc, Qd, forall_const, ↓reduceIte, ↓reduceDIte, ↓Qe, Qf, Qg, Qh, Qi, Qj, Qk, Ql, Qm, Qn, Qo, Qp, Qq, Qr, Qs, implies_true, Qt, Qu, Qv, Qw, Qx, Qy, Qz, QA, QB, QC, QD, QE, QF, QG, QH, QI, QJ, QK, QL, QM, QN, QO, QP, QQ]
          first | done | rfl
      · simp (config := { maxSteps := 1000000 }) (disch := ((try simp only [awL]); omega)) only [QR, QS, QT, QU, QV, QW, QX, QY, QZ, Q0, Q1, Q2, Tryz.f6, ↓awU, awV, awF, Qa, Qb, Qc, Qd, forall_const, ↓reduceIte, ↓reduceDIte, ↓Qe, Qf, Qg, Qh, Qi, Qj, Qk, Ql, Qm, Qn, Qo, Qp, Qq, Qr, Qs, implies_true, Qt, Qu, Qv, Qw, Qx, Qy, Qz, QA, QB, QC, QD, QE, QF, QG, QH, QI, QJ, QK, QL, QM, QN, QO, QP, QQ]
        first | done | rfl
    · simp (config := { maxSteps := 1000000 }) (disch := ((try simp only [awL]); omega)) only [QR, QS, QT, QU, QV, QW, QX, QY, QZ, Q0, Q1, Q2, Tryz.f6, ↓awU, awV, awF, Qa, Qb, Qc, Qd, forall_const, ↓reduceIte, ↓reduceDIte, ↓Qe, Qf, Qg, Qh, Qi, Qj, Qk, Ql, Qm, Qn, Qo, Qp, Qq, Qr, Qs, implies_true, Qt, Qu, Qv, Qw, Qx, Qy, Qz, QA, QB, QC, QD, QE, QF, QG, QH, QI, QJ, QK, QL, QM, QN, QO, QP, QQ]
      first | done | rfl
set_option maxHeartbeats 4000000 in
theorem rday_spec (y m d : Int) (y1 : -9223372036854775808 ≤ y) (y2 : y ≤ 9223372036854775807) (m1 : -9223372036854775808 ≤ m) (m2 : m ≤ 9223372036854775807) (d1 : -9223372036854775808 ≤ d) (d2 : d ≤ 9223372036854775807) :
    Ctr Tryz.prog G 7 [.d (.int .i64 y), .d (.int .i64 m), .d (.int .i64 d)] [] (.d (.tup [.int .i64 (dayV y m d), .bool (okDt y m d)])) [] := by
  refine Ctr.pure (M := M0) hmix Tryz.func7 rfl go7 ?_
  have lp := lenM_pos y m
  by_cases ok : 1 ≤ y ∧ y ≤ 9999 ∧ 1 ≤ m ∧ m ≤ 12 ∧ 1 ≤ d ∧ d ≤ lenM y m
  · have okd : okDt y m d = true := decide_eq_true ok
    have dv : dayV y m d = dayN y m d := by unfold dayV; rw [if_pos okd]
    rw [okd, dv]
    obtain ⟨o1, o2, o3, o4, o5, o6⟩ := ok
    have bl := bgn_le o1 (by omega)
    obtain ⟨k, hk, hk2⟩ : ∃ k : Nat, m = (k + 1 : Nat) ∧ k ≤ 11 := ⟨(m - 1).toNat, by omega, by omega⟩
    have ml := monS_le y k
    have e0 : dayN y m d = bgn y + monS y k + d - 1 - 719162 := by unfold dayN; rw [show (m - 1).toNat = k by omega]
    rw [e0]
    simp (config := { maxSteps := 1000000 }) (disch := ((try simp only [awL]); omega)) only [QR, QS, QT, QU, QV, QW, QX, QY, QZ, Q0, Q1, Q2, Tryz.f7, ↓awU, awV, awF, Qa, Qb, Qc, Qd, forall_const, ↓reduceIte, ↓reduceDIte, ↓Qe, Qf, Qg, Qh, Qi, Qj, Qk, Ql, Qm, Qn, Qo, Qp, Qq, Qr, Qs, implies_true, Qt, Qu, Qv, Qw, Qx, Qy, Qz, QA, QB, QC, QD, QE, QF, QG, QH, QI, QJ, QK, QL, QM, QN, QO, QP, QQ]
    refine CallC.of (rlength_spec y m y1 y2 m1 m2) (by rfl) ?_
    simp (config := { maxSteps := 1000000 }) (disch := ((try simp only [awL]); omega)) only [QR, QS, QT, QU, QV, QW, QX, QY, QZ, Q0, Q1, Q2, ↓awU, awV, awF, Qa, Qb, Qc, Qd, forall_const, ↓reduceIte, ↓reduceDIte, ↓Qe, Qf, Qg, Qh, Qi, Qj, Qk, Ql, Qm, Qn, Qo, Qp, Qq, Qr, Qs, implies_true, Qt, Qu, Qv, Qw, Qx, Qy, Qz, QA, QB, QC, QD, QE, QF, QG, QH, QI, QJ, QK, QL, QM, QN, QO, QP, QQ]
    refine LoopC.fx 7 (α := Nat) (β := Unit) (fun i => y.toNat - i) (fun i => [(8, .d (.int .i64 (bgn (i + 1 : Nat)))), (9, .d (.int .i64 (i + 1 : Nat)))]) (fun _ => []) (fun i => ((i + 1 : Nat) : Int) ≤ y) 7 (fun _ => [(8, .d (.int .i64 (bgn y)))]) (fun _ => []) (fun _ => True) 0 (by omega) ?_ ?_ ?_
    · exact ⟨[], rfl, by simp, by simp [setsA, keepA, SWeak, AWeak, bgn_one], by simp [HWeak, BWeak, SWeak, AWeak]⟩
    · intro i hi
      have bi := bgn_le (y := ((i + 1 : Nat) : Int)) (by omega) (by omega)
      have bs := bgn_succ (y := ((i + 1 : Nat) : Int)) (by omega)
      unfold yrL at bs
      have c1 : ((i + 1 : Nat) : Int) + 1 = ((i + 1 + 1 : Nat) : Int) := by omega
      rw [c1] at bs
      simp only [awK, Nat.reduceMod, Nat.reduceDiv, reduceIte]
      by_cases h : ((i + 1 : Nat) : Int) < y
      · simp (config := { maxSteps := 1000000 }) (disch := ((try simp only [awL]); omega)) only [QR, QS, QT, QU, QV, QW, QX, QY, QZ, Q0, Q1, Q2, ↓awU, awV, awF, Qa, Qb, Qc, Qd, forall_const, ↓reduceIte, ↓reduceDIte, ↓Qe, Qf, Qg, Qh, Qi, Qj, Qk, Ql, Qm, Qn, Qo, Qp, Qq, Qr, Qs, implies_true, Qt, Qu, Qv, Qw, Qx, Qy, Qz, QA, QB, QC, QD, QE, QF, QG, QH, QI, QJ, QK, QL, QM, QN, QO, QP, QQ]
        refine CallC.of (rleap_spec ((i + 1 : Nat) : Int) (by omega) (by omega)) (by rfl) ?_
        cases lb : leapB ((i + 1 : Nat) : Int)
        · rw [lb, if_neg Bool.false_ne_true] at bs
          have e1 : bgn ((i + 1 : Nat) : Int) + 365 = bgn ((i + 1 + 1 : Nat) : Int) := bs.symm
          simp (config := { maxSteps := 1000000 }) (disch := ((try simp only [awL]); omega)) only [QR, QS, QT, QU, QV, QW, QX, QY, QZ, Q0, Q1, Q2, e1, ↓awU, awV, awF, Qa, Qb, Qc, Qd, forall_const, ↓reduceIte, ↓reduceDIte, ↓Qe, Qf, Qg, Qh, Qi, Qj, Qk, Ql, Qm, Qn, Qo, Qp, Qq, Qr, Qs, implies_true, Qt, Qu, Qv, Qw, Qx, Qy, Qz, QA, QB, QC, QD, QE, QF, QG, QH, QI, QJ, QK, QL, QM, QN, QO, QP, QQ]
          first
          | exact ⟨i + 1, by omega, by simp only; omega, ⟨[], rfl, by simp, by simp [setsA, keepA, SWeak, AWeak], by simp [HWeak, BWeak, SWeak, AWeak]⟩⟩
        · rw [lb, if_pos rfl] at bs
          have e1 : bgn ((i + 1 : Nat) : Int) + 365 + 1 = bgn ((i + 1 + 1 : Nat) : Int) := by omega
          simp (config := { maxSteps := 1000000 }) (disch := ((try simp only [awL]); omega)) only [QR, QS, QT, QU, QV, QW, QX, QY, QZ, Q0, Q1, Q2, e1, ↓awU, awV, awF, Qa, Qb, Qc, Qd, forall_const, ↓reduceIte, ↓reduceDIte, ↓Qe, Qf, Qg, Qh, Qi, Qj, Qk, Ql, Qm, Qn, Qo, Qp, Qq, Qr, Qs, implies_true, Qt, Qu, Qv, Qw, Qx, Qy, Qz, QA, QB, QC, QD, QE, QF, QG, QH, QI, QJ, QK, QL, QM, QN, QO, QP, QQ]
          first
          | exact ⟨i + 1, by omega, by simp only; omega, ⟨[], rfl, by simp, by simp [setsA, keepA, SWeak, AWeak], by simp [HWeak, BWeak, SWeak, AWeak]⟩⟩
      · have e : ((i + 1 : Nat) : Int) = y := by omega
        rw [e] at bi
        simp (config := { maxSteps := 1000000 }) (disch := ((try simp only [awL]); omega)) only [QR, QS, QT, QU, QV, QW, QX, QY, QZ, Q0, Q1, Q2, ↓awU, awV, awF, Qa, Qb, Qc, Qd, forall_const, ↓reduceIte, ↓reduceDIte, ↓Qe, Qf, Qg, Qh, Qi, Qj, Qk, Ql, Qm, Qn, Qo, Qp, Qq, Qr, Qs, implies_true, Qt, Qu, Qv, Qw, Qx, Qy, Qz, QA, QB, QC, QD, QE, QF, QG, QH, QI, QJ, QK, QL, QM, QN, QO, QP, QQ]
        first
        | (refine ⟨(), trivial, ?_⟩; rw [e]; exact ⟨[], rfl, by simp, by simp [setsA, keepA, SWeak, AWeak], by simp [HWeak, BWeak, SWeak, AWeak]⟩)
    rintro ⟨⟩ -
    simp only [awK, Nat.reduceMod, Nat.reduceDiv, reduceIte]
    simp (config := { maxSteps := 1000000 }) (disch := ((try simp only [awL]); omega)) only [QR, QS, QT, QU, QV, QW, QX, QY, QZ, Q0, Q1, Q2, ↓awU, awV, awF, Qa, Qb, Qc, Qd, forall_const, ↓reduceIte, ↓reduceDIte, ↓Qe, Qf, Qg, Qh, Qi, Qj, Qk, Ql, Qm, Qn, Qo, Qp, Qq, Qr, Qs, implies_true, Qt, Qu, Qv, Qw, Qx, Qy, Qz, QA, QB, QC, QD, QE, QF, QG, QH, QI, QJ, QK, QL, QM, QN, QO, QP, QQ]
    refine LoopC.fr 7 (α := Nat) (fun i => k - i) (fun i => [(8, .d (.int .i64 (bgn y + monS y i))), (10, .d (.int .i64 (i + 1 : Nat)))]) (fun _ => []) (fun i => i ≤ k) 0 (Nat.zero_le _) ?_ ?_
    · exact ⟨[], rfl, by simp, by simp [setsA, keepA, SWeak, AWeak, monS], by simp [HWeak, BWeak, SWeak, AWeak]⟩
    · intro i hi
      have mi := monS_le y i
      have ms : monS y (i + 1) = monS y i + lenM y (i + 1 : Nat) := rfl
      have mi2 := monS_le y (i + 1)
      simp only [awK, Nat.reduceMod, Nat.reduceDiv, reduceIte]
      rcases Nat.lt_or_ge i k with h | h
      · simp (config := { maxSteps := 1000000 }) (disch := ((try simp only [awL]); omega)) only [QR, QS, QT, QU, QV, QW, QX, QY, QZ, Q0, Q1, Q2, ↓awU, awV, awF, Qa, Qb, Qc, Qd, forall_const, ↓reduceIte, ↓reduceDIte, ↓Qe, Qf, Qg, Qh, Qi, Qj, Qk, Ql, Qm, Qn, Qo, Qp, Qq, Qr, Qs, implies_true, Qt, Qu, Qv, Qw, Qx, Qy, Qz, QA, QB, QC, QD, QE, QF, QG, QH, QI, QJ, QK, QL, QM, QN, QO, QP, QQ]
        refine CallC.of (rlength_spec y ((i + 1 : Nat) : Int) y1 y2 (by omega) (by omega)) (by rfl) ?_
        have e1 : bgn y + monS y i + lenM y ((i + 1 : Nat) : Int) = bgn y + monS y (i + 1) := by omega
        have l2 := lenM_pos y ((i + 1 : Nat) : Int)
        simp (config := { maxSteps := 1000000 }) (disch := ((try simp only [awL]); omega)) only [QR, QS, QT, QU, QV, QW, QX, QY, QZ, Q0, Q1, Q2, e1, ↓awU, awV, awF, Qa, Qb, Qc, Qd, forall_const, ↓reduceIte, ↓reduceDIte, ↓Qe, Qf, Qg, Qh, Qi, Qj, Qk, Ql, Qm, Qn, Qo, Qp, Qq, Qr, Qs, implies_true, Qt, Qu, Qv, Qw, Qx, Qy, Qz, QA, QB, QC, QD, QE, QF, QG, QH, QI, QJ, QK, QL, QM, QN, QO, QP, QQ]
        first
        | exact ⟨i + 1, h, by simp only; omega, ⟨[], rfl, by simp, by simp [setsA, keepA, SWeak, AWeak], by simp [HWeak, BWeak, SWeak, AWeak]⟩⟩
      · have e : i = k := by omega
        subst e
        have e2 : bgn y + monS y i + d - 1 - 719162 = bgn y + monS y i + d - 1 - 719162 := rfl
        simp (config := { maxSteps := 1000000 }) (disch := ((try simp only [awL]); omega)) only [QR, QS, QT, QU, QV, QW, QX, QY, QZ, Q0, Q1, Q2, e2, ↓awU, awV, awF, Qa, Qb, Qc, Qd, forall_const, ↓reduceIte, ↓reduceDIte, ↓Qe, Qf, Qg, Qh, Qi, Qj, Qk, Ql, Qm, Qn, Qo, Qp, Qq, Qr, Qs, implies_true, Qt, Qu, Qv, Qw, Qx, Qy, Qz, QA, QB, QC, QD, QE, QF, QG, QH, QI, QJ, QK, QL, QM, QN, QO, QP, QQ]
        first | done | rfl
  · have okd : okDt y m d = false := decide_eq_false ok
    have dv : dayV y m d = 0 := by unfold dayV; rw [okd]; rfl
    rw [okd, dv]
    by_cases o1 : 1 ≤ y
    · by_cases o2 : y ≤ 9999
      · by_cases o3 : 1 ≤ m
        · by_cases o4 : m ≤ 12
          · by_cases o5 : 1 ≤ d
            · have o6 : ¬ d ≤ lenM y m := fun q => ok ⟨o1, o2, o3, o4, o5, q⟩
              simp (config := { maxSteps := 1000000 }) (disch := ((try simp only [awL]); omega)) only [QR, QS, QT, QU, QV, QW, QX, QY, QZ, Q0, Q1, Q2, Tryz.f7, ↓awU, awV, awF, Qa, Qb, Qc, Qd, forall_const, ↓reduceIte, ↓reduceDIte, ↓Qe, Qf, Qg, Qh, Qi, Qj, Qk, Ql, Qm, Qn, Qo, Qp, Qq, Qr, Qs, implies_true, Qt, Qu, Qv, Qw, Qx, Qy, Qz, QA, QB, QC, QD, QE, QF, QG, QH, QI, QJ, QK, QL, QM, QN, QO, QP, QQ]
              refine CallC.of (rlength_spec y m y1 y2 m1 m2) (by rfl) ?_
              simp (config := { maxSteps := 1000000 }) (disch := ((try simp only [awL]); omega)) only [QR, QS, QT, QU, QV, QW, QX, QY, QZ, Q0, Q1, Q2, ↓awU, awV, awF, Qa, Qb, Qc, Qd, forall_const, ↓reduceIte, ↓reduceDIte, ↓Qe, Qf, Qg, Qh, Qi, Qj, Qk, Ql, Qm, Qn, Qo, Qp, Qq, Qr, Qs, implies_true, Qt, Qu, Qv, Qw, Qx, Qy, Qz, QA, QB, QC, QD, QE, QF, QG, QH, QI, QJ, QK, QL, QM, QN, QO, QP, QQ]
              first | done | rfl
            · simp (config := { maxSteps := 1000000 }) (disch := ((try simp only [awL]); omega)) only [QR, QS, QT, QU, QV, QW, QX, QY, QZ, Q0, Q1, Q2, Tryz.f7, ↓awU, awV, awF, Qa, Qb, Qc, Qd, forall_const, ↓reduceIte, ↓reduceDIte, ↓Qe, Qf, Qg, Qh, Qi, Qj, Qk, Ql, Qm, Qn, Qo, Qp, Qq, Qr, Qs, implies_true, Qt, Qu, Qv, Qw, Qx, Qy, Qz, QA, QB, QC, QD, QE, QF, QG, QH, QI, QJ, QK, QL, QM, QN, QO, QP, QQ]
              first | done | rfl
          · simp (config := { maxSteps := 1000000 }) (disch := ((try simp only [awL]); omega)) only [QR, QS, QT, QU, QV, QW, QX, QY, QZ, Q0, Q1, Q2, Tryz.f7, ↓awU, awV, awF, Qa, Qb, Qc, Qd, forall_const, ↓reduceIte, ↓reduceDIte, ↓Qe, Qf, Qg, Qh, Qi, Qj, Qk, Ql, Qm, Qn, Qo, Qp, Qq, Qr, Qs, implies_true, Qt, Qu, Qv, Qw, Qx, Qy, Qz, QA, QB, QC, QD, QE, QF, QG, QH, QI, QJ, QK, QL, QM, QN, QO, QP, QQ]
            first | done | rfl
        · simp (config := { maxSteps := 1000000 }) (disch := ((try simp only [awL]); omega)) only [QR, QS, QT, QU, QV, QW, QX, QY, QZ, Q0, Q1, Q2, Tryz.f7, ↓awU, awV, awF, Qa, Qb, Qc, Qd, forall_const, ↓reduceIte, ↓reduceDIte, ↓Qe, Qf, Qg, Qh, Qi, Qj, Qk, Ql, Qm, Qn, Qo, Qp, Qq, Qr, Qs, implies_true, Qt, Qu, Qv, Qw, Qx, Qy, Qz, QA, QB, QC, QD, QE, QF, QG, QH, QI, QJ, QK, QL, QM, QN, QO, QP, QQ]
          first | done | rfl
      · simp (config := { maxSteps := 1000000 }) (disch := ((try simp only [awL]); omega)) only [QR, QS, QT, QU, QV, QW, QX, QY, QZ, Q0, Q1, Q2, Tryz.f7, ↓awU, awV, awF, Qa, Qb, Qc, Qd, forall_const, ↓reduceIte, ↓reduceDIte, ↓Qe, Qf, Qg, Qh, Qi, Qj, Qk, Ql, Qm, Qn, Qo, Qp, Qq, Qr, Qs, implies_true, Qt, Qu, Qv, Qw, Qx, Qy, Qz, QA, QB, QC, QD, QE, QF, QG, QH, QI, QJ, QK, QL, QM, QN, QO, QP, QQ]
        first | done | rfl
    · simp (config := { maxSteps := 1000000 }) (disch := ((try simp only [awL]); omega)) only [QR, QS, QT, QU, QV, QW, QX, QY, QZ, Q0, Q1, Q2, Tryz.f7, ↓awU, awV, awF, Qa, Qb, Qc, Qd, forall_const, ↓reduceIte, ↓reduceDIte, ↓Qe, Qf, Qg, Qh, Qi, Qj, Qk, Ql, Qm, Qn, Qo, Qp, Qq, Qr, Qs, implies_true, Qt, Qu, Qv, Qw, Qx, Qy, Qz, QA, QB, QC, QD, QE, QF, QG, QH, QI, QJ, QK, QL, QM, QN, QO, QP, QQ]
      first | done | rfl
end Go.Proofs.YtjecgoddmkaboaaGreatDoor

namespace Go.Proofs.YtjecgoddmkaboaaGreatDoor
open Go Go.Proofs Go.Abs
variable {G : Globals}
/-! Date: the program's and the reference's. -/
theorem ex_year {N : Int} (h0 : 0 ≤ N) : ∀ k : Nat, N < bgn (1 + (k : Int)) → ∃ y : Int, 1 ≤ y ∧ y ≤ k ∧ bgn y ≤ N ∧ N < bgn (y + 1)
  | 0, h => by have : bgn (1 + ((0 : Nat) : Int)) = 0 := rfl; omega
  | k + 1, h => by
    by_cases q : N < bgn (1 + (k : Int))
    · obtain ⟨y, a, b, c, d⟩ := ex_year h0 k q
      exact ⟨y, a, by omega, c, d⟩
    · exact ⟨1 + (k : Int), by omega, by omega, by omega, by rw [show (1 : Int) + k + 1 = 1 + ((k + 1 : Nat) : Int) by omega]; exact h⟩
theorem ex_month {y R : Int} (h0 : 0 ≤ R) : ∀ k : Nat, R < monS y k → ∃ m, m < k ∧ monS y m ≤ R ∧ R < monS y (m + 1)
  | 0, h => by rw [monS] at h; omega
  | k + 1, h => by
    by_cases q : R < monS y k
    · obtain ⟨m, a, b, c⟩ := ex_month h0 k q
      exact ⟨m, by omega, b, c⟩
    · exact ⟨k, by omega, by omega, h⟩
theorem ex_dt {N : Int} (h0 : 0 ≤ N) (h1 : N < 3652059) : ∃ y m r, IsDt N y m r := by
  obtain ⟨y, a, b, c, d⟩ := ex_year h0 9999 (by have := bgn_end; rw [show (1 : Int) + ((9999 : Nat) : Int) = 10000 by decide]; omega)
  obtain ⟨m, e, f, g⟩ := ex_month (y := y) (R := N - bgn y) (by omega) 12 (by rw [monS_12]; have := bgn_succ a; omega)
  exact ⟨y, m, N - bgn y - monS y m, a, by omega, e, by omega, by omega, by rw [monS] at g; omega⟩
theorem IsDt.range {N y : Int} {m : Nat} {r : Int} (h : IsDt N y m r) : 0 ≤ N ∧ N < 3652059 := by
  have a := h.year
  have b := bgn_le h.1 (by have := h.2.1; omega)
  have c : bgn (y + 1) ≤ bgn 10000 := by
    rcases Int.lt_or_le (y + 1) 10000 with q | q
    · have := bgn_lt (y := y + 1) (z := 10000) (by have := h.1; omega) q
      have := bgn_succ (y := y + 1) (by have := h.1; omega)
      have : 365 ≤ yrL (y + 1) := by unfold yrL; split <;> omega
      omega
    · have : y + 1 = 10000 := by have := h.2.1; omega
      rw [this]; exact Int.le_refl _
  rw [bgn_end] at c
  omega
theorem IsDt.le_of {N y z : Int} {m : Nat} {r : Int} (h : IsDt N y m r) (hz : 1 ≤ z) (hb : bgn z ≤ N) : z ≤ y := by
  rcases Int.lt_or_le y z with q | q
  · have := bgn_lt h.1 q; have := h.year; omega
  · exact q
set_option maxHeartbeats 4000000 in
theorem tdate_spec (n : Int) {y : Int} {m : Nat} {r : Int} (h : IsDt (n + 719162) y m r) :
    Ctr Tryz.prog G 8 [.d (.int .i64 n)] [] (.d (.tup [.int .i64 y, .int .i64 (m + 1 : Nat), .int .i64 (r + 1), .bool true])) [] := by
  refine Ctr.pure (M := M0) hmix Tryz.func8 rfl go8 ?_
  have rg := h.range
  have hy := h.year
  obtain ⟨h1, h2, h3, h4, h5, h6⟩ := h
  have dl : dayV 9999 12 31 = 2932896 ∧ okDt 9999 12 31 = true := by decide +kernel
  have sp := day_spec (G := G) 9999 12 31 (by decide) (by decide) (by decide) (by decide) (by decide) (by decide)
  rw [dl.1, dl.2] at sp
  obtain ⟨N, hN⟩ : ∃ N, N = n + 719162 := ⟨_, rfl⟩
  rw [← hN] at rg hy h4
  have q1 : N.tdiv 146097 = N / 146097 := tdiv_pos _ (by omega)
  have q2 : N.tmod 146097 = N % 146097 := tmod_pos _ (by omega)
  have q3 : (N % 146097).tdiv 36524 = N % 146097 / 36524 := tdiv_pos _ (by omega)
  obtain ⟨y0, hy0⟩ : ∃ y0, y0 = N / 146097 * 400 + min (N % 146097 / 36524) 3 * 100 + 1 := ⟨_, rfl⟩
  have y01 : 1 ≤ y0 ∧ y0 ≤ 10000 := by omega
  have b0 : bgn y0 ≤ N := by
    rw [bgn_eq y01.1, hy0]
    have : N / 146097 * 400 + min (N % 146097 / 36524) 3 * 100 + 1 - 1 = 400 * (N / 146097) + 100 * min (N % 146097 / 36524) 3 := by omega
    rw [this]
    omega
  have hD : IsDt N y m r := ⟨h1, h2, h3, h4, h5, h6⟩
  have yle := hD.le_of y01.1 b0
  have mn : (if 3 < N % 146097 / 36524 then 3 else N % 146097 / 36524) = min (N % 146097 / 36524) 3 := by split <;> omega
  have e0 : n + 719162 = N := hN.symm
  have f0 : N / 146097 * 400 + min (N % 146097 / 36524) 3 * 100 + 1 = y0 := hy0.symm
  simp (config := { maxSteps := 1000000 }) (disch := ((try simp only [awL]); omega)) only [QR, QS, QT, QU, QV, QW, QX, QY, QZ, Q0, Q1, Q2, Tryz.f8, ↓awU, awV, awF, Qa, Qb, Qc, Qd, forall_const, ↓reduceIte, ↓reduceDIte, ↓Qe, Qf, Qg, Qh, Qi, Qj, Qk, Ql, Qm, Qn, Qo, Qp, Qq, Qr, Qs, implies_true, Qt, Qu, Qv, Qw, Qx, Qy, Qz, QA, QB, QC, QD, QE, QF, QG, QH, QI, QJ, QK, QL, QM, QN, QO, QP, QQ]
  refine CallC.of sp (by rfl) ?_
  simp (config := { maxSteps := 1000000 }) (disch := ((try simp only [awL]); omega)) only [QR, QS, QT, QU, QV, QW, QX, QY, QZ, Q0, Q1, Q2, e0, q1, q2, q3, mn, f0, ↓awU, awV, awF, Qa, Qb, Qc, Qd, forall_const, ↓reduceIte, ↓reduceDIte, ↓Qe, Qf, Qg, Qh, Qi, Qj, Qk, Ql, Qm, Qn, Qo, Qp, Qq, Qr, Qs, implies_true, Qt, Qu, Qv, Qw, Qx, Qy, Qz, QA, QB, QC, QD, QE, QF, QG, QH, QI, QJ, QK, QL, QM, QN, QO, QP, QQ]
  refine LoopC.fr 256 (α := Int) (fun x => (y - x).toNat) (fun x => [(2, .d (.int .i64 x))]) (fun _ => []) (fun x => 1 ≤ x ∧ x ≤ y ∧ bgn x ≤ N) y0 ⟨y01.1, yle, b0⟩ ?_ ?_
  · exact ⟨[], rfl, by simp, by simp [setsA, keepA, SWeak, AWeak], by simp [HWeak, BWeak, SWeak, AWeak]⟩
  rintro x ⟨x1, x2, x3⟩
  have bx := bgn_le x1 (by omega)
  simp only [awK, Nat.reduceMod, Nat.reduceDiv, reduceIte]
  rcases Int.lt_or_le x y with q | q
  · have bm := bgn_lt x1 q
    simp (config := { maxSteps := 1000000 }) (disch := ((try simp only [awL]); omega)) only [QR, QS, QT, QU, QV, QW, QX, QY, QZ, Q0, Q1, Q2, ↓awU, awV, awF, Qa, Qb, Qc, Qd, forall_const, ↓reduceIte, ↓reduceDIte, ↓Qe, Qf, Qg, Qh, Qi, Qj, Qk, Ql, Qm, Qn, Qo, Qp, Qq, Qr, Qs, implies_true, Qt, Qu, Qv, Qw, Qx, Qy, Qz, QA, QB, QC, QD, QE, QF, QG, QH, QI, QJ, QK, QL, QM, QN, QO, QP, QQ]
    refine CallC.of (began_spec (x + 1) (by omega) (by omega)) (by rfl) ?_
    simp (config := { maxSteps := 1000000 }) (disch := ((try simp only [awL]); omega)) only [QR, QS, QT, QU, QV, QW, QX, QY, QZ, Q0, Q1, Q2, ↓awU, awV, awF, Qa, Qb, Qc, Qd, forall_const, ↓reduceIte, ↓reduceDIte, ↓Qe, Qf, Qg, Qh, Qi, Qj, Qk, Ql, Qm, Qn, Qo, Qp, Qq, Qr, Qs, implies_true, Qt, Qu, Qv, Qw, Qx, Qy, Qz, QA, QB, QC, QD, QE, QF, QG, QH, QI, QJ, QK, QL, QM, QN, QO, QP, QQ]
    first
    | exact ⟨x + 1, ⟨by omega, by omega, by omega⟩, by simp only; omega, ⟨[], rfl, by simp, by simp [setsA, keepA, SWeak, AWeak], by simp [HWeak, BWeak, SWeak, AWeak]⟩⟩
  have e : x = y := by omega
  subst e
  have after : True := trivial
  by_cases y9 : x < 9999
  · simp (config := { maxSteps := 1000000 }) (disch := ((try simp only [awL]); omega)) only [QR, QS, QT, QU, QV, QW, QX, QY, QZ, Q0, Q1, Q2, ↓awU, awV, awF, Qa, Qb, Qc, Qd, forall_const, ↓reduceIte, ↓reduceDIte, ↓Qe, Qf, Qg, Qh, Qi, Qj, Qk, Ql, Qm, Qn, Qo, Qp, Qq, Qr, Qs, implies_true, Qt, Qu, Qv, Qw, Qx, Qy, Qz, QA, QB, QC, QD, QE, QF, QG, QH, QI, QJ, QK, QL, QM, QN, QO, QP, QQ]
    refine CallC.of (began_spec (x + 1) (by omega) (by omega)) (by rfl) ?_
    simp (config := { maxSteps := 1000000 }) (disch := ((try simp only [awL]); omega)) only [QR, QS, QT, QU, QV, QW, QX, QY, QZ, Q0, Q1, Q2, ↓awU, awV, awF, Qa, Qb, Qc, Qd, forall_const, ↓reduceIte, ↓reduceDIte, ↓Qe, Qf, Qg, Qh, Qi, Qj, Qk, Ql, Qm, Qn, Qo, Qp, Qq, Qr, Qs, implies_true, Qt, Qu, Qv, Qw, Qx, Qy, Qz, QA, QB, QC, QD, QE, QF, QG, QH, QI, QJ, QK, QL, QM, QN, QO, QP, QQ]
    refine CallC.of (began_spec x (by omega) (by omega)) (by rfl) ?_
    simp (config := { maxSteps := 1000000 }) (disch := ((try simp only [awL]); omega)) only [QR, QS, QT, QU, QV, QW, QX, QY, QZ, Q0, Q1, Q2, ↓awU, awV, awF, Qa, Qb, Qc, Qd, forall_const, ↓reduceIte, ↓reduceDIte, ↓Qe, Qf, Qg, Qh, Qi, Qj, Qk, Ql, Qm, Qn, Qo, Qp, Qq, Qr, Qs, implies_true, Qt, Qu, Qv, Qw, Qx, Qy, Qz, QA, QB, QC, QD, QE, QF, QG, QH, QI, QJ, QK, QL, QM, QN, QO, QP, QQ]
    refine LoopC.fr 4 (α := Nat) (fun j => m - j) (fun j => [(3, .d (.int .i64 (j + 1 : Nat))), (8, .d (.int .i64 (N - bgn x - monS x j)))]) (fun _ => []) (fun j => j ≤ m) 0 (Nat.zero_le _) ?_ ?_
    · exact ⟨[], rfl, by simp, by simp [setsA, keepA, SWeak, AWeak, monS], by simp [HWeak, BWeak, SWeak, AWeak]⟩
    · intro j hj
      have mj := monS_le x j
      have lj := lenM_pos x ((j + 1 : Nat) : Int)
      have ms : monS x (j + 1) = monS x j + lenM x (j + 1 : Nat) := rfl
      simp only [awK, Nat.reduceMod, Nat.reduceDiv, reduceIte]
      simp (config := { maxSteps := 1000000 }) (disch := ((try simp only [awL]); omega)) only [QR, QS, QT, QU, QV, QW, QX, QY, QZ, Q0, Q1, Q2, ↓awU, awV, awF, Qa, Qb, Qc, Qd, forall_const, ↓reduceIte, ↓reduceDIte, ↓Qe, Qf, Qg, Qh, Qi, Qj, Qk, Ql, Qm, Qn, Qo, Qp, Qq, Qr, Qs, implies_true, Qt, Qu, Qv, Qw, Qx, Qy, Qz, QA, QB, QC, QD, QE, QF, QG, QH, QI, QJ, QK, QL, QM, QN, QO, QP, QQ]
      refine CallC.of (length_spec x ((j + 1 : Nat) : Int) (by omega) (by omega) (by omega) (by omega)) (by rfl) ?_
      rcases Nat.lt_or_ge j m with h | h
      · have := monS_lt (y := x) h
        have e1 : N - bgn x - monS x j - lenM x ((j + 1 : Nat) : Int) = N - bgn x - monS x (j + 1) := by omega
        simp (config := { maxSteps := 1000000 }) (disch := ((try simp only [awL]); omega)) only [QR, QS, QT, QU, QV, QW, QX, QY, QZ, Q0, Q1, Q2, ↓awU, awV, awF, Qa, Qb, Qc, Qd, forall_const, ↓reduceIte, ↓reduceDIte, ↓Qe, Qf, Qg, Qh, Qi, Qj, Qk, Ql, Qm, Qn, Qo, Qp, Qq, Qr, Qs, implies_true, Qt, Qu, Qv, Qw, Qx, Qy, Qz, QA, QB, QC, QD, QE, QF, QG, QH, QI, QJ, QK, QL, QM, QN, QO, QP, QQ]
        refine CallC.of (length_spec x ((j + 1 : Nat) : Int) (by omega) (by omega) (by omega) (by omega)) (by rfl) ?_
        simp (config := { maxSteps := 1000000 }) (disch := ((try simp only [awL]); omega)) only [QR, QS, QT, QU, QV, QW, QX, QY, QZ, Q0, Q1, Q2, e1, ↓awU, awV, awF, Qa, Qb, Qc, Qd, forall_const, ↓reduceIte, ↓reduceDIte, ↓Qe, Qf, Qg, Qh, Qi, Qj, Qk, Ql, Qm, Qn, Qo, Qp, Qq, Qr, Qs, implies_true, Qt, Qu, Qv, Qw, Qx, Qy, Qz, QA, QB, QC, QD, QE, QF, QG, QH, QI, QJ, QK, QL, QM, QN, QO, QP, QQ]
        first
        | exact ⟨j + 1, h, by simp only; omega, ⟨[], rfl, by simp, by simp [setsA, keepA, SWeak, AWeak], by simp [HWeak, BWeak, SWeak, AWeak]⟩⟩
      · have e : j = m := by omega
        subst e
        have e1 : N - bgn x - monS x j = r := by omega
        simp (config := { maxSteps := 1000000 }) (disch := ((try simp only [awL]); omega)) only [QR, QS, QT, QU, QV, QW, QX, QY, QZ, Q0, Q1, Q2, e1, ↓awU, awV, awF, Qa, Qb, Qc, Qd, forall_const, ↓reduceIte, ↓reduceDIte, ↓Qe, Qf, Qg, Qh, Qi, Qj, Qk, Ql, Qm, Qn, Qo, Qp, Qq, Qr, Qs, implies_true, Qt, Qu, Qv, Qw, Qx, Qy, Qz, QA, QB, QC, QD, QE, QF, QG, QH, QI, QJ, QK, QL, QM, QN, QO, QP, QQ]
        first | done | rfl
  · simp (config := { maxSteps := 1000000 }) (disch := ((try simp only [awL]); omega)) only [QR, QS, QT, QU, QV, QW, QX, QY, QZ, Q0, Q1, Q2, ↓awU, awV, awF, Qa, Qb, Qc, Qd, forall_const, ↓reduceIte, ↓reduceDIte, ↓Qe, Qf, Qg, Qh, Qi, Qj, Qk, Ql, Qm, Qn, Qo, Qp, Qq, Qr, Qs, implies_true, Qt, Qu, Qv, Qw, Qx, Qy, Qz, QA, QB, QC, QD, QE, QF, QG, QH, QI, QJ, QK, QL, QM, QN, QO, QP, QQ]
    refine CallC.of (began_spec x (by omega) (by omega)) (by rfl) ?_
    simp (config := { maxSteps := 1000000 }) (disch := ((try simp only [awL]); omega)) only [QR, QS, QT, QU, QV, QW, QX, QY, QZ, Q0, Q1, Q2, ↓awU, awV, awF, Qa, Qb, Qc, Qd, forall_const, ↓reduceIte, ↓reduceDIte, ↓Qe, Qf, Qg, Qh, Qi, Qj, Qk, Ql, Qm, Qn, Qo, Qp, Qq, Qr, Qs, implies_true, Qt, Qu, Qv, Qw, Qx, Qy, Qz, QA, QB, QC, QD, QE, QF, QG, QH, QI, QJ, QK, QL, QM, QN, QO, QP, QQ]
    refine LoopC.fr 4 (α := Nat) (fun j => m - j) (fun j => [(3, .d (.int .i64 (j + 1 : Nat))), (8, .d (.int .i64 (N - bgn x - monS x j)))]) (fun _ => []) (fun j => j ≤ m) 0 (Nat.zero_le _) ?_ ?_
    · exact ⟨[], rfl, by simp, by simp [setsA, keepA, SWeak, AWeak, monS], by simp [HWeak, BWeak, SWeak, AWeak]⟩
    · intro j hj
      have mj := monS_le x j
      have lj := lenM_pos x ((j + 1 : Nat) : Int)
      have ms : monS x (j + 1) = monS x j + lenM x (j + 1 : Nat) := rfl
      simp only [awK, Nat.reduceMod, Nat.reduceDiv, reduceIte]
      simp (config := { maxSteps := 1000000 }) (disch := ((try simp only [awL]); omega)) only [QR, QS, QT, QU, QV, QW, QX, QY, QZ, Q0, Q1, Q2, ↓awU, awV, awF, Qa, Qb, Qc, Qd, forall_const, ↓reduceIte, ↓reduceDIte, ↓Qe, Qf, Qg, Qh, Qi, Qj, Qk, Ql, Qm, Qn, Qo, Qp, Qq, Qr, Qs, implies_true, Qt, Qu, Qv, Qw, Qx, Qy, Qz, QA, QB, QC, QD, QE, QF, QG, QH, QI, QJ, QK, QL, QM, QN, QO, QP, QQ]
      refine CallC.of (length_spec x ((j + 1 : Nat) : Int) (by omega) (by omega) (by omega) (by omega)) (by rfl) ?_
      rcases Nat.lt_or_ge j m with h | h
      · have := monS_lt (y := x) h
        have e1 : N - bgn x - monS x j - lenM x ((j + 1 : Nat) : Int) = N - bgn x - monS x (j + 1) := by omega
        simp (config := { maxSteps := 1000000 }) (disch := ((try simp only [awL]); omega)) only [QR, QS, QT, QU, QV, QW, QX, QY, QZ, Q0, Q1, Q2, ↓awU, awV, awF, Qa, Qb, Qc, Qd, forall_const, ↓reduceIte, ↓reduceDIte, ↓Qe, Qf, Qg, Qh, Qi, Qj, Qk, Ql, Qm, Qn, Qo, Qp, Qq, Qr, Qs, implies_true, Qt, Qu, Qv, Qw, Qx, Qy, Qz, QA, QB, QC, QD, QE, QF, QG, QH, QI, QJ, QK, QL, QM, QN, QO, QP, QQ]
        refine CallC.of (length_spec x ((j + 1 : Nat) : Int) (by omega) (by omega) (by omega) (by omega)) (by rfl) ?_
        simp (config := { maxSteps := 1000000 }) (disch := ((try simp only [awL]); omega)) only [QR, QS, QT, QU, QV, QW, QX, QY, QZ, Q0, Q1, Q2, e1, ↓awU, awV, awF, Qa, Qb, Qc, Qd, forall_const, ↓reduceIte, ↓reduceDIte, ↓Qe, Qf, Qg, Qh, Qi, Qj, Qk, Ql, Qm, Qn, Qo, Qp, Qq, Qr, Qs, implies_true, Qt, Qu, Qv, Qw, Qx, Qy, Qz, QA, QB, QC, QD, QE, QF, QG, QH, QI, QJ, QK, QL, QM, QN, QO, QP, QQ]
        first
        | exact ⟨j + 1, h, by simp only; omega, ⟨[], rfl, by simp, by simp [setsA, keepA, SWeak, AWeak], by simp [HWeak, BWeak, SWeak, AWeak]⟩⟩
      · have e : j = m := by omega
        subst e
        have e1 : N - bgn x - monS x j = r := by omega
        simp (config := { maxSteps := 1000000 }) (disch := ((try simp only [awL]); omega)) only [QR, QS, QT, QU, QV, QW, QX, QY, QZ, Q0, Q1, Q2, e1, ↓awU, awV, awF, Qa, Qb, Qc, Qd, forall_const, ↓reduceIte, ↓reduceDIte, ↓Qe, Qf, Qg, Qh, Qi, Qj, Qk, Ql, Qm, Qn, Qo, Qp, Qq, Qr, Qs, implies_true, Qt, Qu, Qv, Qw, Qx, Qy, Qz, QA, QB, QC, QD, QE, QF, QG, QH, QI, QJ, QK, QL, QM, QN, QO, QP, QQ]
        first | done | rfl
end Go.Proofs.YtjecgoddmkaboaaGreatDoor

namespace Go.Proofs.YtjecgoddmkaboaaGreatDoor
open Go Go.Proofs Go.Abs
variable {G : Globals}
/-! Date outside the range; the reference's Date. -/
set_option maxHeartbeats 4000000 in
theorem tdate_none (n : Int) (n1 : -9223372036854775808 ≤ n) (n2 : n ≤ 9223372036854775807) (h : n < -719162 ∨ 2932896 < n) :
    Ctr Tryz.prog G 8 [.d (.int .i64 n)] [] (.d (.tup [.int .i64 0, .int .i64 0, .int .i64 0, .bool false])) [] := by
  refine Ctr.pure (M := M0) hmix Tryz.func8 rfl go8 ?_
  have dl : dayV 9999 12 31 = 2932896 ∧ okDt 9999 12 31 = true := by decide +kernel
  have sp := day_spec (G := G) 9999 12 31 (by decide) (by decide) (by decide) (by decide) (by decide) (by decide)
  rw [dl.1, dl.2] at sp
  simp (config := { maxSteps := 1000000 }) (disch := ((try simp only [awL]); omega)) only [QR, QS, QT, QU, QV, QW, QX, QY, QZ, Q0, Q1, Q2, Tryz.f8, ↓awU, awV, awF, Qa, Qb, Qc, Qd, forall_const, ↓reduceIte, ↓reduceDIte, ↓Qe, Qf, Qg, Qh, Qi, Qj, Qk, Ql, Qm, Qn, Qo, Qp, Qq, Qr, Qs, implies_true, Qt, Qu, Qv, Qw, Qx, Qy, Qz, QA, QB, QC, QD, QE, QF, QG, QH, QI, QJ, QK, QL, QM, QN, QO, QP, QQ]
  refine CallC.of sp (by rfl) ?_
  rcases h with h | h
  · simp (config := { maxSteps := 1000000 }) (disch := ((try simp only [awL]); omega)) only [QR, QS, QT, QU, QV, QW, QX, QY, QZ, Q0, Q1, Q2, ↓awU, awV, awF, Qa, Qb, Qc, Qd, forall_const, ↓reduceIte, ↓reduceDIte, ↓Qe, Qf, Qg, Qh, Qi, Qj, Qk, Ql, Qm, Qn, Qo, Qp, Qq, Qr, Qs, implies_true, Qt, Qu, Qv, Qw, Qx, Qy, Qz, QA, QB, QC, QD, QE, QF, QG, QH, QI, QJ, QK, QL, QM, QN, QO, QP, QQ]
    first | done | rfl
  · simp (config := { maxSteps := 1000000 }) (disch := ((try simp only [awL]); omega)) only [QR, QS, QT, QU, QV, QW, QX, QY, QZ, Q0, Q1, Q2, ↓awU, awV, awF, Qa, Qb, Qc, Qd, forall_const, ↓reduceIte, ↓reduceDIte, ↓Qe, Qf, Qg, Qh, Qi, Qj, Qk, Ql, Qm, Qn, Qo, Qp, Qq, Qr, Qs, implies_true, Qt, Qu, Qv, Qw, Qx, Qy, Qz, QA, QB, QC, QD, QE, QF, QG, QH, QI, QJ, QK, QL, QM, QN, QO, QP, QQ]
    first | done | rfl
set_option maxHeartbeats 4000000 in
theorem rdate_none (n : Int) (n1 : -9223372036854775808 ≤ n) (n2 : n ≤ 9223372036854775807) (h : n < -719162 ∨ 2932896 < n) :
    Ctr Tryz.prog G 9 [.d (.int .i64 n)] [] (.d (.tup [.int .i64 0, .int .i64 0, .int .i64 0, .bool false])) [] := by
  refine Ctr.pure (M := M0) hmix Tryz.func9 rfl go9 ?_
  rcases h with h | h
  · simp (config := { maxSteps := 1000000 }) (disch := ((try simp only [awL]); omega)) only [QR, QS, QT, QU, QV, QW, QX, QY, QZ, Q0, Q1, Q2, Tryz.f9, ↓awU, awV, awF, Qa, Qb, Qc, Qd, forall_const, ↓reduceIte, ↓reduceDIte, ↓Qe, Qf, Qg, Qh, Qi, Qj, Qk, Ql, Qm, Qn, Qo, Qp, Qq, Qr, Qs, implies_true, Qt, Qu, Qv, Qw, Qx, Qy, Qz, QA, QB, QC, QD, QE, QF, QG, QH, QI, QJ, QK, QL, QM, QN, QO, QP, QQ]
    first | done | rfl
  · simp (config := { maxSteps := 1000000 }) (disch := ((try simp only [awL]); omega)) only [QR, QS, QT, QU, QV, QW, QX, QY, QZ, Q0, Q1, Q2, Tryz.f9, ↓awU, awV, awF, Qa, Qb, Qc, Qd, forall_const, ↓reduceIte, ↓reduceDIte, ↓Qe, Qf, Qg, Qh, Qi, Qj, Qk, Ql, Qm, Qn, Qo, Qp, Qq, Qr, Qs, implies_true, Qt, Qu, Qv, Qw, Qx, Qy, Qz, QA, QB, QC, QD, QE, QF, QG, QH, QI, QJ, QK, QL, QM, QN, QO, QP, QQ]
    first | done | rfl
set_option maxHeartbeats 4000000 in
theorem rdate_spec (n : Int) {y : Int} {m : Nat} {r : Int} (h : IsDt (n + 719162) y m r) :
    Ctr Tryz.prog G 9 [.d (.int .i64 n)] [] (.d (.tup [.int .i64 y, .int .i64 (m + 1 : Nat), .int .i64 (r + 1), .bool true])) [] := by
  refine Ctr.pure (M := M0) hmix Tryz.func9 rfl go9 ?_
  have rg := h.range
  have hy := h.year
  obtain ⟨h1, h2, h3, h4, h5, h6⟩ := h
  obtain ⟨N, hN⟩ : ∃ N, N = n + 719162 := ⟨_, rfl⟩
  rw [← hN] at rg hy h4
  have hD : IsDt N y m r := ⟨h1, h2, h3, h4, h5, h6⟩
  have e0 : n + 719162 = N := hN.symm
  simp (config := { maxSteps := 1000000 }) (disch := ((try simp only [awL]); omega)) only [QR, QS, QT, QU, QV, QW, QX, QY, QZ, Q0, Q1, Q2, e0, Tryz.f9, ↓awU, awV, awF, Qa, Qb, Qc, Qd, forall_const, ↓reduceIte, ↓reduceDIte, ↓Qe, Qf, Qg, Qh, Qi, Qj, Qk, Ql, Qm, Qn, Qo, Qp, Qq, Qr, Qs, implies_true, Qt, Qu, Qv, Qw, Qx, Qy, Qz, QA, QB, QC, QD, QE, QF, QG, QH, QI, QJ, QK, QL, QM, QN, QO, QP, QQ]
  refine LoopC.fr 8 (α := Int) (fun x => (y - x).toNat) (fun x => [(2, .d (.int .i64 x)), (6, .d (.int .i64 (N - bgn x)))]) (fun _ => []) (fun x => 1 ≤ x ∧ x ≤ y) 1 ⟨Int.le_refl _, h1⟩ ?_ ?_
  · exact ⟨[], rfl, by simp, by simp [setsA, keepA, SWeak, AWeak, bgn_one], by simp [HWeak, BWeak, SWeak, AWeak]⟩
  rintro x ⟨x1, x2⟩
  have bx := bgn_le x1 (by omega)
  have bs := bgn_succ x1
  simp only [awK, Nat.reduceMod, Nat.reduceDiv, reduceIte]
  simp (config := { maxSteps := 1000000 }) (disch := ((try simp only [awL]); omega)) only [QR, QS, QT, QU, QV, QW, QX, QY, QZ, Q0, Q1, Q2, ↓awU, awV, awF, Qa, Qb, Qc, Qd, forall_const, ↓reduceIte, ↓reduceDIte, ↓Qe, Qf, Qg, Qh, Qi, Qj, Qk, Ql, Qm, Qn, Qo, Qp, Qq, Qr, Qs, implies_true, Qt, Qu, Qv, Qw, Qx, Qy, Qz, QA, QB, QC, QD, QE, QF, QG, QH, QI, QJ, QK, QL, QM, QN, QO, QP, QQ]
  refine CallC.of (rleap_spec x (by omega) (by omega)) (by rfl) ?_
  rcases Int.lt_or_le x y with q | q
  · have bm := bgn_lt x1 q
    cases lb : leapB x
    · have e1 : N - bgn x - 365 = N - bgn (x + 1) := by unfold yrL at bs; rw [lb, if_neg Bool.false_ne_true] at bs; omega
      have e2 : 365 ≤ N - bgn x := by omega
      simp (config := { maxSteps := 1000000 }) (disch := ((try simp only [awL]); omega)) only [QR, QS, QT, QU, QV, QW, QX, QY, QZ, Q0, Q1, Q2, e1, ↓awU, awV, awF, Qa, Qb, Qc, Qd, forall_const, ↓reduceIte, ↓reduceDIte, ↓Qe, Qf, Qg, Qh, Qi, Qj, Qk, Ql, Qm, Qn, Qo, Qp, Qq, Qr, Qs, implies_true, Qt, Qu, Qv, Qw, Qx, Qy, Qz, QA, QB, QC, QD, QE, QF, QG, QH, QI, QJ, QK, QL, QM, QN, QO, QP, QQ]
      first
      | exact ⟨x + 1, ⟨by omega, by omega⟩, by simp only; omega, ⟨[], rfl, by simp, by simp [setsA, keepA, SWeak, AWeak], by simp [HWeak, BWeak, SWeak, AWeak]⟩⟩
    · have e1 : N - bgn x - 366 = N - bgn (x + 1) := by unfold yrL at bs; rw [lb, if_pos rfl] at bs; omega
      have e2 : 366 ≤ N - bgn x := by omega
      simp (config := { maxSteps := 1000000 }) (disch := ((try simp only [awL]); omega)) only [QR, QS, QT, QU, QV, QW, QX, QY, QZ, Q0, Q1, Q2, e1, ↓awU, awV, awF, Qa, Qb, Qc, Qd, forall_const, ↓reduceIte, ↓reduceDIte, ↓Qe, Qf, Qg, Qh, Qi, Qj, Qk, Ql, Qm, Qn, Qo, Qp, Qq, Qr, Qs, implies_true, Qt, Qu, Qv, Qw, Qx, Qy, Qz, QA, QB, QC, QD, QE, QF, QG, QH, QI, QJ, QK, QL, QM, QN, QO, QP, QQ]
      first
      | exact ⟨x + 1, ⟨by omega, by omega⟩, by simp only; omega, ⟨[], rfl, by simp, by simp [setsA, keepA, SWeak, AWeak], by simp [HWeak, BWeak, SWeak, AWeak]⟩⟩
  have e : x = y := by omega
  subst e
  cases lb : leapB x
  · have e2 : N - bgn x < 365 := by unfold yrL at bs; rw [lb, if_neg Bool.false_ne_true] at bs; omega
    simp (config := { maxSteps := 1000000 }) (disch := ((try simp only [awL]); omega)) only [QR, QS, QT, QU, QV, QW, QX, QY, QZ, Q0, Q1, Q2, ↓awU, awV, awF, Qa, Qb, Qc, Qd, forall_const, ↓reduceIte, ↓reduceDIte, ↓Qe, Qf, Qg, Qh, Qi, Qj, Qk, Ql, Qm, Qn, Qo, Qp, Qq, Qr, Qs, implies_true, Qt, Qu, Qv, Qw, Qx, Qy, Qz, QA, QB, QC, QD, QE, QF, QG, QH, QI, QJ, QK, QL, QM, QN, QO, QP, QQ]
    refine LoopC.fr 4 (α := Nat) (fun j => m - j) (fun j => [(3, .d (.int .i64 (j + 1 : Nat))), (6, .d (.int .i64 (N - bgn x - monS x j)))]) (fun _ => []) (fun j => j ≤ m) 0 (Nat.zero_le _) ?_ ?_
    · exact ⟨[], rfl, by simp, by simp [setsA, keepA, SWeak, AWeak, monS], by simp [HWeak, BWeak, SWeak, AWeak]⟩
    · intro j hj
      have mj := monS_le x j
      have lj := lenM_pos x ((j + 1 : Nat) : Int)
      have ms : monS x (j + 1) = monS x j + lenM x (j + 1 : Nat) := rfl
      simp only [awK, Nat.reduceMod, Nat.reduceDiv, reduceIte]
      simp (config := { maxSteps := 1000000 }) (disch := ((try simp only [awL]); omega)) only [QR, QS, QT, QU, QV, QW, QX, QY, QZ, Q0, Q1, Q2, ↓awU, awV, awF, Qa, Qb, Qc, Qd, forall_const, ↓reduceIte, ↓reduceDIte, ↓Qe, Qf, Qg, Qh, Qi, Qj, Qk, Ql, Qm, Qn, Qo, Qp, Qq, Qr, Qs, implies_true, Qt, Qu, Qv, Qw, Qx, Qy, Qz, QA, QB, QC, QD, QE, QF, QG, QH, QI, QJ, QK, QL, QM, QN, QO, QP, QQ]
      refine CallC.of (rlength_spec x ((j + 1 : Nat) : Int) (by omega) (by omega) (by omega) (by omega)) (by rfl) ?_
      rcases Nat.lt_or_ge j m with h | h
      · have := monS_lt (y := x) h
        have e1 : N - bgn x - monS x j - lenM x ((j + 1 : Nat) : Int) = N - bgn x - monS x (j + 1) := by omega
        simp (config := { maxSteps := 1000000 }) (disch := ((try simp only [awL]); omega)) only [QR, QS, QT, QU, QV, QW, QX, QY, QZ, Q0, Q1, Q2, ↓awU, awV, awF, Qa, Qb, Qc, Qd, forall_const, ↓reduceIte, ↓reduceDIte, ↓Qe, Qf, Qg, Qh, Qi, Qj, Qk, Ql, Qm, Qn, Qo, Qp, Qq, Qr, Qs, implies_true, Qt, Qu, Qv, Qw, Qx, Qy, Qz, QA, QB, QC, QD, QE, QF, QG, QH, QI, QJ, QK, QL, QM, QN, QO, QP, QQ]
        refine CallC.of (rlength_spec x ((j + 1 : Nat) : Int) (by omega) (by omega) (by omega) (by omega)) (by rfl) ?_
        simp (config := { maxSteps := 1000000 }) (disch := ((try simp only [awL]); omega)) only [QR, QS, QT, QU, QV, QW, QX, QY, QZ, Q0, Q1, Q2, e1, ↓awU, awV, awF, Qa, Qb, Qc, Qd, forall_const, ↓reduceIte, ↓reduceDIte, ↓Qe, Qf, Qg, Qh, Qi, Qj, Qk, Ql, Qm, Qn, Qo, Qp, Qq, Qr, Qs, implies_true, Qt, Qu, Qv, Qw, Qx, Qy, Qz, QA, QB, QC, QD, QE, QF, QG, QH, QI, QJ, QK, QL, QM, QN, QO, QP, QQ]
        first
        | exact ⟨j + 1, h, by simp only; omega, ⟨[], rfl, by simp, by simp [setsA, keepA, SWeak, AWeak], by simp [HWeak, BWeak, SWeak, AWeak]⟩⟩
      · have e : j = m := by omega
        subst e
        have e1 : N - bgn x - monS x j = r := by omega
        simp (config := { maxSteps := 1000000 }) (disch := ((try simp only [awL]); omega)) only [QR, QS, QT, QU, QV, QW, QX, QY, QZ, Q0, Q1, Q2, e1, ↓awU, awV, awF, Qa, Qb, Qc, Qd, forall_const, ↓reduceIte, ↓reduceDIte, ↓Qe, Qf, Qg, Qh, Qi, Qj, Qk, Ql, Qm, Qn, Qo, Qp, Qq, Qr, Qs, implies_true, Qt, Qu, Qv, Qw, Qx, Qy, Qz, QA, QB, QC, QD, QE, QF, QG, QH, QI, QJ, QK, QL, QM, QN, QO, QP, QQ]
        first | done | rfl
  · have e2 : N - bgn x < 366 := by unfold yrL at bs; rw [lb, if_pos rfl] at bs; omega
    simp (config := { maxSteps := 1000000 }) (disch := ((try simp only [awL]); omega)) only [QR, QS, QT, QU, QV, QW, QX, QY, QZ, Q0, Q1, Q2, ↓awU, awV, awF, Qa, Qb, Qc, Qd, forall_const, ↓reduceIte, ↓reduceDIte, ↓Qe, Qf, Qg, Qh, Qi, Qj, Qk, Ql, Qm, Qn, Qo, Qp, Qq, Qr, Qs, implies_true, Qt, Qu, Qv, Qw, Qx, Qy, Qz, QA, QB, QC, QD, QE, QF, QG, QH, QI, QJ, QK, QL, QM, QN, QO, QP, QQ]
    refine LoopC.fr 4 (α := Nat) (fun j => m - j) (fun j => [(3, .d (.int .i64 (j + 1 : Nat))), (6, .d (.int .i64 (N - bgn x - monS x j)))]) (fun _ => []) (fun j => j ≤ m) 0 (Nat.zero_le _) ?_ ?_
    · exact ⟨[], rfl, by simp, by simp [setsA, keepA, SWeak, AWeak, monS], by simp [HWeak, BWeak, SWeak, AWeak]⟩
    · intro j hj
      have mj := monS_le x j
      have lj := lenM_pos x ((j + 1 : Nat) : Int)
      have ms : monS x (j + 1) = monS x j + lenM x (j + 1 : Nat) := rfl
      simp only [awK, Nat.reduceMod, Nat.reduceDiv, reduceIte]
      simp (config := { maxSteps := 1000000 }) (disch := ((try simp only [awL]); omega)) only [QR, QS, QT, QU, QV, QW, QX, QY, QZ, Q0, Q1, Q2, ↓awU, awV, awF, Qa, Qb, Qc, Qd, forall_const, ↓reduceIte, ↓reduceDIte, ↓Qe, Qf, Qg, Qh, Qi, Qj, Qk, Ql, Qm, Qn, Qo, Qp, Qq, Qr, Qs, implies_true, Qt, Qu, Qv, Qw, Qx, Qy, Qz, QA, QB, QC, QD, QE, QF, QG, QH, QI, QJ, QK, QL, QM, QN, QO, QP, QQ]
      refine CallC.of (rlength_spec x ((j + 1 : Nat) : Int) (by omega) (by omega) (by omega) (by omega)) (by rfl) ?_
      rcases Nat.lt_or_ge j m with h | h
      · have := monS_lt (y := x) h
        have e1 : N - bgn x - monS x j - lenM x ((j + 1 : Nat) : Int) = N - bgn x - monS x (j + 1) := by omega
        simp (config := { maxSteps := 1000000 }) (disch := ((try simp only [awL]); omega)) only [QR, QS, QT, QU, QV, QW, QX, QY, QZ, Q0, Q1, Q2, ↓awU, awV, awF, Qa, Qb, Qc, Qd, forall_const, ↓reduceIte, ↓reduceDIte, ↓Qe, Qf, Qg, Qh, Qi, Qj, Qk, Ql, Qm, Qn, Qo, Qp, Qq, Qr, Qs, implies_true, Qt, Qu, Qv, Qw, Qx, Qy, Qz, QA, QB, QC, QD, QE, QF, QG, QH, QI, QJ, QK, QL, QM, QN, QO, QP, QQ]
        refine CallC.of (rlength_spec x ((j + 1 : Nat) : Int) (by omega) (by omega) (by omega) (by omega)) (by rfl) ?_
        simp (config := { maxSteps := 1000000 }) (disch := ((try simp only [awL]); omega)) only [QR, QS, QT, QU, QV, QW, QX, QY, QZ, Q0, Q1, Q2, e1, ↓awU, awV, awF, Qa, Qb, Qc, Qd, forall_const, ↓reduceIte, ↓reduceDIte, ↓Qe, Qf, Qg, Qh, Qi, Qj, Qk, Ql, Qm, Qn, Qo, Qp, Qq, Qr, Qs, implies_true, Qt, Qu, Qv, Qw, Qx, Qy, Qz, QA, QB, QC, QD, QE, QF, QG, QH, QI, QJ, QK, QL, QM, QN, QO, QP, QQ]
        first
        | exact ⟨j + 1, h, by simp only; omega, ⟨[], rfl, by simp, by simp [setsA, keepA, SWeak, AWeak], by simp [HWeak, BWeak, SWeak, AWeak]⟩⟩
      · have e : j = m := by omega
        subst e
        have e1 : N - bgn x - monS x j = r := by omega
        simp (config := { maxSteps := 1000000 }) (disch := ((try simp only [awL]); omega)) only [QR, QS, QT, QU, QV, QW, QX, QY, QZ, Q0, Q1, Q2, e1, ↓awU, awV, awF, Qa, Qb, Qc, Qd, forall_const, ↓reduceIte, ↓reduceDIte, ↓Qe, Qf, Qg, Qh, Qi, Qj, Qk, Ql, Qm, Qn, Qo, Qp, Qq, Qr, Qs, implies_true, Qt, Qu, Qv, Qw, Qx, Qy, Qz, QA, QB, QC, QD, QE, QF, QG, QH, QI, QJ, QK, QL, QM, QN, QO, QP, QQ]
        first | done | rfl
end Go.Proofs.YtjecgoddmkaboaaGreatDoor

namespace Go.Proofs.YtjecgoddmkaboaaGreatDoor
open Go Go.Proofs Go.Abs
variable {G : Globals}
/-! The types by their numbers; the canonical text of a decimal. -/
def kindE (w : List UInt8) (f g : D) : D := .agg [S w, f, g]
def kFn (f : Nat) : D := .fn (.func f) [] []
def kindsM : List (D × D) := [(.int .i64 1, kindE [116, 101, 120, 116] .nilf (kFn 18)), (.int .i64 2, kindE [98, 111, 111, 108] (kFn 19) (kFn 20)),
  (.int .i64 3, kindE [105, 110, 116, 101, 103, 101, 114] (kFn 21) (kFn 22)), (.int .i64 4, kindE [100, 101, 99, 105, 109, 97, 108] (kFn 23) (kFn 22)),
  (.int .i64 5, kindE [100, 97, 116, 101] (kFn 24) (kFn 25))]
set_option maxHeartbeats 4000000 in
set_option maxRecDepth 100000 in
theorem kinds_spec : Ctr Tryz.prog G 15 [] [] (.mp 0) [.map kindsM] := by
  refine Ctr.body (M := M0) hmix Tryz.func15 rfl go15 ?_
  simp (config := { maxSteps := 1000000 }) (disch := ((try simp only [awL]); omega)) only [QR, QS, QT, QU, QV, QW, QX, QY, QZ, Q0, Q1, Q2, Tryz.f15, ↓awU, awV, awF, Qa, Qb, Qc, Qd, forall_const, ↓reduceIte, ↓reduceDIte, ↓Qe, Qf, Qg, Qh, Qi, Qj, Qk, Ql, Qm, Qn, Qo, Qp, Qq, Qr, Qs, implies_true, Qt, Qu, Qv, Qw, Qx, Qy, Qz, QA, QB, QC, QD, QE, QF, QG, QH, QI, QJ, QK, QL, QM, QN, QO, QP, QQ]
  refine ⟨by rfl, by rfl, by rfl, by rfl, by rfl, ?_⟩
  show RetC 0 [ABlk.map kindsM] (AV.mp 0) (AV.mp 0) [ABlk.map kindsM]
  exact ⟨[some 0], rfl, by simp, by simp [HWeak, BWeak, SWeak, AWeak], .inl (by simp [AWeak, SWeak])⟩
set_option maxHeartbeats 4000000 in
set_option maxRecDepth 100000 in
theorem canon4_spec (hG : Num.HG G) (s : List UInt8) (hs : s.length ≤ 1000000) : Ctr Tryz.prog G 10 [.d (.int .i64 4), .d (S s)] [] (.d (.tup [S (if Num.decOk (Lib.trimB s 32) = true then canD (Lib.trimB s 32) else []), .bool (Num.decOk (Lib.trimB s 32))])) [] := by
  refine Ctr.pure (M := M0) hmix Tryz.func10 rfl go10 ?_
  have tl : (Lib.trimB s 32).length ≤ s.length := Nat.le_trans (List.dropWhile_sublist _).length_le (trimRB_le s 32)
  have kk : keysOK Tryz.prog 3 kindsM = true := rfl
  simp (config := { maxSteps := 1000000 }) (disch := ((try simp only [awL]); omega)) only [QR, QS, QT, QU, QV, QW, QX, QY, QZ, Q0, Q1, Q2, Tryz.f10, ↓awU, awV, awF, Qa, Qb, Qc, Qd, forall_const, ↓reduceIte, ↓reduceDIte, ↓Qe, Qf, Qg, Qh, Qi, Qj, Qk, Ql, Qm, Qn, Qo, Qp, Qq, Qr, Qs, implies_true, Qt, Qu, Qv, Qw, Qx, Qy, Qz, QA, QB, QC, QD, QE, QF, QG, QH, QI, QJ, QK, QL, QM, QN, QO, QP, QQ]
  refine CallC.by kinds_spec (by rfl) (by rfl) (Nat.zero_le _) ?_
  have lk : lookV (.agg [.str ByteArray.empty, .nilf, .nilf]) kindsM (.int .i64 4) true = .tup [.agg [S [100, 101, 99, 105, 109, 97, 108], .fn (.func 23) [] [], .fn (.func 22) [] []], .bool true] := rfl
  simp (config := { maxSteps := 1000000 }) (disch := ((try simp only [awL]); omega)) only [QR, QS, QT, QU, QV, QW, QX, QY, QZ, Q0, Q1, Q2, kk, lk, ↓awU, awV, awF, Qa, Qb, Qc, Qd, forall_const, ↓reduceIte, ↓reduceDIte, ↓Qe, Qf, Qg, Qh, Qi, Qj, Qk, Ql, Qm, Qn, Qo, Qp, Qq, Qr, Qs, implies_true, Qt, Qu, Qv, Qw, Qx, Qy, Qz, QA, QB, QC, QD, QE, QF, QG, QH, QI, QJ, QK, QL, QM, QN, QO, QP, QQ]
  refine CallC.of (ttrim_spec s (by omega)) (by rfl) ?_
  simp (config := { maxSteps := 1000000 }) (disch := ((try simp only [awL]); omega)) only [QR, QS, QT, QU, QV, QW, QX, QY, QZ, Q0, Q1, Q2, ↓awU, awV, awF, Qa, Qb, Qc, Qd, forall_const, ↓reduceIte, ↓reduceDIte, ↓Qe, Qf, Qg, Qh, Qi, Qj, Qk, Ql, Qm, Qn, Qo, Qp, Qq, Qr, Qs, implies_true, Qt, Qu, Qv, Qw, Qx, Qy, Qz, QA, QB, QC, QD, QE, QF, QG, QH, QI, QJ, QK, QL, QM, QN, QO, QP, QQ]
  refine CallC.of (tdecimal_spec hG (Lib.trimB s 32) (by omega)) (by rfl) ?_
  simp (config := { maxSteps := 1000000 }) (disch := ((try simp only [awL]); omega)) only [QR, QS, QT, QU, QV, QW, QX, QY, QZ, Q0, Q1, Q2, ↓awU, awV, awF, Qa, Qb, Qc, Qd, forall_const, ↓reduceIte, ↓reduceDIte, ↓Qe, Qf, Qg, Qh, Qi, Qj, Qk, Ql, Qm, Qn, Qo, Qp, Qq, Qr, Qs, implies_true, Qt, Qu, Qv, Qw, Qx, Qy, Qz, QA, QB, QC, QD, QE, QF, QG, QH, QI, QJ, QK, QL, QM, QN, QO, QP, QQ]
  first | done | rfl | exact ⟨by rfl, by rfl⟩
end Go.Proofs.YtjecgoddmkaboaaGreatDoor

namespace Go.Proofs.YtjecgoddmkaboaaGreatDoor.Dst
/-! The edit distance: the recursion, the metric, and the rows by which it is computed. -/
def c1 (a b : Int) : Nat := if a = b then 0 else 1
def lev : List Int → List Int → Nat
  | [], y => y.length
  | x, [] => x.length
  | a :: x, b :: y => min (lev x y + c1 a b) (min (lev x (b :: y) + 1) (lev (a :: x) y + 1))
termination_by x y => x.length + y.length
theorem lev_nil_left (y : List Int) : lev [] y = y.length := by unfold lev; rfl
theorem lev_nil_right (x : List Int) : lev x [] = x.length := by cases x <;> (unfold lev; rfl)
theorem lev_cons (a b : Int) (x y : List Int) : lev (a :: x) (b :: y) = min (lev x y + c1 a b) (min (lev x (b :: y) + 1) (lev (a :: x) y + 1)) := by
  conv => lhs; unfold lev
inductive Ed : List Int → List Int → Nat → Prop
  | nil : Ed [] [] 0
  | sub {x y n} (a b) : Ed x y n → Ed (a :: x) (b :: y) (n + c1 a b)
  | del {x y n} (a) : Ed x y n → Ed (a :: x) y (n + 1)
  | ins {x y n} (b) : Ed x y n → Ed x (b :: y) (n + 1)
theorem Ed.left : ∀ x : List Int, Ed x [] x.length
  | [] => .nil
  | a :: x => .del a (Ed.left x)
theorem Ed.right : ∀ x : List Int, Ed [] x x.length
  | [] => .nil
  | a :: x => .ins a (Ed.right x)
theorem lev_le_left {x y : List Int} (a : Int) : lev (a :: x) y ≤ lev x y + 1 := by
  cases y with
  | nil => rw [lev_nil_right, lev_nil_right]; simp
  | cons b y => rw [lev_cons]; omega
theorem lev_le_right {x y : List Int} (b : Int) : lev x (b :: y) ≤ lev x y + 1 := by
  cases x with
  | nil => rw [lev_nil_left, lev_nil_left]; simp
  | cons a x => rw [lev_cons]; omega
theorem lev_le_sub {x y : List Int} (a b : Int) : lev (a :: x) (b :: y) ≤ lev x y + c1 a b := by rw [lev_cons]; omega
theorem Ed.le {x y : List Int} {n : Nat} (h : Ed x y n) : lev x y ≤ n := by
  induction h with
  | nil => rw [lev_nil_left]; simp
  | sub a b _ ih => exact Nat.le_trans (lev_le_sub a b) (by omega)
  | del a _ ih => exact Nat.le_trans (lev_le_left a) (by omega)
  | ins b _ ih => exact Nat.le_trans (lev_le_right b) (by omega)
theorem Ed.lev : ∀ x y : List Int, Ed x y (lev x y)
  | [], y => by rw [lev_nil_left]; exact .right y
  | a :: x, [] => by rw [lev_nil_right]; exact .left _
  | a :: x, b :: y => by
    rw [lev_cons]
    have h1 := Ed.lev x y
    have h2 := Ed.lev x (b :: y)
    have h3 := Ed.lev (a :: x) y
    rcases Nat.le_total (Go.Proofs.YtjecgoddmkaboaaGreatDoor.Dst.lev x y + c1 a b) (min (Go.Proofs.YtjecgoddmkaboaaGreatDoor.Dst.lev x (b :: y) + 1) (Go.Proofs.YtjecgoddmkaboaaGreatDoor.Dst.lev (a :: x) y + 1)) with h | h
    · rw [Nat.min_eq_left h]; exact .sub a b h1
    · rw [Nat.min_eq_right h]
      rcases Nat.le_total (Go.Proofs.YtjecgoddmkaboaaGreatDoor.Dst.lev x (b :: y) + 1) (Go.Proofs.YtjecgoddmkaboaaGreatDoor.Dst.lev (a :: x) y + 1) with h | h
      · rw [Nat.min_eq_left h]; exact .del a h2
      · rw [Nat.min_eq_right h]; exact .ins b h3
termination_by x y => x.length + y.length
theorem Ed.symm {x y : List Int} {n : Nat} (h : Ed x y n) : Ed y x n := by
  induction h with
  | nil => exact .nil
  | sub a b _ ih =>
    have e : c1 a b = c1 b a := by unfold c1; split <;> split <;> omega
    rw [e]; exact .sub b a ih
  | del a _ ih => exact .ins a ih
  | ins b _ ih => exact .del b ih
theorem Ed.refl : ∀ x : List Int, Ed x x 0
  | [] => .nil
  | a :: x => by have := Ed.sub a a (Ed.refl x); simpa [c1] using this
theorem Ed.zero {x y : List Int} {n : Nat} (h : Ed x y n) : n = 0 → x = y := by
  induction h with
  | nil => intro _; rfl
  | sub a b _ ih =>
    intro e
    have : a = b := by unfold c1 at e; split at e <;> first | assumption | omega
    rw [ih (by omega), this]
  | del a _ ih => intro e; omega
  | ins b _ ih => intro e; omega
theorem Ed.append {x y : List Int} {n : Nat} (h : Ed x y n) (z : List Int) : Ed (x ++ z) (y ++ z) n := by
  induction h with
  | nil => exact .refl z
  | sub a b _ ih => exact .sub a b ih
  | del a _ ih => exact .del a ih
  | ins b _ ih => exact .ins b ih
theorem Ed.snoc_sub {x y : List Int} {n : Nat} (h : Ed x y n) (a b : Int) : Ed (x ++ [a]) (y ++ [b]) (n + c1 a b) := by
  induction h with
  | nil => exact .sub a b .nil
  | sub p q _ ih => have := Ed.sub p q ih; simp only [List.cons_append]; rw [Nat.add_right_comm]; exact this
  | del p _ ih => have := Ed.del p ih; simp only [List.cons_append]; rw [Nat.add_right_comm]; exact this
  | ins p _ ih => have := Ed.ins p ih; simp only [List.cons_append]; rw [Nat.add_right_comm]; exact this
theorem Ed.snoc_del {x y : List Int} {n : Nat} (h : Ed x y n) (a : Int) : Ed (x ++ [a]) y (n + 1) := by
  induction h with
  | nil => exact .del a .nil
  | sub p q _ ih => have := Ed.sub p q ih; simp only [List.cons_append]; rw [Nat.add_right_comm]; exact this
  | del p _ ih => have := Ed.del p ih; simp only [List.cons_append]; exact this
  | ins p _ ih => exact .ins p ih
theorem Ed.snoc_ins {x y : List Int} {n : Nat} (h : Ed x y n) (b : Int) : Ed x (y ++ [b]) (n + 1) := (h.symm.snoc_del b).symm
/-- From the end of the lists. -/
theorem Ed.reverse {x y : List Int} {n : Nat} (h : Ed x y n) : Ed x.reverse y.reverse n := by
  induction h with
  | nil => exact .nil
  | sub a b _ ih => rw [List.reverse_cons, List.reverse_cons]; exact ih.snoc_sub a b
  | del a _ ih => rw [List.reverse_cons]; exact ih.snoc_del a
  | ins b _ ih => rw [List.reverse_cons]; exact ih.snoc_ins b
end Go.Proofs.YtjecgoddmkaboaaGreatDoor.Dst

namespace Go.Proofs.YtjecgoddmkaboaaGreatDoor.Dst
/-! Texts in order; sets of texts. -/
abbrev bl (x y : List UInt8) : Bool := Op.bytesLess x y
theorem bl_irrefl : ∀ x : List UInt8, bl x x = false
  | [] => rfl
  | a :: x => by
    show (decide (a < a) || (a == a && bl x x)) = false
    rw [bl_irrefl x]; simp
def Asc (l : List (List UInt8)) : Prop := l.Pairwise fun x y => bl x y = true
theorem Asc.tail {x : List UInt8} {l : List (List UInt8)} (h : Asc (x :: l)) : Asc l := (List.pairwise_cons.1 h).2
/-- Sorted, then each once. -/
def dedup : List (List UInt8) → List (List UInt8)
  | x :: y :: l => if x = y then dedup (y :: l) else x :: dedup (y :: l)
  | l => l
theorem Asc.nodup {l : List (List UInt8)} (h : Asc l) : l.Nodup := List.Pairwise.imp (fun {x y} hxy e => by subst e; rw [bl_irrefl] at hxy; cases hxy) h
end Go.Proofs.YtjecgoddmkaboaaGreatDoor.Dst

namespace Go.Proofs.YtjecgoddmkaboaaGreatDoor.Dst
open Go.Abs
/-! Code points and tokens. -/
end Go.Proofs.YtjecgoddmkaboaaGreatDoor.Dst

namespace Go.Proofs.YtjecgoddmkaboaaGreatDoor.Dst
open Go.Abs
/-! Texts of ASCII and of the one wide letter of the words: their code points tell them apart. -/
end Go.Proofs.YtjecgoddmkaboaaGreatDoor.Dst

namespace Go.Proofs.YtjecgoddmkaboaaGreatDoor.Dst
open Go Go.Proofs Go.Abs
variable {G : Globals}
/-! Code points, both packages. -/
abbrev M0 : Muts := fun _ => false
abbrev S (l : List UInt8) : D := .str (bs l)
end Go.Proofs.YtjecgoddmkaboaaGreatDoor.Dst

namespace Go.Proofs.YtjecgoddmkaboaaGreatDoor.Dst
open Go Go.Proofs Go.Abs
variable {G : Globals}
/-! Folding, both packages. -/
theorem cells_nums {l : List UInt8} : (l.map fun b => D.int .u8 (b.toNat : Int)) = ints .u8 (nums l) := by simp [ints, nums]
end Go.Proofs.YtjecgoddmkaboaaGreatDoor.Dst

namespace Go.Proofs.YtjecgoddmkaboaaGreatDoor.Dst
open Go Go.Proofs Go.Abs
variable {G : Globals}
/-! Rows of texts; which are sets. -/
end Go.Proofs.YtjecgoddmkaboaaGreatDoor.Dst

namespace Go.Proofs.YtjecgoddmkaboaaGreatDoor.Dst
open Go Go.Proofs Go.Abs
variable {G : Globals}
/-! Tokens: the reference. -/
end Go.Proofs.YtjecgoddmkaboaaGreatDoor.Dst

namespace Go.Proofs.YtjecgoddmkaboaaGreatDoor.Dst
open Go Go.Proofs Go.Abs
variable {G : Globals}
/-! Tokens: the program, by strings.FieldsFunc. -/
end Go.Proofs.YtjecgoddmkaboaaGreatDoor.Dst

namespace Go.Proofs.YtjecgoddmkaboaaGreatDoor.Dst
open Go Go.Proofs Go.Abs
variable {G : Globals}
/-! Sets of texts: the reference. -/
end Go.Proofs.YtjecgoddmkaboaaGreatDoor.Dst

namespace Go.Proofs.YtjecgoddmkaboaaGreatDoor.Dst
open Go Go.Proofs Go.Abs
variable {G : Globals}
/-! The edit distance, both packages. -/
end Go.Proofs.YtjecgoddmkaboaaGreatDoor.Dst

namespace Go.Proofs.YtjecgoddmkaboaaGreatDoor.Dst
open Go Go.Proofs Go.Abs
variable {G : Globals}
/-! Distances within a limit; unions. -/
end Go.Proofs.YtjecgoddmkaboaaGreatDoor.Dst

namespace Go.Proofs.YtjecgoddmkaboaaGreatDoor.Dst
open Go Go.Proofs Go.Abs
variable {G : Globals}
/-! The reference: similarity of tokens, rules. -/
abbrev Ru (kind lim num den : Int) : D := .agg [.int .i64 kind, .int .i64 lim, .int .i64 num, .int .i64 den]
end Go.Proofs.YtjecgoddmkaboaaGreatDoor.Dst

namespace Go.Proofs.YtjecgoddmkaboaaGreatDoor.Dst
open Go Go.Proofs Go.Abs
variable {G : Globals}
/-! The reference: lengths, similar texts. -/
end Go.Proofs.YtjecgoddmkaboaaGreatDoor.Dst

namespace Go.Proofs.YtjecgoddmkaboaaGreatDoor.Dst
open Go Go.Proofs Go.Abs
variable {G : Globals}
/-! The dice; the words. -/
end Go.Proofs.YtjecgoddmkaboaaGreatDoor.Dst

namespace Go.Proofs.YtjecgoddmkaboaaGreatDoor.Dst
open Go Go.Proofs Go.Abs
variable {G : Globals}
/-! The dice's texts. -/
end Go.Proofs.YtjecgoddmkaboaaGreatDoor.Dst

namespace Go.Proofs.YtjecgoddmkaboaaGreatDoor.Dst
open Go Go.Proofs Go.Abs
variable {G : Globals}
/-! The dice's rules and queries. -/
structure RuV where
  kind : Int
  lim : Int
  num : Int
  den : Int
abbrev RuV.D (r : RuV) : D := Ru r.kind r.lim r.num r.den
end Go.Proofs.YtjecgoddmkaboaaGreatDoor.Dst

namespace Go.Proofs.YtjecgoddmkaboaaGreatDoor.Dst
open Go Go.Proofs Go.Abs
variable {G : Globals}
/-! Remainders. -/
set_option maxRecDepth 100000 in
theorem mmod_spec (n m : Int) (hn1 : -9223372036854775808 ≤ n) (hn2 : n ≤ 9223372036854775807) (h0 : 0 < m) (h1 : m < 4611686018427387904) :
    Ctr Tryz.prog G 5 [.d (.int .i64 n), .d (.int .i64 m)] [] (.d (.int .i64 (n % m))) [] := by
  have e := Int.tmod_eq_emod (a := n) (b := m)
  have p1 := Int.emod_nonneg n (show m ≠ 0 by omega)
  have p2 := Int.emod_lt_of_pos n h0
  have c0 : -m < n.tmod m ∧ n.tmod m < m := ⟨Int.lt_tmod_of_pos n h0, Int.tmod_lt_of_pos n h0⟩
  have hh : (n.tmod m < 0 → n.tmod m + m = n % m) ∧ (¬ n.tmod m < 0 → n.tmod m = n % m) := by
    rw [e]
    split
    · exact ⟨fun h => by omega, fun _ => by omega⟩
    · exact ⟨fun h => by omega, fun h => by omega⟩
  clear e
  refine Ctr.pure (M := M0) hmix Tryz.func5 rfl go5 ?_
  simp (config := { maxSteps := 1000000 }) (disch := ((try simp only [awL]); omega)) only [Tryz.f5, ↓awU, awV, awF, Qa, Qb, Qc, Qd, forall_const, ↓reduceIte, ↓reduceDIte, ↓Qe, Qf, Qg, Qh, Qi, Qj, Qk, Ql, Qm, Qn, Qo, Qp, Qq, Qr, Qs, implies_true, Qt, Qu, Qv, Qw, Qx, Qy, Qz, QA, QB, QC, QD, QE, QF, QG, QH, QI, QJ, QK, QL, QM, QN, QO, QP, QQ]
end Go.Proofs.YtjecgoddmkaboaaGreatDoor.Dst
