/-
  Contracts of the functions, one after another.
-/
import Derived.Test.YtacepalmphbnfaaGreatDoorLa3
import Derived.Lib.ValidLaws
import Derived.Test.YtacepalmphbnfaaGreatDoorChecked
import Derived.KernelRfl
import Derived.Shelf.Unicode.ValidAny
import Derived.Ground.NamesProg
import Derived.Lib.DecodeN
import Derived.Lib.Strings
import Derived.Lib.Slices
import Derived.Lib.Walk
import Derived.Lib.Bytealg
import Derived.Shelf.Strings.Trim
import Derived.Shelf.Strings.Replace
import Derived.Shelf.Strings.Repeat
import Derived.Shelf.Strings.Builder1
import Derived.Shelf.Utf8.RuneCount
import Derived.Shelf.Strings.Prefix
import Derived.Shelf.Small.Wraps
import Derived.Lib.OthersKept
import Derived.Lib.MapLaws
import Derived.Lib.RuneBytes
set_option linter.all false
open Go.Abs renaming ofVal → Qa, ofVal0 → Qb, isShift → Qc, aggK → Qd, purePost → Qe, combine → Qf, idsA → Qg, cellsA → Qh, numsOf → Qi, srcA → Qj, calleeA → Qk, refsA → Ql, isScalar → Qm, scalarD → Qn, scalar0 → Qo, putL → Qr, unfA → Qs, sidsB → QJ, keyKD → QL, isIntK → QM, aggD → QN, aggL → QO, eqKs → QP, boxRow → QQ, nextC_more → QT, nextC_over → QU, bs_size → QV, bs_extract → QW, bs_toList → QX, bs_append → QY, byteAt_bs → QZ, bs_cells → Q0, nums_length → Q1, nums_getD → Q2
open Go.Abs.AV renaming one → Qp
open Go.Abs.D renaming one → Qq
open Go.IntKind renaming signed → Qt
open Nat renaming reduceAdd → Qu, reduceSub → Qv, reduceMul → Qw, reducePow → Qx, reduceDiv → Qy, reduceMod → Qz, reduceEqDiff → QI, reduceBEq → QK
open Int renaming reduceAdd → QA, reduceSub → QB, reduceMul → QC, reducePow → QD, reduceNeg → QE, reduceToNat → QF, reduceLT → QG, reduceLE → QH
open Option renaming toList_some → QR, toList_none → QS
namespace Go.Proofs.YtacepalmphbnfaaGreatDoor
/-! Files with a delimiter: what is read. -/
end Go.Proofs.YtacepalmphbnfaaGreatDoor

namespace Go.Proofs.YtacepalmphbnfaaGreatDoor
open Go.Lib
/-! Valid texts: what they are made of. -/
theorem checkN_some {n b1 b2 b3 sz lo hi k : Nat} (h : checkN n b1 b2 b3 sz lo hi = some k) : k = sz ∧ 2 ≤ sz ∧ sz ≤ 4 ∧ sz ≤ n ∧ lo ≤ b1 ∧ b1 ≤ hi ∧ (3 ≤ sz → 128 ≤ b2 ∧ b2 ≤ 191) ∧ (4 ≤ sz → 128 ≤ b3 ∧ b3 ≤ 191) := by
  unfold checkN at h
  split at h
  · split at h
    · cases h
    · cases h; omega
  · split at h
    · split at h
      · cases h
      · cases h; omega
    · split at h
      · split at h
        · cases h
        · cases h; omega
      · cases h
theorem checkN_mk {n b1 b2 b3 sz lo hi : Nat} (h1 : 2 ≤ sz) (h2 : sz ≤ 4) (hn : sz ≤ n) (hl : lo ≤ b1) (hh : b1 ≤ hi) (h3 : 3 ≤ sz → 128 ≤ b2 ∧ b2 ≤ 191) (h4 : 4 ≤ sz → 128 ≤ b3 ∧ b3 ≤ 191) : checkN n b1 b2 b3 sz lo hi = some sz := by
  unfold checkN
  rcases (by omega : sz = 2 ∨ sz = 3 ∨ sz = 4) with rfl | rfl | rfl
  · rw [if_pos rfl, if_neg (by omega)]
  · have := h3 (by omega)
    rw [if_neg (by decide), if_pos rfl, if_neg (by omega)]
  · have := h3 (by omega)
    have := h4 (by omega)
    rw [if_neg (by decide), if_neg (by decide), if_pos rfl, if_neg (by omega)]
set_option maxRecDepth 100000 in
theorem accLo_ge : ∀ b : Fin 256, 2 ≤ firstT b.val % 8 → firstT b.val % 8 ≤ 4 → 128 ≤ accLo (firstT b.val / 16) := by decide
/-- A valid text, by its first rune. -/
theorem valid_cases {l : List UInt8} (h : validD l = true) : l = [] ∨ ∃ p m, l = p ++ m ∧ p ≠ [] ∧ validD m = true ∧ (∀ m', validD (p ++ m') = validD m') ∧ ((∃ c, p = [c] ∧ c.toNat < 128) ∨ ∀ c ∈ p, 128 ≤ c.toNat) := by
  match l, h with
  | [], _ => exact .inl rfl
  | c :: r, h =>
    right
    by_cases hc : c.toNat < 128
    · exact ⟨[c], r, rfl, by simp, by rwa [validD_cons c r hc] at h, fun m' => validD_cons c m' hc, .inl ⟨c, rfl, hc⟩⟩
    · have h0 : 128 ≤ ((c :: r).getD 0 0).toNat := by show 128 ≤ c.toNat; omega
      have hv := validD_lead (c :: r) (by simp) h0
      rw [h] at hv
      cases hk : checkN (c :: r).length ((c :: r).getD 1 0).toNat ((c :: r).getD 2 0).toNat ((c :: r).getD 3 0).toNat (firstT ((c :: r).getD 0 0).toNat % 8) (accLo (firstT ((c :: r).getD 0 0).toNat / 16)) (accHi (firstT ((c :: r).getD 0 0).toNat / 16)) with
      | none => rw [hk] at hv; cases hv
      | some k =>
        rw [hk] at hv
        obtain ⟨ek, k1, k2, k3, k4, k5, k6, k7⟩ := checkN_some hk
        have lo := accLo_ge ⟨((c :: r).getD 0 0).toNat, UInt8.toNat_lt _⟩ k1 k2
        simp only at lo
        generalize hl : c :: r = l at *
        clear hl hc
        have hg : ∀ m' j, j < k → (l.take k ++ m').getD j 0 = l.getD j 0 := by
          intro m' j hj
          rw [List.getD_eq_getElem?_getD, List.getD_eq_getElem?_getD, List.getElem?_append_left (by rw [List.length_take]; omega), List.getElem?_take, if_pos hj]
        have hkl : k ≤ l.length := by omega
        have hlt : (l.take k).length = k := by rw [List.length_take]; omega
        refine ⟨l.take k, l.drop k, (List.take_append_drop k l).symm, ?_, hv.symm, fun m' => ?_, .inr ?_⟩
        · intro e
          rw [e] at hlt; simp at hlt; omega
        · have hne : l.take k ++ m' ≠ [] := by
            intro e
            have := congrArg List.length e
            rw [List.length_append, hlt] at this
            simp only [List.length_nil] at this; omega
          have g0 := hg m' 0 (by omega)
          have g1 := hg m' 1 (by omega)
          rw [validD_lead _ hne (by rw [g0]; exact h0), g0, g1, checkN_mk (sz := firstT (l.getD 0 0).toNat % 8) k1 k2 (by rw [List.length_append, List.length_take]; omega) k4 k5 (fun h3 => by rw [hg m' 2 (by omega)]; exact k6 h3) (fun h4 => by rw [hg m' 3 (by omega)]; exact k7 h4)]
          show validD ((l.take k ++ m').drop (firstT (l.getD 0 0).toNat % 8)) = _
          rw [← ek, List.drop_left' hlt]
        · intro x hx
          obtain ⟨j, hj, rfl⟩ := List.getElem_of_mem hx
          rw [List.length_take] at hj
          rw [List.getElem_take]
          have e : l[j] = l.getD j 0 := by rw [List.getD_eq_getElem?_getD, List.getElem?_eq_getElem (by omega)]; rfl
          rw [e]
          rcases (by omega : j = 0 ∨ j = 1 ∨ j = 2 ∨ j = 3) with rfl | rfl | rfl | rfl
          · exact h0
          · omega
          · exact (k6 (by omega)).1
          · exact (k7 (by omega)).1
theorem valid_append : ∀ (n : Nat) (a b : List UInt8), a.length = n → validD a = true → validD (a ++ b) = validD b := by
  intro n
  induction n using Nat.strongRecOn with
  | _ n ih =>
    intro a b hn ha
    rcases valid_cases ha with rfl | ⟨p, m, rfl, hp, hm, hall, _⟩
    · rfl
    · have := List.length_pos_iff.2 hp
      rw [List.append_assoc, hall, ih m.length (by rw [List.length_append] at hn; omega) m b rfl hm]
theorem valid_app {a b : List UInt8} (ha : validD a = true) (hb : validD b = true) : validD (a ++ b) = true := by rw [valid_append _ a b rfl ha]; exact hb
end Go.Proofs.YtacepalmphbnfaaGreatDoor

/-
  Facts of the program: its types, and which functions are Go text: each by the kernel.
-/
namespace Go.Proofs.YtacepalmphbnfaaGreatDoor
open Go Go.Proofs Go.Abs
theorem ti2 : tiOf Tryz.prog 2 = some ⟨.int .i64, 1, 8, [.int .i64 0]⟩ := by kernel_rfl
theorem ie2 : intE Tryz.prog 2 = some .i64 := by kernel_rfl
theorem it2 : intT Tryz.prog 2 = some .i64 := by kernel_rfl
theorem st2 : isStrT Tryz.prog 2 = false := by kernel_rfl
theorem ti3 : tiOf Tryz.prog 3 = some ⟨.int .i64, 1, 8, [.int .i64 0]⟩ := by kernel_rfl
theorem zo3 : zeroOf Tryz.prog 3 = some (.int .i64 0) := by kernel_rfl
theorem ie3 : intE Tryz.prog 3 = some .i64 := by kernel_rfl
theorem it3 : intT Tryz.prog 3 = some .i64 := by kernel_rfl
theorem st3 : isStrT Tryz.prog 3 = false := by kernel_rfl
theorem ti4 : tiOf Tryz.prog 4 = some ⟨.bool, 1, 1, [.bool false]⟩ := by kernel_rfl
theorem bt4 : isBoolT Tryz.prog 4 = true := by kernel_rfl
theorem ti5 : tiOf Tryz.prog 5 = some ⟨.int .u8, 1, 1, [.int .u8 0]⟩ := by kernel_rfl
theorem ie5 : intE Tryz.prog 5 = some .u8 := by kernel_rfl
theorem it5 : intT Tryz.prog 5 = some .u8 := by kernel_rfl
theorem st5 : isStrT Tryz.prog 5 = false := by kernel_rfl
theorem ti6 : tiOf Tryz.prog 6 = some ⟨.int .u8, 1, 1, [.int .u8 0]⟩ := by kernel_rfl
theorem ie6 : intE Tryz.prog 6 = some .u8 := by kernel_rfl
theorem it6 : intT Tryz.prog 6 = some .u8 := by kernel_rfl
theorem st6 : isStrT Tryz.prog 6 = false := by kernel_rfl
theorem ti7 : tiOf Tryz.prog 7 = some ⟨.struct [(0, 2, 1), (1, 3, 1), (2, 4, 1), (3, 6, 1)], 4, 24, [.int .i64 0, .int .i64 0, .bool false, .int .u8 0]⟩ := by kernel_rfl
theorem sf7_0 : structF Tryz.prog 7 0 = some (0, 2, 1) := by kernel_rfl
theorem sf7_1 : structF Tryz.prog 7 1 = some (1, 3, 1) := by kernel_rfl
theorem sf7_2 : structF Tryz.prog 7 2 = some (2, 4, 1) := by kernel_rfl
theorem sf7_3 : structF Tryz.prog 7 3 = some (3, 6, 1) := by kernel_rfl
theorem ti8 : tiOf Tryz.prog 8 = some ⟨.struct [(0, 2, 1), (1, 3, 1), (2, 4, 1), (3, 6, 1)], 4, 24, [.int .i64 0, .int .i64 0, .bool false, .int .u8 0]⟩ := by kernel_rfl
theorem sf8_0 : structF Tryz.prog 8 0 = some (0, 2, 1) := by kernel_rfl
theorem sf8_1 : structF Tryz.prog 8 1 = some (1, 3, 1) := by kernel_rfl
theorem sf8_2 : structF Tryz.prog 8 2 = some (2, 4, 1) := by kernel_rfl
theorem sf8_3 : structF Tryz.prog 8 3 = some (3, 6, 1) := by kernel_rfl
theorem ti9 : tiOf Tryz.prog 9 = some ⟨.string, 1, 16, [.str .empty]⟩ := by kernel_rfl
theorem st9 : isStrT Tryz.prog 9 = true := by kernel_rfl
theorem ap9 : appendable Tryz.prog 9 = true := by kernel_rfl
theorem it9 : intT Tryz.prog 9 = none := by kernel_rfl
theorem ti10 : tiOf Tryz.prog 10 = some ⟨.string, 1, 16, [.str .empty]⟩ := by kernel_rfl
theorem st10 : isStrT Tryz.prog 10 = true := by kernel_rfl
theorem ap10 : appendable Tryz.prog 10 = true := by kernel_rfl
theorem it10 : intT Tryz.prog 10 = none := by kernel_rfl
theorem ti11 : tiOf Tryz.prog 11 = some ⟨.string, 1, 16, [.str .empty]⟩ := by kernel_rfl
theorem st11 : isStrT Tryz.prog 11 = true := by kernel_rfl
theorem ap11 : appendable Tryz.prog 11 = true := by kernel_rfl
theorem it11 : intT Tryz.prog 11 = none := by kernel_rfl
theorem ti12 : tiOf Tryz.prog 12 = some ⟨.int .u64, 1, 8, [.int .u64 0]⟩ := by kernel_rfl
theorem ie12 : intE Tryz.prog 12 = some .u64 := by kernel_rfl
theorem it12 : intT Tryz.prog 12 = some .u64 := by kernel_rfl
theorem st12 : isStrT Tryz.prog 12 = false := by kernel_rfl
theorem ti14 : tiOf Tryz.prog 14 = some ⟨.struct [(0, 9, 1), (1, 12, 1)], 2, 24, [.str .empty, .int .u64 0]⟩ := by kernel_rfl
theorem sf14_0 : structF Tryz.prog 14 0 = some (0, 9, 1) := by kernel_rfl
theorem sf14_1 : structF Tryz.prog 14 1 = some (1, 12, 1) := by kernel_rfl
theorem ti15 : tiOf Tryz.prog 15 = some ⟨.ptr 231, 1, 8, [.nilp]⟩ := by kernel_rfl
theorem ti16 : tiOf Tryz.prog 16 = some ⟨.ptr 234, 1, 8, [.nilp]⟩ := by kernel_rfl
theorem ti17 : tiOf Tryz.prog 17 = some ⟨.ptr 241, 1, 8, [.nilp]⟩ := by kernel_rfl
theorem ti19 : tiOf Tryz.prog 19 = some ⟨.struct [(0, 17, 1)], 1, 8, [.nilp]⟩ := by kernel_rfl
theorem sf19_0 : structF Tryz.prog 19 0 = some (0, 17, 1) := by kernel_rfl
theorem ti20 : tiOf Tryz.prog 20 = some ⟨.other, 1, 16, [.nili]⟩ := by kernel_rfl
theorem ti21 : tiOf Tryz.prog 21 = some ⟨.int .i32, 1, 4, [.int .i32 0]⟩ := by kernel_rfl
theorem ie21 : intE Tryz.prog 21 = some .i32 := by kernel_rfl
theorem it21 : intT Tryz.prog 21 = some .i32 := by kernel_rfl
theorem st21 : isStrT Tryz.prog 21 = false := by kernel_rfl
theorem ti22 : tiOf Tryz.prog 22 = some ⟨.slice 5, 1, 24, [.sl 0 true []]⟩ := by kernel_rfl
theorem se22 : sliceElem Tryz.prog 22 = some (5, ⟨.int .u8, 1, 1, [.int .u8 0]⟩) := by kernel_rfl
theorem sz22 : isSliceT Tryz.prog 22 = true := by kernel_rfl
theorem ap22 : appendable Tryz.prog 22 = true := by kernel_rfl
theorem st22 : isStrT Tryz.prog 22 = false := by kernel_rfl
theorem ti24 : tiOf Tryz.prog 24 = some ⟨.ptr 77, 1, 8, [.nilp]⟩ := by kernel_rfl
theorem ti26 : tiOf Tryz.prog 26 = some ⟨.slice 3, 1, 24, [.sl 0 true []]⟩ := by kernel_rfl
theorem se26 : sliceElem Tryz.prog 26 = some (3, ⟨.int .i64, 1, 8, [.int .i64 0]⟩) := by kernel_rfl
theorem sz26 : isSliceT Tryz.prog 26 = true := by kernel_rfl
theorem ap26 : appendable Tryz.prog 26 = true := by kernel_rfl
theorem st26 : isStrT Tryz.prog 26 = false := by kernel_rfl
theorem ti28 : tiOf Tryz.prog 28 = some ⟨.int .i64, 1, 8, [.int .i64 0]⟩ := by kernel_rfl
theorem ie28 : intE Tryz.prog 28 = some .i64 := by kernel_rfl
theorem it28 : intT Tryz.prog 28 = some .i64 := by kernel_rfl
theorem st28 : isStrT Tryz.prog 28 = false := by kernel_rfl
theorem ti31 : tiOf Tryz.prog 31 = some ⟨.slice 35, 1, 24, [.sl 0 true []]⟩ := by kernel_rfl
theorem se31 : sliceElem Tryz.prog 31 = some (35, ⟨.slice 9, 1, 24, [.sl 0 true []]⟩) := by kernel_rfl
theorem sz31 : isSliceT Tryz.prog 31 = true := by kernel_rfl
theorem ap31 : appendable Tryz.prog 31 = true := by kernel_rfl
theorem st31 : isStrT Tryz.prog 31 = false := by kernel_rfl
theorem ti33 : tiOf Tryz.prog 33 = some ⟨.struct [(0, 31, 1)], 1, 24, [.sl 0 true []]⟩ := by kernel_rfl
theorem sf33_0 : structF Tryz.prog 33 0 = some (0, 31, 1) := by kernel_rfl
theorem ti35 : tiOf Tryz.prog 35 = some ⟨.slice 9, 1, 24, [.sl 0 true []]⟩ := by kernel_rfl
theorem se35 : sliceElem Tryz.prog 35 = some (9, ⟨.string, 1, 16, [.str .empty]⟩) := by kernel_rfl
theorem sz35 : isSliceT Tryz.prog 35 = true := by kernel_rfl
theorem ap35 : appendable Tryz.prog 35 = true := by kernel_rfl
theorem st35 : isStrT Tryz.prog 35 = false := by kernel_rfl
theorem ti40 : tiOf Tryz.prog 40 = some ⟨.slice 49, 1, 24, [.sl 0 true []]⟩ := by kernel_rfl
theorem se40 : sliceElem Tryz.prog 40 = some (49, ⟨.struct [(0, 9, 1), (1, 3, 1), (2, 3, 1)], 3, 32, [.str .empty, .int .i64 0, .int .i64 0]⟩) := by kernel_rfl
theorem sz40 : isSliceT Tryz.prog 40 = true := by kernel_rfl
theorem ap40 : appendable Tryz.prog 40 = true := by kernel_rfl
theorem st40 : isStrT Tryz.prog 40 = false := by kernel_rfl
theorem ti43 : tiOf Tryz.prog 43 = some ⟨.func, 1, 8, [.nilf]⟩ := by kernel_rfl
theorem ti44 : tiOf Tryz.prog 44 = some ⟨.slice 21, 1, 24, [.sl 0 true []]⟩ := by kernel_rfl
theorem se44 : sliceElem Tryz.prog 44 = some (21, ⟨.int .i32, 1, 4, [.int .i32 0]⟩) := by kernel_rfl
theorem sz44 : isSliceT Tryz.prog 44 = true := by kernel_rfl
theorem ap44 : appendable Tryz.prog 44 = true := by kernel_rfl
theorem st44 : isStrT Tryz.prog 44 = false := by kernel_rfl
theorem ti49 : tiOf Tryz.prog 49 = some ⟨.struct [(0, 9, 1), (1, 3, 1), (2, 3, 1)], 3, 32, [.str .empty, .int .i64 0, .int .i64 0]⟩ := by kernel_rfl
theorem eq49 : eqT Tryz.prog 49 = some [1, 0, 0] := by kernel_rfl
theorem sf49_0 : structF Tryz.prog 49 0 = some (0, 9, 1) := by kernel_rfl
theorem sf49_1 : structF Tryz.prog 49 1 = some (1, 3, 1) := by kernel_rfl
theorem sf49_2 : structF Tryz.prog 49 2 = some (2, 3, 1) := by kernel_rfl
theorem ti51 : tiOf Tryz.prog 51 = some ⟨.slice 26, 1, 24, [.sl 0 true []]⟩ := by kernel_rfl
theorem se51 : sliceElem Tryz.prog 51 = some (26, ⟨.slice 3, 1, 24, [.sl 0 true []]⟩) := by kernel_rfl
theorem sz51 : isSliceT Tryz.prog 51 = true := by kernel_rfl
theorem ap51 : appendable Tryz.prog 51 = true := by kernel_rfl
theorem st51 : isStrT Tryz.prog 51 = false := by kernel_rfl
theorem ti56 : tiOf Tryz.prog 56 = some ⟨.slice 33, 1, 24, [.sl 0 true []]⟩ := by kernel_rfl
theorem se56 : sliceElem Tryz.prog 56 = some (33, ⟨.struct [(0, 31, 1)], 1, 24, [.sl 0 true []]⟩) := by kernel_rfl
theorem sz56 : isSliceT Tryz.prog 56 = true := by kernel_rfl
theorem ap56 : appendable Tryz.prog 56 = true := by kernel_rfl
theorem st56 : isStrT Tryz.prog 56 = false := by kernel_rfl
theorem ti61 : tiOf Tryz.prog 61 = some ⟨.slice 64, 1, 24, [.sl 0 true []]⟩ := by kernel_rfl
theorem se61 : sliceElem Tryz.prog 61 = some (64, ⟨.struct [(0, 3, 1), (1, 3, 1), (2, 3, 1), (3, 3, 1)], 4, 32, [.int .i64 0, .int .i64 0, .int .i64 0, .int .i64 0]⟩) := by kernel_rfl
theorem sz61 : isSliceT Tryz.prog 61 = true := by kernel_rfl
theorem ap61 : appendable Tryz.prog 61 = true := by kernel_rfl
theorem st61 : isStrT Tryz.prog 61 = false := by kernel_rfl
theorem ti64 : tiOf Tryz.prog 64 = some ⟨.struct [(0, 3, 1), (1, 3, 1), (2, 3, 1), (3, 3, 1)], 4, 32, [.int .i64 0, .int .i64 0, .int .i64 0, .int .i64 0]⟩ := by kernel_rfl
theorem eq64 : eqT Tryz.prog 64 = some [0, 0, 0, 0] := by kernel_rfl
theorem sf64_0 : structF Tryz.prog 64 0 = some (0, 3, 1) := by kernel_rfl
theorem sf64_1 : structF Tryz.prog 64 1 = some (1, 3, 1) := by kernel_rfl
theorem sf64_2 : structF Tryz.prog 64 2 = some (2, 3, 1) := by kernel_rfl
theorem sf64_3 : structF Tryz.prog 64 3 = some (3, 3, 1) := by kernel_rfl
theorem ti70 : tiOf Tryz.prog 70 = some ⟨.slice 61, 1, 24, [.sl 0 true []]⟩ := by kernel_rfl
theorem se70 : sliceElem Tryz.prog 70 = some (61, ⟨.slice 64, 1, 24, [.sl 0 true []]⟩) := by kernel_rfl
theorem sz70 : isSliceT Tryz.prog 70 = true := by kernel_rfl
theorem ap70 : appendable Tryz.prog 70 = true := by kernel_rfl
theorem st70 : isStrT Tryz.prog 70 = false := by kernel_rfl
theorem ti77 : tiOf Tryz.prog 77 = some ⟨.struct [(0, 22, 1), (1, 3, 1)], 2, 32, [.sl 0 true [], .int .i64 0]⟩ := by kernel_rfl
theorem sf77_0 : structF Tryz.prog 77 0 = some (0, 22, 1) := by kernel_rfl
theorem sf77_1 : structF Tryz.prog 77 1 = some (1, 3, 1) := by kernel_rfl
theorem ti78 : tiOf Tryz.prog 78 = some ⟨.func, 1, 8, [.nilf]⟩ := by kernel_rfl
theorem ti82 : tiOf Tryz.prog 82 = some ⟨.slice 4, 1, 24, [.sl 0 true []]⟩ := by kernel_rfl
theorem se82 : sliceElem Tryz.prog 82 = some (4, ⟨.bool, 1, 1, [.bool false]⟩) := by kernel_rfl
theorem sz82 : isSliceT Tryz.prog 82 = true := by kernel_rfl
theorem ap82 : appendable Tryz.prog 82 = true := by kernel_rfl
theorem st82 : isStrT Tryz.prog 82 = false := by kernel_rfl
theorem ti84 : tiOf Tryz.prog 84 = some ⟨.map 9 3, 1, 8, [.nilm]⟩ := by kernel_rfl
theorem ti87 : tiOf Tryz.prog 87 = some ⟨.func, 1, 8, [.nilf]⟩ := by kernel_rfl
theorem ti88 : tiOf Tryz.prog 88 = some ⟨.func, 1, 8, [.nilf]⟩ := by kernel_rfl
theorem ti92 : tiOf Tryz.prog 92 = some ⟨.func, 1, 8, [.nilf]⟩ := by kernel_rfl
theorem ti96 : tiOf Tryz.prog 96 = some ⟨.ptr 98, 1, 8, [.nilp]⟩ := by kernel_rfl
theorem ti98 : tiOf Tryz.prog 98 = some ⟨.struct [(0, 96, 1), (1, 22, 1)], 2, 32, [.nilp, .sl 0 true []]⟩ := by kernel_rfl
theorem sf98_0 : structF Tryz.prog 98 0 = some (0, 96, 1) := by kernel_rfl
theorem sf98_1 : structF Tryz.prog 98 1 = some (1, 22, 1) := by kernel_rfl
theorem ti100 : tiOf Tryz.prog 100 = some ⟨.other, 1, 16, [.nili]⟩ := by kernel_rfl
theorem ti116 : tiOf Tryz.prog 116 = some ⟨.func, 1, 8, [.nilf]⟩ := by kernel_rfl
theorem ti119 : tiOf Tryz.prog 119 = some ⟨.array 4 3, 4, 32, [.int .i64 0, .int .i64 0, .int .i64 0, .int .i64 0]⟩ := by kernel_rfl
theorem se119 : sliceElem Tryz.prog 119 = none := by kernel_rfl
theorem ae119 : arrayE Tryz.prog 119 = some (4, 3, 1) := by kernel_rfl
theorem ti129 : tiOf Tryz.prog 129 = some ⟨.int .u64, 1, 8, [.int .u64 0]⟩ := by kernel_rfl
theorem ie129 : intE Tryz.prog 129 = some .u64 := by kernel_rfl
theorem it129 : intT Tryz.prog 129 = some .u64 := by kernel_rfl
theorem st129 : isStrT Tryz.prog 129 = false := by kernel_rfl
theorem ti137 : tiOf Tryz.prog 137 = some ⟨.ptr 5, 1, 8, [.nilp]⟩ := by kernel_rfl
theorem ti141 : tiOf Tryz.prog 141 = some ⟨.slice 144, 1, 24, [.sl 0 true []]⟩ := by kernel_rfl
theorem se141 : sliceElem Tryz.prog 141 = some (144, ⟨.array 2 3, 2, 16, [.int .i64 0, .int .i64 0]⟩) := by kernel_rfl
theorem sz141 : isSliceT Tryz.prog 141 = true := by kernel_rfl
theorem ap141 : appendable Tryz.prog 141 = true := by kernel_rfl
theorem st141 : isStrT Tryz.prog 141 = false := by kernel_rfl
theorem ti144 : tiOf Tryz.prog 144 = some ⟨.array 2 3, 2, 16, [.int .i64 0, .int .i64 0]⟩ := by kernel_rfl
theorem se144 : sliceElem Tryz.prog 144 = none := by kernel_rfl
theorem ae144 : arrayE Tryz.prog 144 = some (2, 3, 1) := by kernel_rfl
theorem ti150 : tiOf Tryz.prog 150 = some ⟨.array 256 5, 256, 256, [.int .u8 0, .int .u8 0, .int .u8 0, .int .u8 0, .int .u8 0, .int .u8 0, .int .u8 0, .int .u8 0, .int .u8 0, .int .u8 0, .int .u8 0, .int .u8 0, .int .u8 0, .int .u8 0, .int .u8 0, .int .u8 0, .int .u8 0, .int .u8 0, .int .u8 0, .int .u8 0, .int .u8 0, .int .u8 0, .int .u8 0, .int .u8 0, .int .u8 0, .int .u8 0, .int .u8 0, .int .u8 0, .int .u8 0, .int .u8 0, .int .u8 0, .int .u8 0, .int .u8 0, .int .u8 0, .int .u8 0, .int .u8 0, .int .u8 0, .int .u8 0, .int .u8 0, .int .u8 0, .int .u8 0, .int .u8 0, .int .u8 0, .int .u8 0, .int .u8 0, .int .u8 0, .int .u8 0, .int .u8 0, .int .u8 0, .int .u8 0, .int .u8 0, .int .u8 0, .int .u8 0, .int .u8 0, .int .u8 0, .int .u8 0, .int .u8 0, .int .u8 0, .int .u8 0, .int .u8 0, .int .u8 0, .int .u8 0, .int .u8 0, .int .u8 0, .int .u8 0, .int .u8 0, .int .u8 0, .int .u8 0, .int .u8 0, .int .u8 0, .int .u8 0, .int .u8 0, .int .u8 0, .int .u8 0, .int .u8 0, .int .u8 0, .int .u8 0, .int .u8 0, .int .u8 0, .int .u8 0, .int .u8 0, .int .u8 0, .int .u8 0, .int .u8 0, .int .u8 0, .int .u8 0, .int .u8 0, .int .u8 0, .int .u8 0, .int .u8 0, .int .u8 0, .int .u8 0, .int .u8 0, .int .u8 0, .int .u8 0, .int .u8 0, .int .u8 0, .int .u8 0, .int .u8 0, .int .u8 0, .int .u8 0, .int .u8 0, .int .u8 0, .int .u8 0, .int .u8 0, .int .u8 0, .int .u8 0, .int .u8 0, .int .u8 0, .int .u8 0, .int .u8 0, .int .u8 0, .int .u8 0, .int .u8 0, .int .u8 0, .int .u8 0, .int .u8 0, .int .u8 0, .int .u8 0, .int .u8 0, .int .u8 0, .int .u8 0, .int .u8 0, .int .u8 0, .int .u8 0, .int .u8 0, .int .u8 0, .int .u8 0, .int .u8 0, .int .u8 0, .int .u8 0, .int .u8 0, .int .u8 0, .int .u8 0, .int .u8 0, .int .u8 0, .int .u8 0, .int .u8 0, .int .u8 0, .int .u8 0, .int .u8 0, .int .u8 0, .int .u8 0, .int .u8 0, .int .u8 0, .int .u8 0, .int .u8 0, .int .u8 0, .int .u8 0, .int .u8 0, .int .u8 0, .int .u8 0, .int .u8 0, .int .u8 0, .int .u8 0, .int .u8 0, .int .u8 0, .int .u8 0, .int .u8 0, .int .u8 0, .int .u8 0, .int .u8 0, .int .u8 0, .int .u8 0, .int .u8 0, .int .u8 0, .int .u8 0, .int .u8 0, .int .u8 0, .int .u8 0, .int .u8 0, .int .u8 0, .int .u8 0, .int .u8 0, .int .u8 0, .int .u8 0, .int .u8 0, .int .u8 0, .int .u8 0, .int .u8 0, .int .u8 0, .int .u8 0, .int .u8 0, .int .u8 0, .int .u8 0, .int .u8 0, .int .u8 0, .int .u8 0, .int .u8 0, .int .u8 0, .int .u8 0, .int .u8 0, .int .u8 0, .int .u8 0, .int .u8 0, .int .u8 0, .int .u8 0, .int .u8 0, .int .u8 0, .int .u8 0, .int .u8 0, .int .u8 0, .int .u8 0, .int .u8 0, .int .u8 0, .int .u8 0, .int .u8 0, .int .u8 0, .int .u8 0, .int .u8 0, .int .u8 0, .int .u8 0, .int .u8 0, .int .u8 0, .int .u8 0, .int .u8 0, .int .u8 0, .int .u8 0, .int .u8 0, .int .u8 0, .int .u8 0, .int .u8 0, .int .u8 0, .int .u8 0, .int .u8 0, .int .u8 0, .int .u8 0, .int .u8 0, .int .u8 0, .int .u8 0, .int .u8 0, .int .u8 0, .int .u8 0, .int .u8 0, .int .u8 0, .int .u8 0, .int .u8 0, .int .u8 0, .int .u8 0, .int .u8 0, .int .u8 0, .int .u8 0, .int .u8 0, .int .u8 0, .int .u8 0, .int .u8 0, .int .u8 0, .int .u8 0, .int .u8 0, .int .u8 0, .int .u8 0, .int .u8 0, .int .u8 0, .int .u8 0, .int .u8 0, .int .u8 0]⟩ := by kernel_rfl
theorem se150 : sliceElem Tryz.prog 150 = none := by kernel_rfl
theorem ae150 : arrayE Tryz.prog 150 = some (256, 5, 1) := by kernel_rfl
theorem ti152 : tiOf Tryz.prog 152 = some ⟨.struct [(0, 5, 1), (1, 5, 1)], 2, 2, [.int .u8 0, .int .u8 0]⟩ := by kernel_rfl
theorem sf152_0 : structF Tryz.prog 152 0 = some (0, 5, 1) := by kernel_rfl
theorem sf152_1 : structF Tryz.prog 152 1 = some (1, 5, 1) := by kernel_rfl
theorem ti153 : tiOf Tryz.prog 153 = some ⟨.array 16 152, 32, 32, [.int .u8 0, .int .u8 0, .int .u8 0, .int .u8 0, .int .u8 0, .int .u8 0, .int .u8 0, .int .u8 0, .int .u8 0, .int .u8 0, .int .u8 0, .int .u8 0, .int .u8 0, .int .u8 0, .int .u8 0, .int .u8 0, .int .u8 0, .int .u8 0, .int .u8 0, .int .u8 0, .int .u8 0, .int .u8 0, .int .u8 0, .int .u8 0, .int .u8 0, .int .u8 0, .int .u8 0, .int .u8 0, .int .u8 0, .int .u8 0, .int .u8 0, .int .u8 0]⟩ := by kernel_rfl
theorem se153 : sliceElem Tryz.prog 153 = none := by kernel_rfl
theorem ae153 : arrayE Tryz.prog 153 = some (16, 152, 2) := by kernel_rfl
theorem ti156 : tiOf Tryz.prog 156 = some ⟨.int .i64, 1, 8, [.int .i64 0]⟩ := by kernel_rfl
theorem ie156 : intE Tryz.prog 156 = some .i64 := by kernel_rfl
theorem it156 : intT Tryz.prog 156 = some .i64 := by kernel_rfl
theorem st156 : isStrT Tryz.prog 156 = false := by kernel_rfl
theorem ti163 : tiOf Tryz.prog 163 = some ⟨.int .u32, 1, 4, [.int .u32 0]⟩ := by kernel_rfl
theorem ie163 : intE Tryz.prog 163 = some .u32 := by kernel_rfl
theorem it163 : intT Tryz.prog 163 = some .u32 := by kernel_rfl
theorem st163 : isStrT Tryz.prog 163 = false := by kernel_rfl
theorem ti165 : tiOf Tryz.prog 165 = some ⟨.int .u64, 1, 8, [.int .u64 0]⟩ := by kernel_rfl
theorem ie165 : intE Tryz.prog 165 = some .u64 := by kernel_rfl
theorem it165 : intT Tryz.prog 165 = some .u64 := by kernel_rfl
theorem st165 : isStrT Tryz.prog 165 = false := by kernel_rfl
theorem ti176 : tiOf Tryz.prog 176 = some ⟨.int .i64, 1, 8, [.int .i64 0]⟩ := by kernel_rfl
theorem ie176 : intE Tryz.prog 176 = some .i64 := by kernel_rfl
theorem it176 : intT Tryz.prog 176 = some .i64 := by kernel_rfl
theorem st176 : isStrT Tryz.prog 176 = false := by kernel_rfl
theorem ti179 : tiOf Tryz.prog 179 = some ⟨.ptr 210, 1, 8, [.nilp]⟩ := by kernel_rfl
theorem ti189 : tiOf Tryz.prog 189 = some ⟨.array 256 4, 256, 256, [.bool false, .bool false, .bool false, .bool false, .bool false, .bool false, .bool false, .bool false, .bool false, .bool false, .bool false, .bool false, .bool false, .bool false, .bool false, .bool false, .bool false, .bool false, .bool false, .bool false, .bool false, .bool false, .bool false, .bool false, .bool false, .bool false, .bool false, .bool false, .bool false, .bool false, .bool false, .bool false, .bool false, .bool false, .bool false, .bool false, .bool false, .bool false, .bool false, .bool false, .bool false, .bool false, .bool false, .bool false, .bool false, .bool false, .bool false, .bool false, .bool false, .bool false, .bool false, .bool false, .bool false, .bool false, .bool false, .bool false, .bool false, .bool false, .bool false, .bool false, .bool false, .bool false, .bool false, .bool false, .bool false, .bool false, .bool false, .bool false, .bool false, .bool false, .bool false, .bool false, .bool false, .bool false, .bool false, .bool false, .bool false, .bool false, .bool false, .bool false, .bool false, .bool false, .bool false, .bool false, .bool false, .bool false, .bool false, .bool false, .bool false, .bool false, .bool false, .bool false, .bool false, .bool false, .bool false, .bool false, .bool false, .bool false, .bool false, .bool false, .bool false, .bool false, .bool false, .bool false, .bool false, .bool false, .bool false, .bool false, .bool false, .bool false, .bool false, .bool false, .bool false, .bool false, .bool false, .bool false, .bool false, .bool false, .bool false, .bool false, .bool false, .bool false, .bool false, .bool false, .bool false, .bool false, .bool false, .bool false, .bool false, .bool false, .bool false, .bool false, .bool false, .bool false, .bool false, .bool false, .bool false, .bool false, .bool false, .bool false, .bool false, .bool false, .bool false, .bool false, .bool false, .bool false, .bool false, .bool false, .bool false, .bool false, .bool false, .bool false, .bool false, .bool false, .bool false, .bool false, .bool false, .bool false, .bool false, .bool false, .bool false, .bool false, .bool false, .bool false, .bool false, .bool false, .bool false, .bool false, .bool false, .bool false, .bool false, .bool false, .bool false, .bool false, .bool false, .bool false, .bool false, .bool false, .bool false, .bool false, .bool false, .bool false, .bool false, .bool false, .bool false, .bool false, .bool false, .bool false, .bool false, .bool false, .bool false, .bool false, .bool false, .bool false, .bool false, .bool false, .bool false, .bool false, .bool false, .bool false, .bool false, .bool false, .bool false, .bool false, .bool false, .bool false, .bool false, .bool false, .bool false, .bool false, .bool false, .bool false, .bool false, .bool false, .bool false, .bool false, .bool false, .bool false, .bool false, .bool false, .bool false, .bool false, .bool false, .bool false, .bool false, .bool false, .bool false, .bool false, .bool false, .bool false, .bool false, .bool false, .bool false, .bool false, .bool false, .bool false, .bool false, .bool false, .bool false, .bool false, .bool false, .bool false, .bool false, .bool false, .bool false, .bool false, .bool false, .bool false, .bool false, .bool false, .bool false, .bool false, .bool false, .bool false, .bool false, .bool false]⟩ := by kernel_rfl
theorem se189 : sliceElem Tryz.prog 189 = none := by kernel_rfl
theorem ae189 : arrayE Tryz.prog 189 = some (256, 4, 1) := by kernel_rfl
theorem ti193 : tiOf Tryz.prog 193 = some ⟨.ptr 189, 1, 8, [.nilp]⟩ := by kernel_rfl
theorem ti194 : tiOf Tryz.prog 194 = some ⟨.int .u64, 1, 8, [.int .u64 0]⟩ := by kernel_rfl
theorem ie194 : intE Tryz.prog 194 = some .u64 := by kernel_rfl
theorem it194 : intT Tryz.prog 194 = some .u64 := by kernel_rfl
theorem st194 : isStrT Tryz.prog 194 = false := by kernel_rfl
theorem ti198 : tiOf Tryz.prog 198 = some ⟨.ptr 3, 1, 8, [.nilp]⟩ := by kernel_rfl
theorem ti203 : tiOf Tryz.prog 203 = some ⟨.array 24 5, 24, 24, [.int .u8 0, .int .u8 0, .int .u8 0, .int .u8 0, .int .u8 0, .int .u8 0, .int .u8 0, .int .u8 0, .int .u8 0, .int .u8 0, .int .u8 0, .int .u8 0, .int .u8 0, .int .u8 0, .int .u8 0, .int .u8 0, .int .u8 0, .int .u8 0, .int .u8 0, .int .u8 0, .int .u8 0, .int .u8 0, .int .u8 0, .int .u8 0]⟩ := by kernel_rfl
theorem se203 : sliceElem Tryz.prog 203 = none := by kernel_rfl
theorem ae203 : arrayE Tryz.prog 203 = some (24, 5, 1) := by kernel_rfl
theorem ti210 : tiOf Tryz.prog 210 = some ⟨.struct [(0, 9, 1), (1, 9, 1), (2, 100, 1)], 3, 48, [.str .empty, .str .empty, .nili]⟩ := by kernel_rfl
theorem sf210_0 : structF Tryz.prog 210 0 = some (0, 9, 1) := by kernel_rfl
theorem sf210_1 : structF Tryz.prog 210 1 = some (1, 9, 1) := by kernel_rfl
theorem sf210_2 : structF Tryz.prog 210 2 = some (2, 100, 1) := by kernel_rfl
theorem ti215 : tiOf Tryz.prog 215 = some ⟨.ptr 194, 1, 8, [.nilp]⟩ := by kernel_rfl
theorem ti220 : tiOf Tryz.prog 220 = some ⟨.array 20 165, 20, 160, [.int .u64 0, .int .u64 0, .int .u64 0, .int .u64 0, .int .u64 0, .int .u64 0, .int .u64 0, .int .u64 0, .int .u64 0, .int .u64 0, .int .u64 0, .int .u64 0, .int .u64 0, .int .u64 0, .int .u64 0, .int .u64 0, .int .u64 0, .int .u64 0, .int .u64 0, .int .u64 0]⟩ := by kernel_rfl
theorem se220 : sliceElem Tryz.prog 220 = none := by kernel_rfl
theorem ae220 : arrayE Tryz.prog 220 = some (20, 165, 1) := by kernel_rfl
theorem ti221 : tiOf Tryz.prog 221 = some ⟨.array 65 5, 65, 65, [.int .u8 0, .int .u8 0, .int .u8 0, .int .u8 0, .int .u8 0, .int .u8 0, .int .u8 0, .int .u8 0, .int .u8 0, .int .u8 0, .int .u8 0, .int .u8 0, .int .u8 0, .int .u8 0, .int .u8 0, .int .u8 0, .int .u8 0, .int .u8 0, .int .u8 0, .int .u8 0, .int .u8 0, .int .u8 0, .int .u8 0, .int .u8 0, .int .u8 0, .int .u8 0, .int .u8 0, .int .u8 0, .int .u8 0, .int .u8 0, .int .u8 0, .int .u8 0, .int .u8 0, .int .u8 0, .int .u8 0, .int .u8 0, .int .u8 0, .int .u8 0, .int .u8 0, .int .u8 0, .int .u8 0, .int .u8 0, .int .u8 0, .int .u8 0, .int .u8 0, .int .u8 0, .int .u8 0, .int .u8 0, .int .u8 0, .int .u8 0, .int .u8 0, .int .u8 0, .int .u8 0, .int .u8 0, .int .u8 0, .int .u8 0, .int .u8 0, .int .u8 0, .int .u8 0, .int .u8 0, .int .u8 0, .int .u8 0, .int .u8 0, .int .u8 0, .int .u8 0]⟩ := by kernel_rfl
theorem se221 : sliceElem Tryz.prog 221 = none := by kernel_rfl
theorem ae221 : arrayE Tryz.prog 221 = some (65, 5, 1) := by kernel_rfl
theorem ti223 : tiOf Tryz.prog 223 = some ⟨.ptr 225, 1, 8, [.nilp]⟩ := by kernel_rfl
theorem ti225 : tiOf Tryz.prog 225 = some ⟨.struct [(0, 9, 1)], 1, 16, [.str .empty]⟩ := by kernel_rfl
theorem sf225_0 : structF Tryz.prog 225 0 = some (0, 9, 1) := by kernel_rfl
theorem ti228 : tiOf Tryz.prog 228 = some ⟨.array 32 5, 32, 32, [.int .u8 0, .int .u8 0, .int .u8 0, .int .u8 0, .int .u8 0, .int .u8 0, .int .u8 0, .int .u8 0, .int .u8 0, .int .u8 0, .int .u8 0, .int .u8 0, .int .u8 0, .int .u8 0, .int .u8 0, .int .u8 0, .int .u8 0, .int .u8 0, .int .u8 0, .int .u8 0, .int .u8 0, .int .u8 0, .int .u8 0, .int .u8 0, .int .u8 0, .int .u8 0, .int .u8 0, .int .u8 0, .int .u8 0, .int .u8 0, .int .u8 0, .int .u8 0]⟩ := by kernel_rfl
theorem se228 : sliceElem Tryz.prog 228 = none := by kernel_rfl
theorem ae228 : arrayE Tryz.prog 228 = some (32, 5, 1) := by kernel_rfl
theorem ti229 : tiOf Tryz.prog 229 = some ⟨.array 64 5, 64, 64, [.int .u8 0, .int .u8 0, .int .u8 0, .int .u8 0, .int .u8 0, .int .u8 0, .int .u8 0, .int .u8 0, .int .u8 0, .int .u8 0, .int .u8 0, .int .u8 0, .int .u8 0, .int .u8 0, .int .u8 0, .int .u8 0, .int .u8 0, .int .u8 0, .int .u8 0, .int .u8 0, .int .u8 0, .int .u8 0, .int .u8 0, .int .u8 0, .int .u8 0, .int .u8 0, .int .u8 0, .int .u8 0, .int .u8 0, .int .u8 0, .int .u8 0, .int .u8 0, .int .u8 0, .int .u8 0, .int .u8 0, .int .u8 0, .int .u8 0, .int .u8 0, .int .u8 0, .int .u8 0, .int .u8 0, .int .u8 0, .int .u8 0, .int .u8 0, .int .u8 0, .int .u8 0, .int .u8 0, .int .u8 0, .int .u8 0, .int .u8 0, .int .u8 0, .int .u8 0, .int .u8 0, .int .u8 0, .int .u8 0, .int .u8 0, .int .u8 0, .int .u8 0, .int .u8 0, .int .u8 0, .int .u8 0, .int .u8 0, .int .u8 0, .int .u8 0]⟩ := by kernel_rfl
theorem se229 : sliceElem Tryz.prog 229 = none := by kernel_rfl
theorem ae229 : arrayE Tryz.prog 229 = some (64, 5, 1) := by kernel_rfl
theorem ti231 : tiOf Tryz.prog 231 = some ⟨.struct [(0, 17, 1), (1, 17, 1), (2, 17, 1), (3, 9, 1)], 4, 40, [.nilp, .nilp, .nilp, .str .empty]⟩ := by kernel_rfl
theorem sf231_0 : structF Tryz.prog 231 0 = some (0, 17, 1) := by kernel_rfl
theorem sf231_1 : structF Tryz.prog 231 1 = some (1, 17, 1) := by kernel_rfl
theorem sf231_2 : structF Tryz.prog 231 2 = some (2, 17, 1) := by kernel_rfl
theorem sf231_3 : structF Tryz.prog 231 3 = some (3, 9, 1) := by kernel_rfl
theorem ti232 : tiOf Tryz.prog 232 = some ⟨.array 0 16, 0, 0, []⟩ := by kernel_rfl
theorem se232 : sliceElem Tryz.prog 232 = none := by kernel_rfl
theorem ae232 : arrayE Tryz.prog 232 = some (0, 16, 1) := by kernel_rfl
theorem ti234 : tiOf Tryz.prog 234 = some ⟨.struct [(0, 232, 0)], 0, 0, []⟩ := by kernel_rfl
theorem sf234_0 : structF Tryz.prog 234 0 = some (0, 232, 0) := by kernel_rfl
theorem ti235 : tiOf Tryz.prog 235 = some ⟨.int .u8, 1, 1, [.int .u8 0]⟩ := by kernel_rfl
theorem ie235 : intE Tryz.prog 235 = some .u8 := by kernel_rfl
theorem it235 : intT Tryz.prog 235 = some .u8 := by kernel_rfl
theorem st235 : isStrT Tryz.prog 235 = false := by kernel_rfl
theorem ti236 : tiOf Tryz.prog 236 = some ⟨.int .u8, 1, 1, [.int .u8 0]⟩ := by kernel_rfl
theorem ie236 : intE Tryz.prog 236 = some .u8 := by kernel_rfl
theorem it236 : intT Tryz.prog 236 = some .u8 := by kernel_rfl
theorem st236 : isStrT Tryz.prog 236 = false := by kernel_rfl
theorem ti237 : tiOf Tryz.prog 237 = some ⟨.func, 1, 8, [.nilf]⟩ := by kernel_rfl
theorem ti238 : tiOf Tryz.prog 238 = some ⟨.int .i32, 1, 4, [.int .i32 0]⟩ := by kernel_rfl
theorem ie238 : intE Tryz.prog 238 = some .i32 := by kernel_rfl
theorem it238 : intT Tryz.prog 238 = some .i32 := by kernel_rfl
theorem st238 : isStrT Tryz.prog 238 = false := by kernel_rfl
theorem ti239 : tiOf Tryz.prog 239 = some ⟨.int .i32, 1, 4, [.int .i32 0]⟩ := by kernel_rfl
theorem ie239 : intE Tryz.prog 239 = some .i32 := by kernel_rfl
theorem it239 : intT Tryz.prog 239 = some .i32 := by kernel_rfl
theorem st239 : isStrT Tryz.prog 239 = false := by kernel_rfl
theorem ti241 : tiOf Tryz.prog 241 = some ⟨.struct [(0, 12, 1), (1, 12, 1), (2, 163, 1), (3, 235, 1), (4, 5, 1), (5, 5, 1), (6, 236, 1), (7, 237, 1), (8, 137, 1), (9, 238, 1), (10, 239, 1)], 11, 48, [.int .u64 0, .int .u64 0, .int .u32 0, .int .u8 0, .int .u8 0, .int .u8 0, .int .u8 0, .nilf, .nilp, .int .i32 0, .int .i32 0]⟩ := by kernel_rfl
theorem sf241_0 : structF Tryz.prog 241 0 = some (0, 12, 1) := by kernel_rfl
theorem sf241_1 : structF Tryz.prog 241 1 = some (1, 12, 1) := by kernel_rfl
theorem sf241_2 : structF Tryz.prog 241 2 = some (2, 163, 1) := by kernel_rfl
theorem sf241_3 : structF Tryz.prog 241 3 = some (3, 235, 1) := by kernel_rfl
theorem sf241_4 : structF Tryz.prog 241 4 = some (4, 5, 1) := by kernel_rfl
theorem sf241_5 : structF Tryz.prog 241 5 = some (5, 5, 1) := by kernel_rfl
theorem sf241_6 : structF Tryz.prog 241 6 = some (6, 236, 1) := by kernel_rfl
theorem sf241_7 : structF Tryz.prog 241 7 = some (7, 237, 1) := by kernel_rfl
theorem sf241_8 : structF Tryz.prog 241 8 = some (8, 137, 1) := by kernel_rfl
theorem sf241_9 : structF Tryz.prog 241 9 = some (9, 238, 1) := by kernel_rfl
theorem sf241_10 : structF Tryz.prog 241 10 = some (10, 239, 1) := by kernel_rfl
theorem if100 : ifcT Tryz.prog 100 = true := by kernel_rfl
theorem go4 : goFn Tryz.prog 4 = true := by kernel_rfl
theorem go11 : goFn Tryz.prog 11 = true := by kernel_rfl
theorem go12 : goFn Tryz.prog 12 = true := by kernel_rfl
theorem go16 : goFn Tryz.prog 16 = true := by kernel_rfl
theorem go18 : goFn Tryz.prog 18 = true := by kernel_rfl
theorem go20 : goFn Tryz.prog 20 = true := by kernel_rfl
theorem go22 : goFn Tryz.prog 22 = true := by kernel_rfl
theorem go23 : goFn Tryz.prog 23 = true := by kernel_rfl
theorem go24 : goFn Tryz.prog 24 = true := by kernel_rfl
theorem go25 : goFn Tryz.prog 25 = true := by kernel_rfl
theorem go26 : goFn Tryz.prog 26 = true := by kernel_rfl
theorem go28 : goFn Tryz.prog 28 = true := by kernel_rfl
theorem go55 : goFn Tryz.prog 55 = true := by kernel_rfl
theorem go56 : goFn Tryz.prog 56 = true := by kernel_rfl
theorem go57 : goFn Tryz.prog 57 = true := by kernel_rfl
theorem go59 : goFn Tryz.prog 59 = true := by kernel_rfl
theorem go60 : goFn Tryz.prog 60 = true := by kernel_rfl
theorem go61 : goFn Tryz.prog 61 = true := by kernel_rfl
theorem go62 : goFn Tryz.prog 62 = true := by kernel_rfl
theorem go63 : goFn Tryz.prog 63 = true := by kernel_rfl
theorem go64 : goFn Tryz.prog 64 = true := by kernel_rfl
theorem go65 : goFn Tryz.prog 65 = true := by kernel_rfl
theorem go69 : goFn Tryz.prog 69 = true := by kernel_rfl
theorem go70 : goFn Tryz.prog 70 = true := by kernel_rfl
theorem go71 : goFn Tryz.prog 71 = true := by kernel_rfl
theorem go72 : goFn Tryz.prog 72 = true := by kernel_rfl
theorem go73 : goFn Tryz.prog 73 = true := by kernel_rfl
theorem go74 : goFn Tryz.prog 74 = true := by kernel_rfl
theorem go75 : goFn Tryz.prog 75 = true := by kernel_rfl
theorem go76 : goFn Tryz.prog 76 = true := by kernel_rfl
theorem go77 : goFn Tryz.prog 77 = true := by kernel_rfl
theorem go78 : goFn Tryz.prog 78 = true := by kernel_rfl
theorem go79 : goFn Tryz.prog 79 = true := by kernel_rfl
theorem go80 : goFn Tryz.prog 80 = true := by kernel_rfl
theorem go91 : goFn Tryz.prog 91 = true := by kernel_rfl
theorem go95 : goFn Tryz.prog 95 = true := by kernel_rfl
theorem go96 : goFn Tryz.prog 96 = true := by kernel_rfl
theorem go97 : goFn Tryz.prog 97 = true := by kernel_rfl
theorem go98 : goFn Tryz.prog 98 = true := by kernel_rfl
theorem go99 : goFn Tryz.prog 99 = true := by kernel_rfl
theorem go100 : goFn Tryz.prog 100 = true := by kernel_rfl
theorem go101 : goFn Tryz.prog 101 = true := by kernel_rfl
theorem go102 : goFn Tryz.prog 102 = true := by kernel_rfl
theorem go103 : goFn Tryz.prog 103 = true := by kernel_rfl
theorem go104 : goFn Tryz.prog 104 = true := by kernel_rfl
theorem go105 : goFn Tryz.prog 105 = true := by kernel_rfl
theorem go106 : goFn Tryz.prog 106 = true := by kernel_rfl
theorem go108 : goFn Tryz.prog 108 = true := by kernel_rfl
theorem go109 : goFn Tryz.prog 109 = true := by kernel_rfl
theorem go114 : goFn Tryz.prog 114 = true := by kernel_rfl
theorem go115 : goFn Tryz.prog 115 = true := by kernel_rfl
theorem go127 : goFn Tryz.prog 127 = true := by kernel_rfl
theorem go128 : goFn Tryz.prog 128 = true := by kernel_rfl
theorem go131 : goFn Tryz.prog 131 = true := by kernel_rfl
theorem go132 : goFn Tryz.prog 132 = true := by kernel_rfl
theorem go141 : goFn Tryz.prog 141 = true := by kernel_rfl
theorem go142 : goFn Tryz.prog 142 = true := by kernel_rfl
theorem go148 : goFn Tryz.prog 148 = true := by kernel_rfl
theorem go165 : goFn Tryz.prog 165 = true := by kernel_rfl
theorem go169 : goFn Tryz.prog 169 = true := by kernel_rfl
theorem go179 : goFn Tryz.prog 179 = true := by kernel_rfl
theorem go180 : goFn Tryz.prog 180 = true := by kernel_rfl
theorem go181 : goFn Tryz.prog 181 = true := by kernel_rfl
theorem go183 : goFn Tryz.prog 183 = true := by kernel_rfl
theorem go184 : goFn Tryz.prog 184 = true := by kernel_rfl
theorem go185 : goFn Tryz.prog 185 = true := by kernel_rfl
theorem go199 : goFn Tryz.prog 199 = true := by kernel_rfl
theorem go202 : goFn Tryz.prog 202 = true := by kernel_rfl
theorem go203 : goFn Tryz.prog 203 = true := by kernel_rfl
set_option linter.defProp false in
def awF :=
 (And.intro (And.intro (And.intro (And.intro (And.intro (And.intro (And.intro (And.intro ti2
 ie2)
 (And.intro it2
 st2))
 (And.intro (And.intro ti3
 zo3)
 (And.intro ie3
 it3)))
 (And.intro (And.intro (And.intro st3
 ti4)
 (And.intro bt4
 ti5))
 (And.intro (And.intro ie5
 it5)
 (And.intro st5
 ti6))))
 (And.intro (And.intro (And.intro (And.intro ie6
 it6)
 (And.intro st6
 ti7))
 (And.intro (And.intro sf7_0
 sf7_1)
 (And.intro sf7_2
 sf7_3)))
 (And.intro (And.intro (And.intro ti8
 sf8_0)
 (And.intro sf8_1
 sf8_2))
 (And.intro (And.intro sf8_3
 ti9)
 (And.intro st9
 ap9)))))
 (And.intro (And.intro (And.intro (And.intro (And.intro it9
 ti10)
 (And.intro st10
 ap10))
 (And.intro (And.intro it10
 ti11)
 (And.intro st11
 ap11)))
 (And.intro (And.intro (And.intro it11
 ti12)
 (And.intro ie12
 it12))
 (And.intro (And.intro st12
 ti14)
 (And.intro sf14_0
 sf14_1))))
 (And.intro (And.intro (And.intro (And.intro ti15
 ti16)
 (And.intro ti17
 ti19))
 (And.intro (And.intro sf19_0
 ti20)
 (And.intro ti21
 ie21)))
 (And.intro (And.intro (And.intro it21
 st21)
 (And.intro ti22
 se22))
 (And.intro (And.intro sz22
 ap22)
 (And.intro st22
 (And.intro ti24
 ti26)))))))
 (And.intro (And.intro (And.intro (And.intro (And.intro (And.intro se26
 sz26)
 (And.intro ap26
 st26))
 (And.intro (And.intro ti28
 ie28)
 (And.intro it28
 st28)))
 (And.intro (And.intro (And.intro ti31
 se31)
 (And.intro sz31
 ap31))
 (And.intro (And.intro st31
 ti33)
 (And.intro sf33_0
 ti35))))
 (And.intro (And.intro (And.intro (And.intro se35
 sz35)
 (And.intro ap35
 st35))
 (And.intro (And.intro ti40
 se40)
 (And.intro sz40
 ap40)))
 (And.intro (And.intro (And.intro st40
 ti43)
 (And.intro ti44
 se44))
 (And.intro (And.intro sz44
 ap44)
 (And.intro st44
 ti49)))))
 (And.intro (And.intro (And.intro (And.intro (And.intro eq49
 sf49_0)
 (And.intro sf49_1
 sf49_2))
 (And.intro (And.intro ti51
 se51)
 (And.intro sz51
 ap51)))
 (And.intro (And.intro (And.intro st51
 ti56)
 (And.intro se56
 sz56))
 (And.intro (And.intro ap56
 st56)
 (And.intro ti61
 se61))))
 (And.intro (And.intro (And.intro (And.intro sz61
 ap61)
 (And.intro st61
 ti64))
 (And.intro (And.intro eq64
 sf64_0)
 (And.intro sf64_1
 sf64_2)))
 (And.intro (And.intro (And.intro sf64_3
 ti70)
 (And.intro se70
 sz70))
 (And.intro (And.intro ap70
 st70)
 (And.intro ti77
 (And.intro sf77_0
 sf77_1))))))))
 (And.intro (And.intro (And.intro (And.intro (And.intro (And.intro (And.intro ti78
 ti82)
 (And.intro se82
 sz82))
 (And.intro (And.intro ap82
 st82)
 (And.intro ti84
 ti87)))
 (And.intro (And.intro (And.intro ti88
 ti92)
 (And.intro ti96
 ti98))
 (And.intro (And.intro sf98_0
 sf98_1)
 (And.intro ti100
 ti116))))
 (And.intro (And.intro (And.intro (And.intro ti119
 se119)
 (And.intro ae119
 ti129))
 (And.intro (And.intro ie129
 it129)
 (And.intro st129
 ti137)))
 (And.intro (And.intro (And.intro ti141
 se141)
 (And.intro sz141
 ap141))
 (And.intro (And.intro st141
 ti144)
 (And.intro se144
 ae144)))))
 (And.intro (And.intro (And.intro (And.intro (And.intro ti150
 se150)
 (And.intro ae150
 ti152))
 (And.intro (And.intro sf152_0
 sf152_1)
 (And.intro ti153
 se153)))
 (And.intro (And.intro (And.intro ae153
 ti156)
 (And.intro ie156
 it156))
 (And.intro (And.intro st156
 ti163)
 (And.intro ie163
 it163))))
 (And.intro (And.intro (And.intro (And.intro st163
 ti165)
 (And.intro ie165
 it165))
 (And.intro (And.intro st165
 ti176)
 (And.intro ie176
 it176)))
 (And.intro (And.intro (And.intro st176
 ti179)
 (And.intro ti189
 se189))
 (And.intro (And.intro ae189
 ti193)
 (And.intro ti194
 (And.intro ie194
 it194)))))))
 (And.intro (And.intro (And.intro (And.intro (And.intro (And.intro st194
 ti198)
 (And.intro ti203
 se203))
 (And.intro (And.intro ae203
 ti210)
 (And.intro sf210_0
 sf210_1)))
 (And.intro (And.intro (And.intro sf210_2
 ti215)
 (And.intro ti220
 se220))
 (And.intro (And.intro ae220
 ti221)
 (And.intro se221
 ae221))))
 (And.intro (And.intro (And.intro (And.intro ti223
 ti225)
 (And.intro sf225_0
 ti228))
 (And.intro (And.intro se228
 ae228)
 (And.intro ti229
 se229)))
 (And.intro (And.intro (And.intro ae229
 ti231)
 (And.intro sf231_0
 sf231_1))
 (And.intro (And.intro sf231_2
 sf231_3)
 (And.intro ti232
 se232)))))
 (And.intro (And.intro (And.intro (And.intro (And.intro ae232
 ti234)
 (And.intro sf234_0
 ti235))
 (And.intro (And.intro ie235
 it235)
 (And.intro st235
 ti236)))
 (And.intro (And.intro (And.intro ie236
 it236)
 (And.intro st236
 ti237))
 (And.intro (And.intro ti238
 ie238)
 (And.intro it238
 st238))))
 (And.intro (And.intro (And.intro (And.intro ti239
 ie239)
 (And.intro it239
 st239))
 (And.intro (And.intro ti241
 sf241_0)
 (And.intro sf241_1
 sf241_2)))
 (And.intro (And.intro (And.intro sf241_3
 sf241_4)
 (And.intro sf241_5
 sf241_6))
 (And.intro (And.intro sf241_7
 sf241_8)
 (And.intro sf241_9
 (And.intro sf241_10
 if100)))))))))
theorem hmix : Tryz.prog.follows .mixedOrders = true := by kernel_rfl
end Go.Proofs.YtacepalmphbnfaaGreatDoor

namespace Go.Proofs.YtacepalmphbnfaaGreatDoor
open Go Go.Proofs Go.Abs Go.RowKit Go.Shelf
variable {G : Globals}
/-! utf8.ValidString, out of the kit's contract; its tables. -/
abbrev M0 : Muts := fun _ => false
abbrev S (l : List UInt8) : D := .str (bs l)
def firstDs : List D := (List.range 256).map fun c => .int .u8 (Lib.firstT c)
def accDs : List D := (List.range 32).map fun i => .int .u8 (if i % 2 = 0 then Lib.accLo (i / 2) else Lib.accHi (i / 2) : Nat)
/-- The tables of utf8 are laid. -/
def HT (G : Globals) : Prop := G 0 = some firstDs ∧ G 1 = some accDs
def Tryz.laysValid_ren : Go.Shelf.Ren := ⟨fun | 196 => 91 | 259 => 126 | n => n, fun | 9 => 9 | 4 => 4 | 3 => 3 | 5 => 5 | 12 => 12 | 119 => 150 | 0 => 0 | 46 => 129 | 139 => 153 | 138 => 152 | 53 => 165 | n => n, fun | 3 => 0 | 4 => 1 | n => n⟩
theorem Tryz.laysValid : Go.Proofs.Lays.n196 Tryz.prog Tryz.laysValid_ren where
  mixed := by kernel_rfl
  f196 := Tryz.func91.trans (congrArg some (by kernel_rfl))
  f259 := Tryz.func126.trans (congrArg some (by kernel_rfl))
  t0 := Tryz.underlying0
  a0 := Tryz.isAgg0
  z0 := Tryz.sizeOf0
  v0 := Tryz.zeroValue0
  t3 := Tryz.underlying3
  a3 := Tryz.isAgg3
  z3 := Tryz.sizeOf3
  v3 := Tryz.zeroValue3
  t4 := Tryz.underlying4
  a4 := Tryz.isAgg4
  z4 := Tryz.sizeOf4
  v4 := Tryz.zeroValue4
  t5 := Tryz.underlying5
  a5 := Tryz.isAgg5
  z5 := Tryz.sizeOf5
  v5 := Tryz.zeroValue5
  t9 := Tryz.underlying9
  a9 := Tryz.isAgg9
  z9 := Tryz.sizeOf9
  v9 := Tryz.zeroValue9
  t12 := Tryz.underlying12
  a12 := Tryz.isAgg12
  z12 := Tryz.sizeOf12
  v12 := Tryz.zeroValue12
  t46 := Tryz.underlying129
  a46 := Tryz.isAgg129
  z46 := Tryz.sizeOf129
  v46 := Tryz.zeroValue129
  t53 := Tryz.underlying165
  a53 := Tryz.isAgg165
  z53 := Tryz.sizeOf165
  v53 := Tryz.zeroValue165
  t119 := Tryz.underlying150
  a119 := Tryz.isAgg150
  z119 := Tryz.sizeOf150
  t138 := Tryz.underlying152
  a138 := Tryz.isAgg152
  z138 := Tryz.sizeOf152
  v138 := Tryz.zeroValue152
  t139 := Tryz.underlying153
  a139 := Tryz.isAgg153
  z139 := Tryz.sizeOf153
  v139 := Tryz.zeroValue153
  g3 := by kernel_rfl
  g4 := by kernel_rfl

theorem tab_cell {h : Held} {ρ : Abs.Place} {H : Heap} {w : World} {g : Nat} {l : List Int} (s : Sim G h ρ H w) (e : G g = some (ints .u8 l)) {i : Nat} (hi : i < l.length) : w.cell? ⟨g, i, none⟩ = some (.int .u8 (l.getD i 0)) := by
  obtain ⟨vs, h1, h2⟩ := s.glob g _ e
  have hx : (ints .u8 l)[i]? = some (.int .u8 (l.getD i 0)) := by simp [ints, hi, List.getD_eq_getElem?_getD]
  have := s.prom _ _ _ (h1 i _ hx)
  rw [this]
  have r := h2 i _ hx
  generalize vs i = v at r
  cases r
  rfl
theorem firstDs_eq : firstDs = ints .u8 ((List.range 256).map fun c => (Lib.firstT c : Int)) := by simp [firstDs, ints]
theorem accDs_eq : accDs = ints .u8 ((List.range 32).map fun i => ((if i % 2 = 0 then Lib.accLo (i / 2) else Lib.accHi (i / 2) : Nat) : Int)) := by simp [accDs, ints]
theorem tabs_of {h : Held} {ρ : Abs.Place} {H : Heap} {w : World} (hT : HT G) (s : Sim G h ρ H w) : Lib.Utf8Tabs 0 1 w := by
  obtain ⟨e1, e2⟩ := hT
  rw [firstDs_eq] at e1
  rw [accDs_eq] at e2
  refine ⟨fun c hc => ?_, fun i hi => ⟨?_, ?_⟩⟩
  · rw [tab_cell s e1 (by simpa using hc)]
    simp [List.getD_eq_getElem?_getD, hc]
  · rw [tab_cell s e2 (by simp; omega)]
    simp [List.getD_eq_getElem?_getD, show 2 * i < 32 by omega]
  · rw [tab_cell s e2 (by simp; omega)]
    simp [List.getD_eq_getElem?_getD, show 2 * i + 1 < 32 by omega, show (2 * i + 1) % 2 = 1 by omega, show (2 * i + 1) / 2 = i by omega]
theorem validS_spec (hT : HT G) (l : List UInt8) (hl : l.length ≤ 9223372036854775807) : Ctr Tryz.prog G 91 [.d (S l)] [] (.d (.bool (Lib.validD l))) [] := by
  refine Ctr.of_calls go91 fun h ρ w vs q r => ?_
  obtain ⟨v, rfl, hv⟩ := r.inv1
  rw [hv.str_inv]
  refine (Any.utf8_ValidString Tryz.laysValid (bs l) w (by rw [bs_size]; exact hl) (tabs_of hT q)).mono ?_
  rintro e w' ⟨rfl, hb⟩
  exact ⟨_, rfl, .bool _, hb⟩
theorem tvalid_spec (hT : HT G) (l : List UInt8) (hl : l.length ≤ 9223372036854775807) : Ctr Tryz.prog G 55 [.d (S l)] [] (.d (.bool (Lib.validD l))) [] := by
  refine Ctr.pure (M := M0) hmix Tryz.func55 rfl go55 ?_
  simp (config := { maxSteps := 1000000 }) (disch := ((try simp only [awL]); omega)) only [Tryz.f55, ↓awU, awV, awF, Qa, Qb, Qc, Qd, forall_const, ↓reduceIte, ↓reduceDIte, ↓Qe, Qf, Qg, Qh, Qi, Qj, Qk, Ql, Qm, Qn, Qo, Qp, Qq, Qr, Qs, implies_true, Qt, Qu, Qv, Qw, Qx, Qy, Qz, QA, QB, QC, QD, QE, QF, QG, QH, QI, QJ, QK, QL, QM, QN, QO, QP, QQ]
  refine CallC.pure (validS_spec hT l hl) ?_
  simp (config := { maxSteps := 1000000 }) (disch := ((try simp only [awL]); omega)) only [↓awU, awV, awF, Qa, Qb, Qc, Qd, forall_const, ↓reduceIte, ↓reduceDIte, ↓Qe, Qf, Qg, Qh, Qi, Qj, Qk, Ql, Qm, Qn, Qo, Qp, Qq, Qr, Qs, implies_true, Qt, Qu, Qv, Qw, Qx, Qy, Qz, QA, QB, QC, QD, QE, QF, QG, QH, QI, QJ, QK, QL, QM, QN, QO, QP, QQ]
end Go.Proofs.YtacepalmphbnfaaGreatDoor

namespace Go.Proofs.YtacepalmphbnfaaGreatDoor
open Go Go.Proofs Go.Abs Go.RowKit Go.Shelf
variable {G : Globals}
/-! Texts: prefixes, cutting, the place of a byte, trimming, replacing. -/
set_option maxHeartbeats 1000000 in
set_option maxRecDepth 100000 in
theorem indexByte_calls (s : ByteArray) (c : Int) (w : World) :
    Calls Tryz.prog 165 #[.string s, .int .u8 c] w fun e w' => e = .returned (.int .i64 (Lib.indexByte s.data.toList c.toNat.toUInt8)) ∧ w' = w := by
  go_enter Tryz.func165, Tryz.ntmps165
  go_wp2
  rw [run_callFunc_extern Tryz.func195 (by kernel_rfl) (by kernel_rfl) (by kernel_rfl) (e := Extern.BytealgIndexByte.indexByte) (by kernel_rfl), Lib.run_indexByteString]
  simp only [Result.andThen]
  rw [Oper.upon_value]
  go_wp2
  go_ret
  exact ⟨rfl, rfl⟩
theorem indexByte_spec (s : List UInt8) (c : UInt8) : Ctr Tryz.prog G 165 [.d (S s), .d (.int .u8 c.toNat)] [] (.d (.int .i64 (Lib.indexByte s c))) [] := by
  refine Ctr.of_calls go165 fun h ρ w vs q r => ?_
  obtain ⟨v, u, rfl, hv, hu⟩ := r.inv2
  rw [hv.str_inv, hu.int_inv]
  refine (indexByte_calls (bs s) c.toNat w).mono ?_
  rintro e w' ⟨rfl, rfl⟩
  refine ⟨_, rfl, ?_, .refl _ _⟩
  have : ((c.toNat : Int)).toNat.toUInt8 = c := by simp
  rw [this]
  exact .int _ _
/-- Where a text is cut: in front of the byte, behind it. -/
def cutL (c : UInt8) : List UInt8 → List UInt8
  | [] => []
  | b :: l => if b = c then [] else b :: cutL c l
def cutR (c : UInt8) : List UInt8 → List UInt8
  | [] => []
  | b :: l => if b = c then l else cutR c l
theorem cut_index (c : UInt8) : ∀ s : List UInt8, (c ∈ s → ∃ k : Nat, Lib.indexByte s c = k ∧ k < s.length ∧ s.take k = cutL c s ∧ s.drop (k + 1) = cutR c s) ∧ (c ∉ s → Lib.indexByte s c = -1 ∧ cutL c s = s ∧ cutR c s = [])
  | [] => ⟨fun h => absurd h List.not_mem_nil, fun _ => ⟨rfl, rfl, rfl⟩⟩
  | b :: l => by
    obtain ⟨i1, i2⟩ := cut_index c l
    by_cases e : b = c
    · subst e
      refine ⟨fun _ => ⟨0, ?_, by simp, by simp [cutL], by simp [cutR]⟩, fun h => absurd (List.mem_cons_self ..) h⟩
      simp [Lib.indexByte]
    · have e2 : ¬ c = b := fun h => e h.symm
      refine ⟨fun h => ?_, fun h => ?_⟩
      · obtain ⟨k, h1, h2, h3, h4⟩ := i1 ((List.mem_cons.1 h).resolve_left e2)
        refine ⟨k + 1, ?_, by simpa using h2, by simp [cutL, e, h3], by simp [cutR, e, h4]⟩
        simp only [Lib.indexByte, h1]
        rw [if_neg (by simpa using e), if_neg (by simp)]
        omega
      · obtain ⟨h1, h2, h3⟩ := i2 (fun h2 => h (List.mem_cons_of_mem _ h2))
        refine ⟨?_, by simp [cutL, e, h2], by simp [cutR, e, h3]⟩
        simp only [Lib.indexByte, h1]
        rw [if_neg (by simpa using e), if_pos (by decide)]
theorem sIndexByte_spec (s : List UInt8) (c : UInt8) : Ctr Tryz.prog G 128 [.d (S s), .d (.int .u8 c.toNat)] [] (.d (.int .i64 (Lib.indexByte s c))) [] := by
  refine Ctr.pure (M := M0) hmix Tryz.func128 rfl go128 ?_
  simp (config := { maxSteps := 1000000 }) (disch := ((try simp only [awL]); omega)) only [QR, QS, QT, QU, QV, QW, QX, QY, QZ, Q0, Q1, Q2, Tryz.f128, ↓awU, awV, awF, Qa, Qb, Qc, Qd, forall_const, ↓reduceIte, ↓reduceDIte, ↓Qe, Qf, Qg, Qh, Qi, Qj, Qk, Ql, Qm, Qn, Qo, Qp, Qq, Qr, Qs, implies_true, Qt, Qu, Qv, Qw, Qx, Qy, Qz, QA, QB, QC, QD, QE, QF, QG, QH, QI, QJ, QK, QL, QM, QN, QO, QP, QQ]
  refine CallC.pure (indexByte_spec s c) ?_
  simp (config := { maxSteps := 1000000 }) (disch := ((try simp only [awL]); omega)) only [QR, QS, QT, QU, QV, QW, QX, QY, QZ, Q0, Q1, Q2, ↓awU, awV, awF, Qa, Qb, Qc, Qd, forall_const, ↓reduceIte, ↓reduceDIte, ↓Qe, Qf, Qg, Qh, Qi, Qj, Qk, Ql, Qm, Qn, Qo, Qp, Qq, Qr, Qs, implies_true, Qt, Qu, Qv, Qw, Qx, Qy, Qz, QA, QB, QC, QD, QE, QF, QG, QH, QI, QJ, QK, QL, QM, QN, QO, QP, QQ]
def Tryz.laysTrim_ren : Go.Shelf.Ren := ⟨fun | 160 => 131 | 232 => 168 | 231 => 167 | 227 => 169 | 234 => 171 | 233 => 170 | 236 => 173 | 235 => 172 | 228 => 181 | 271 => 197 | 151 => 196 | 197 => 150 | 120 => 210 | 152 => 179 | 260 => 187 | 137 => 128 | 119 => 199 | 224 => 200 | 225 => 201 | 217 => 165 | 266 => 195 | n => n, fun | 9 => 9 | 4 => 4 | 3 => 3 | 5 => 5 | 117 => 190 | 116 => 189 | 0 => 0 | 124 => 193 | 21 => 21 | 105 => 174 | 46 => 129 | 119 => 150 | 139 => 153 | 138 => 152 | n => n, fun | 3 => 0 | 4 => 1 | n => n⟩
theorem Tryz.laysTrim : Go.Proofs.Lays.n160 Tryz.prog Tryz.laysTrim_ren where
  mixed := by kernel_rfl
  f119 := Tryz.func199.trans (congrArg some (by kernel_rfl))
  f120 := Tryz.func210.trans (congrArg some (by kernel_rfl))
  f137 := Tryz.func128.trans (congrArg some (by kernel_rfl))
  f151 := Tryz.func196.trans (congrArg some (by kernel_rfl))
  f152 := Tryz.func179.trans (congrArg some (by kernel_rfl))
  f160 := Tryz.func131.trans (congrArg some (by kernel_rfl))
  f197 := Tryz.func150.trans (congrArg some (by kernel_rfl))
  f217 := Tryz.func165.trans (congrArg some (by kernel_rfl))
  f224 := Tryz.func200.trans (congrArg some (by kernel_rfl))
  f225 := Tryz.func201.trans (congrArg some (by kernel_rfl))
  f227 := Tryz.func169.trans (congrArg some (by kernel_rfl))
  f228 := Tryz.func181.trans (congrArg some (by kernel_rfl))
  f231 := Tryz.func167.trans (congrArg some (by kernel_rfl))
  f232 := Tryz.func168.trans (congrArg some (by kernel_rfl))
  f233 := Tryz.func170.trans (congrArg some (by kernel_rfl))
  f234 := Tryz.func171.trans (congrArg some (by kernel_rfl))
  f235 := Tryz.func172.trans (congrArg some (by kernel_rfl))
  f236 := Tryz.func173.trans (congrArg some (by kernel_rfl))
  f260 := Tryz.func187.trans (congrArg some (by kernel_rfl))
  f266 := Tryz.func195.trans (congrArg some (by kernel_rfl))
  f271 := Tryz.func197.trans (congrArg some (by kernel_rfl))
  t0 := Tryz.underlying0
  a0 := Tryz.isAgg0
  z0 := Tryz.sizeOf0
  v0 := Tryz.zeroValue0
  t3 := Tryz.underlying3
  a3 := Tryz.isAgg3
  z3 := Tryz.sizeOf3
  v3 := Tryz.zeroValue3
  t4 := Tryz.underlying4
  a4 := Tryz.isAgg4
  z4 := Tryz.sizeOf4
  v4 := Tryz.zeroValue4
  t5 := Tryz.underlying5
  a5 := Tryz.isAgg5
  z5 := Tryz.sizeOf5
  v5 := Tryz.zeroValue5
  t9 := Tryz.underlying9
  a9 := Tryz.isAgg9
  z9 := Tryz.sizeOf9
  v9 := Tryz.zeroValue9
  t21 := Tryz.underlying21
  a21 := Tryz.isAgg21
  z21 := Tryz.sizeOf21
  v21 := Tryz.zeroValue21
  t46 := Tryz.underlying129
  a46 := Tryz.isAgg129
  z46 := Tryz.sizeOf129
  v46 := Tryz.zeroValue129
  t105 := Tryz.underlying174
  a105 := Tryz.isAgg174
  z105 := Tryz.sizeOf174
  v105 := Tryz.zeroValue174
  t116 := Tryz.underlying189
  a116 := Tryz.isAgg189
  z116 := Tryz.sizeOf189
  t117 := Tryz.underlying190
  a117 := Tryz.isAgg190
  z117 := Tryz.sizeOf190
  v117 := Tryz.zeroValue190
  t119 := Tryz.underlying150
  a119 := Tryz.isAgg150
  z119 := Tryz.sizeOf150
  t124 := Tryz.underlying193
  a124 := Tryz.isAgg193
  z124 := Tryz.sizeOf193
  v124 := Tryz.zeroValue193
  t138 := Tryz.underlying152
  a138 := Tryz.isAgg152
  z138 := Tryz.sizeOf152
  v138 := Tryz.zeroValue152
  t139 := Tryz.underlying153
  a139 := Tryz.isAgg153
  z139 := Tryz.sizeOf153
  v139 := Tryz.zeroValue153
  g3 := by kernel_rfl
  g4 := by kernel_rfl

def Tryz.laysReplaceAll_ren : Go.Shelf.Ren := ⟨fun | 105 => 71 | 212 => 111 | 99 => 112 | 165 => 113 | 166 => 70 | 170 => 74 | 169 => 75 | 263 => 144 | 264 => 145 | 206 => 146 | 240 => 110 | 241 => 147 | 276 => 143 | 277 => 182 | n => n, fun | 9 => 9 | 3 => 3 | 4 => 4 | 20 => 20 | 0 => 0 | 46 => 129 | 109 => 134 | 5 => 5 | 72 => 98 | 76 => 101 | 51 => 163 | 146 => 169 | 53 => 165 | 148 => 171 | 70 => 96 | 37 => 22 | 75 => 100 | 127 => 137 | 164 => 167 | 80 => 107 | n => n, fun | n => n⟩
theorem Tryz.laysReplaceAll : Go.Proofs.Lays.n105 Tryz.prog Tryz.laysReplaceAll_ren where
  mixed := by kernel_rfl
  f99 := Tryz.func112.trans (congrArg some (by kernel_rfl))
  f105 := Tryz.func71.trans (congrArg some (by kernel_rfl))
  f165 := Tryz.func113.trans (congrArg some (by kernel_rfl))
  f166 := Tryz.func70.trans (congrArg some (by kernel_rfl))
  f169 := Tryz.func75.trans (congrArg some (by kernel_rfl))
  f170 := Tryz.func74.trans (congrArg some (by kernel_rfl))
  f206 := Tryz.func146.trans (congrArg some (by kernel_rfl))
  f212 := Tryz.func111.trans (congrArg some (by kernel_rfl))
  f240 := Tryz.func110.trans (congrArg some (by kernel_rfl))
  f241 := Tryz.func147.trans (congrArg some (by kernel_rfl))
  f263 := Tryz.func144.trans (congrArg some (by kernel_rfl))
  f264 := Tryz.func145.trans (congrArg some (by kernel_rfl))
  f276 := Tryz.func143.trans (congrArg some (by kernel_rfl))
  f277 := Tryz.func182.trans (congrArg some (by kernel_rfl))
  t0 := Tryz.underlying0
  a0 := Tryz.isAgg0
  z0 := Tryz.sizeOf0
  v0 := Tryz.zeroValue0
  t3 := Tryz.underlying3
  a3 := Tryz.isAgg3
  z3 := Tryz.sizeOf3
  v3 := Tryz.zeroValue3
  t4 := Tryz.underlying4
  a4 := Tryz.isAgg4
  z4 := Tryz.sizeOf4
  v4 := Tryz.zeroValue4
  t5 := Tryz.underlying5
  a5 := Tryz.isAgg5
  z5 := Tryz.sizeOf5
  v5 := Tryz.zeroValue5
  t9 := Tryz.underlying9
  a9 := Tryz.isAgg9
  z9 := Tryz.sizeOf9
  v9 := Tryz.zeroValue9
  t20 := Tryz.underlying20
  a20 := Tryz.isAgg20
  z20 := Tryz.sizeOf20
  v20 := Tryz.zeroValue20
  t37 := Tryz.underlying22
  a37 := Tryz.isAgg22
  z37 := Tryz.sizeOf22
  v37 := Tryz.zeroValue22
  t46 := Tryz.underlying129
  a46 := Tryz.isAgg129
  z46 := Tryz.sizeOf129
  v46 := Tryz.zeroValue129
  t51 := Tryz.underlying163
  a51 := Tryz.isAgg163
  z51 := Tryz.sizeOf163
  v51 := Tryz.zeroValue163
  t53 := Tryz.underlying165
  a53 := Tryz.isAgg165
  z53 := Tryz.sizeOf165
  v53 := Tryz.zeroValue165
  t70 := Tryz.underlying96
  a70 := Tryz.isAgg96
  z70 := Tryz.sizeOf96
  v70 := Tryz.zeroValue96
  t72 := Tryz.underlying98
  a72 := Tryz.isAgg98
  z72 := Tryz.sizeOf98
  v72 := Tryz.zeroValue98
  t75 := Tryz.underlying100
  a75 := Tryz.isAgg100
  z75 := Tryz.sizeOf100
  v75 := Tryz.zeroValue100
  t76 := Tryz.underlying101
  a76 := Tryz.isAgg101
  z76 := Tryz.sizeOf101
  v76 := Tryz.zeroValue101
  t109 := Tryz.underlying134
  a109 := Tryz.isAgg134
  z109 := Tryz.sizeOf134
  v109 := Tryz.zeroValue134
  t127 := Tryz.underlying137
  a127 := Tryz.isAgg137
  z127 := Tryz.sizeOf137
  v127 := Tryz.zeroValue137
  t146 := Tryz.underlying169
  a146 := Tryz.isAgg169
  z146 := Tryz.sizeOf169
  v146 := Tryz.zeroValue169
  t148 := Tryz.underlying171
  a148 := Tryz.isAgg171
  z148 := Tryz.sizeOf171
  v148 := Tryz.zeroValue171
  t164 := Tryz.underlying167
  a164 := Tryz.isAgg167
  z164 := Tryz.sizeOf167
  v164 := Tryz.zeroValue167

theorem trim_spec (s : List UInt8) (hs : s.length ≤ 9223372036854775807) : Ctr Tryz.prog G 131 [.d (S s), .d (S [32])] [] (.d (S (Lib.trimB s 32))) [] :=
  Ctr.of_calls_ss go131 fun h w => (Any.strings_Trim_one Tryz.laysTrim (bs s) 32 (by decide) w (by rw [bs_size]; exact hs)).mono (by
    rintro e w' ⟨rfl, h | h⟩
    · subst h; exact ⟨_, rfl, .str _, .refl _ _⟩
    · subst h; exact ⟨_, rfl, .str _, Below.drew (.refl _ _)⟩)
theorem ttrim_spec (s : List UInt8) (hs : s.length ≤ 9223372036854775807) : Ctr Tryz.prog G 103 [.d (S s)] [] (.d (S (Lib.trimB s 32))) [] := by
  refine Ctr.pure (M := M0) hmix Tryz.func103 rfl go103 ?_
  simp (config := { maxSteps := 1000000 }) (disch := ((try simp only [awL]); omega)) only [QR, QS, QT, QU, QV, QW, QX, QY, QZ, Q0, Q1, Q2, Tryz.f103, ↓awU, awV, awF, Qa, Qb, Qc, Qd, forall_const, ↓reduceIte, ↓reduceDIte, ↓Qe, Qf, Qg, Qh, Qi, Qj, Qk, Ql, Qm, Qn, Qo, Qp, Qq, Qr, Qs, implies_true, Qt, Qu, Qv, Qw, Qx, Qy, Qz, QA, QB, QC, QD, QE, QF, QG, QH, QI, QJ, QK, QL, QM, QN, QO, QP, QQ]
  refine CallC.of (trim_spec s hs) (by rfl) ?_
  simp (config := { maxSteps := 1000000 }) (disch := ((try simp only [awL]); omega)) only [QR, QS, QT, QU, QV, QW, QX, QY, QZ, Q0, Q1, Q2, ↓awU, awV, awF, Qa, Qb, Qc, Qd, forall_const, ↓reduceIte, ↓reduceDIte, ↓Qe, Qf, Qg, Qh, Qi, Qj, Qk, Ql, Qm, Qn, Qo, Qp, Qq, Qr, Qs, implies_true, Qt, Qu, Qv, Qw, Qx, Qy, Qz, QA, QB, QC, QD, QE, QF, QG, QH, QI, QJ, QK, QL, QM, QN, QO, QP, QQ]
theorem extraB : Builder.Extra Tryz.prog Tryz.laysReplaceAll_ren where
  sizeBuilder := by kernel_rfl
  liesBuilder := by kernel_rfl
  t5 := Tryz.underlying5
  a5 := Tryz.isAgg5
  z5 := Tryz.sizeOf5
  v5 := Tryz.zeroValue5
  infoByte := by kernel_rfl
  cellsByte := by kernel_rfl
  sizeByte := by kernel_rfl
  neB5 := by decide
end Go.Proofs.YtacepalmphbnfaaGreatDoor

namespace Go.Proofs.YtacepalmphbnfaaGreatDoor
open Go Go.Proofs Go.Abs
variable {G : Globals}
/-! Trimming by a set of bytes below 128. -/
def setD (l : List UInt8) : List D := (List.range 256).map fun i => .bool (l.any fun b => b.toNat == i)
def setB (l : List UInt8) : List AV := (setD l).map .d
theorem setB_length {l : List UInt8} : (setB l).length = 256 := by simp [setB, setD]
theorem setD_length {l : List UInt8} : (setD l).length = 256 := by simp [setD]
set_option maxRecDepth 10000 in
theorem setB_nil : setB [] = List.replicate 256 (.d (.bool false)) := by rfl
theorem setD_get {l : List UInt8} {c : UInt8} {d : D} : (setD l).getD c.toNat d = .bool (l.contains c) := by
  have hc := c.toNat_lt
  simp only [setD, List.getD_eq_getElem?_getD, List.getElem?_map, List.getElem?_range (show c.toNat < 256 by omega), Option.map_some, Option.getD_some]
  rw [List.contains_eq_any_beq]
  refine congrArg (fun f => D.bool (l.any f)) ?_
  funext b
  show (b.toNat == c.toNat) = _
  by_cases h : b = c
  · subst h; simp
  · have : ¬ b.toNat = c.toNat := fun e => h (UInt8.toNat_inj.1 e)
    have h' : ¬ c = b := fun e => h e.symm
    rw [beq_eq_false_iff_ne.2 this]; exact (beq_eq_false_iff_ne.2 h').symm
theorem setB_get {l : List UInt8} {c : UInt8} {d : AV} : (setB l).getD c.toNat d = .d (.bool (l.contains c)) := by
  have hc := c.toNat_lt
  have := @setD_get l c .nilp
  rw [List.getD_eq_getElem?_getD, List.getElem?_eq_getElem (by rw [setD_length]; omega)] at this
  rw [setB, List.getD_eq_getElem?_getD, List.getElem?_map, List.getElem?_eq_getElem (by rw [setD_length]; omega)]
  simp only [Option.getD_some] at this
  rw [Option.map_some, Option.getD_some, this]
theorem setB_set {l : List UInt8} {c : UInt8} : (setB l).set c.toNat (.d (.bool true)) = setB (l ++ [c]) := by
  have hc := c.toNat_lt
  apply List.ext_getElem
  · rw [List.length_set, setB_length, setB_length]
  · intro i h1 h2
    rw [List.length_set, setB_length] at h1
    rw [List.getElem_set]
    simp only [setB, setD, List.getElem_map, List.getElem_range, List.any_append, List.any_cons, List.any_nil, Bool.or_false]
    split
    · rename_i e; subst e; simp
    · rename_i e
      have : (c.toNat == i) = false := by simpa using e
      rw [this, Bool.or_false]
theorem SWeak_map {fl : List (Option Nat)} : ∀ l : List D, SWeak fl (l.map .d) (l.map .d)
  | [] => by simp [SWeak]
  | x :: l => by simp only [List.map_cons, SWeak]; exact ⟨by simp [AWeak], SWeak_map l⟩
theorem setB_weak {fl : List (Option Nat)} {l : List UInt8} : SWeak fl (setB l) (setB l) = True := eq_true (SWeak_map _)
theorem mem_getDU {α : Type} {l : List α} {i : Nat} {d : α} (h : i < l.length) : l.getD i d ∈ l := by
  rw [List.getD_eq_getElem?_getD, List.getElem?_eq_getElem h]; exact List.getElem_mem h
theorem setB_two (l : List UInt8) : ∃ a b cs, setB l = a :: b :: cs := by
  have := @setB_length l
  match h : setB l with
  | [] => rw [h] at this; cases this
  | [_] => rw [h] at this; cases this
  | a :: b :: cs => exact ⟨a, b, cs, rfl⟩
theorem setB_one {l : List UInt8} : (setB l).all AV.one = true := by
  simp [setB, setD, AV.one, D.one]
theorem setB_seal {H : List ABlk} {l : List UInt8} : sealL H (setB l) = some (setD l) := by
  have : ∀ m : List D, sealL H (m.map .d) = some m := fun m => by
    induction m with
    | nil => rfl
    | cons x m ih => simp only [List.map_cons, sealL, sealA, ih]
  exact this _
theorem setB_refs {l : List UInt8} : refsL (setB l) = [] := by
  have : ∀ m : List D, refsL (m.map .d) = [] := fun m => by
    induction m with
    | nil => rfl
    | cons x m ih => simp only [List.map_cons, refsL, refsA, ih, List.append_nil]
  exact this _
theorem setB_pass {H : List ABlk} {L : List Nat} {l : List UInt8} : passL H L (setB l) = some (setB l) := by
  have : ∀ m : List D, passL H L (m.map .d) = some (m.map .d) := fun m => by
    induction m with
    | nil => rfl
    | cons x m ih => simp only [List.map_cons, passL, passA, ih]
  exact this _
theorem setB_sids {H : List ABlk} {L : List Nat} {l : List UInt8} : sidsL H L (setB l) = [] := by
  have : ∀ m : List D, sidsL H L (m.map .d) = [] := fun m => by
    induction m with
    | nil => rfl
    | cons x m ih => simp only [List.map_cons, sidsL, sidsA, ih, List.append_nil]
  exact this _
theorem setB_ren {f : Nat → Nat} {l : List UInt8} : renL f (setB l) = setB l := by
  have : ∀ m : List D, renL f (m.map .d) = m.map .d := fun m => by
    induction m with
    | nil => rfl
    | cons x m ih => simp only [List.map_cons, renL, renA, ih]
  exact this _
theorem take_succ_getD {s : List UInt8} {i : Nat} (h : i < s.length) : s.take i ++ [s.getD i 0] = s.take (i + 1) := by
  rw [List.take_add_one, List.getElem?_eq_getElem h, List.getD_eq_getElem?_getD, List.getElem?_eq_getElem h]; rfl
theorem contains_spec (l : List UInt8) (c : UInt8) : Ctr Tryz.prog G 181 [.ptr 0 0, .d (.int .u8 c.toNat)] [.box (setB l)] (.d (.bool (l.contains c))) [.box (setB l)] := by
  have hc := c.toNat_lt
  have hl := @setB_length l
  refine Ctr.body (M := M0) hmix Tryz.func181 rfl go181 ?_
  simp (config := { maxSteps := 1000000 }) (disch := ((try simp only [awL]); omega)) only [QR, QS, QT, QU, QV, QW, QX, QY, QZ, Q0, Q1, Q2, hl, setB_get, Tryz.f181, ↓awU, awV, awF, Qa, Qb, Qc, Qd, forall_const, ↓reduceIte, ↓reduceDIte, ↓Qe, Qf, Qg, Qh, Qi, Qj, Qk, Ql, Qm, Qn, Qo, Qp, Qq, Qr, Qs, implies_true, Qt, Qu, Qv, Qw, Qx, Qy, Qz, QA, QB, QC, QD, QE, QF, QG, QH, QI, QJ, QK, QL, QM, QN, QO, QP, QQ]
  exact ⟨[some 0], rfl, by simp, by simp [HWeak, BWeak, setB_weak], .inl (by simp [AWeak])⟩
set_option maxRecDepth 100000 in
theorem makeSet_spec (l : List UInt8) (hl : l.length < 2 ^ 62) (ha : ∀ b ∈ l, b.toNat < 128) : Ctr Tryz.prog G 169 [.d (S l)] [] (.d (.tup [.agg (setD l), .bool true])) [] := by
  refine Ctr.pure (M := M0) hmix Tryz.func169 rfl go169 ?_
  simp (config := { maxSteps := 1000000 }) (disch := ((try simp only [awL]); omega)) only [QR, QS, QT, QU, QV, QW, QX, QY, QZ, Q0, Q1, Q2, Tryz.f169, ↓awU, awV, awF, Qa, Qb, Qc, Qd, forall_const, ↓reduceIte, ↓reduceDIte, ↓Qe, Qf, Qg, Qh, Qi, Qj, Qk, Ql, Qm, Qn, Qo, Qp, Qq, Qr, Qs, implies_true, Qt, Qu, Qv, Qw, Qx, Qy, Qz, QA, QB, QC, QD, QE, QF, QG, QH, QI, QJ, QK, QL, QM, QN, QO, QP, QQ]
  refine LoopC.fr 5 (α := Nat) (fun i => l.length - i) (fun i => [(4, .d (.int .i64 i))]) (fun i => [.box (setB (l.take i))]) (fun i => i ≤ l.length) 0 (Nat.zero_le _) ?_ ?_
  · refine ⟨[some 0], rfl, by simp, by simp [setsA, keepA, SWeak, AWeak], ?_⟩
    rw [List.take_zero, setB_nil]
    simp only [HWeak, BWeak, List.getElem?_cons_zero]
    refine ⟨SWeak_map (List.replicate 256 (.bool false)), trivial⟩
  · intro i hi
    have sl := @setB_length (l.take i)
    simp only [awK, Nat.reduceMod, Nat.reduceDiv, reduceIte]
    rcases Nat.lt_or_ge i l.length with h1 | h1
    · have hb := ha _ (mem_getDU (d := 0) h1)
      have hs := take_succ_getD h1
      simp (config := { maxSteps := 1000000 }) (disch := ((try simp only [awL]); omega)) only [QR, QS, QT, QU, QV, QW, QX, QY, QZ, Q0, Q1, Q2, sl, ↓awU, awV, awF, Qa, Qb, Qc, Qd, forall_const, ↓reduceIte, ↓reduceDIte, ↓Qe, Qf, Qg, Qh, Qi, Qj, Qk, Ql, Qm, Qn, Qo, Qp, Qq, Qr, Qs, implies_true, Qt, Qu, Qv, Qw, Qx, Qy, Qz, QA, QB, QC, QD, QE, QF, QG, QH, QI, QJ, QK, QL, QM, QN, QO, QP, QQ]
      exact ⟨i + 1, h1, by simp only; omega, [some 0], rfl, by simp, by simp [setsA, keepA, SWeak, AWeak], by simp only [HWeak, BWeak, List.getElem?_cons_zero]; rw [setB_set, hs]; exact ⟨by rw [setB_weak]; trivial, trivial⟩⟩
    · have sl := @setB_length l
      have tk : (setB l).take 256 = setB l := List.take_of_length_le (by omega)
      obtain ⟨a, b, cs, e⟩ := setB_two l
      have lc : cs.length = 254 := by rw [e] at sl; simpa using sl
      have tc : cs.take 254 = cs := List.take_of_length_le (by omega)
      have dc : cs.drop cs.length = [] := List.drop_length
      simp (config := { maxSteps := 1000000 }) (disch := ((try simp only [awL]); omega)) only [QR, QS, QT, QU, QV, QW, QX, QY, QZ, Q0, Q1, Q2, sl, tk, ↓awU, awV, awF, Qa, Qb, Qc, Qd, forall_const, ↓reduceIte, ↓reduceDIte, ↓Qe, Qf, Qg, Qh, Qi, Qj, Qk, Ql, Qm, Qn, Qo, Qp, Qq, Qr, Qs, implies_true, Qt, Qu, Qv, Qw, Qx, Qy, Qz, QA, QB, QC, QD, QE, QF, QG, QH, QI, QJ, QK, QL, QM, QN, QO, QP, QQ]
      refine ⟨setB_one, ?_⟩
      have pm : putL (setB l) 0 (setB l) = setB l := by
        rw [e]
        simp only [putL, putL, List.take_zero, List.nil_append, Nat.zero_add, List.length_cons, List.drop_succ_cons, dc, List.append_nil]
      simp only [putL, putL, List.take_zero, List.nil_append, Nat.zero_add] at pm
      rw [pm, sl, tk]
      simp only [Nat.le_refl, if_true, sealA, sealL, setB_seal]
      rfl
theorem setB_fold {l : List UInt8} : (setD l).map AV.d = setB l := rfl
theorem setB_putL {L : List AV} {l : List UInt8} (h : L.length = 256) : putL L 0 ((setD l).map AV.d) = setB l := by
  rw [setB_fold]
  obtain ⟨a, b, cs, e⟩ := setB_two l
  have q := @setB_length l
  rw [e] at q ⊢
  have hd : L.drop (0 + (a :: b :: cs).length) = [] := List.drop_eq_nil_of_le (by omega)
  simp only [putL, hd, List.take_zero, List.nil_append, List.append_nil]
set_option maxRecDepth 10000 in
theorem setB_putL' {l : List UInt8} : putL ([.d (.bool false), .d (.bool false), .d (.bool false), .d (.bool false), .d (.bool false), .d (.bool false), .d (.bool false), .d (.bool false), .d (.bool false), .d (.bool false), .d (.bool false), .d (.bool false), .d (.bool false), .d (.bool false), .d (.bool false), .d (.bool false), .d (.bool false), .d (.bool false), .d (.bool false), .d (.bool false), .d (.bool false), .d (.bool false), .d (.bool false), .d (.bool false), .d (.bool false), .d (.bool false), .d (.bool false), .d (.bool false), .d (.bool false), .d (.bool false), .d (.bool false), .d (.bool false), .d (.bool false), .d (.bool false), .d (.bool false), .d (.bool false), .d (.bool false), .d (.bool false), .d (.bool false), .d (.bool false), .d (.bool false), .d (.bool false), .d (.bool false), .d (.bool false), .d (.bool false), .d (.bool false), .d (.bool false), .d (.bool false), .d (.bool false), .d (.bool false), .d (.bool false), .d (.bool false), .d (.bool false), .d (.bool false), .d (.bool false), .d (.bool false), .d (.bool false), .d (.bool false), .d (.bool false), .d (.bool false), .d (.bool false), .d (.bool false), .d (.bool false), .d (.bool false), .d (.bool false), .d (.bool false), .d (.bool false), .d (.bool false), .d (.bool false), .d (.bool false), .d (.bool false), .d (.bool false), .d (.bool false), .d (.bool false), .d (.bool false), .d (.bool false), .d (.bool false), .d (.bool false), .d (.bool false), .d (.bool false), .d (.bool false), .d (.bool false), .d (.bool false), .d (.bool false), .d (.bool false), .d (.bool false), .d (.bool false), .d (.bool false), .d (.bool false), .d (.bool false), .d (.bool false), .d (.bool false), .d (.bool false), .d (.bool false), .d (.bool false), .d (.bool false), .d (.bool false), .d (.bool false), .d (.bool false), .d (.bool false), .d (.bool false), .d (.bool false), .d (.bool false), .d (.bool false), .d (.bool false), .d (.bool false), .d (.bool false), .d (.bool false), .d (.bool false), .d (.bool false), .d (.bool false), .d (.bool false), .d (.bool false), .d (.bool false), .d (.bool false), .d (.bool false), .d (.bool false), .d (.bool false), .d (.bool false), .d (.bool false), .d (.bool false), .d (.bool false), .d (.bool false), .d (.bool false), .d (.bool false), .d (.bool false), .d (.bool false), .d (.bool false), .d (.bool false), .d (.bool false), .d (.bool false), .d (.bool false), .d (.bool false), .d (.bool false), .d (.bool false), .d (.bool false), .d (.bool false), .d (.bool false), .d (.bool false), .d (.bool false), .d (.bool false), .d (.bool false), .d (.bool false), .d (.bool false), .d (.bool false), .d (.bool false), .d (.bool false), .d (.bool false), .d (.bool false), .d (.bool false), .d (.bool false), .d (.bool false), .d (.bool false), .d (.bool false), .d (.bool false), .d (.bool false), .d (.bool false), .d (.bool false), .d (.bool false), .d (.bool false), .d (.bool false), .d (.bool false), .d (.bool false), .d (.bool false), .d (.bool false), .d (.bool false), .d (.bool false), .d (.bool false), .d (.bool false), .d (.bool false), .d (.bool false), .d (.bool false), .d (.bool false), .d (.bool false), .d (.bool false), .d (.bool false), .d (.bool false), .d (.bool false), .d (.bool false), .d (.bool false), .d (.bool false), .d (.bool false), .d (.bool false), .d (.bool false), .d (.bool false), .d (.bool false), .d (.bool false), .d (.bool false), .d (.bool false), .d (.bool false), .d (.bool false), .d (.bool false), .d (.bool false), .d (.bool false), .d (.bool false), .d (.bool false), .d (.bool false), .d (.bool false), .d (.bool false), .d (.bool false), .d (.bool false), .d (.bool false), .d (.bool false), .d (.bool false), .d (.bool false), .d (.bool false), .d (.bool false), .d (.bool false), .d (.bool false), .d (.bool false), .d (.bool false), .d (.bool false), .d (.bool false), .d (.bool false), .d (.bool false), .d (.bool false), .d (.bool false), .d (.bool false), .d (.bool false), .d (.bool false), .d (.bool false), .d (.bool false), .d (.bool false), .d (.bool false), .d (.bool false), .d (.bool false), .d (.bool false), .d (.bool false), .d (.bool false), .d (.bool false), .d (.bool false), .d (.bool false), .d (.bool false), .d (.bool false), .d (.bool false), .d (.bool false), .d (.bool false), .d (.bool false), .d (.bool false), .d (.bool false), .d (.bool false), .d (.bool false), .d (.bool false), .d (.bool false), .d (.bool false), .d (.bool false), .d (.bool false), .d (.bool false), .d (.bool false), .d (.bool false), .d (.bool false), .d (.bool false), .d (.bool false), .d (.bool false), .d (.bool false), .d (.bool false)] : List AV) 0 (setB l) = setB l := setB_putL rfl
end Go.Proofs.YtacepalmphbnfaaGreatDoor

namespace Go.Proofs.YtacepalmphbnfaaGreatDoor
open Go Go.Proofs Go.Abs
variable {G : Globals}
/-! Whether a text holds a line end's byte. -/
theorem decw (l : List UInt8) (p : Nat) (h : p < l.length) : ((l.getD p 0).toNat < 128 ∧ dec l p = ((l.getD p 0).toNat, 1)) ∨
    (128 ≤ (dec l p).1 ∧ 1 ≤ (dec l p).2 ∧ p + (dec l p).2 ≤ l.length ∧ ∀ i, i < (dec l p).2 → 128 ≤ (l.getD (p + i) 0).toNat) := by
  by_cases h0 : (l.getD p 0).toNat < 128
  · exact .inl ⟨h0, dec_ascii h h0⟩
  · right
    have hget : ∀ k, ((bs l).get! (p + k)).toNat = (l.getD (p + k) 0).toNat := fun k => by
      show (l.toArray.getD (p + k) default).toNat = _
      simp [List.getD_eq_getElem?_getD]; rfl
    have hsz : (bs l).size = l.length := bs_size
    unfold dec Utf8.decode
    have hget0 : ((bs l).get! p).toNat = (l.getD p 0).toNat := hget 0
    simp only [hget, hsz, Nat.add_zero, hget0]
    have hb : ∀ k, (l.getD (p + k) 0).toNat < 256 := fun k => (l.getD (p + k) 0).toNat_lt
    have hb1 := hb 1
    have hb2 := hb 2
    have hb3 := hb 3
    have hb0 := hb 0
    rw [Nat.add_zero] at hb0
    rw [if_neg h0]
    have one : ∀ i, i < 1 → 128 ≤ (l.getD (p + i) 0).toNat := fun i hi => by obtain rfl : i = 0 := by omega
                                                                             rw [Nat.add_zero]; omega
    split
    · rename_i h1
      simp only [Bool.and_eq_true, beq_iff_eq, decide_eq_true_eq] at h1
      split
      · rename_i h2
        refine ⟨by omega, by omega, by omega, fun i hi => ?_⟩
        rcases (by omega : i = 0 ∨ i = 1) with rfl | rfl
        · rw [Nat.add_zero]; omega
        · omega
      · exact ⟨by simp [Utf8.runeError], by omega, by omega, one⟩
    · split
      · rename_i h1
        simp only [Bool.and_eq_true, beq_iff_eq, decide_eq_true_eq] at h1
        split
        · rename_i h2
          simp only [Bool.and_eq_true, decide_eq_true_eq] at h2
          refine ⟨by omega, by omega, by omega, fun i hi => ?_⟩
          rcases (by omega : i = 0 ∨ i = 1 ∨ i = 2) with rfl | rfl | rfl
          · rw [Nat.add_zero]; omega
          · omega
          · omega
        · exact ⟨by simp [Utf8.runeError], by omega, by omega, one⟩
      · split
        · rename_i h1
          simp only [Bool.and_eq_true, beq_iff_eq, decide_eq_true_eq] at h1
          split
          · rename_i h2
            simp only [Bool.and_eq_true, decide_eq_true_eq] at h2
            refine ⟨by omega, by omega, by omega, fun i hi => ?_⟩
            rcases (by omega : i = 0 ∨ i = 1 ∨ i = 2 ∨ i = 3) with rfl | rfl | rfl | rfl
            · rw [Nat.add_zero]; omega
            · omega
            · omega
            · omega
          · exact ⟨by simp [Utf8.runeError], by omega, by omega, one⟩
        · exact ⟨by simp [Utf8.runeError], by omega, by omega, one⟩
/-- A wide rune's bytes: more than one, the last one is none of ASCII. -/
theorem enc_wide (r : Nat) (h : 128 ≤ r) : ∃ e : List UInt8, Utf8.encode (r : Int) = bs e ∧ 2 ≤ e.length ∧ e.length ≤ 4 ∧ 128 ≤ (e.getD (e.length - 1) 0).toNat := by
  have key : ∃ e : List UInt8, (Utf8.encode (r : Int)).data.toList = e ∧ 2 ≤ e.length ∧ e.length ≤ 4 ∧ 128 ≤ (e.getD (e.length - 1) 0).toNat := by
    by_cases c2 : r < 2048
    · refine ⟨[UInt8.ofNat (192 + r / 64), UInt8.ofNat (128 + r % 64)], ?_, by simp, by simp, ?_⟩
      · have : Utf8.valid (r : Int) = true := by simp [Utf8.valid]; omega
        simp [Utf8.encode, this, c2, show ¬ r < 128 by omega]
      · simp; omega
    · by_cases hv : (55296 ≤ r ∧ r ≤ 57343) ∨ 1114111 < r
      · refine ⟨[239, 191, 189], ?_, by simp, by simp, by decide⟩
        have : Utf8.valid (r : Int) = false := by simp [Utf8.valid]; omega
        simp [Utf8.encode, this, Utf8.runeError]
      · by_cases c3 : r < 65536
        · refine ⟨[UInt8.ofNat (224 + r / 4096), UInt8.ofNat (128 + r / 64 % 64), UInt8.ofNat (128 + r % 64)], ?_, by simp, by simp, ?_⟩
          · have : Utf8.valid (r : Int) = true := by simp [Utf8.valid]; omega
            simp [Utf8.encode, this, c2, c3, show ¬ r < 128 by omega]
          · simp; omega
        · refine ⟨[UInt8.ofNat (240 + r / 262144), UInt8.ofNat (128 + r / 4096 % 64), UInt8.ofNat (128 + r / 64 % 64), UInt8.ofNat (128 + r % 64)], ?_, by simp, by simp, ?_⟩
          · have : Utf8.valid (r : Int) = true := by simp [Utf8.valid]; omega
            simp [Utf8.encode, this, c2, c3, show ¬ r < 128 by omega]
          · simp; omega
  obtain ⟨e, h1, h2⟩ := key
  exact ⟨e, bs_ext (by rw [h1]), h2⟩
def nlL : List UInt8 := [13, 10]
theorem validRune_spec (r : Nat) (hr : r ≤ 2147483647) : Ctr Tryz.prog G 199 [.d (.int .i32 r)] [] (.d (.bool (decide (r < 55296 ∨ 57343 < r ∧ r ≤ 1114111)))) [] := by
  refine Ctr.pure (M := M0) hmix Tryz.func199 rfl go199 ?_
  rcases (by omega : r < 55296 ∨ (55296 ≤ r ∧ r ≤ 57343) ∨ (57343 < r ∧ r ≤ 1114111) ∨ 1114111 < r) with h | h | h | h
  all_goals
    simp (config := { maxSteps := 1000000 }) (disch := ((try simp only [awL]); omega)) only [QR, QS, QT, QU, QV, QW, QX, QY, QZ, Q0, Q1, Q2, Tryz.f199, ↓awU, awV, awF, Qa, Qb, Qc, Qd, forall_const, ↓reduceIte, ↓reduceDIte, ↓Qe, Qf, Qg, Qh, Qi, Qj, Qk, Ql, Qm, Qn, Qo, Qp, Qq, Qr, Qs, implies_true, Qt, Qu, Qv, Qw, Qx, Qy, Qz, QA, QB, QC, QD, QE, QF, QG, QH, QI, QJ, QK, QL, QM, QN, QO, QP, QQ]
  all_goals (first | done | (simp <;> omega))
set_option maxHeartbeats 4000000 in
set_option maxRecDepth 100000 in
theorem indexRune_spec (r : Nat) (hr : r ≤ 2147483647) : Ctr Tryz.prog G 179 [.d (S nlL), .d (.int .i32 r)] [] (.d (.int .i64 (if r < 128 then Lib.indexByte nlL (UInt8.ofNat r) else -1))) [] := by
  refine Ctr.pure (M := M0) hmix Tryz.func179 rfl go179 ?_
  obtain ⟨L, hL⟩ : ∃ L : List UInt8, L = nlL := ⟨_, rfl⟩
  have ll : L.length = 2 := by rw [hL]; rfl
  have l0 : (L.getD 0 0).toNat = 13 := by rw [hL]; rfl
  have l1 : (L.getD 1 0).toNat = 10 := by rw [hL]; rfl
  rw [← hL]
  by_cases h : r < 128
  · rw [if_pos h]
    have e : (UInt8.ofNat r).toNat = r := by simp; omega
    have sp := sIndexByte_spec (G := G) L (UInt8.ofNat r)
    rw [e] at sp
    simp (config := { maxSteps := 1000000 }) (disch := ((try simp only [awL]); omega)) only [QR, QS, QT, QU, QV, QW, QX, QY, QZ, Q0, Q1, Q2, Tryz.f179, ↓awU, awV, awF, Qa, Qb, Qc, Qd, forall_const, ↓reduceIte, ↓reduceDIte, ↓Qe, Qf, Qg, Qh, Qi, Qj, Qk, Ql, Qm, Qn, Qo, Qp, Qq, Qr, Qs, implies_true, Qt, Qu, Qv, Qw, Qx, Qy, Qz, QA, QB, QC, QD, QE, QF, QG, QH, QI, QJ, QK, QL, QM, QN, QO, QP, QQ]
    refine CallC.pure sp ?_
    simp (config := { maxSteps := 1000000 }) (disch := ((try simp only [awL]); omega)) only [QR, QS, QT, QU, QV, QW, QX, QY, QZ, Q0, Q1, Q2, ↓awU, awV, awF, Qa, Qb, Qc, Qd, forall_const, ↓reduceIte, ↓reduceDIte, ↓Qe, Qf, Qg, Qh, Qi, Qj, Qk, Ql, Qm, Qn, Qo, Qp, Qq, Qr, Qs, implies_true, Qt, Qu, Qv, Qw, Qx, Qy, Qz, QA, QB, QC, QD, QE, QF, QG, QH, QI, QJ, QK, QL, QM, QN, QO, QP, QQ]
  · rw [if_neg h]
    by_cases h2 : r = 65533
    · subst h2
      simp (config := { maxSteps := 1000000 }) (disch := ((try simp only [awL]); omega)) only [QR, QS, QT, QU, QV, QW, QX, QY, QZ, Q0, Q1, Q2, Tryz.f179, ↓awU, awV, awF, Qa, Qb, Qc, Qd, forall_const, ↓reduceIte, ↓reduceDIte, ↓Qe, Qf, Qg, Qh, Qi, Qj, Qk, Ql, Qm, Qn, Qo, Qp, Qq, Qr, Qs, implies_true, Qt, Qu, Qv, Qw, Qx, Qy, Qz, QA, QB, QC, QD, QE, QF, QG, QH, QI, QJ, QK, QL, QM, QN, QO, QP, QQ]
      refine LoopC.fr 47890485652059026823698344598447161988085597568237568 (α := Nat) (fun i => 2 - i) (fun _ => []) (fun i => [.iter (bs L) i]) (fun i => i ≤ 2) 0 (Nat.zero_le _) ?_ ?_
      · exact ⟨[some 0], rfl, by simp, by simp [setsA, keepA, SWeak, AWeak], by simp [HWeak, BWeak, SWeak, AWeak]⟩
      · intro i hi
        simp only [awK, Nat.reduceMod, Nat.reduceDiv, reduceIte]
        rcases (by omega : i = 0 ∨ i = 1 ∨ i = 2) with rfl | rfl | rfl
        · have d := dec_ascii (l := L) (p := 0) (by omega) (by omega)
          rw [l0] at d
          simp (config := { maxSteps := 1000000 }) (disch := ((try simp only [awL]); omega)) only [QR, QS, QT, QU, QV, QW, QX, QY, QZ, Q0, Q1, Q2, d, ↓awU, awV, awF, Qa, Qb, Qc, Qd, forall_const, ↓reduceIte, ↓reduceDIte, ↓Qe, Qf, Qg, Qh, Qi, Qj, Qk, Ql, Qm, Qn, Qo, Qp, Qq, Qr, Qs, implies_true, Qt, Qu, Qv, Qw, Qx, Qy, Qz, QA, QB, QC, QD, QE, QF, QG, QH, QI, QJ, QK, QL, QM, QN, QO, QP, QQ]
          exact ⟨1, by decide, by simp only; omega, ⟨[some 0], rfl, by simp, by simp [setsA, keepA, SWeak, AWeak], by simp [HWeak, BWeak, SWeak, AWeak]⟩⟩
        · have d := dec_ascii (l := L) (p := 1) (by omega) (by omega)
          rw [l1] at d
          simp (config := { maxSteps := 1000000 }) (disch := ((try simp only [awL]); omega)) only [QR, QS, QT, QU, QV, QW, QX, QY, QZ, Q0, Q1, Q2, d, ↓awU, awV, awF, Qa, Qb, Qc, Qd, forall_const, ↓reduceIte, ↓reduceDIte, ↓Qe, Qf, Qg, Qh, Qi, Qj, Qk, Ql, Qm, Qn, Qo, Qp, Qq, Qr, Qs, implies_true, Qt, Qu, Qv, Qw, Qx, Qy, Qz, QA, QB, QC, QD, QE, QF, QG, QH, QI, QJ, QK, QL, QM, QN, QO, QP, QQ]
          exact ⟨2, by decide, by simp only; omega, ⟨[some 0], rfl, by simp, by simp [setsA, keepA, SWeak, AWeak], by simp [HWeak, BWeak, SWeak, AWeak]⟩⟩
        · simp (config := { maxSteps := 1000000 }) (disch := ((try simp only [awL]); omega)) only [QR, QS, QT, QU, QV, QW, QX, QY, QZ, Q0, Q1, Q2, ↓awU, awV, awF, Qa, Qb, Qc, Qd, forall_const, ↓reduceIte, ↓reduceDIte, ↓Qe, Qf, Qg, Qh, Qi, Qj, Qk, Ql, Qm, Qn, Qo, Qp, Qq, Qr, Qs, implies_true, Qt, Qu, Qv, Qw, Qx, Qy, Qz, QA, QB, QC, QD, QE, QF, QG, QH, QI, QJ, QK, QL, QM, QN, QO, QP, QQ]
    · simp (config := { maxSteps := 1000000 }) (disch := ((try simp only [awL]); omega)) only [QR, QS, QT, QU, QV, QW, QX, QY, QZ, Q0, Q1, Q2, Tryz.f179, ↓awU, awV, awF, Qa, Qb, Qc, Qd, forall_const, ↓reduceIte, ↓reduceDIte, ↓Qe, Qf, Qg, Qh, Qi, Qj, Qk, Ql, Qm, Qn, Qo, Qp, Qq, Qr, Qs, implies_true, Qt, Qu, Qv, Qw, Qx, Qy, Qz, QA, QB, QC, QD, QE, QF, QG, QH, QI, QJ, QK, QL, QM, QN, QO, QP, QQ]
      refine CallC.pure (validRune_spec r hr) ?_
      by_cases hv : r < 55296 ∨ 57343 < r ∧ r ≤ 1114111
      · rw [decide_eq_true hv]
        obtain ⟨e, e1, e2, e3, e4⟩ := enc_wide r (by omega)
        have hb := (e.getD (e.length - 1) 0).toNat_lt
        simp (config := { maxSteps := 1000000 }) (disch := ((try simp only [awL]); omega)) only [QR, QS, QT, QU, QV, QW, QX, QY, QZ, Q0, Q1, Q2, e1, ↓awU, awV, awF, Qa, Qb, Qc, Qd, forall_const, ↓reduceIte, ↓reduceDIte, ↓Qe, Qf, Qg, Qh, Qi, Qj, Qk, Ql, Qm, Qn, Qo, Qp, Qq, Qr, Qs, implies_true, Qt, Qu, Qv, Qw, Qx, Qy, Qz, QA, QB, QC, QD, QE, QF, QG, QH, QI, QJ, QK, QL, QM, QN, QO, QP, QQ]
        refine LoopC.fr 385 (α := Nat) (fun _ => 1) (fun _ => [(9, .d (.int .i64 (e.length - 1 : Int)))]) (fun _ => []) (fun _ => True) 0 trivial ?_ ?_
        · exact ⟨[], rfl, by simp, by simp [setsA, keepA, SWeak, AWeak], by simp [HWeak, BWeak, SWeak, AWeak]⟩
        · intro i hi
          simp only [awK, Nat.reduceMod, Nat.reduceDiv, reduceIte]
          rcases (by omega : e.length = 2 ∨ 2 < e.length) with h3 | h3
          · rw [h3] at e4 hb
            replace e4 : 128 ≤ (e.getD 1 0).toNat := e4
            have sp : Ctr Tryz.prog G 128 [.d (S []), .d (.int .u8 (e.getD 1 0).toNat)] [] (.d (.int .i64 (-1))) [] := sIndexByte_spec (G := G) [] (e.getD 1 0)
            simp (config := { maxSteps := 1000000 }) (disch := ((try simp only [awL]); omega)) only [QR, QS, QT, QU, QV, QW, QX, QY, QZ, Q0, Q1, Q2, h3, ↓awU, awV, awF, Qa, Qb, Qc, Qd, forall_const, ↓reduceIte, ↓reduceDIte, ↓Qe, Qf, Qg, Qh, Qi, Qj, Qk, Ql, Qm, Qn, Qo, Qp, Qq, Qr, Qs, implies_true, Qt, Qu, Qv, Qw, Qx, Qy, Qz, QA, QB, QC, QD, QE, QF, QG, QH, QI, QJ, QK, QL, QM, QN, QO, QP, QQ]
            have hne : ¬ (((L.getD 1 0).toNat : Nat) : Int) = ((e.getD 1 0).toNat : Nat) := by omega
            refine ⟨by rfl, ?_⟩
            refine CallC.of sp (by rw [hL]; rfl) ?_
            simp (config := { maxSteps := 1000000 }) (disch := ((try simp only [awL]); omega)) only [QR, QS, QT, QU, QV, QW, QX, QY, QZ, Q0, Q1, Q2, ↓awU, awV, awF, Qa, Qb, Qc, Qd, forall_const, ↓reduceIte, ↓reduceDIte, ↓Qe, Qf, Qg, Qh, Qi, Qj, Qk, Ql, Qm, Qn, Qo, Qp, Qq, Qr, Qs, implies_true, Qt, Qu, Qv, Qw, Qx, Qy, Qz, QA, QB, QC, QD, QE, QF, QG, QH, QI, QJ, QK, QL, QM, QN, QO, QP, QQ]
            try rfl
          · simp (config := { maxSteps := 1000000 }) (disch := ((try simp only [awL]); omega)) only [QR, QS, QT, QU, QV, QW, QX, QY, QZ, Q0, Q1, Q2, ↓awU, awV, awF, Qa, Qb, Qc, Qd, forall_const, ↓reduceIte, ↓reduceDIte, ↓Qe, Qf, Qg, Qh, Qi, Qj, Qk, Ql, Qm, Qn, Qo, Qp, Qq, Qr, Qs, implies_true, Qt, Qu, Qv, Qw, Qx, Qy, Qz, QA, QB, QC, QD, QE, QF, QG, QH, QI, QJ, QK, QL, QM, QN, QO, QP, QQ]
      · rw [decide_eq_false hv]
        simp (config := { maxSteps := 1000000 }) (disch := ((try simp only [awL]); omega)) only [QR, QS, QT, QU, QV, QW, QX, QY, QZ, Q0, Q1, Q2, ↓awU, awV, awF, Qa, Qb, Qc, Qd, forall_const, ↓reduceIte, ↓reduceDIte, ↓Qe, Qf, Qg, Qh, Qi, Qj, Qk, Ql, Qm, Qn, Qo, Qp, Qq, Qr, Qs, implies_true, Qt, Qu, Qv, Qw, Qx, Qy, Qz, QA, QB, QC, QD, QE, QF, QG, QH, QI, QJ, QK, QL, QM, QN, QO, QP, QQ]
/-- The place of the first line end's byte, from a place on. -/
def nlIx (l : List UInt8) (p : Nat) : Int := if h : p < l.length then (if (l.getD p 0).toNat = 13 ∨ (l.getD p 0).toNat = 10 then (p : Int) else nlIx l (p + 1)) else -1
termination_by l.length - p
theorem nlIx_end {l : List UInt8} {p : Nat} (h : ¬ p < l.length) : nlIx l p = -1 := by rw [nlIx, dif_neg h]
theorem nlIx_hit {l : List UInt8} {p : Nat} (h : p < l.length) (h2 : (l.getD p 0).toNat = 13 ∨ (l.getD p 0).toNat = 10) : nlIx l p = p := by rw [nlIx, dif_pos h, if_pos h2]
theorem nlIx_miss {l : List UInt8} {p : Nat} (h : p < l.length) (h2 : ¬ ((l.getD p 0).toNat = 13 ∨ (l.getD p 0).toNat = 10)) : nlIx l p = nlIx l (p + 1) := by rw [nlIx, dif_pos h, if_neg h2]
theorem nlIx_skip {l : List UInt8} {p : Nat} : ∀ w, p + w ≤ l.length → (∀ i, i < w → 128 ≤ (l.getD (p + i) 0).toNat) → nlIx l p = nlIx l (p + w)
  | 0, _, _ => rfl
  | w + 1, h, h2 => by
    rw [nlIx_skip w (by omega) (fun i hi => h2 i (by omega)), nlIx_miss (by omega) (by have := h2 w (by omega); omega)]; rfl
theorem nlIx_mem : ∀ (n : Nat) (l : List UInt8) (p : Nat), l.length - p = n → (0 ≤ nlIx l p ↔ 10 ∈ l.drop p ∨ 13 ∈ l.drop p)
  | 0, l, p, hn => by rw [nlIx_end (by omega), List.drop_eq_nil_of_le (by omega)]; simp
  | n + 1, l, p, hn => by
    have hp : p < l.length := by omega
    have e10 : ∀ x : UInt8, (10 : UInt8) = x ↔ x.toNat = 10 := fun x => ⟨fun e => by rw [← e]; rfl, fun e => UInt8.toNat_inj.1 e.symm⟩
    have e13 : ∀ x : UInt8, (13 : UInt8) = x ↔ x.toNat = 13 := fun x => ⟨fun e => by rw [← e]; rfl, fun e => UInt8.toNat_inj.1 e.symm⟩
    have ed : l.drop p = l.getD p 0 :: l.drop (p + 1) := by rw [List.drop_eq_getElem_cons hp, List.getD_eq_getElem?_getD, List.getElem?_eq_getElem hp]; rfl
    rw [ed, List.mem_cons, List.mem_cons, e10, e13]
    by_cases h : (l.getD p 0).toNat = 13 ∨ (l.getD p 0).toNat = 10
    · rw [nlIx_hit hp h]
      exact ⟨fun _ => by rcases h with h | h; exact .inr (.inl h); exact .inl (.inl h), fun _ => by omega⟩
    · rw [nlIx_miss hp h, nlIx_mem n l (p + 1) (by omega)]
      constructor
      · rintro (h2 | h2)
        · exact .inl (.inr h2)
        · exact .inr (.inr h2)
      · rintro ((h2 | h2) | (h2 | h2))
        · exact absurd (.inr h2) h
        · exact .inl h2
        · exact absurd (.inl h2) h
        · exact .inr h2
def hasNl (l : List UInt8) : Bool := decide (10 ∈ l ∨ 13 ∈ l)
theorem nl_contains (c : UInt8) : nlL.contains c = decide (c.toNat = 13 ∨ c.toNat = 10) := by
  have e10 : c = 10 ↔ c.toNat = 10 := ⟨fun e => by rw [e]; rfl, fun e => UInt8.toNat_inj.1 e⟩
  have e13 : c = 13 ↔ c.toNat = 13 := ⟨fun e => by rw [e]; rfl, fun e => UInt8.toNat_inj.1 e⟩
  simp [nlL, e10, e13]
theorem nl_index {r : Nat} (h : r < 128) : Lib.indexByte nlL (UInt8.ofNat r) = if r = 13 then 0 else if r = 10 then 1 else -1 := by
  have hr : (UInt8.ofNat r).toNat = r := by simp; omega
  have e10 : (10 : UInt8) = UInt8.ofNat r ↔ r = 10 := ⟨fun e => by rw [← e] at hr; exact hr.symm, fun e => by rw [e]; rfl⟩
  have e13 : (13 : UInt8) = UInt8.ofNat r ↔ r = 13 := ⟨fun e => by rw [← e] at hr; exact hr.symm, fun e => by rw [e]; rfl⟩
  simp only [nlL, Lib.indexByte, beq_iff_eq, e10, e13]
  by_cases h1 : r = 13 <;> by_cases h2 : r = 10 <;> simp [h1, h2]
set_option maxHeartbeats 4000000 in
set_option maxRecDepth 100000 in
theorem indexAny_spec (l : List UInt8) (hl : l.length ≤ 1000000000) : Ctr Tryz.prog G 142 [.d (S l), .d (S nlL)] [] (.d (.int .i64 (nlIx l 0))) [] := by
  refine Ctr.pure (M := M0) hmix Tryz.func142 rfl go142 ?_
  have us : ∀ n : Nat, n ≤ 1000000000 → Ctr Tryz.prog G 180 [.d (.int .i64 n)] [] (.d (.bool (decide (8 < n)))) [] := fun n hn => by
    refine Ctr.pure (M := M0) hmix Tryz.func180 rfl go180 ?_
    rcases Nat.lt_or_ge 8 n with h | h
    · simp (config := { maxSteps := 1000000 }) (disch := ((try simp only [awL]); omega)) only [QR, QS, QT, QU, QV, QW, QX, QY, QZ, Q0, Q1, Q2, Tryz.f180, ↓awU, awV, awF, Qa, Qb, Qc, Qd, forall_const, ↓reduceIte, ↓reduceDIte, ↓Qe, Qf, Qg, Qh, Qi, Qj, Qk, Ql, Qm, Qn, Qo, Qp, Qq, Qr, Qs, implies_true, Qt, Qu, Qv, Qw, Qx, Qy, Qz, QA, QB, QC, QD, QE, QF, QG, QH, QI, QJ, QK, QL, QM, QN, QO, QP, QQ]
      try (simp <;> omega)
    · simp (config := { maxSteps := 1000000 }) (disch := ((try simp only [awL]); omega)) only [QR, QS, QT, QU, QV, QW, QX, QY, QZ, Q0, Q1, Q2, Tryz.f180, ↓awU, awV, awF, Qa, Qb, Qc, Qd, forall_const, ↓reduceIte, ↓reduceDIte, ↓Qe, Qf, Qg, Qh, Qi, Qj, Qk, Ql, Qm, Qn, Qo, Qp, Qq, Qr, Qs, implies_true, Qt, Qu, Qv, Qw, Qx, Qy, Qz, QA, QB, QC, QD, QE, QF, QG, QH, QI, QJ, QK, QL, QM, QN, QO, QP, QQ]
      try (simp <;> omega)
  have nl2 : nlL.length = 2 := rfl
  obtain ⟨L, hL⟩ : ∃ L : List UInt8, L = nlL := ⟨_, rfl⟩
  rw [← hL] at nl2 ⊢
  have nlne : ¬ L = [] := by rw [hL]; decide
  simp (config := { maxSteps := 1000000 }) (disch := ((try simp only [awL]); omega)) only [QR, QS, QT, QU, QV, QW, QX, QY, QZ, Q0, Q1, Q2, nl2, nlne, Tryz.f142, ↓awU, awV, awF, Qa, Qb, Qc, Qd, forall_const, ↓reduceIte, ↓reduceDIte, ↓Qe, Qf, Qg, Qh, Qi, Qj, Qk, Ql, Qm, Qn, Qo, Qp, Qq, Qr, Qs, implies_true, Qt, Qu, Qv, Qw, Qx, Qy, Qz, QA, QB, QC, QD, QE, QF, QG, QH, QI, QJ, QK, QL, QM, QN, QO, QP, QQ]
  refine CallC.pure (us _ hl) ?_
  rcases Nat.lt_or_ge 8 l.length with h | h
  · rw [decide_eq_true h]
    simp (config := { maxSteps := 1000000 }) (disch := ((try simp only [awL]); omega)) only [QR, QS, QT, QU, QV, QW, QX, QY, QZ, Q0, Q1, Q2, ↓awU, awV, awF, Qa, Qb, Qc, Qd, forall_const, ↓reduceIte, ↓reduceDIte, ↓Qe, Qf, Qg, Qh, Qi, Qj, Qk, Ql, Qm, Qn, Qo, Qp, Qq, Qr, Qs, implies_true, Qt, Qu, Qv, Qw, Qx, Qy, Qz, QA, QB, QC, QD, QE, QF, QG, QH, QI, QJ, QK, QL, QM, QN, QO, QP, QQ]
    refine CallC.of (makeSet_spec nlL (by decide) (by decide)) (by rw [hL]) ?_
    have sl := @setD_length nlL
    have sb := @setB_length nlL
    have hal := (setB_one : (setB nlL).all AV.one = true)
    simp (config := { maxSteps := 1000000 }) (disch := ((try simp only [awL]); omega)) only [QR, QS, QT, QU, QV, QW, QX, QY, QZ, Q0, Q1, Q2, sl, sb, ↓ setB_putL', setB_putL', setB_fold, setB_refs, setB_pass, setB_sids, setB_ren, ↓awU, awV, awF, Qa, Qb, Qc, Qd, forall_const, ↓reduceIte, ↓reduceDIte, ↓Qe, Qf, Qg, Qh, Qi, Qj, Qk, Ql, Qm, Qn, Qo, Qp, Qq, Qr, Qs, implies_true, Qt, Qu, Qv, Qw, Qx, Qy, Qz, QA, QB, QC, QD, QE, QF, QG, QH, QI, QJ, QK, QL, QM, QN, QO, QP, QQ]
    refine ⟨setB_one, ?_⟩
    refine LoopC.fr 65 (α := Nat) (fun p => l.length - p) (fun p => [(8, .d (.int .i64 p))]) (fun p => [.box (setB nlL)]) (fun p => p ≤ l.length ∧ nlIx l 0 = nlIx l p) 0 ⟨Nat.zero_le _, rfl⟩ ?_ ?_
    · exact ⟨[some 0], rfl, by simp, by simp [setsA, keepA, SWeak, AWeak], by simp [HWeak, BWeak, setB_weak]⟩
    · rintro p ⟨h1, h2⟩
      simp only [awK, Nat.reduceMod, Nat.reduceDiv, reduceIte]
      rw [h2]
      rcases Nat.lt_or_ge p l.length with h3 | h3
      · simp (config := { maxSteps := 1000000 }) (disch := ((try simp only [awL]); omega)) only [QR, QS, QT, QU, QV, QW, QX, QY, QZ, Q0, Q1, Q2, setB_refs, setB_pass, setB_sids, setB_ren, ↓awU, awV, awF, Qa, Qb, Qc, Qd, forall_const, ↓reduceIte, ↓reduceDIte, ↓Qe, Qf, Qg, Qh, Qi, Qj, Qk, Ql, Qm, Qn, Qo, Qp, Qq, Qr, Qs, implies_true, Qt, Qu, Qv, Qw, Qx, Qy, Qz, QA, QB, QC, QD, QE, QF, QG, QH, QI, QJ, QK, QL, QM, QN, QO, QP, QQ]
        refine CallC.by (contains_spec nlL (l.getD p 0)) (by rfl) (by rfl) (Nat.le_refl _) ?_
        rw [nl_contains]
        by_cases n : (l.getD p 0).toNat = 13 ∨ (l.getD p 0).toNat = 10
        · rw [decide_eq_true n, nlIx_hit h3 n]
          simp (config := { maxSteps := 1000000 }) (disch := ((try simp only [awL]); omega)) only [QR, QS, QT, QU, QV, QW, QX, QY, QZ, Q0, Q1, Q2, setB_refs, setB_pass, setB_sids, setB_ren, ↓awU, awV, awF, Qa, Qb, Qc, Qd, forall_const, ↓reduceIte, ↓reduceDIte, ↓Qe, Qf, Qg, Qh, Qi, Qj, Qk, Ql, Qm, Qn, Qo, Qp, Qq, Qr, Qs, implies_true, Qt, Qu, Qv, Qw, Qx, Qy, Qz, QA, QB, QC, QD, QE, QF, QG, QH, QI, QJ, QK, QL, QM, QN, QO, QP, QQ]
        · rw [decide_eq_false n]
          simp (config := { maxSteps := 1000000 }) (disch := ((try simp only [awL]); omega)) only [QR, QS, QT, QU, QV, QW, QX, QY, QZ, Q0, Q1, Q2, setB_refs, setB_pass, setB_sids, setB_ren, ↓awU, awV, awF, Qa, Qb, Qc, Qd, forall_const, ↓reduceIte, ↓reduceDIte, ↓Qe, Qf, Qg, Qh, Qi, Qj, Qk, Ql, Qm, Qn, Qo, Qp, Qq, Qr, Qs, implies_true, Qt, Qu, Qv, Qw, Qx, Qy, Qz, QA, QB, QC, QD, QE, QF, QG, QH, QI, QJ, QK, QL, QM, QN, QO, QP, QQ]
          exact ⟨p + 1, ⟨h3, nlIx_miss h3 n⟩, by simp only; omega, ⟨[some 0], rfl, by simp, by simp [setsA, keepA, SWeak, AWeak], by simp [HWeak, BWeak, setB_weak]⟩⟩
      · rw [nlIx_end (by omega)]
        simp (config := { maxSteps := 1000000 }) (disch := ((try simp only [awL]); omega)) only [QR, QS, QT, QU, QV, QW, QX, QY, QZ, Q0, Q1, Q2, ↓awU, awV, awF, Qa, Qb, Qc, Qd, forall_const, ↓reduceIte, ↓reduceDIte, ↓Qe, Qf, Qg, Qh, Qi, Qj, Qk, Ql, Qm, Qn, Qo, Qp, Qq, Qr, Qs, implies_true, Qt, Qu, Qv, Qw, Qx, Qy, Qz, QA, QB, QC, QD, QE, QF, QG, QH, QI, QJ, QK, QL, QM, QN, QO, QP, QQ]
  · rw [decide_eq_false (by omega)]
    simp (config := { maxSteps := 1000000 }) (disch := ((try simp only [awL]); omega)) only [QR, QS, QT, QU, QV, QW, QX, QY, QZ, Q0, Q1, Q2, ↓awU, awV, awF, Qa, Qb, Qc, Qd, forall_const, ↓reduceIte, ↓reduceDIte, ↓Qe, Qf, Qg, Qh, Qi, Qj, Qk, Ql, Qm, Qn, Qo, Qp, Qq, Qr, Qs, implies_true, Qt, Qu, Qv, Qw, Qx, Qy, Qz, QA, QB, QC, QD, QE, QF, QG, QH, QI, QJ, QK, QL, QM, QN, QO, QP, QQ]
    refine LoopC.fr 35184372088834 (α := Nat) (fun p => l.length - p) (fun _ => []) (fun p => [.iter (bs l) p]) (fun p => p ≤ l.length ∧ nlIx l 0 = nlIx l p) 0 ⟨Nat.zero_le _, rfl⟩ ?_ ?_
    · exact ⟨[some 0], rfl, by simp, by simp [setsA, keepA, SWeak, AWeak], by simp [HWeak, BWeak, SWeak, AWeak]⟩
    · rintro p ⟨h1, h2⟩
      simp only [awK, Nat.reduceMod, Nat.reduceDiv, reduceIte]
      rw [h2]
      rcases Nat.lt_or_ge p l.length with h3 | h3
      · rcases decw l p h3 with ⟨d1, d2⟩ | ⟨d1, d2, d3, d4⟩
        · have sp := indexRune_spec (G := G) (l.getD p 0).toNat (by omega)
          rw [if_pos d1, nl_index d1] at sp
          simp (config := { maxSteps := 1000000 }) (disch := ((try simp only [awL]); omega)) only [QR, QS, QT, QU, QV, QW, QX, QY, QZ, Q0, Q1, Q2, d2, ↓awU, awV, awF, Qa, Qb, Qc, Qd, forall_const, ↓reduceIte, ↓reduceDIte, ↓Qe, Qf, Qg, Qh, Qi, Qj, Qk, Ql, Qm, Qn, Qo, Qp, Qq, Qr, Qs, implies_true, Qt, Qu, Qv, Qw, Qx, Qy, Qz, QA, QB, QC, QD, QE, QF, QG, QH, QI, QJ, QK, QL, QM, QN, QO, QP, QQ]
          refine CallC.of sp (by rw [hL]) ?_
          by_cases n13 : (l.getD p 0).toNat = 13
          · rw [if_pos n13, nlIx_hit h3 (.inl n13)]
            simp (config := { maxSteps := 1000000 }) (disch := ((try simp only [awL]); omega)) only [QR, QS, QT, QU, QV, QW, QX, QY, QZ, Q0, Q1, Q2, ↓awU, awV, awF, Qa, Qb, Qc, Qd, forall_const, ↓reduceIte, ↓reduceDIte, ↓Qe, Qf, Qg, Qh, Qi, Qj, Qk, Ql, Qm, Qn, Qo, Qp, Qq, Qr, Qs, implies_true, Qt, Qu, Qv, Qw, Qx, Qy, Qz, QA, QB, QC, QD, QE, QF, QG, QH, QI, QJ, QK, QL, QM, QN, QO, QP, QQ]
          · rw [if_neg n13]
            by_cases n10 : (l.getD p 0).toNat = 10
            · rw [if_pos n10, nlIx_hit h3 (.inr n10)]
              simp (config := { maxSteps := 1000000 }) (disch := ((try simp only [awL]); omega)) only [QR, QS, QT, QU, QV, QW, QX, QY, QZ, Q0, Q1, Q2, ↓awU, awV, awF, Qa, Qb, Qc, Qd, forall_const, ↓reduceIte, ↓reduceDIte, ↓Qe, Qf, Qg, Qh, Qi, Qj, Qk, Ql, Qm, Qn, Qo, Qp, Qq, Qr, Qs, implies_true, Qt, Qu, Qv, Qw, Qx, Qy, Qz, QA, QB, QC, QD, QE, QF, QG, QH, QI, QJ, QK, QL, QM, QN, QO, QP, QQ]
            · rw [if_neg n10]
              simp (config := { maxSteps := 1000000 }) (disch := ((try simp only [awL]); omega)) only [QR, QS, QT, QU, QV, QW, QX, QY, QZ, Q0, Q1, Q2, ↓awU, awV, awF, Qa, Qb, Qc, Qd, forall_const, ↓reduceIte, ↓reduceDIte, ↓Qe, Qf, Qg, Qh, Qi, Qj, Qk, Ql, Qm, Qn, Qo, Qp, Qq, Qr, Qs, implies_true, Qt, Qu, Qv, Qw, Qx, Qy, Qz, QA, QB, QC, QD, QE, QF, QG, QH, QI, QJ, QK, QL, QM, QN, QO, QP, QQ]
              exact ⟨p + 1, ⟨h3, nlIx_miss h3 (by omega)⟩, by simp only; omega, ⟨[some 0], rfl, by simp, by simp [setsA, keepA, SWeak, AWeak], by simp [HWeak, BWeak, SWeak, AWeak]⟩⟩
        · have hb := dec_bounds l p
          have sp := indexRune_spec (G := G) (dec l p).1 hb.2
          rw [if_neg (by omega)] at sp
          simp (config := { maxSteps := 1000000 }) (disch := ((try simp only [awL]); omega)) only [QR, QS, QT, QU, QV, QW, QX, QY, QZ, Q0, Q1, Q2, ↓awU, awV, awF, Qa, Qb, Qc, Qd, forall_const, ↓reduceIte, ↓reduceDIte, ↓Qe, Qf, Qg, Qh, Qi, Qj, Qk, Ql, Qm, Qn, Qo, Qp, Qq, Qr, Qs, implies_true, Qt, Qu, Qv, Qw, Qx, Qy, Qz, QA, QB, QC, QD, QE, QF, QG, QH, QI, QJ, QK, QL, QM, QN, QO, QP, QQ]
          refine CallC.of sp (by rw [hL]) ?_
          simp (config := { maxSteps := 1000000 }) (disch := ((try simp only [awL]); omega)) only [QR, QS, QT, QU, QV, QW, QX, QY, QZ, Q0, Q1, Q2, ↓awU, awV, awF, Qa, Qb, Qc, Qd, forall_const, ↓reduceIte, ↓reduceDIte, ↓Qe, Qf, Qg, Qh, Qi, Qj, Qk, Ql, Qm, Qn, Qo, Qp, Qq, Qr, Qs, implies_true, Qt, Qu, Qv, Qw, Qx, Qy, Qz, QA, QB, QC, QD, QE, QF, QG, QH, QI, QJ, QK, QL, QM, QN, QO, QP, QQ]
          exact ⟨p + (dec l p).2, ⟨d3, nlIx_skip _ d3 d4⟩, by simp only; omega, ⟨[some 0], rfl, by simp, by simp [setsA, keepA, SWeak, AWeak], by simp [HWeak, BWeak, SWeak, AWeak]⟩⟩
      · rw [nlIx_end (by omega)]
        simp (config := { maxSteps := 1000000 }) (disch := ((try simp only [awL]); omega)) only [QR, QS, QT, QU, QV, QW, QX, QY, QZ, Q0, Q1, Q2, ↓awU, awV, awF, Qa, Qb, Qc, Qd, forall_const, ↓reduceIte, ↓reduceDIte, ↓Qe, Qf, Qg, Qh, Qi, Qj, Qk, Ql, Qm, Qn, Qo, Qp, Qq, Qr, Qs, implies_true, Qt, Qu, Qv, Qw, Qx, Qy, Qz, QA, QB, QC, QD, QE, QF, QG, QH, QI, QJ, QK, QL, QM, QN, QO, QP, QQ]
theorem containsAny_spec (l : List UInt8) (hl : l.length ≤ 1000000000) : Ctr Tryz.prog G 108 [.d (S l), .d (S nlL)] [] (.d (.bool (hasNl l))) [] := by
  have hm := nlIx_mem _ l 0 rfl
  rw [List.drop_zero] at hm
  refine Ctr.pure (M := M0) hmix Tryz.func108 rfl go108 ?_
  simp (config := { maxSteps := 1000000 }) (disch := ((try simp only [awL]); omega)) only [QR, QS, QT, QU, QV, QW, QX, QY, QZ, Q0, Q1, Q2, Tryz.f108, ↓awU, awV, awF, Qa, Qb, Qc, Qd, forall_const, ↓reduceIte, ↓reduceDIte, ↓Qe, Qf, Qg, Qh, Qi, Qj, Qk, Ql, Qm, Qn, Qo, Qp, Qq, Qr, Qs, implies_true, Qt, Qu, Qv, Qw, Qx, Qy, Qz, QA, QB, QC, QD, QE, QF, QG, QH, QI, QJ, QK, QL, QM, QN, QO, QP, QQ]
  refine CallC.pure (indexAny_spec l hl) ?_
  unfold hasNl
  simp only [← hm]
  generalize nlIx l 0 = z at *
  rcases (by omega : 0 ≤ z ∨ z < 0) with h | h
  · simp (config := { maxSteps := 1000000 }) (disch := ((try simp only [awL]); omega)) only [QR, QS, QT, QU, QV, QW, QX, QY, QZ, Q0, Q1, Q2, ↓awU, awV, awF, Qa, Qb, Qc, Qd, forall_const, ↓reduceIte, ↓reduceDIte, ↓Qe, Qf, Qg, Qh, Qi, Qj, Qk, Ql, Qm, Qn, Qo, Qp, Qq, Qr, Qs, implies_true, Qt, Qu, Qv, Qw, Qx, Qy, Qz, QA, QB, QC, QD, QE, QF, QG, QH, QI, QJ, QK, QL, QM, QN, QO, QP, QQ]
    try (simp <;> omega)
  · simp (config := { maxSteps := 1000000 }) (disch := ((try simp only [awL]); omega)) only [QR, QS, QT, QU, QV, QW, QX, QY, QZ, Q0, Q1, Q2, ↓awU, awV, awF, Qa, Qb, Qc, Qd, forall_const, ↓reduceIte, ↓reduceDIte, ↓Qe, Qf, Qg, Qh, Qi, Qj, Qk, Ql, Qm, Qn, Qo, Qp, Qq, Qr, Qs, implies_true, Qt, Qu, Qv, Qw, Qx, Qy, Qz, QA, QB, QC, QD, QE, QF, QG, QH, QI, QJ, QK, QL, QM, QN, QO, QP, QQ]
    try (simp <;> omega)
end Go.Proofs.YtacepalmphbnfaaGreatDoor

namespace Go.Proofs.YtacepalmphbnfaaGreatDoor
open Go Go.Proofs Go.Abs Go.RowKit Go.Shelf Go.Lib
variable {G : Globals}
/-! strings.Builder: contracts over the machine's blocks. -/
theorem append_str {P : Program} {w : World} (t u ty e : TypeId) (i : TypeInfo) (ht : P.underlying t = some (.slice e)) (hu : P.underlying u = some .string) (hi : P.info? e = some i) (hz : i.zero = some (.int .u8 0))
    (hsize : i.size = 1) (hby : i.bytes = 1) (v : Value) (n : Nat) (xs : List Value) (hown : w.ownsRow 0 e 1 v n xs) (s : ByteArray) (h63 : n + s.size ≤ maxLen) (hbytes : n + s.size ≤ 140737488355328) :
    ∃ v' w', (Builtin.append_ #[t, u] ty #[v, .string s]).run P w = .ok v' w' ∧ w'.ownsRow 0 e 1 v' (n + s.size) (xs ++ strCells s) ∧ w.grownBy w' v.ownBlock ∧ (v'.ownBlock = v.ownBlock ∨ ∀ g, v'.ownBlock = some g → w.heap.size ≤ g) := by
  obtain ⟨v', w', hr, h2, h3, h4⟩ := run_append_own_string (P := P) w 0 t u ty e i ht hu hi hz hsize hby v n xs hown s h63 hbytes (Nat.zero_le _)
  refine ⟨v', w', hr, h2, h3, ?_⟩
  have hxl : xs.length = n := by simpa using hown.1
  rcases hown.2 with ⟨rfl, rfl⟩ | ⟨g, cap, cur, rfl, hbg, hg, hnc, hcm, hcs, htake⟩
  · right
    intro g hgv
    obtain rfl : xs = [] := List.eq_nil_of_length_eq_zero hxl
    obtain ⟨v2, w2, hr2, k2, _⟩ := run_append_own_string (P := P) w w.heap.size t u ty e i ht hu hi hz hsize hby (.slice none 0 0) 0 [] (World.ownsRow_nil w _ e 1) s h63 hbytes (Nat.le_refl _)
    rw [hr] at hr2
    cases hr2
    exact (k2.lt g hgv).1
  · by_cases hroom : n + s.size ≤ cap
    · left
      have hcs' : cur.size = cap := by simpa using hcs
      have hr2 := run_append_room_string (P := P) w t u ty e i ht hu hi hsize g n cap cur hg s hroom (by unfold maxLen at h63; omega)
      rw [hr] at hr2
      cases hr2
      rfl
    · right
      intro g' hg'
      have holds : ∀ j u, xs[j]? = some u → w.cell? ((⟨g, 0, none⟩ : Addr).add j) = some u := hown.cells (g := g) rfl
      have hr2 := run_append_grow_string (P := P) w t u ty e i (.int .u8 0) ht hu hi hz ⟨g, 0, none⟩ n cap xs (by rw [hsize]; simpa using hxl) holds s (by omega) (by unfold maxLen at h63; omega) (by rw [hby]; exact growslice_fits (by omega) (by omega))
      rw [hr] at hr2
      cases hr2
      simp [Value.ownBlock] at hg'
      omega
theorem wpList_append_str {P : Program} {w : World} {ops : Array Oper} {rest : List Oper} {o : Oper} {a : Act} {Q : Exit → Act → World → Prop} (hgd : o.guard = none) (sl x : Operand) (t u : TypeId)
    (ho : o.op = .call { callee := .builtin .append, args := #[sl, x], argTypes := #[t, u] })
    (e : TypeId) (i : TypeInfo) (ht : P.underlying t = some (.slice e)) (hu : P.underlying u = some .string) (hi : P.info? e = some i) (hz : i.zero = some (.int .u8 0))
    (hsize : i.size = 1) (hby : i.bytes = 1) (v : Value) (n : Nat) (xs : List Value) (hs : a.eval sl = v) (hown : w.ownsRow 0 e 1 v n xs) (s : ByteArray) (hx : a.eval x = .string s)
    (h63 : n + s.size ≤ maxLen) (hbytes : n + s.size ≤ 140737488355328)
    (h : ∀ v' w', w'.ownsRow 0 e 1 v' (n + s.size) (xs ++ strCells s) → w.grownBy w' v.ownBlock → (v'.ownBlock = v.ownBlock ∨ ∀ g, v'.ownBlock = some g → w.heap.size ≤ g) → wpList P ops Q rest (a.put o.dst v') w') : wpList P ops Q (o :: rest) a w := by
  refine wpList_plain hgd fun K hK => ?_
  obtain ⟨v', w', hr, h2, h3, h4⟩ := append_str (P := P) (w := w) t u o.type e i ht hu hi hz hsize hby v n xs hown s h63 hbytes
  unfold Oper.wp execOp
  simp only [ho, resolve, invoke, builtin, Sem.run_bind, Sem.run_pure, Result.andThen_ok, List.map_toArray, List.map_cons, List.map_nil, hs, hx, hr]
  exact hK _ _ (h v' w' h2 h3 h4)
theorem setCell_at_block {w : World} {b o : Nat} {v : Value} {c : Array Value} {T : TypeId} {fz : Nat × Nat} (h : w.heap[b]? = some (.cells c T fz)) : (w.setCell ⟨b, o, none⟩ v).heap[b]? = some (.cells (c.setIfInBounds o v) T fz) := by
  show (w.heap.modify b _)[b]? = _
  rw [Array.getElem?_modify, if_pos rfl, h]
  rfl
theorem setCell_at_other {w : World} {b o k : Nat} {v : Value} (h : k ≠ b) : (w.setCell ⟨b, o, none⟩ v).heap[k]? = w.heap[k]? := by
  show (w.heap.modify b _)[k]? = _
  rw [Array.getElem?_modify, if_neg (Ne.symm h)]
theorem setCell_at_size {w : World} {a : Addr} {v : Value} : (w.setCell a v).heap.size = w.heap.size := by simp [World.setCell]
/-- What a call on a builder leaves. -/
structure BldW (T e : TypeId) (b : Nat) (v : Value) (l : List Value) (w w' : World) : Prop where
  os : w'.os = w.os
  tape : w'.tape = w.tape
  output : w'.output = w.output
  size : w.heap.size ≤ w'.heap.size
  keep : ∀ k, k < w.heap.size → k ≠ b → some k ≠ v.ownBlock → w'.heap[k]? = w.heap[k]?
  left : ∃ v', w'.heap[b]? = some (.cells #[.pointer (some ⟨b, 0, none⟩), v'] T (0, 0)) ∧ w'.ownsRow 0 e 1 v' l.length l ∧ (v'.ownBlock = v.ownBlock ∨ ∀ g, v'.ownBlock = some g → w.heap.size ≤ g)
theorem bld_check {P : Program} {ρ : Ren} (L : Lays.n240 P ρ) (X : Builder.X72 P ρ) (b : Nat) (used : Bool) (v : Value) (w : World) (hbk : w.heap[b]? = some (.cells #[.pointer (if used then some ⟨b, 0, none⟩ else none), v] (ρ.t 72) (0, 0))) :
    Calls P (ρ.f 240) #[.pointer (some ⟨b, 0, none⟩)] w fun e w' => e = .returned (.tuple #[]) ∧ w'.os = w.os ∧ w'.tape = w.tape ∧ w'.output = w.output ∧ w'.heap.size = w.heap.size ∧ (∀ k, k ≠ b → w'.heap[k]? = w.heap[k]?) ∧
      w'.heap[b]? = some (.cells #[.pointer (some ⟨b, 0, none⟩), v] (ρ.t 72) (0, 0)) := by
  have c0 : w.cell? ⟨b, 0, none⟩ = some (.pointer (if used then some ⟨b, 0, none⟩ else none)) := by rw [Lib.cell_of_heap hbk]; rfl
  cases used
  · refine (Any.Builder_copyCheck_fresh L X b w c0 (by simp [World.shape?, hbk]) (Lib.frozen_of_heap hbk 0)).mono ?_
    rintro e w' ⟨rfl, rfl⟩
    exact ⟨rfl, rfl, rfl, rfl, setCell_at_size, fun k hk => setCell_at_other hk, by rw [setCell_at_block hbk]; rfl⟩
  · refine (Any.Builder_copyCheck_used L X b w c0).mono ?_
    rintro e w' ⟨rfl, rfl⟩
    exact ⟨rfl, rfl, rfl, rfl, rfl, fun _ _ => rfl, hbk⟩
theorem bld_same {T e : TypeId} {b : Nat} {v : Value} {l : List Value} {w w1 : World} (hown : w.ownsRow 0 e 1 v l.length l) (hne : v.ownBlock ≠ some b) (ho : ∀ k, k ≠ b → w1.heap[k]? = w.heap[k]?) : w1.ownsRow 0 e 1 v l.length l := by
  refine ⟨hown.1, ?_⟩
  rcases hown.2 with h | ⟨g, cap, cur, rfl, h1, h2, h3⟩
  · exact .inl h
  · exact .inr ⟨g, cap, cur, rfl, h1, (ho g (fun e => hne (by rw [e]; rfl))).trans h2, h3⟩
set_option maxHeartbeats 1000000 in
set_option maxRecDepth 100000 in
theorem bld_writeString {P : Program} {ρ : Ren} (L : Lays.n166 P ρ) (X : Builder.Extra P ρ) (b : Nat) (used : Bool) (v : Value) (l : List Value) (s : ByteArray) (w : World)
    (hbk : w.heap[b]? = some (.cells #[.pointer (if used then some ⟨b, 0, none⟩ else none), v] (ρ.t 72) (0, 0))) (hown : w.ownsRow 0 (ρ.t 5) 1 v l.length l) (hne : v.ownBlock ≠ some b) (hlen : l.length + s.size ≤ 140737488355328) :
    Calls P (ρ.f 166) #[.pointer (some ⟨b, 0, none⟩), .string s] w fun e w' => e = .returned (.tuple #[.int .i64 s.size, .nilIface]) ∧ BldW (ρ.t 72) (ρ.t 5) b v (l ++ strCells s) w w' := by
  obtain ⟨i0, hi, hz0, hz1, hz2⟩ := info_parts X.infoByte
  have mixed := L.mixed
  have t72 := L.t72; have a72 := L.a72; have z72 := L.z72; have v72 := L.v72; have u72 := run_underlying L.t72
  have t70 := L.t70; have a70 := L.a70; have z70 := L.z70; have v70 := L.v70; have u70 := run_underlying L.t70
  have t37 := L.t37; have a37 := L.a37; have z37 := L.z37; have v37 := L.v37; have u37 := run_underlying L.t37
  have t3 := L.t3; have a3 := L.a3; have z3 := L.z3; have v3 := L.v3; have u3 := run_underlying L.t3
  have t9 := L.t9; have a9 := L.a9; have z9 := L.z9; have v9 := L.v9; have u9 := run_underlying L.t9
  have t4 := L.t4; have a4 := L.a4; have z4 := L.z4; have v4 := L.v4; have u4 := run_underlying L.t4
  have t164 := L.t164; have a164 := L.a164; have z164 := L.z164; have v164 := L.v164; have u164 := run_underlying L.t164
  have t5 := X.t5; have a5 := X.a5; have z5 := X.z5; have v5 := X.v5; have u5 := run_underlying X.t5
  have e240 : ∀ args w, (callFunc (ρ.f 240) args).run P w = .ok (.enter (ρ.f 240) args) w := enters_of L.f240 (by kernel_rfl) rfl
  have cc := bld_check { L with } X.toX72 b used v w hbk
  go_enter L.f166, Body.n166_ntmps ρ
  go_wp2_with (go_at_fn (ρ.f 240); refine cc.mono ?_)
  rintro e w1 ⟨rfl, q1, q2, q3, q4, q5, hb1⟩
  have hown1 : w1.ownsRow 0 (ρ.t 5) 1 v l.length l := bld_same (T := ρ.t 72) hown hne q5
  clear cc hown
  have c0 : w1.cell? ⟨b, 0, none⟩ = some (.pointer (some ⟨b, 0, none⟩)) := by rw [Lib.cell_of_heap hb1]; rfl
  have c1 : w1.cell? ⟨b, 1, none⟩ = some v := by rw [Lib.cell_of_heap hb1]; rfl
  go_wp2_with (at_builtin; refine wpList_append_str rfl _ _ (ρ.t 37) (ρ.t 9) rfl (ρ.t 5) i0 L.t37 L.t9 hi hz0 hz1 hz2 _ _ _ rfl hown1 s rfl ?c3 ?c4 ?_)
  case c3 => unfold maxLen; omega
  case c4 => omega
  intro v' w2 hown' hgrow hor
  have hlt : b < w1.heap.size := (Array.getElem?_eq_some_iff.1 hb1).1
  have hb2 : w2.heap[b]? = some (.cells #[.pointer (some ⟨b, 0, none⟩), v] (ρ.t 72) (0, 0)) := by
    rw [hgrow.block b hlt (fun e => hne e.symm)]
    exact hb1
  have d0 : w2.cell? ⟨b, 0, none⟩ = some (.pointer (some ⟨b, 0, none⟩)) := by rw [Lib.cell_of_heap hb2]; rfl
  have d1 : w2.cell? ⟨b, 1, none⟩ = some v := by rw [Lib.cell_of_heap hb2]; rfl
  have f1 : w2.frozen? ⟨b, 1, none⟩ = false := Lib.frozen_of_heap hb2 1
  obtain ⟨ao, n', cap, rfl⟩ : ∃ ao n' cap, v' = .slice ao n' cap := by
    rcases hown'.2 with ⟨hv, _⟩ | ⟨g, cap, cur, hv, _⟩
    · exact ⟨_, _, _, hv⟩
    · exact ⟨_, _, _, hv⟩
  go_wp2
  go_ret2
  refine ⟨rfl, hgrow.os.trans q1, hgrow.tape.trans q2, hgrow.output.trans q3, ?_, fun k hk h1 h2 => ?_, .slice ao n' cap, ?_, ?_, ?_⟩
  · rw [setCell_at_size]; have := hgrow.size; omega
  · rw [setCell_at_other h1, hgrow.block k (by omega) h2, q5 k h1]
  · rw [setCell_at_block hb2]; rfl
  · rw [show (l ++ strCells s).length = l.length + s.size by rw [List.length_append, Lib.strCells_length]]
    have hnb : Value.ownBlock (.slice ao n' cap) ≠ some b := by
      intro e
      rcases hor with h | h
      · rw [h] at e; exact hne e
      · have := h b e; omega
    refine ⟨hown'.1, ?_⟩
    rcases hown'.2 with h | ⟨g, cp, cur, e1, k1, k2, k3⟩
    · exact .inl h
    · refine .inr ⟨g, cp, cur, e1, k1, ?_, k3⟩
      rw [setCell_at_other (fun e => hnb (by rw [e1, ← e]; rfl))]
      exact k2
  · rcases hor with h | h
    · exact .inl h
    · exact .inr fun g hg => by have := h g hg; omega
theorem append_one {P : Program} {w : World} (t ty e : TypeId) (i : TypeInfo) (ht : P.underlying t = some (.slice e)) (hi : P.info? e = some i) (hz : i.zero = some (.int .u8 0))
    (hsize : i.size = 1) (hby : i.bytes = 1) (v : Value) (n : Nat) (xs : List Value) (hown : w.ownsRow 0 e 1 v n xs) (ad : Addr) (k : Nat) (u : Value) (hu : w.cell? ad = some u) (h1 : u.oneCell' = true) (hbytes : n + 1 ≤ 140737488355328) :
    ∃ v' w', (Builtin.append_ #[t, t] ty #[v, .slice (some ad) 1 k]).run P w = .ok v' w' ∧ w'.ownsRow 0 e 1 v' (n + 1) (xs ++ [u]) ∧ w.grownBy w' v.ownBlock ∧ (v'.ownBlock = v.ownBlock ∨ ∀ g, v'.ownBlock = some g → w.heap.size ≤ g) := by
  have hnews : ∀ j x, [u][j]? = some x → w.cell? (ad.add j) = some x := by
    intro j x hj
    match j, hj with
    | 0, hj => simp at hj; subst hj; simpa [Addr.add] using hu
  have hone : ∀ x ∈ [u], x.oneCell' = true := by intro x hx; simp at hx; subst hx; exact h1
  have h63 : n + 1 ≤ maxLen := by unfold maxLen; omega
  obtain ⟨v', w', hr, h2, h3, h4⟩ := run_append_own (P := P) w 0 t ty e i (.int .u8 0) 1 1 ht hi hz hsize hby rfl (by decide) v n xs hown ad 1 k [u] rfl hnews hone h63 (by omega) (Nat.zero_le _)
  refine ⟨v', w', hr, h2, h3, ?_⟩
  have hxl : xs.length = n := by simpa using hown.1
  rcases hown.2 with ⟨rfl, rfl⟩ | ⟨g, cap, cur, rfl, hbg, hg, hnc, hcm, hcs, htake⟩
  · right
    intro g hgv
    obtain rfl : xs = [] := List.eq_nil_of_length_eq_zero hxl
    obtain ⟨v2, w2, hr2, k2, _⟩ := run_append_own (P := P) w w.heap.size t ty e i (.int .u8 0) 1 1 ht hi hz hsize hby rfl (by decide) (.slice none 0 0) 0 [] (World.ownsRow_nil w _ e 1) ad 1 k [u] rfl hnews hone h63 (by omega) (Nat.le_refl _)
    rw [hr] at hr2
    cases hr2
    exact (k2.lt g hgv).1
  · by_cases hroom : n + 1 ≤ cap
    · left
      have hcs' : cur.size = cap := by simpa using hcs
      have hr2 := run_append_room (P := P) w t ty e i ht hi g n cap cur hg ad 1 k [u] (by rw [hsize]; rfl) hnews hone hroom (by rw [hsize]; simp; omega)
      rw [hr] at hr2
      cases hr2
      rfl
    · right
      intro g' hg'
      have holds : ∀ j u, xs[j]? = some u → w.cell? ((⟨g, 0, none⟩ : Addr).add j) = some u := hown.cells (g := g) rfl
      have hr2 := run_append_grow (P := P) w t ty e i (.int .u8 0) ht hi hz ⟨g, 0, none⟩ n cap xs (by rw [hsize]; simpa using hxl) holds ad 1 k [u] (by rw [hsize]; rfl) hnews (by omega) (by omega) (by rw [hby]; exact growslice_fits (by omega) (by omega))
      rw [hr] at hr2
      cases hr2
      simp [Value.ownBlock] at hg'
      omega
theorem wpList_append_one {P : Program} {w : World} {ops : Array Oper} {rest : List Oper} {o : Oper} {a : Act} {Q : Exit → Act → World → Prop} (hgd : o.guard = none) (sl x : Operand) (t : TypeId)
    (ho : o.op = .call { callee := .builtin .append, args := #[sl, x], argTypes := #[t, t] })
    (e : TypeId) (i : TypeInfo) (ht : P.underlying t = some (.slice e)) (hi : P.info? e = some i) (hz : i.zero = some (.int .u8 0))
    (hsize : i.size = 1) (hby : i.bytes = 1) (v : Value) (n : Nat) (xs : List Value) (hs : a.eval sl = v) (hown : w.ownsRow 0 e 1 v n xs) (ad : Addr) (k : Nat) (u : Value) (hx : a.eval x = .slice (some ad) 1 k) (hu : w.cell? ad = some u) (h1 : u.oneCell' = true)
    (hbytes : n + 1 ≤ 140737488355328)
    (h : ∀ v' w', w'.ownsRow 0 e 1 v' (n + 1) (xs ++ [u]) → w.grownBy w' v.ownBlock → (v'.ownBlock = v.ownBlock ∨ ∀ g, v'.ownBlock = some g → w.heap.size ≤ g) → wpList P ops Q rest (a.put o.dst v') w') : wpList P ops Q (o :: rest) a w := by
  refine wpList_plain hgd fun K hK => ?_
  obtain ⟨v', w', hr, h2, h3, h4⟩ := append_one (P := P) (w := w) t o.type e i ht hi hz hsize hby v n xs hown ad k u hu h1 hbytes
  unfold Oper.wp execOp
  simp only [ho, resolve, invoke, builtin, Sem.run_bind, Sem.run_pure, Result.andThen_ok, List.map_toArray, List.map_cons, List.map_nil, hs, hx, hr]
  exact hK _ _ (h v' w' h2 h3 h4)
theorem alloc_at_old (w : World) (o : Obj) (k : Nat) (h : k < w.heap.size) : (w.alloc o).heap[k]? = w.heap[k]? := by
  show (w.heap.push o)[k]? = _
  rw [Array.getElem?_push]
  split
  · omega
  · rfl
set_option maxHeartbeats 1000000 in
set_option maxRecDepth 100000 in
theorem bld_writeByte {P : Program} {ρ : Ren} (L : Lays.n167 P ρ) (X : Builder.Extra P ρ) (b : Nat) (used : Bool) (v : Value) (l : List Value) (c : Int) (w : World)
    (hbk : w.heap[b]? = some (.cells #[.pointer (if used then some ⟨b, 0, none⟩ else none), v] (ρ.t 72) (0, 0))) (hown : w.ownsRow 0 (ρ.t 5) 1 v l.length l) (hne : v.ownBlock ≠ some b) (hlen : l.length + 1 ≤ 140737488355328) :
    Calls P (ρ.f 167) #[.pointer (some ⟨b, 0, none⟩), .int .u8 c] w fun e w' => e = .returned .nilIface ∧ BldW (ρ.t 72) (ρ.t 5) b v (l ++ [.int .u8 c]) w w' := by
  obtain ⟨i0, hi, hz0, hz1, hz2⟩ := info_parts X.infoByte
  have mixed := L.mixed
  have t72 := L.t72; have a72 := L.a72; have z72 := L.z72; have v72 := L.v72; have u72 := run_underlying L.t72
  have t70 := L.t70; have a70 := L.a70; have z70 := L.z70; have v70 := L.v70; have u70 := run_underlying L.t70
  have t5 := L.t5; have a5 := L.a5; have z5 := L.z5; have v5 := L.v5; have u5 := run_underlying L.t5
  have t37 := L.t37; have a37 := L.a37; have z37 := L.z37; have v37 := L.v37; have u37 := run_underlying L.t37
  have t9 := L.t9; have a9 := L.a9; have z9 := L.z9; have v9 := L.v9; have u9 := run_underlying L.t9
  have t4 := L.t4; have a4 := L.a4; have z4 := L.z4; have v4 := L.v4; have u4 := run_underlying L.t4
  have t164 := L.t164; have a164 := L.a164; have z164 := L.z164; have v164 := L.v164; have u164 := run_underlying L.t164
  have e240 : ∀ args w, (callFunc (ρ.f 240) args).run P w = .ok (.enter (ρ.f 240) args) w := enters_of L.f240 (by kernel_rfl) rfl
  have cc := bld_check { L with } X.toX72 b used v w hbk
  go_enter L.f167, Body.n167_ntmps ρ
  go_wp2_with (go_at_fn (ρ.f 240); refine cc.mono ?_)
  rintro e w1 ⟨rfl, q1, q2, q3, q4, q5, hb1⟩
  have hown1 : w1.ownsRow 0 (ρ.t 5) 1 v l.length l := bld_same (T := ρ.t 72) hown hne q5
  clear cc hown
  have hlt : b < w1.heap.size := (Array.getElem?_eq_some_iff.1 hb1).1
  have c0 : w1.cell? ⟨b, 0, none⟩ = some (.pointer (some ⟨b, 0, none⟩)) := by rw [Lib.cell_of_heap hb1]; rfl
  have c1 : w1.cell? ⟨b, 1, none⟩ = some v := by rw [Lib.cell_of_heap hb1]; rfl
  go_wp2_with (at_builtin; refine wpList_append_one rfl _ _ (ρ.t 37) rfl (ρ.t 5) i0 L.t37 hi hz0 hz1 hz2 _ _ _ rfl (hown1.alloc _) ⟨w.heap.size, 0, none⟩ 1 (.int .u8 c) rfl ?c1 ?c2 ?c4 ?_)
  case c1 => rw [← q4]; simp
  case c2 => rfl
  case c4 => omega
  intro v' w2 hown' hgrow hor
  have hb2 : w2.heap[b]? = some (.cells #[.pointer (some ⟨b, 0, none⟩), v] (ρ.t 72) (0, 0)) := by
    rw [hgrow.block b (by simp; omega) (fun e => hne e.symm), alloc_at_old w1 _ b hlt]
    exact hb1
  have d0 : w2.cell? ⟨b, 0, none⟩ = some (.pointer (some ⟨b, 0, none⟩)) := by rw [Lib.cell_of_heap hb2]; rfl
  have d1 : w2.cell? ⟨b, 1, none⟩ = some v := by rw [Lib.cell_of_heap hb2]; rfl
  have f1 : w2.frozen? ⟨b, 1, none⟩ = false := Lib.frozen_of_heap hb2 1
  obtain ⟨ao, n', cap, rfl⟩ : ∃ ao n' cap, v' = .slice ao n' cap := by
    rcases hown'.2 with ⟨hv, _⟩ | ⟨g, cap, cur, hv, _⟩
    · exact ⟨_, _, _, hv⟩
    · exact ⟨_, _, _, hv⟩
  go_wp2
  go_ret
  refine ⟨rfl, hgrow.os.trans q1, hgrow.tape.trans q2, hgrow.output.trans q3, ?_, fun k hk h1 h2 => ?_, .slice ao n' cap, ?_, ?_, ?_⟩
  · rw [setCell_at_size]; have := hgrow.size; first | omega | (simp at this; omega)
  · rw [setCell_at_other h1, hgrow.block k (by simp; omega) h2, alloc_at_old w1 _ k (by omega), q5 k h1]
  · rw [setCell_at_block hb2]; rfl
  · rw [show (l ++ [Value.int .u8 c]).length = l.length + 1 by simp]
    have hnb : Value.ownBlock (.slice ao n' cap) ≠ some b := by
      intro e
      rcases hor with h | h
      · rw [h] at e; exact hne e
      · have := h b e; first | omega | (simp at this; omega)
    refine ⟨hown'.1, ?_⟩
    rcases hown'.2 with h | ⟨g, cp, cur, e1, k1, k2, k3⟩
    · exact .inl h
    · refine .inr ⟨g, cp, cur, e1, k1, ?_, k3⟩
      rw [setCell_at_other (fun e => hnb (by rw [e1, ← e]; rfl))]
      exact k2
  · rcases hor with h | h
    · exact .inl h
    · exact .inr fun g hg => by have := h g hg; first | omega | (simp at this; omega)
/-- What a reading of a builder leaves. -/
structure BldR (v : Value) (w w' : World) : Prop where
  os : w'.os = w.os
  tape : w'.tape = w.tape
  output : w'.output = w.output
  size : w.heap.size ≤ w'.heap.size
  keep : ∀ k, k < w.heap.size → some k ≠ v.ownBlock → w'.heap[k]? = w.heap[k]?
theorem BldR.of {v : Value} {w w' : World} (h : Below w.heap.size w w') : BldR v w w' := ⟨h.os, h.tape, h.output, h.size, fun k hk _ => h.block k hk⟩
theorem bld_len {P : Program} {ρ : Ren} (L : Lays.n170 P ρ) (b : Nat) (used : Bool) (v : Value) (l : List Value) (w : World)
    (hbk : w.heap[b]? = some (.cells #[.pointer (if used then some ⟨b, 0, none⟩ else none), v] (ρ.t 72) (0, 0))) (hown : w.ownsRow 0 (ρ.t 5) 1 v l.length l) (hne : v.ownBlock ≠ some b) :
    Calls P (ρ.f 170) #[.pointer (some ⟨b, 0, none⟩)] w fun e w' => e = .returned (.int .i64 l.length) ∧ w' = w := by
  refine Any.Builder_Len L 0 b l w ?_
  cases used
  · exact .inl ⟨Nat.zero_le _, v, hbk, hown, hne⟩
  · exact .inr ⟨Nat.zero_le _, v, hbk, hown, hne⟩
set_option maxHeartbeats 1000000 in
set_option maxRecDepth 100000 in
theorem bld_string {P : Program} {ρ : Ren} (L : Lays.n169 P ρ) (X : Builder.Extra P ρ) (b : Nat) (p v : Value) (l : List UInt8) (w : World)
    (hbk : w.heap[b]? = some (.cells #[p, v] (ρ.t 72) (0, 0))) (hown : w.ownsRow 0 (ρ.t 5) 1 v l.length (Lib.byteCells l)) :
    Calls P (ρ.f 169) #[.pointer (some ⟨b, 0, none⟩)] w fun e w' => e = .returned (.string ⟨l.toArray⟩) ∧ BldR v w w' := by
  by_cases h0 : l = []
  · subst h0
    rcases hown.2 with ⟨rfl, _⟩ | ⟨g, cap, cur, rfl, hbg, hg, hnc, hcm, hcs, htake⟩
    · refine (Any.Builder_String_nil L X w.heap.size b p w hbk).mono ?_
      rintro e w' ⟨rfl, hb⟩
      exact ⟨rfl, .of hb⟩
    · by_cases hc : cap = 0
      · subst hc
        refine (Any.Builder_String_noroom L X w.heap.size b g p cur w (Nat.le_refl _) hbk hg).mono ?_
        rintro e w' ⟨rfl, hb⟩
        exact ⟨rfl, .of hb⟩
      · refine (Any.Builder_String_room L X w.heap.size b g cap p w hc hbk).mono ?_
        rintro e w' ⟨rfl, hb⟩
        exact ⟨rfl, .of hb⟩
  · have hl0 : l.length ≠ 0 := by simpa using h0
    obtain ⟨g, cap, cur, rfl, hbg, hg, hnc, hcm, hcs, htake⟩ : ∃ g cap cur, v = .slice (some ⟨g, 0, none⟩) l.length cap ∧ 0 ≤ g ∧ w.heap[g]? = some (.cells cur (ρ.t 5) (0, 0)) ∧ l.length ≤ cap ∧ cap ≤ maxLen ∧ cur.size = cap * 1 ∧ cur.toList.take (l.length * 1) = Lib.byteCells l := by
      rcases hown.2 with ⟨_, hz⟩ | ⟨g, cap, cur, hv, r⟩
      · exact absurd hz hl0
      · exact ⟨g, cap, cur, hv, r⟩
    have c1 : w.drew.cell? ⟨b, 1, none⟩ = some (.slice (some ⟨g, 0, none⟩) l.length cap) := by
      have : w.drew.heap[b]? = some (.cells #[p, .slice (some ⟨g, 0, none⟩) l.length cap] (ρ.t 72) (0, 0)) := hbk
      rw [Lib.cell_of_heap this]; rfl
    have hSD : (Builtin.unsafeSliceData_ #[(ρ.t 37)] (ρ.t 127) #[.slice (some ⟨g, 0, none⟩) l.length cap]).run P w.drew = .ok (.pointer (some ⟨g, 0, none⟩)) w.drew :=
      Lib.run_unsafeSliceData_row _ _ _ _ _ _ (by omega)
    have hUS : (Builtin.unsafeString_ #[(ρ.t 127), (ρ.t 3)] (ρ.t 9) #[.pointer (some ⟨g, 0, none⟩), .int .i64 l.length]).run P w.drew = .ok (.string ⟨l.toArray⟩) (w.drew.freeze ⟨g, 0, none⟩ l.length) := by
      refine Lib.run_unsafeString_row w.drew (ρ.t 127) (ρ.t 3) (ρ.t 9) (ρ.t 5) L.t127 X.cellsByte g cur.size (by have hg' : w.drew.heap[g]? = some (.cells cur (ρ.t 5) (0, 0)) := hg; simp [World.shape?, hg']) l h0 (by omega) (by unfold maxLen at hcm; omega) ?_
      intro j x hx
      exact hown.cells (g := g) rfl j (.int .u8 x.toNat) (by simp [Lib.byteCells, hx])
    have mixed := L.mixed
    have t72 := L.t72; have a72 := L.a72; have z72 := L.z72; have v72 := L.v72; have u72 := run_underlying L.t72
    have t70 := L.t70; have a70 := L.a70; have z70 := L.z70; have v70 := L.v70; have u70 := run_underlying L.t70
    have t37 := L.t37; have a37 := L.a37; have z37 := L.z37; have v37 := L.v37; have u37 := run_underlying L.t37
    have t127 := L.t127; have a127 := L.a127; have z127 := L.z127; have v127 := L.v127; have u127 := run_underlying L.t127
    have t3 := L.t3; have a3 := L.a3; have z3 := L.z3; have v3 := L.v3; have u3 := run_underlying L.t3
    have t9 := L.t9; have a9 := L.a9; have z9 := L.z9; have v9 := L.v9; have u9 := run_underlying L.t9
    have t5 := X.t5; have a5 := X.a5; have z5 := X.z5; have v5 := X.v5; have u5 := run_underlying X.t5
    have fin : BldR (.slice (some ⟨g, 0, none⟩) l.length cap) w (w.drew.freeze ⟨g, 0, none⟩ l.length) := by
      unfold World.freeze
      rw [if_neg hl0]
      refine ⟨rfl, rfl, rfl, by simp, fun k hk hne => ?_⟩
      show (w.heap.modify g _)[k]? = _
      rw [Array.getElem?_modify, if_neg (fun e => hne (by rw [← e]; rfl))]
    go_enter L.f169, Body.n169_ntmps ρ
    go_wp2
    go_region_o
    all_goals (go_wp2; go_ret; exact ⟨rfl, fin⟩)
end Go.Proofs.YtacepalmphbnfaaGreatDoor

namespace Go.Proofs.YtacepalmphbnfaaGreatDoor
open Go Go.Proofs Go.Abs Go.RowKit Go.Shelf Go.Lib
variable {G : Globals}
/-! strings.Builder: the contracts. -/
theorem ptr_inv {h : Held} {ρ : Abs.Place} {u : Value} {g S : Nat} (r : R h ρ u (.ptr 0 0)) (hρ : ρ 0 = some (g, S)) : u = .pointer (some ⟨g, 0, none⟩) := by
  cases r with
  | ptr b off g' S' h1 => rw [hρ] at h1; cases h1; rfl
theorem bld_fin {h : Held} {ρ : Abs.Place} {H : List ABlk} {w w' : World} {T e : TypeId} {g S : Nat} {v : Value} {l : List UInt8} (s : Sim G h ρ (hp H) w) (hm : 0 < H.length) (hρ0 : ρ 0 = some (g, S)) (hh : ∀ j, h g j = none)
    (hv : ∀ g1, v.ownBlock = some g1 → (∃ i S1, ρ i = some (g1, S1)) ∧ g1 ≠ g ∧ ∀ j, h g1 j = none) (bw : BldW T e g v (byteCells l) w w') :
    ∃ ρ', Sim G h ρ' (hp (.bld T true l.length (some H.length) :: (List.replicate (H.length - 1) .dead ++ [.buf e l]))) w' ∧ Step h ρ w h ρ' w' := by
  obtain ⟨v', b1, b2, b3⟩ := bw.left
  have bl : (byteCells l).length = l.length := byteCells_length l
  rw [bl] at b2
  have hgl : g < w.heap.size := (s.dom 0 g S hρ0).1
  have hρm : ρ H.length = none := by
    cases hx : ρ H.length with
    | none => rfl
    | some x => obtain ⟨_, b, hb⟩ := s.dom _ x.1 x.2 hx; simp [hp] at hb
  have hkept : ∀ b o u, h b o = some u → w'.heap[b]? = w.heap[b]? := by
    intro b o u hbu
    refine bw.keep b (s.held_lt hbu) (fun e => by rw [e, hh] at hbu; cases hbu) (fun e => ?_)
    have := (hv b e.symm).2.2 o
    rw [hbu] at this; cases this
  have hprom : ∀ b o u, h b o = some u → w'.cell? ⟨b, o, none⟩ = some u := by
    intro b o u hbu
    have := s.prom b o u hbu
    rw [← this]
    simp [World.cell?, hkept b o u hbu]
  have key : ∃ ρ' : Abs.Place, ρ.le ρ' ∧ (∀ i g2 S2, ρ' i = some (g2, S2) → i = H.length ∨ ρ i = some (g2, S2)) ∧ (∀ i, i ≠ H.length → ρ' i = ρ i) ∧ BufR ρ' v' l.length (some H.length) ∧ BlkR h ρ' w' H.length (.buf e l) ∧
      (∀ g2 S2, ρ' H.length = some (g2, S2) → g2 ≠ g ∧ g2 < w'.heap.size ∧ ((∃ i S1, ρ i = some (g2, S1)) ∨ w.heap.size ≤ g2)) := by
    rcases b2.2 with ⟨rfl, h0⟩ | ⟨g2, cap, cur, rfl, _, k1, k2, k3, k4, k5⟩
    · refine ⟨ρ, Place.le_refl _, fun i g2 S2 e => .inr e, fun _ _ => rfl, .inl ⟨rfl, h0⟩, .inl ⟨hρm, List.eq_nil_of_length_eq_zero h0⟩, fun g2 S2 e => by rw [hρm] at e; cases e⟩
    · have hg2 : g2 ≠ g ∧ ((∃ i S1, ρ i = some (g2, S1)) ∨ w.heap.size ≤ g2) ∧ ∀ j, h g2 j = none := by
        rcases b3 with b3 | b3
        · obtain ⟨c1, c2, c3⟩ := hv g2 b3.symm
          exact ⟨c2, .inl c1, c3⟩
        · have := b3 g2 rfl
          refine ⟨by omega, .inr this, fun j => ?_⟩
          cases hj : h g2 j with
          | none => rfl
          | some u => have := s.held_lt hj; omega
      have hlt : g2 < w'.heap.size := (Array.getElem?_eq_some_iff.1 k1).1
      refine ⟨updP ρ H.length (g2, cap), fun i x e => ?_, fun i g3 S3 e => ?_, fun i hi => by simp [updP, hi], .inr ⟨g2, cap, rfl, updP_same _ _ _, k2⟩, .inr ⟨g2, cap, cur, updP_same _ _ _, k1, by simpa using k4, k3, by omega, fun j x hx => ?_, hg2.2.2⟩, fun g3 S3 e => ?_⟩
      · by_cases hi : i = H.length
        · subst hi; rw [hρm] at e; cases e
        · simp [updP, hi, e]
      · by_cases hi : i = H.length
        · exact .inl hi
        · simp [updP, hi] at e; exact .inr e
      · have hj : j < l.length := (List.getElem?_eq_some_iff.1 hx).1
        have h1 : (cur.toList.take (l.length * 1))[j]? = (byteCells l)[j]? := by rw [k5]
        rw [List.getElem?_take, if_pos (by omega)] at h1
        rw [← Array.getElem?_toList, h1]
        simp [byteCells, hx]
      · rw [updP_same] at e
        cases e
        exact ⟨hg2.1, hlt, hg2.2.1⟩
  obtain ⟨ρ', p1, p2, p3, p4, p5, p6⟩ := key
  have hρ0' : ρ' 0 = some (g, S) := p1 _ _ hρ0
  have hlen : (ABlk.bld T true l.length (some H.length) :: (List.replicate (H.length - 1) ABlk.dead ++ [.buf e l])).length = H.length + 1 := by simp; omega
  have hat : ∀ i b, (ABlk.bld T true l.length (some H.length) :: (List.replicate (H.length - 1) ABlk.dead ++ [.buf e l]))[i]? = some b → (i = 0 ∧ b = .bld T true l.length (some H.length)) ∨ (i = H.length ∧ b = .buf e l) ∨ (0 < i ∧ i < H.length ∧ b = .dead) := by
    intro i b hi
    rcases i with _ | i
    · simp at hi; exact .inl ⟨rfl, hi.symm⟩
    · rw [List.getElem?_cons_succ] at hi
      by_cases hc : i < H.length - 1
      · rw [List.getElem?_append_left (by simpa using hc), List.getElem?_replicate, if_pos hc] at hi
        cases hi
        exact .inr (.inr ⟨by omega, by omega, rfl⟩)
      · rw [List.getElem?_append_right (by simpa using hc)] at hi
        have : i - (List.replicate (H.length - 1) ABlk.dead).length = 0 := by
          have := (List.getElem?_eq_some_iff.1 hi).1
          simp at this ⊢; omega
        rw [this] at hi
        simp at hi this
        exact .inr (.inl ⟨by omega, hi.symm⟩)
  have hex : ∀ i, i < H.length + 1 → ∃ b, hp (ABlk.bld T true l.length (some H.length) :: (List.replicate (H.length - 1) ABlk.dead ++ [.buf e l])) i = some b := by
    intro i hi
    refine ⟨_, List.getElem?_eq_getElem (by rw [hlen]; exact hi)⟩
  refine ⟨ρ', ⟨hprom, s.glob, fun i b hb => ?_, fun i g2 S2 e2 => ?_, fun i j g2 S2 S2' e1 e2 l1 l2 => ?_⟩, ⟨bw.os, bw.tape, bw.output, bw.size, fun k hk hn => ?_, Held.le_refl _, fun _ _ _ _ => rfl, p1, fun i g2 S2 e2 => ?_⟩⟩
  · rcases hat i b hb with ⟨rfl, rfl⟩ | ⟨rfl, rfl⟩ | ⟨_, _, rfl⟩
    · exact ⟨g, S, v', hρ0', b1, p4, hh⟩
    · exact p5
    · trivial
  · rcases p2 i g2 S2 e2 with rfl | e3
    · exact ⟨(p6 _ _ e2).2.1, hex _ (by omega)⟩
    · obtain ⟨c1, b, c2⟩ := s.dom i g2 S2 e3
      have : i < H.length := (List.getElem?_eq_some_iff.1 c2).1
      exact ⟨by have := bw.size; omega, hex _ (by omega)⟩
  · have lv : ∀ i, live (hp (ABlk.bld T true l.length (some H.length) :: (List.replicate (H.length - 1) ABlk.dead ++ [.buf e l]))) i → i = 0 ∨ i = H.length := by
      intro i ⟨b, hb, hne⟩
      rcases hat i b hb with ⟨h1, _⟩ | ⟨h1, _⟩ | ⟨_, _, h1⟩
      · exact .inl h1
      · exact .inr h1
      · exact absurd h1 hne
    rcases lv i l1 with rfl | rfl <;> rcases lv j l2 with rfl | rfl
    · rfl
    · rw [hρ0'] at e1; cases e1; exact absurd rfl (p6 _ _ e2).1
    · rw [hρ0'] at e2; cases e2; exact absurd rfl (p6 _ _ e1).1
    · rfl
  · refine bw.keep k hk (fun e => hn 0 S (e ▸ hρ0)) (fun e => ?_)
    obtain ⟨⟨i, S1, c⟩, _⟩ := hv k e.symm
    exact hn i S1 c
  · rcases p2 i g2 S2 e2 with rfl | e3
    · exact (p6 _ _ e2).2.2
    · exact .inl ⟨i, S2, e3⟩
end Go.Proofs.YtacepalmphbnfaaGreatDoor

namespace Go.Proofs.YtacepalmphbnfaaGreatDoor
open Go Go.Proofs Go.Abs Go.RowKit Go.Shelf Go.Lib
variable {G : Globals}
/-! strings.Builder: WriteString, WriteByte, Len, String. -/
theorem Tryz.laysWriteString : Lays.n166 Tryz.prog Tryz.laysReplaceAll_ren := { Tryz.laysReplaceAll with }
theorem Tryz.laysString : Lays.n169 Tryz.prog Tryz.laysReplaceAll_ren := { Tryz.laysReplaceAll with }
def Tryz.laysLen_ren : Go.Shelf.Ren := ⟨fun | 170 => 74 | n => n, fun | 70 => 96 | 3 => 3 | 0 => 0 | 72 => 98 | 37 => 22 | 5 => 5 | n => n, fun | n => n⟩
theorem Tryz.laysLen : Go.Proofs.Lays.n170 Tryz.prog Tryz.laysLen_ren where
  mixed := by kernel_rfl
  f170 := Tryz.func74.trans (congrArg some (by kernel_rfl))
  t0 := Tryz.underlying0
  a0 := Tryz.isAgg0
  z0 := Tryz.sizeOf0
  v0 := Tryz.zeroValue0
  t3 := Tryz.underlying3
  a3 := Tryz.isAgg3
  z3 := Tryz.sizeOf3
  v3 := Tryz.zeroValue3
  t37 := Tryz.underlying22
  a37 := Tryz.isAgg22
  z37 := Tryz.sizeOf22
  v37 := Tryz.zeroValue22
  t70 := Tryz.underlying96
  a70 := Tryz.isAgg96
  z70 := Tryz.sizeOf96
  v70 := Tryz.zeroValue96
  t72 := Tryz.underlying98
  a72 := Tryz.isAgg98
  z72 := Tryz.sizeOf98
  v72 := Tryz.zeroValue98

abbrev BL (used : Bool) (l : List UInt8) : List ABlk := [.bld 98 used l.length (some 1), .buf 5 l]
/-- What memory holds of a builder. -/
theorem bl_own {h : Held} {ρ : Abs.Place} {w : World} {used : Bool} {l : List UInt8} {T e : TypeId} (s : Sim G h ρ (hp [.bld T used l.length (some 1), .buf e l]) w) :
    ∃ g S v, ρ 0 = some (g, S) ∧ (∀ j, h g j = none) ∧ w.heap[g]? = some (.cells #[.pointer (if used then some ⟨g, 0, none⟩ else none), v] T (0, 0)) ∧ w.ownsRow 0 e 1 v l.length (byteCells l) ∧
      ∀ g1, v.ownBlock = some g1 → (∃ i S1, ρ i = some (g1, S1)) ∧ g1 ≠ g ∧ ∀ j, h g1 j = none := by
  obtain ⟨g, S, v, h1, h2, h3, h4⟩ := s.blk 0 _ rfl
  refine ⟨g, S, v, h1, h4, h2, ?_⟩
  have bl : (byteCells l).length = l.length * 1 := by rw [byteCells_length, Nat.mul_one]
  rcases h3 with ⟨rfl, h0⟩ | ⟨g1, cap, rfl, h5, h6⟩
  · exact ⟨⟨bl, .inl ⟨rfl, h0⟩⟩, fun g1 e => by cases e⟩
  · rcases s.blk 1 _ rfl with ⟨k1, _⟩ | ⟨g2, S2, c, k1, k2, k3, k4, k5, k6, k7⟩
    · rw [h5] at k1; cases k1
    · rw [h5] at k1; cases k1
      refine ⟨⟨bl, .inr ⟨g1, cap, c, rfl, Nat.zero_le _, k2, h6, k4, by omega, ?_⟩⟩, fun g3 e => ?_⟩
      · apply List.ext_getElem?
        intro j
        rw [List.getElem?_take]
        split
        · rename_i hj
          have hj' : j < l.length := by omega
          rw [Array.getElem?_toList, k6 j l[j] (List.getElem?_eq_getElem hj')]
          simp [byteCells, hj']
        · rename_i hj
          rw [List.getElem?_eq_none (by rw [byteCells_length]; omega)]
      · have : g1 = g3 := Option.some.inj e
        subst this
        refine ⟨⟨1, _, h5⟩, fun e => ?_, k7⟩
        subst e
        have := s.inj 0 1 g1 _ _ h1 h5 ⟨_, rfl, by simp⟩ ⟨_, rfl, by simp⟩
        cases this
theorem writeString_next (used : Bool) (l x : List UInt8) (hl : l.length ≤ 10000000000000) (hx : x.length ≤ 10000000000000) :
    Ctr Tryz.prog G 70 [.ptr 0 0, .d (S x)] (BL used l) (.tup [.d (.int .i64 x.length), .undef]) [.bld 98 true (l ++ x).length (some 2), .dead, .buf 5 (l ++ x)] := by
  refine ⟨go70, fun h ρ w vs s r => ?_⟩
  obtain ⟨v, u, rfl, hv, hu⟩ := r.inv2
  obtain ⟨g, S, vb, h1, h4, h2, h3, h5⟩ := bl_own s
  rw [ptr_inv hv h1, hu.str_inv]
  have hne : vb.ownBlock ≠ some g := fun e => (h5 g e).2.1 rfl
  refine (bld_writeString Tryz.laysWriteString extraB g used vb (byteCells l) (bs x) w h2 (by rw [byteCells_length]; exact h3) hne (by rw [bs_size, byteCells_length]; omega)).mono ?_
  rintro e w' ⟨rfl, bw⟩
  obtain ⟨ρ', s1, s2⟩ := bld_fin (l := l ++ x) s (by simp) h1 h4 h5 (by rw [byteCells_append]; exact bw)
  refine ⟨_, h, ρ', rfl, s1, ?_, s2⟩
  refine .tup _ _ rfl fun i v y hv hy => ?_
  rcases i with _ | _ | i <;> simp at hv hy
  · subst hv; subst hy; rw [bs_size]; exact .d _ _ (.int _ _)
  · subst hv; subst hy; exact .undef _
theorem len_spec (used : Bool) (l : List UInt8) : Ctr Tryz.prog G 74 [.ptr 0 0] (BL used l) (.d (.int .i64 l.length)) (BL used l) := by
  refine ⟨go74, fun h ρ w vs s r => ?_⟩
  obtain ⟨v, rfl, hv⟩ := r.inv1
  obtain ⟨g, S, vb, h1, h4, h2, h3, h5⟩ := bl_own s
  rw [ptr_inv hv h1]
  have hne : vb.ownBlock ≠ some g := fun e => (h5 g e).2.1 rfl
  refine (bld_len Tryz.laysLen g used vb (byteCells l) w h2 (by rw [byteCells_length]; exact h3) hne).mono ?_
  rintro e w' ⟨rfl, rfl⟩
  rw [byteCells_length]
  exact ⟨_, h, ρ, rfl, s, .d _ _ (.int _ _), Step.refl _ _ _⟩
end Go.Proofs.YtacepalmphbnfaaGreatDoor

namespace Go.Proofs.YtacepalmphbnfaaGreatDoor
open Go Go.Proofs Go.Abs Go.RowKit Go.Shelf Go.Lib
variable {G : Globals}
/-! strings.Builder: WriteByte, String. -/
def Tryz.laysWriteByte_ren : Go.Shelf.Ren := ⟨fun | 167 => 73 | n => Tryz.laysReplaceAll_ren.f n, Tryz.laysReplaceAll_ren.t, Tryz.laysReplaceAll_ren.g⟩
theorem Tryz.laysWriteByte : Lays.n167 Tryz.prog Tryz.laysWriteByte_ren :=
  { Tryz.laysReplaceAll with f167 := Tryz.func73.trans (congrArg some (by kernel_rfl)) }
theorem extraY : Builder.Extra Tryz.prog Tryz.laysWriteByte_ren where
  sizeBuilder := by kernel_rfl
  liesBuilder := by kernel_rfl
  t5 := Tryz.underlying5
  a5 := Tryz.isAgg5
  z5 := Tryz.sizeOf5
  v5 := Tryz.zeroValue5
  infoByte := by kernel_rfl
  cellsByte := by kernel_rfl
  sizeByte := by kernel_rfl
  neB5 := by decide
theorem writeByte_next (used : Bool) (l : List UInt8) (c : UInt8) (hl : l.length ≤ 10000000000000) :
    Ctr Tryz.prog G 73 [.ptr 0 0, .d (.int .u8 c.toNat)] (BL used l) .undef [.bld 98 true (l ++ [c]).length (some 2), .dead, .buf 5 (l ++ [c])] := by
  refine ⟨go73, fun h ρ w vs s r => ?_⟩
  obtain ⟨v, u, rfl, hv, hu⟩ := r.inv2
  obtain ⟨g, S, vb, h1, h4, h2, h3, h5⟩ := bl_own s
  rw [ptr_inv hv h1, hu.int_inv]
  have hne : vb.ownBlock ≠ some g := fun e => (h5 g e).2.1 rfl
  refine (bld_writeByte Tryz.laysWriteByte extraY g used vb (byteCells l) c.toNat w h2 (by rw [byteCells_length]; exact h3) hne (by rw [byteCells_length]; omega)).mono ?_
  rintro e w' ⟨rfl, bw⟩
  obtain ⟨ρ', s1, s2⟩ := bld_fin (l := l ++ [c]) s (by simp) h1 h4 h5 (by rw [byteCells_append]; exact bw)
  exact ⟨_, h, ρ', rfl, s1, .undef _, s2⟩
/-- String freezes the bytes: the buffer is given up. -/
theorem string_spec (used : Bool) (l : List UInt8) : Ctr Tryz.prog G 75 [.ptr 0 0] (BL used l) (.d (S l)) [.dead, .dead] := by
  refine ⟨go75, fun h ρ w vs s r => ?_⟩
  obtain ⟨v, rfl, hv⟩ := r.inv1
  obtain ⟨g, S, vb, h1, h4, h2, h3, h5⟩ := bl_own s
  rw [ptr_inv hv h1]
  refine (bld_string Tryz.laysString extraB g _ vb l w h2 h3).mono ?_
  rintro e w' ⟨rfl, hb⟩
  have hpr : ∀ b o u, h b o = some u → w'.cell? ⟨b, o, none⟩ = some u := fun b o u e => by
    rw [← s.prom b o u e]
    have : w'.heap[b]? = w.heap[b]? := hb.keep b (s.held_lt e) (fun e2 => by have := (h5 b e2.symm).2.2 o; rw [e] at this; cases this)
    simp [World.cell?, this]
  have st : Step h ρ w h ρ w' := ⟨hb.os, hb.tape, hb.output, hb.size, fun k hk1 hn => hb.keep k hk1 (fun e2 => by obtain ⟨⟨i, S1, c⟩, _⟩ := h5 k e2.symm; exact hn i S1 c), Held.le_refl _, fun _ _ _ _ => rfl, Place.le_refl _, fun i g S e => .inl ⟨i, S, e⟩⟩
  have hd : ∀ i b, hp [ABlk.dead, ABlk.dead] i = some b → b = .dead := by
    intro i b e
    rcases i with _ | _ | i <;> simp [hp] at e
    · exact e.symm
    · exact e.symm
  refine ⟨_, h, ρ, rfl, ⟨hpr, s.glob, fun i b e => by rw [hd i b e]; trivial, fun i g S e => ?_, fun i j g S S' e1 e2 l1 l2 => ?_⟩, .d _ _ (.str _), st⟩
  · obtain ⟨c1, b, c2⟩ := s.dom i g S e
    have hi : i < 2 := (List.getElem?_eq_some_iff.1 c2).1
    refine ⟨by have := hb.size; omega, .dead, ?_⟩
    rcases (by omega : i = 0 ∨ i = 1) with rfl | rfl <;> rfl
  · obtain ⟨b, c1, c2⟩ := l1
    exact absurd (hd i b c1) c2
end Go.Proofs.YtacepalmphbnfaaGreatDoor

namespace Go.Proofs.YtacepalmphbnfaaGreatDoor
open Go Go.Proofs Go.Abs
variable {G : Globals}
/-! The dice; the words. -/
def strs (l : List (List UInt8)) : List D := l.map fun s => S s
theorem strs_length {l : List (List UInt8)} : (strs l).length = l.length := by simp [strs]
theorem strs_getD {l : List (List UInt8)} {i : Nat} (h : i < l.length) : (strs l).getD i .nilp = S (l.getD i []) := by
  simp [strs, List.getD_eq_getElem?_getD, h]
abbrev Ss (l : List (List UInt8)) (full : Bool) : D := .sl l.length full (strs l)
abbrev DiceM (t : List Int) (k : Nat) : ABlk := .box [.d (.sl t.length false (ints .u8 t)), .d (.int .i64 (min k t.length : Nat))]
def OkM (t : List Int) : Prop := t.length ≤ 300 ∧ ∀ i, 0 ≤ t.getD i 0 ∧ t.getD i 0 ≤ 255
theorem new_spec (t : List Int) (ht : t.length ≤ 9223372036854775807) : Ctr Tryz.prog G 12 [.d (.sl t.length false (ints .u8 t))] [] (.ptr 0 0) [DiceM (t.take 300) 0] := by
  refine Ctr.body (M := M0) hmix Tryz.func12 rfl go12 ?_
  rcases Nat.lt_or_ge 300 t.length with h | h
  · have e : (t.take 300).length = 300 := by rw [List.length_take]; omega
    simp (config := { maxSteps := 1000000 }) (disch := ((try simp only [awL]); omega)) only [Tryz.f12, e, ↓awU, awV, awF, Qa, Qb, Qc, Qd, forall_const, ↓reduceIte, ↓reduceDIte, ↓Qe, Qf, Qg, Qh, Qi, Qj, Qk, Ql, Qm, Qn, Qo, Qp, Qq, Qr, Qs, implies_true, Qt, Qu, Qv, Qw, Qx, Qy, Qz, QA, QB, QC, QD, QE, QF, QG, QH, QI, QJ, QK, QL, QM, QN, QO, QP, QQ]
    exact ⟨[some 0], rfl, by simp, by simp [HWeak, BWeak, SWeak, AWeak]; omega, .inl (by simp [AWeak])⟩
  · have e : t.take 300 = t := List.take_of_length_le h
    simp (config := { maxSteps := 1000000 }) (disch := ((try simp only [awL]); omega)) only [Tryz.f12, e, ↓awU, awV, awF, Qa, Qb, Qc, Qd, forall_const, ↓reduceIte, ↓reduceDIte, ↓Qe, Qf, Qg, Qh, Qi, Qj, Qk, Ql, Qm, Qn, Qo, Qp, Qq, Qr, Qs, implies_true, Qt, Qu, Qv, Qw, Qx, Qy, Qz, QA, QB, QC, QD, QE, QF, QG, QH, QI, QJ, QK, QL, QM, QN, QO, QP, QQ]
    exact ⟨[some 0], rfl, by simp, by simp [HWeak, BWeak, SWeak, AWeak], .inl (by simp [AWeak, SWeak])⟩
def pk (t : List Int) (k : Nat) (n : Int) : Int := t.getD k 0 % n
theorem pk_range {t : List Int} {k : Nat} {n : Int} (h : 0 < n) : 0 ≤ pk t k n ∧ pk t k n < n := ⟨Int.emod_nonneg _ (by omega), Int.emod_lt_of_pos _ h⟩
theorem pk_nat (t : List Int) (k : Nat) (n : Int) (h : 0 < n) : ∃ c : Nat, pk t k n = c ∧ (c : Int) < n := ⟨(pk t k n).toNat, by have := @pk_range t k n h; omega, by have := @pk_range t k n h; omega⟩
set_option maxHeartbeats 4000000 in
set_option maxRecDepth 100000 in
theorem pick_spec (t : List Int) (k : Nat) (n : Int) (ht : OkM t) (h0 : 0 < n) (h1 : n ≤ 1000) :
    Ctr Tryz.prog G 22 [.ptr 0 0, .d (.int .i64 n)] [DiceM t k] (.d (.int .i64 (pk t k n))) [DiceM t (k + 1)] := by
  obtain ⟨ht, htt⟩ := ht
  refine Ctr.body (M := M0) hmix Tryz.func22 rfl go22 ?_
  rcases Nat.lt_or_ge k t.length with h | h
  · have e1 : min k t.length = k := by omega
    have e2 : min (k + 1) t.length = k + 1 := by omega
    obtain ⟨b1, b2⟩ := htt k
    have e3 : (t.getD k 0).tmod n = pk t k n := Int.tmod_eq_emod_of_nonneg b1
    simp only [e1, e2, DiceM]
    simp (config := { maxSteps := 1000000 }) (disch := ((try simp only [awL]); omega)) only [Tryz.f22, e3, ↓awU, awV, awF, Qa, Qb, Qc, Qd, forall_const, ↓reduceIte, ↓reduceDIte, ↓Qe, Qf, Qg, Qh, Qi, Qj, Qk, Ql, Qm, Qn, Qo, Qp, Qq, Qr, Qs, implies_true, Qt, Qu, Qv, Qw, Qx, Qy, Qz, QA, QB, QC, QD, QE, QF, QG, QH, QI, QJ, QK, QL, QM, QN, QO, QP, QQ]
    refine ⟨by rfl, by rfl, ?_⟩
    exact ⟨[some 0], rfl, by simp, by simp [HWeak, BWeak, SWeak, AWeak], .inl (by simp [AWeak, SWeak])⟩
  · have e1 : min k t.length = t.length := by omega
    have e2 : min (k + 1) t.length = t.length := by omega
    have e3 : pk t k n = 0 := by rw [pk, List.getD_eq_getElem?_getD, List.getElem?_eq_none h]; simp
    simp only [e1, e2, e3, DiceM]
    simp (config := { maxSteps := 1000000 }) (disch := ((try simp only [awL]); omega)) only [Tryz.f22, ↓awU, awV, awF, Qa, Qb, Qc, Qd, forall_const, ↓reduceIte, ↓reduceDIte, ↓Qe, Qf, Qg, Qh, Qi, Qj, Qk, Ql, Qm, Qn, Qo, Qp, Qq, Qr, Qs, implies_true, Qt, Qu, Qv, Qw, Qx, Qy, Qz, QA, QB, QC, QD, QE, QF, QG, QH, QI, QJ, QK, QL, QM, QN, QO, QP, QQ]
    refine ⟨by rfl, ?_⟩
    exact ⟨[some 0], rfl, by simp, by simp [HWeak, BWeak, SWeak, AWeak], .inl (by simp [AWeak, SWeak])⟩
end Go.Proofs.YtacepalmphbnfaaGreatDoor

namespace Go.Proofs.YtacepalmphbnfaaGreatDoor
open Go Go.Proofs Go.Abs
variable {G : Globals}
/-! Grids; whether one of a list's elements is so. -/
abbrev Row := List (List UInt8)
def rowsD (g : List Row) : List D := g.map fun r => Ss r false
abbrev Gr (g : List Row) (full : Bool) : D := .sl g.length full (rowsD g)
theorem rowsD_length {g : List Row} : (rowsD g).length = g.length := by simp [rowsD]
theorem rowsD_getD {g : List Row} {i : Nat} (h : i < g.length) : (rowsD g).getD i .nilp = Ss (g.getD i []) false := by
  simp [rowsD, List.getD_eq_getElem?_getD, h]
theorem strs_push {a : Row} {x : List UInt8} : strs a ++ [S x] = strs (a ++ [x]) := by simp [strs]
theorem rowsD_push {a : List Row} {x : Row} : rowsD a ++ [Ss x false] = rowsD (a ++ [x]) := by simp [rowsD]
/-- The place of the first element of which p holds. -/
def ixF {α : Type} (p : α → Bool) : List α → Int → Int
  | [], _ => -1
  | x :: r, k => if p x then k else ixF p r (k + 1)
theorem ixF_any {α : Type} {p : α → Bool} : ∀ (l : List α) (k : Int), 0 ≤ k → (0 ≤ ixF p l k ↔ l.any p = true)
  | [], k, h => by simp [ixF]
  | x :: r, k, h => by
    rw [ixF, List.any_cons]
    cases hx : p x
    · simpa using ixF_any r (k + 1) (by omega)
    · simpa using h
theorem ixF_at {α : Type} {p : α → Bool} {l : List α} {i : Nat} {d : α} (h : i < l.length) : ixF p (l.drop i) i = if p (l.getD i d) then (i : Int) else ixF p (l.drop (i + 1)) (i + 1 : Nat) := by
  rw [List.drop_eq_getElem_cons h, ixF, List.getD_eq_getElem?_getD, List.getElem?_eq_getElem h]; rfl
theorem memD {α : Type} {l : List α} {i : Nat} {d : α} (h : i < l.length) : l.getD i d ∈ l := by
  rw [List.getD_eq_getElem?_getD, List.getElem?_eq_getElem h]; exact List.getElem_mem h
set_option maxHeartbeats 4000000 in
theorem indexFunc_spec (f : FuncId) (p : List UInt8 → Bool) (l : Row) (full : Bool) (hl : l.length ≤ 1000000000) (hp : ∀ s ∈ l, Ctr Tryz.prog G f [.d (S s)] [] (.d (.bool (p s))) []) :
    Ctr Tryz.prog G 114 [.d (Ss l full), .d (.fn (.func f) [] [])] [] (.d (.int .i64 (ixF p l 0))) [] := by
  refine Ctr.pure (M := M0) hmix Tryz.func114 rfl go114 ?_
  have sl := @strs_length l
  simp (config := { maxSteps := 1000000 }) (disch := ((try simp only [awL]); omega)) only [sl, Tryz.f114, ↓awU, awV, awF, Qa, Qb, Qc, Qd, forall_const, ↓reduceIte, ↓reduceDIte, ↓Qe, Qf, Qg, Qh, Qi, Qj, Qk, Ql, Qm, Qn, Qo, Qp, Qq, Qr, Qs, implies_true, Qt, Qu, Qv, Qw, Qx, Qy, Qz, QA, QB, QC, QD, QE, QF, QG, QH, QI, QJ, QK, QL, QM, QN, QO, QP, QQ]
  refine LoopC.fr 131 (α := Nat) (fun i => l.length - i) (fun i => [(8, .d (.int .i64 i))]) (fun _ => []) (fun i => i ≤ l.length ∧ ixF p l 0 = ixF p (l.drop i) i) 0 ⟨Nat.zero_le _, rfl⟩ ?_ ?_
  · exact ⟨[], rfl, by simp, by simp [setsA, keepA, SWeak, AWeak], by simp [HWeak, BWeak, SWeak, AWeak]⟩
  · rintro i ⟨h1, h2⟩
    simp only [awK, Nat.reduceMod, Nat.reduceDiv, reduceIte]
    rw [h2]
    rcases Nat.lt_or_ge i l.length with h | h
    · have g := strs_getD h
      rw [ixF_at (d := []) h]
      simp (config := { maxSteps := 1000000 }) (disch := ((try simp only [awL]); omega)) only [sl, g, ↓awU, awV, awF, Qa, Qb, Qc, Qd, forall_const, ↓reduceIte, ↓reduceDIte, ↓Qe, Qf, Qg, Qh, Qi, Qj, Qk, Ql, Qm, Qn, Qo, Qp, Qq, Qr, Qs, implies_true, Qt, Qu, Qv, Qw, Qx, Qy, Qz, QA, QB, QC, QD, QE, QF, QG, QH, QI, QJ, QK, QL, QM, QN, QO, QP, QQ]
      refine CallC.pure (hp _ (memD h)) ?_
      cases hx : p (l.getD i [])
      · simp (config := { maxSteps := 1000000 }) (disch := ((try simp only [awL]); omega)) only [↓awU, awV, awF, Qa, Qb, Qc, Qd, forall_const, ↓reduceIte, ↓reduceDIte, ↓Qe, Qf, Qg, Qh, Qi, Qj, Qk, Ql, Qm, Qn, Qo, Qp, Qq, Qr, Qs, implies_true, Qt, Qu, Qv, Qw, Qx, Qy, Qz, QA, QB, QC, QD, QE, QF, QG, QH, QI, QJ, QK, QL, QM, QN, QO, QP, QQ]
        exact ⟨i + 1, ⟨h, rfl⟩, by simp only; omega, ⟨[], rfl, by simp, by simp [setsA, keepA, SWeak, AWeak], by simp [HWeak, BWeak, SWeak, AWeak]⟩⟩
      · simp (config := { maxSteps := 1000000 }) (disch := ((try simp only [awL]); omega)) only [↓awU, awV, awF, Qa, Qb, Qc, Qd, forall_const, ↓reduceIte, ↓reduceDIte, ↓Qe, Qf, Qg, Qh, Qi, Qj, Qk, Ql, Qm, Qn, Qo, Qp, Qq, Qr, Qs, implies_true, Qt, Qu, Qv, Qw, Qx, Qy, Qz, QA, QB, QC, QD, QE, QF, QG, QH, QI, QJ, QK, QL, QM, QN, QO, QP, QQ]
    · rw [List.drop_eq_nil_of_le h]
      simp (config := { maxSteps := 1000000 }) (disch := ((try simp only [awL]); omega)) only [↓awU, awV, awF, Qa, Qb, Qc, Qd, forall_const, ↓reduceIte, ↓reduceDIte, ↓Qe, Qf, Qg, Qh, Qi, Qj, Qk, Ql, Qm, Qn, Qo, Qp, Qq, Qr, Qs, implies_true, Qt, Qu, Qv, Qw, Qx, Qy, Qz, QA, QB, QC, QD, QE, QF, QG, QH, QI, QJ, QK, QL, QM, QN, QO, QP, QQ]
      rfl
theorem containsFunc_spec (f : FuncId) (p : List UInt8 → Bool) (l : Row) (full : Bool) (hl : l.length ≤ 1000000000) (hp : ∀ s ∈ l, Ctr Tryz.prog G f [.d (S s)] [] (.d (.bool (p s))) []) :
    Ctr Tryz.prog G 76 [.d (Ss l full), .d (.fn (.func f) [] [])] [] (.d (.bool (l.any p))) [] := by
  refine Ctr.pure (M := M0) hmix Tryz.func76 rfl go76 ?_
  simp (config := { maxSteps := 1000000 }) (disch := ((try simp only [awL]); omega)) only [Tryz.f76, ↓awU, awV, awF, Qa, Qb, Qc, Qd, forall_const, ↓reduceIte, ↓reduceDIte, ↓Qe, Qf, Qg, Qh, Qi, Qj, Qk, Ql, Qm, Qn, Qo, Qp, Qq, Qr, Qs, implies_true, Qt, Qu, Qv, Qw, Qx, Qy, Qz, QA, QB, QC, QD, QE, QF, QG, QH, QI, QJ, QK, QL, QM, QN, QO, QP, QQ]
  refine CallC.of (indexFunc_spec f p l false hl hp) (by rfl) ?_
  have hi := ixF_any (p := p) l 0 (Int.le_refl _)
  generalize ixF p l 0 = z at *
  rcases (by omega : 0 ≤ z ∨ z < 0) with h | h
  · rw [hi.1 h]
    simp (config := { maxSteps := 1000000 }) (disch := ((try simp only [awL]); omega)) only [↓awU, awV, awF, Qa, Qb, Qc, Qd, forall_const, ↓reduceIte, ↓reduceDIte, ↓Qe, Qf, Qg, Qh, Qi, Qj, Qk, Ql, Qm, Qn, Qo, Qp, Qq, Qr, Qs, implies_true, Qt, Qu, Qv, Qw, Qx, Qy, Qz, QA, QB, QC, QD, QE, QF, QG, QH, QI, QJ, QK, QL, QM, QN, QO, QP, QQ]
  · have : l.any p = false := by cases hx : l.any p with
      | false => rfl
      | true => have := hi.2 hx; omega
    rw [this]
    simp (config := { maxSteps := 1000000 }) (disch := ((try simp only [awL]); omega)) only [↓awU, awV, awF, Qa, Qb, Qc, Qd, forall_const, ↓reduceIte, ↓reduceDIte, ↓Qe, Qf, Qg, Qh, Qi, Qj, Qk, Ql, Qm, Qn, Qo, Qp, Qq, Qr, Qs, implies_true, Qt, Qu, Qv, Qw, Qx, Qy, Qz, QA, QB, QC, QD, QE, QF, QG, QH, QI, QJ, QK, QL, QM, QN, QO, QP, QQ]
/-- Rows are more, or longer, than they may be. -/
def bigF (s : List UInt8) : Bool := decide (1024 < s.length)
/-- Texts of a size that memory has. -/
def okRow (r : Row) : Prop := r.length ≤ 1000000000 ∧ ∀ s ∈ r, s.length ≤ 1000000000
def okGrid (g : List Row) : Prop := g.length ≤ 1000000000 ∧ ∀ r ∈ g, okRow r
/-- What may not be written. -/
def badF (s : List UInt8) : Bool := !Lib.validD s
def badR (r : Row) : Bool := decide (r.length = 0) || r.any badF
end Go.Proofs.YtacepalmphbnfaaGreatDoor

namespace Go.Proofs.YtacepalmphbnfaaGreatDoor
open Go Go.Proofs Go.Abs
variable {G : Globals}
/-! The reference: equal grids, limits, which texts fit. -/
theorem take_eq_step {α : Type} {a b : List α} {i : Nat} {d : α} (h : i < a.length) (hl : a.length = b.length) (ht : a.take i = b.take i) (he : a.getD i d = b.getD i d) : a.take (i + 1) = b.take (i + 1) := by
  have h2 : i < b.length := by omega
  rw [List.take_add_one, List.take_add_one, ht, List.getElem?_eq_getElem h, List.getElem?_eq_getElem h2]
  rw [List.getD_eq_getElem?_getD, List.getD_eq_getElem?_getD, List.getElem?_eq_getElem h, List.getElem?_eq_getElem h2] at he
  simp only [Option.getD_some] at he
  rw [he]
set_option maxHeartbeats 4000000 in
set_option maxRecDepth 100000 in
theorem sameR_spec (a b : Row) (fa fb : Bool) (ha : a.length ≤ 10000000000) (hb : b.length ≤ 10000000000) : Ctr Tryz.prog G 78 [.d (Ss a fa), .d (Ss b fb)] [] (.d (.bool (decide (a = b)))) [] := by
  obtain ⟨r, hr⟩ : ∃ r, r = decide (a = b) := ⟨_, rfl⟩
  rw [← hr]
  refine Ctr.pure (M := M0) hmix Tryz.func78 rfl go78 ?_
  have al := @strs_length a
  have bl := @strs_length b
  by_cases hl : a.length = b.length
  · simp (config := { maxSteps := 1000000 }) (disch := ((try simp only [awL]); omega)) only [QR, QS, QT, QU, QV, QW, QX, QY, QZ, Q0, Q1, Q2, al, bl, Tryz.f78, ↓awU, awV, awF, Qa, Qb, Qc, Qd, forall_const, ↓reduceIte, ↓reduceDIte, ↓Qe, Qf, Qg, Qh, Qi, Qj, Qk, Ql, Qm, Qn, Qo, Qp, Qq, Qr, Qs, implies_true, Qt, Qu, Qv, Qw, Qx, Qy, Qz, QA, QB, QC, QD, QE, QF, QG, QH, QI, QJ, QK, QL, QM, QN, QO, QP, QQ]
    refine LoopC.fr 4099 (α := Nat) (fun i => a.length - i) (fun i => [(13, .d (.int .i64 i))]) (fun _ => []) (fun i => i ≤ a.length ∧ a.take i = b.take i) 0 ⟨Nat.zero_le _, by simp⟩ ?_ ?_
    · exact ⟨[], rfl, by simp, by simp [setsA, keepA, SWeak, AWeak], by simp [HWeak, BWeak, SWeak, AWeak]⟩
    · rintro i ⟨h1, h2⟩
      simp only [awK, Nat.reduceMod, Nat.reduceDiv, reduceIte]
      rcases Nat.lt_or_ge i a.length with h | h
      · have ga := strs_getD h
        have gb := strs_getD (show i < b.length by omega)
        by_cases he : a.getD i [] = b.getD i []
        · simp (config := { maxSteps := 1000000 }) (disch := ((try simp only [awL]); omega)) only [QR, QS, QT, QU, QV, QW, QX, QY, QZ, Q0, Q1, Q2, al, bl, ga, gb, he, ↓awU, awV, awF, Qa, Qb, Qc, Qd, forall_const, ↓reduceIte, ↓reduceDIte, ↓Qe, Qf, Qg, Qh, Qi, Qj, Qk, Ql, Qm, Qn, Qo, Qp, Qq, Qr, Qs, implies_true, Qt, Qu, Qv, Qw, Qx, Qy, Qz, QA, QB, QC, QD, QE, QF, QG, QH, QI, QJ, QK, QL, QM, QN, QO, QP, QQ]
          exact ⟨by rfl, i + 1, ⟨h, take_eq_step h hl h2 he⟩, by simp only; omega, ⟨[], rfl, by simp, by simp [setsA, keepA, SWeak, AWeak], by simp [HWeak, BWeak, SWeak, AWeak]⟩⟩
        · simp (config := { maxSteps := 1000000 }) (disch := ((try simp only [awL]); omega)) only [QR, QS, QT, QU, QV, QW, QX, QY, QZ, Q0, Q1, Q2, al, bl, ga, gb, he, ↓awU, awV, awF, Qa, Qb, Qc, Qd, forall_const, ↓reduceIte, ↓reduceDIte, ↓Qe, Qf, Qg, Qh, Qi, Qj, Qk, Ql, Qm, Qn, Qo, Qp, Qq, Qr, Qs, implies_true, Qt, Qu, Qv, Qw, Qx, Qy, Qz, QA, QB, QC, QD, QE, QF, QG, QH, QI, QJ, QK, QL, QM, QN, QO, QP, QQ]
          refine ⟨by rfl, ?_⟩
          have : ¬ a = b := fun e => he (by rw [e])
          simp [hr, this]
      · rw [List.take_of_length_le h, List.take_of_length_le (by omega)] at h2
        simp (config := { maxSteps := 1000000 }) (disch := ((try simp only [awL]); omega)) only [QR, QS, QT, QU, QV, QW, QX, QY, QZ, Q0, Q1, Q2, ↓awU, awV, awF, Qa, Qb, Qc, Qd, forall_const, ↓reduceIte, ↓reduceDIte, ↓Qe, Qf, Qg, Qh, Qi, Qj, Qk, Ql, Qm, Qn, Qo, Qp, Qq, Qr, Qs, implies_true, Qt, Qu, Qv, Qw, Qx, Qy, Qz, QA, QB, QC, QD, QE, QF, QG, QH, QI, QJ, QK, QL, QM, QN, QO, QP, QQ]
        simp [hr, h2]
  · simp (config := { maxSteps := 1000000 }) (disch := ((try simp only [awL]); omega)) only [QR, QS, QT, QU, QV, QW, QX, QY, QZ, Q0, Q1, Q2, al, bl, hl, Tryz.f78, ↓awU, awV, awF, Qa, Qb, Qc, Qd, forall_const, ↓reduceIte, ↓reduceDIte, ↓Qe, Qf, Qg, Qh, Qi, Qj, Qk, Ql, Qm, Qn, Qo, Qp, Qq, Qr, Qs, implies_true, Qt, Qu, Qv, Qw, Qx, Qy, Qz, QA, QB, QC, QD, QE, QF, QG, QH, QI, QJ, QK, QL, QM, QN, QO, QP, QQ]
    have : ¬ a = b := fun e => hl (by rw [e])
    simp [hr, this]
set_option maxHeartbeats 4000000 in
set_option maxRecDepth 100000 in
theorem sameG_spec (a b : List Row) (fa fb : Bool) (ha : okGrid a) (hb : okGrid b) : Ctr Tryz.prog G 25 [.d (.agg [Gr a fa]), .d (.agg [Gr b fb])] [] (.d (.bool (decide (a = b)))) [] := by
  obtain ⟨a1, a2⟩ := ha
  obtain ⟨b1, b2⟩ := hb
  obtain ⟨r, hr⟩ : ∃ r, r = decide (a = b) := ⟨_, rfl⟩
  rw [← hr]
  refine Ctr.pure (M := M0) hmix Tryz.func25 rfl go25 ?_
  have al := @rowsD_length a
  have bl := @rowsD_length b
  by_cases hl : a.length = b.length
  · simp (config := { maxSteps := 1000000 }) (disch := ((try simp only [awL]); omega)) only [QR, QS, QT, QU, QV, QW, QX, QY, QZ, Q0, Q1, Q2, al, bl, Tryz.f25, ↓awU, awV, awF, Qa, Qb, Qc, Qd, forall_const, ↓reduceIte, ↓reduceDIte, ↓Qe, Qf, Qg, Qh, Qi, Qj, Qk, Ql, Qm, Qn, Qo, Qp, Qq, Qr, Qs, implies_true, Qt, Qu, Qv, Qw, Qx, Qy, Qz, QA, QB, QC, QD, QE, QF, QG, QH, QI, QJ, QK, QL, QM, QN, QO, QP, QQ]
    refine LoopC.fr 32780 (α := Nat) (fun i => a.length - i) (fun i => [(16, .d (.int .i64 i))]) (fun _ => [.box [.d (Gr a fa)], .box [.d (Gr b fb)]]) (fun i => i ≤ a.length ∧ a.take i = b.take i) 0 ⟨Nat.zero_le _, by simp⟩ ?_ ?_
    · exact ⟨[some 0, some 1], rfl, by simp, by simp [setsA, keepA, SWeak, AWeak], by simp [HWeak, BWeak, SWeak, AWeak]⟩
    · rintro i ⟨h1, h2⟩
      simp only [awK, Nat.reduceMod, Nat.reduceDiv, reduceIte]
      rcases Nat.lt_or_ge i a.length with h | h
      · have ga := rowsD_getD h
        have gb := rowsD_getD (show i < b.length by omega)
        have ma := (a2 _ (memD (d := []) h)).1
        have mb := (b2 _ (memD (d := []) (show i < b.length by omega))).1
        simp (config := { maxSteps := 1000000 }) (disch := ((try simp only [awL]); omega)) only [QR, QS, QT, QU, QV, QW, QX, QY, QZ, Q0, Q1, Q2, al, bl, ga, gb, ↓awU, awV, awF, Qa, Qb, Qc, Qd, forall_const, ↓reduceIte, ↓reduceDIte, ↓Qe, Qf, Qg, Qh, Qi, Qj, Qk, Ql, Qm, Qn, Qo, Qp, Qq, Qr, Qs, implies_true, Qt, Qu, Qv, Qw, Qx, Qy, Qz, QA, QB, QC, QD, QE, QF, QG, QH, QI, QJ, QK, QL, QM, QN, QO, QP, QQ]
        refine CallC.pure (sameR_spec _ _ false false (by omega) (by omega)) ?_
        by_cases he : a.getD i [] = b.getD i []
        · rw [decide_eq_true he]
          simp (config := { maxSteps := 1000000 }) (disch := ((try simp only [awL]); omega)) only [QR, QS, QT, QU, QV, QW, QX, QY, QZ, Q0, Q1, Q2, ↓awU, awV, awF, Qa, Qb, Qc, Qd, forall_const, ↓reduceIte, ↓reduceDIte, ↓Qe, Qf, Qg, Qh, Qi, Qj, Qk, Ql, Qm, Qn, Qo, Qp, Qq, Qr, Qs, implies_true, Qt, Qu, Qv, Qw, Qx, Qy, Qz, QA, QB, QC, QD, QE, QF, QG, QH, QI, QJ, QK, QL, QM, QN, QO, QP, QQ]
          first | exact ⟨i + 1, ⟨h, take_eq_step h hl h2 he⟩, by simp only; omega, ⟨[some 0, some 1], rfl, by simp, by simp [setsA, keepA, SWeak, AWeak], by simp [HWeak, BWeak, SWeak, AWeak]⟩⟩ | exact ⟨by rfl, i + 1, ⟨h, take_eq_step h hl h2 he⟩, by simp only; omega, ⟨[some 0, some 1], rfl, by simp, by simp [setsA, keepA, SWeak, AWeak], by simp [HWeak, BWeak, SWeak, AWeak]⟩⟩
        · rw [decide_eq_false he]
          simp (config := { maxSteps := 1000000 }) (disch := ((try simp only [awL]); omega)) only [QR, QS, QT, QU, QV, QW, QX, QY, QZ, Q0, Q1, Q2, ↓awU, awV, awF, Qa, Qb, Qc, Qd, forall_const, ↓reduceIte, ↓reduceDIte, ↓Qe, Qf, Qg, Qh, Qi, Qj, Qk, Ql, Qm, Qn, Qo, Qp, Qq, Qr, Qs, implies_true, Qt, Qu, Qv, Qw, Qx, Qy, Qz, QA, QB, QC, QD, QE, QF, QG, QH, QI, QJ, QK, QL, QM, QN, QO, QP, QQ]
          have : ¬ a = b := fun e => he (by rw [e])
          first | (refine ⟨by rfl, ?_⟩; simp [hr, this]) | simp [hr, this]
      · rw [List.take_of_length_le h, List.take_of_length_le (by omega)] at h2
        simp (config := { maxSteps := 1000000 }) (disch := ((try simp only [awL]); omega)) only [QR, QS, QT, QU, QV, QW, QX, QY, QZ, Q0, Q1, Q2, ↓awU, awV, awF, Qa, Qb, Qc, Qd, forall_const, ↓reduceIte, ↓reduceDIte, ↓Qe, Qf, Qg, Qh, Qi, Qj, Qk, Ql, Qm, Qn, Qo, Qp, Qq, Qr, Qs, implies_true, Qt, Qu, Qv, Qw, Qx, Qy, Qz, QA, QB, QC, QD, QE, QF, QG, QH, QI, QJ, QK, QL, QM, QN, QO, QP, QQ]
        simp [hr, h2]
  · simp (config := { maxSteps := 1000000 }) (disch := ((try simp only [awL]); omega)) only [QR, QS, QT, QU, QV, QW, QX, QY, QZ, Q0, Q1, Q2, al, bl, hl, Tryz.f25, ↓awU, awV, awF, Qa, Qb, Qc, Qd, forall_const, ↓reduceIte, ↓reduceDIte, ↓Qe, Qf, Qg, Qh, Qi, Qj, Qk, Ql, Qm, Qn, Qo, Qp, Qq, Qr, Qs, implies_true, Qt, Qu, Qv, Qw, Qx, Qy, Qz, QA, QB, QC, QD, QE, QF, QG, QH, QI, QJ, QK, QL, QM, QN, QO, QP, QQ]
    have : ¬ a = b := fun e => hl (by rw [e])
    simp [hr, this]
end Go.Proofs.YtacepalmphbnfaaGreatDoor

namespace Go.Proofs.YtacepalmphbnfaaGreatDoor
open Go Go.Proofs Go.Abs
variable {G : Globals}
/-! Small numbers as texts; the dice's numbers. -/
def digitsL : List UInt8 := [48, 49, 50, 51, 52, 53, 54, 55, 56, 57, 97, 98, 99, 100, 101, 102, 103, 104, 105, 106, 107, 108, 109, 110, 111, 112, 113, 114, 115, 116, 117, 118, 119, 120, 121, 122]
def smallsL : List UInt8 := (List.range 100).flatMap fun n => [UInt8.ofNat (48 + n / 10), UInt8.ofNat (48 + n % 10)]
theorem smalls_eq : (([48, 48, 48, 49, 48, 50, 48, 51, 48, 52, 48, 53, 48, 54, 48, 55, 48, 56, 48, 57, 49, 48, 49, 49, 49, 50, 49, 51, 49, 52, 49, 53, 49, 54, 49, 55, 49, 56, 49, 57, 50, 48, 50, 49, 50, 50, 50, 51, 50, 52] : List UInt8).append [50, 53, 50, 54, 50, 55, 50, 56, 50, 57, 51, 48, 51, 49, 51, 50, 51, 51, 51, 52, 51, 53, 51, 54, 51, 55, 51, 56, 51, 57, 52, 48, 52, 49, 52, 50, 52, 51, 52, 52, 52, 53, 52, 54, 52, 55, 52, 56, 52, 57]).append (List.append [53, 48, 53, 49, 53, 50, 53, 51, 53, 52, 53, 53, 53, 54, 53, 55, 53, 56, 53, 57, 54, 48, 54, 49, 54, 50, 54, 51, 54, 52, 54, 53, 54, 54, 54, 55, 54, 56, 54, 57, 55, 48, 55, 49, 55, 50, 55, 51, 55, 52] [55, 53, 55, 54, 55, 55, 55, 56, 55, 57, 56, 48, 56, 49, 56, 50, 56, 51, 56, 52, 56, 53, 56, 54, 56, 55, 56, 56, 56, 57, 57, 48, 57, 49, 57, 50, 57, 51, 57, 52, 57, 53, 57, 54, 57, 55, 57, 56, 57, 57]) = smallsL := by decide +kernel
theorem smallsL_len : smallsL.length = 200 := by decide +kernel
def itoaL (n : Nat) : List UInt8 := if n < 10 then [UInt8.ofNat (48 + n)] else [UInt8.ofNat (48 + n / 10), UInt8.ofNat (48 + n % 10)]
theorem itoa_one {n : Nat} (h : n < 10) : (digitsL.take (n + 1)).drop n = itoaL n := by
  have : ∀ n : Fin 10, (digitsL.take (n.val + 1)).drop n.val = itoaL n.val := by decide
  exact this ⟨n, h⟩
theorem itoa_two {n : Nat} (h1 : 10 ≤ n) (h : n < 100) : (smallsL.take (n * 2 + 2)).drop (n * 2) = itoaL n := by
  have : ∀ n : Fin 100, 10 ≤ n.val → (smallsL.take (n.val * 2 + 2)).drop (n.val * 2) = itoaL n.val := by decide +kernel
  exact this ⟨n, h⟩ h1
set_option maxRecDepth 100000 in
theorem small_spec (n : Nat) (h : n < 100) : Ctr Tryz.prog G 183 [.d (.int .i64 n)] [] (.d (S (itoaL n))) [] := by
  refine Ctr.pure (M := M0) hmix Tryz.func183 rfl go183 ?_
  rcases Nat.lt_or_ge n 10 with h1 | h1
  · rw [← itoa_one h1]
    simp (config := { maxSteps := 1000000 }) (disch := ((try simp only [awL]); omega)) only [QR, QS, QT, QU, QV, QW, QX, QY, QZ, Q0, Q1, Q2, Tryz.f183, ↓awU, awV, awF, Qa, Qb, Qc, Qd, forall_const, ↓reduceIte, ↓reduceDIte, ↓Qe, Qf, Qg, Qh, Qi, Qj, Qk, Ql, Qm, Qn, Qo, Qp, Qq, Qr, Qs, implies_true, Qt, Qu, Qv, Qw, Qx, Qy, Qz, QA, QB, QC, QD, QE, QF, QG, QH, QI, QJ, QK, QL, QM, QN, QO, QP, QQ]
    first | done | rfl
  · rw [← itoa_two h1 h]
    have e1 : ((n : Int) * 2).toNat = n * 2 := by omega
    have e2 : ((n : Int) * 2 + 2).toNat = n * 2 + 2 := by omega
    simp (config := { maxSteps := 1000000 }) (disch := ((try simp only [awL]); omega)) only [QR, QS, QT, QU, QV, QW, QX, QY, QZ, Q0, Q1, Q2, smalls_eq, smallsL_len, e1, e2, Tryz.f183, ↓awU, awV, awF, Qa, Qb, Qc, Qd, forall_const, ↓reduceIte, ↓reduceDIte, ↓Qe, Qf, Qg, Qh, Qi, Qj, Qk, Ql, Qm, Qn, Qo, Qp, Qq, Qr, Qs, implies_true, Qt, Qu, Qv, Qw, Qx, Qy, Qz, QA, QB, QC, QD, QE, QF, QG, QH, QI, QJ, QK, QL, QM, QN, QO, QP, QQ]
    first | done | rfl
set_option maxRecDepth 100000 in
theorem formatInt_spec (n : Nat) (h : n < 100) : Ctr Tryz.prog G 148 [.d (.int .i64 n), .d (.int .i64 10)] [] (.d (S (itoaL n))) [] := by
  refine Ctr.pure (M := M0) hmix Tryz.func148 rfl go148 ?_
  simp (config := { maxSteps := 1000000 }) (disch := ((try simp only [awL]); omega)) only [QR, QS, QT, QU, QV, QW, QX, QY, QZ, Q0, Q1, Q2, Tryz.f148, ↓awU, awV, awF, Qa, Qb, Qc, Qd, forall_const, ↓reduceIte, ↓reduceDIte, ↓Qe, Qf, Qg, Qh, Qi, Qj, Qk, Ql, Qm, Qn, Qo, Qp, Qq, Qr, Qs, implies_true, Qt, Qu, Qv, Qw, Qx, Qy, Qz, QA, QB, QC, QD, QE, QF, QG, QH, QI, QJ, QK, QL, QM, QN, QO, QP, QQ]
  refine CallC.pure (small_spec n h) ?_
  simp (config := { maxSteps := 1000000 }) (disch := ((try simp only [awL]); omega)) only [QR, QS, QT, QU, QV, QW, QX, QY, QZ, Q0, Q1, Q2, ↓awU, awV, awF, Qa, Qb, Qc, Qd, forall_const, ↓reduceIte, ↓reduceDIte, ↓Qe, Qf, Qg, Qh, Qi, Qj, Qk, Ql, Qm, Qn, Qo, Qp, Qq, Qr, Qs, implies_true, Qt, Qu, Qv, Qw, Qx, Qy, Qz, QA, QB, QC, QD, QE, QF, QG, QH, QI, QJ, QK, QL, QM, QN, QO, QP, QQ]
  first | done | rfl
def numK (t : List Int) (k : Nat) : Nat := if pk t (k + 3) 3 = 0 then k + 5 else k + 4
end Go.Proofs.YtacepalmphbnfaaGreatDoor

namespace Go.Proofs.YtacepalmphbnfaaGreatDoor
open Go Go.Proofs Go.Abs
variable {G : Globals}
/-! The dice's dates, fields, grids of odd fields. -/
def fieldK (t : List Int) (k c : Nat) : Nat := if c = 1 then numK t k else if c = 2 then k + 4 else if c = 4 then numK t k + 1 else k + 1
end Go.Proofs.YtacepalmphbnfaaGreatDoor

namespace Go.Proofs.YtacepalmphbnfaaGreatDoor
open Go Go.Proofs Go.Abs
variable {G : Globals}
/-! The dice's grids of odd fields. -/
end Go.Proofs.YtacepalmphbnfaaGreatDoor

namespace Go.Proofs.YtacepalmphbnfaaGreatDoor
open Go Go.Proofs Go.Abs Go.RowKit Go.Shelf
variable {G : Globals}
/-! Texts: repeated, their runes counted, their ends cut. -/
def Tryz.laysRuneCount_ren : Go.Shelf.Ren := ⟨fun | 195 => 72 | n => n, fun | 9 => 9 | 3 => 3 | 0 => 0 | 4 => 4 | n => n, fun | n => n⟩
theorem Tryz.laysRuneCount : Go.Proofs.Lays.n195 Tryz.prog Tryz.laysRuneCount_ren where
  mixed := by kernel_rfl
  f195 := Tryz.func72.trans (congrArg some (by kernel_rfl))
  t0 := Tryz.underlying0
  a0 := Tryz.isAgg0
  z0 := Tryz.sizeOf0
  v0 := Tryz.zeroValue0
  t3 := Tryz.underlying3
  a3 := Tryz.isAgg3
  z3 := Tryz.sizeOf3
  v3 := Tryz.zeroValue3
  t4 := Tryz.underlying4
  a4 := Tryz.isAgg4
  z4 := Tryz.sizeOf4
  v4 := Tryz.zeroValue4
  t9 := Tryz.underlying9
  a9 := Tryz.isAgg9
  z9 := Tryz.sizeOf9
  v9 := Tryz.zeroValue9

def Tryz.laysCutSuffix_ren : Go.Shelf.Ren := ⟨fun | 104 => 96 | 211 => 129 | 207 => 166 | n => n, fun | 9 => 9 | 4 => 4 | 24 => 52 | 3 => 3 | n => n, fun | n => n⟩
theorem Tryz.laysCutSuffix : Go.Proofs.Lays.n104 Tryz.prog Tryz.laysCutSuffix_ren where
  mixed := by kernel_rfl
  f104 := Tryz.func96.trans (congrArg some (by kernel_rfl))
  f207 := Tryz.func166.trans (congrArg some (by kernel_rfl))
  f211 := Tryz.func129.trans (congrArg some (by kernel_rfl))
  t3 := Tryz.underlying3
  a3 := Tryz.isAgg3
  z3 := Tryz.sizeOf3
  v3 := Tryz.zeroValue3
  t4 := Tryz.underlying4
  a4 := Tryz.isAgg4
  z4 := Tryz.sizeOf4
  v4 := Tryz.zeroValue4
  t9 := Tryz.underlying9
  a9 := Tryz.isAgg9
  z9 := Tryz.sizeOf9
  v9 := Tryz.zeroValue9
  t24 := Tryz.underlying52
  a24 := Tryz.isAgg52
  z24 := Tryz.sizeOf52
  v24 := Tryz.zeroValue52

def Tryz.laysTrimSuffix_ren : Go.Shelf.Ren := ⟨fun | 102 => 97 | 209 => 130 | 207 => 166 | n => n, fun | 9 => 9 | 4 => 4 | 3 => 3 | n => n, fun | n => n⟩
theorem Tryz.laysTrimSuffix : Go.Proofs.Lays.n102 Tryz.prog Tryz.laysTrimSuffix_ren where
  mixed := by kernel_rfl
  f102 := Tryz.func97.trans (congrArg some (by kernel_rfl))
  f207 := Tryz.func166.trans (congrArg some (by kernel_rfl))
  f209 := Tryz.func130.trans (congrArg some (by kernel_rfl))
  t3 := Tryz.underlying3
  a3 := Tryz.isAgg3
  z3 := Tryz.sizeOf3
  v3 := Tryz.zeroValue3
  t4 := Tryz.underlying4
  a4 := Tryz.isAgg4
  z4 := Tryz.sizeOf4
  v4 := Tryz.zeroValue4
  t9 := Tryz.underlying9
  a9 := Tryz.isAgg9
  z9 := Tryz.sizeOf9
  v9 := Tryz.zeroValue9

theorem Tryz.laysRepeat : Lays.n105 Tryz.prog Tryz.laysReplaceAll_ren := Tryz.laysReplaceAll
/-- How many runes a text has. -/
def rcL (l : List UInt8) : Nat := Lib.runeCount (bs l)
theorem below_iter (w : World) (s : ByteArray) (pos : Nat) : Below w.heap.size w (w.iter s pos) := Below.alloc (Below.refl _ _) (Nat.le_refl _) _
theorem runeCount_spec (l : List UInt8) (hl : l.length ≤ 1000000000) : Ctr Tryz.prog G 72 [.d (S l)] [] (.d (.int .i64 (rcL l))) [] :=
  Ctr.of_calls_s go72 fun h w => (Any.utf8_RuneCountInString Tryz.laysRuneCount (bs l) w (by rw [bs_size]; omega)).mono (by
    rintro e w' ⟨rfl, pos, rfl⟩; exact ⟨_, rfl, .int _ _, below_iter _ _ _⟩)
theorem repeat1 (c : UInt8) : ∀ n : Nat, Lib.repeatL [c] n = List.replicate n c
  | 0 => rfl
  | n + 1 => by rw [Lib.repeatL, repeat1 c n, List.replicate_succ]; rfl
theorem repeat_spec (c : UInt8) (n : Nat) (hn : n ≤ 1000000000) : Ctr Tryz.prog G 71 [.d (S [c]), .d (.int .i64 n)] [] (.d (S (List.replicate n c))) [] := by
  refine Ctr.of_calls go71 fun h ρ w vs q r => ?_
  obtain ⟨v, u, rfl, hv, hu⟩ := r.inv2
  rw [hv.str_inv, hu.int_inv]
  refine (Any.strings_Repeat Tryz.laysRepeat extraB (bs [c]) n w (by omega) (by rw [bs_size]; simp; omega)).mono ?_
  rintro e w' ⟨rfl, hb⟩
  refine ⟨_, rfl, ?_, hb⟩
  have e1 : (bs [c]).data.toList = [c] := rfl
  rw [e1, repeat1]
  exact .str _
theorem cutSuffix_spec (l p : List UInt8) (hl : l.length ≤ 1000000000) : Ctr Tryz.prog G 96 [.d (S l), .d (S p)] [] (.d (.tup [S (Lib.trimSuffix l p), .bool (Lib.hasSuffix l p)])) [] :=
  Ctr.of_calls_ss go96 fun h w => (Any.strings_CutSuffix Tryz.laysCutSuffix (bs l) (bs p) w (by rw [bs_size]; omega)).mono (by
    rintro e w' ⟨rfl, rfl⟩
    refine ⟨_, rfl, .tup _ _ rfl fun i v x hv hx => ?_, .refl _ _⟩
    rcases i with _ | _ | i <;> simp at hv hx
    · subst hv; subst hx; exact .str _
    · subst hv; subst hx; exact .bool _)
theorem trimSuffix_spec (l p : List UInt8) (hl : l.length ≤ 1000000000) : Ctr Tryz.prog G 97 [.d (S l), .d (S p)] [] (.d (S (Lib.trimSuffix l p))) [] :=
  Ctr.of_calls_ss go97 fun h w => (Any.strings_TrimSuffix Tryz.laysTrimSuffix (bs l) (bs p) w (by rw [bs_size]; omega)).mono (by
    rintro e w' ⟨rfl, rfl⟩; exact ⟨_, rfl, .str _, .refl _ _⟩)
end Go.Proofs.YtacepalmphbnfaaGreatDoor

namespace Go.Proofs.YtacepalmphbnfaaGreatDoor
open Go Go.Proofs Go.Abs
variable {G : Globals}
/-! The lines of a text. -/
theorem cutR_lt {c : UInt8} : ∀ {s : List UInt8}, c ∈ s → (cutR c s).length < s.length
  | b :: l, h => by
    by_cases e : b = c
    · simp [cutR, e]
    · have := cutR_lt ((List.mem_cons.1 h).resolve_left fun x => e x.symm)
      simp only [cutR, e, if_false, List.length_cons]; omega
theorem cut_join {c : UInt8} : ∀ {s : List UInt8}, c ∈ s → s = (cutL c s ++ [c]) ++ cutR c s
  | b :: l, h => by
    by_cases e : b = c
    · simp [cutR, cutL, e]
    · have := cut_join ((List.mem_cons.1 h).resolve_left fun x => e x.symm)
      simp only [cutR, cutL, e, if_false]
      conv => lhs; rw [this]
      simp
/-- The pieces of a text, each with its line end. -/
def rawL (s : List UInt8) : List (List UInt8) :=
  if h : (10 : UInt8) ∈ s then (cutL 10 s ++ [10]) :: rawL (cutR 10 s) else if s = [] then [] else [s]
termination_by s.length
decreasing_by exact cutR_lt h
theorem rawL_nil : rawL [] = [] := by rw [rawL]; simp
theorem rawL_last {s : List UInt8} (h : (10 : UInt8) ∉ s) (h2 : s ≠ []) : rawL s = [s] := by rw [rawL, dif_neg h, if_neg h2]
theorem rawL_more {s : List UInt8} (h : (10 : UInt8) ∈ s) : rawL s = (cutL 10 s ++ [10]) :: rawL (cutR 10 s) := by rw [rawL, dif_pos h]
theorem cut_len {c : UInt8} : ∀ {s : List UInt8}, c ∈ s → (cutL c s).length + 1 + (cutR c s).length = s.length
  | b :: l, h => by
    by_cases e : b = c
    · simp [cutR, cutL, e]; omega
    · have := cut_len ((List.mem_cons.1 h).resolve_left fun x => e x.symm)
      simp only [cutR, cutL, e, if_false, List.length_cons]; omega
theorem rawL_len : ∀ (n : Nat) (s : List UInt8), s.length = n → (rawL s).length ≤ n ∧ ∀ p ∈ rawL s, p.length ≤ n := by
  intro n
  induction n using Nat.strongRecOn with
  | _ n ih =>
    intro s hs
    by_cases h : (10 : UInt8) ∈ s
    · have hl := cut_len h
      obtain ⟨i1, i2⟩ := ih _ (by have := cutR_lt h; omega) (cutR 10 s) rfl
      rw [rawL_more h]
      refine ⟨by simp; omega, fun p hp => ?_⟩
      rcases List.mem_cons.1 hp with rfl | hp
      · simp; omega
      · have := i2 p hp; omega
    · by_cases h2 : s = []
      · subst h2; rw [rawL_nil]; simp
      · rw [rawL_last h h2]
        refine ⟨?_, fun p hp => ?_⟩
        · have : 0 < s.length := List.length_pos_iff.2 h2
          simp; omega
        · simp at hp; subst hp; omega
/-- A piece without its line end. -/
def lnF (p : List UInt8) : List UInt8 := if Lib.hasSuffix p [10] then Lib.trimSuffix (Lib.trimSuffix p [10]) [13] else Lib.trimSuffix p [10]
def linesL (s : List UInt8) : List (List UInt8) := (rawL s).map lnF
def MY : Muts := fun k => k == 3000000
theorem MY_n {k : Nat} (h : k < 3000000) : MY k = false := by
  simp only [MY, beq_eq_false_iff_ne]; exact Nat.ne_of_lt h
theorem trimS_len (s p : List UInt8) : (Lib.trimSuffix s p).length ≤ s.length := by unfold Lib.trimSuffix; split <;> simp
theorem Tdo_cons {x : D} {r : List D} {t : List (D × Bool)} (h : Tdo (x :: r) t) : (∃ t', t = (x, true) :: t' ∧ Tdo r t') ∨ t = [(x, false)] := by
  match t, h with
  | (z, true) :: t, h => exact .inl ⟨t, by rw [h.1], h.2⟩
  | (z, false) :: t, h => exact .inr (by rw [h.1, h.2])
theorem Tdo_nil {t : List (D × Bool)} (h : Tdo [] t) : t = [] := by
  match t, h with
  | [], _ => rfl
theorem strs_get {l : List (List UInt8)} {i : Nat} {x : D} (h : (strs l)[i]? = some x) : ∃ y, l[i]? = some y ∧ x = S y := by
  simp only [strs, List.getElem?_map] at h
  cases e : l[i]? with
  | none => simp [e] at h
  | some y => simp [e] at h; exact ⟨y, rfl, h.symm⟩
set_option maxHeartbeats 4000000 in
set_option maxRecDepth 100000 in
theorem lines1_spec (s : List UInt8) (hs : s.length ≤ 1000000000) : IterC Tryz.prog G 127 [.ptr 1 0] [.box [.d (S s)]] (strs (rawL s)) := by
  refine IterC.body (M := MY) hmix Tryz.func127 rfl go127 ?_
  intro lp J todo hJ hT
  simp (config := { maxSteps := 1000000 }) (disch := ((try simp only [awL]); omega)) only [QR, QS, QT, QU, QV, QW, QX, QY, QZ, Q0, Q1, Q2, MY_n, Tryz.f127, ↓awU, awV, awF, Qa, Qb, Qc, Qd, forall_const, ↓reduceIte, ↓reduceDIte, ↓Qe, Qf, Qg, Qh, Qi, Qj, Qk, Ql, Qm, Qn, Qo, Qp, Qq, Qr, Qs, implies_true, Qt, Qu, Qv, Qw, Qx, Qy, Qz, QA, QB, QC, QD, QE, QF, QG, QH, QI, QJ, QK, QL, QM, QN, QO, QP, QQ]
  refine LoopC.fr 3 (α := List UInt8 × List (D × Bool)) (fun x => x.1.length) (fun x => []) (fun x => [.ext J x.2, .box [.d (S x.1)]]) (fun x => x.1.length ≤ 1000000000 ∧ Tdo (strs (rawL x.1)) x.2) (s, todo) ⟨hs, hT⟩ ?_ ?_
  · exact ⟨[some 0, some 1], rfl, by simp, by simp [setsA, keepA, SWeak, AWeak], by simp [HWeak, BWeak, SWeak, AWeak]⟩
  · rintro ⟨r, t⟩ ⟨h1, h2⟩
    simp only at h1 h2
    simp only [awK, Nat.reduceMod, Nat.reduceDiv, reduceIte]
    by_cases hn : r = []
    · subst hn
      rw [rawL_nil] at h2
      rw [Tdo_nil h2]
      simp (config := { maxSteps := 1000000 }) (disch := ((try simp only [awL]); omega)) only [QR, QS, QT, QU, QV, QW, QX, QY, QZ, Q0, Q1, Q2, MY_n, ↓awU, awV, awF, Qa, Qb, Qc, Qd, forall_const, ↓reduceIte, ↓reduceDIte, ↓Qe, Qf, Qg, Qh, Qi, Qj, Qk, Ql, Qm, Qn, Qo, Qp, Qq, Qr, Qs, implies_true, Qt, Qu, Qv, Qw, Qx, Qy, Qz, QA, QB, QC, QD, QE, QF, QG, QH, QI, QJ, QK, QL, QM, QN, QO, QP, QQ]
      exact ⟨[some 0], rfl, by simp, by simp [HWeak, BWeak, SWeak, AWeak], .inl (by simp [AWeak, SWeak])⟩
    · have hp : 0 < r.length := List.length_pos_iff.2 hn
      simp (config := { maxSteps := 1000000 }) (disch := ((try simp only [awL]); omega)) only [QR, QS, QT, QU, QV, QW, QX, QY, QZ, Q0, Q1, Q2, MY_n, ↓awU, awV, awF, Qa, Qb, Qc, Qd, forall_const, ↓reduceIte, ↓reduceDIte, ↓Qe, Qf, Qg, Qh, Qi, Qj, Qk, Ql, Qm, Qn, Qo, Qp, Qq, Qr, Qs, implies_true, Qt, Qu, Qv, Qw, Qx, Qy, Qz, QA, QB, QC, QD, QE, QF, QG, QH, QI, QJ, QK, QL, QM, QN, QO, QP, QQ]
      refine CallC.of (sIndexByte_spec r 10) (by rfl) ?_
      obtain ⟨i1, i2⟩ := cut_index 10 r
      by_cases h : (10 : UInt8) ∈ r
      · obtain ⟨k, g1, g2, g3, g4⟩ := i1 h
        rw [rawL_more h] at h2
        rw [g1]
        have e1 : r.take (k + 1) = cutL 10 r ++ [10] := by
          have hk : (cutL 10 r ++ [(10 : UInt8)]).length = k + 1 := by rw [← g3]; simp; omega
          conv => lhs; rw [cut_join h]
          rw [← hk, List.take_left]
        have hlt := cutR_lt h
        rcases Tdo_cons h2 with ⟨t', rfl, h3⟩ | rfl
        · simp (config := { maxSteps := 1000000 }) (disch := ((try simp only [awL]); omega)) only [QR, QS, QT, QU, QV, QW, QX, QY, QZ, Q0, Q1, Q2, MY_n, ↓awU, awV, awF, Qa, Qb, Qc, Qd, forall_const, ↓reduceIte, ↓reduceDIte, ↓Qe, Qf, Qg, Qh, Qi, Qj, Qk, Ql, Qm, Qn, Qo, Qp, Qq, Qr, Qs, implies_true, Qt, Qu, Qv, Qw, Qx, Qy, Qz, QA, QB, QC, QD, QE, QF, QG, QH, QI, QJ, QK, QL, QM, QN, QO, QP, QQ]
          refine ⟨by rfl, ?_⟩
          rw [e1, g4]
          refine yieldK.by rfl hJ rfl rfl ?_
          simp (config := { maxSteps := 1000000 }) (disch := ((try simp only [awL]); omega)) only [QR, QS, QT, QU, QV, QW, QX, QY, QZ, Q0, Q1, Q2, MY_n, ↓awU, awV, awF, Qa, Qb, Qc, Qd, forall_const, ↓reduceIte, ↓reduceDIte, ↓Qe, Qf, Qg, Qh, Qi, Qj, Qk, Ql, Qm, Qn, Qo, Qp, Qq, Qr, Qs, implies_true, Qt, Qu, Qv, Qw, Qx, Qy, Qz, QA, QB, QC, QD, QE, QF, QG, QH, QI, QJ, QK, QL, QM, QN, QO, QP, QQ]
          exact ⟨(cutR 10 r, t'), ⟨by simp only; omega, h3⟩, hlt, ⟨[some 0, some 1], rfl, by simp, by simp [setsA, keepA, SWeak, AWeak], by simp [HWeak, BWeak, SWeak, AWeak]⟩⟩
        · simp (config := { maxSteps := 1000000 }) (disch := ((try simp only [awL]); omega)) only [QR, QS, QT, QU, QV, QW, QX, QY, QZ, Q0, Q1, Q2, MY_n, ↓awU, awV, awF, Qa, Qb, Qc, Qd, forall_const, ↓reduceIte, ↓reduceDIte, ↓Qe, Qf, Qg, Qh, Qi, Qj, Qk, Ql, Qm, Qn, Qo, Qp, Qq, Qr, Qs, implies_true, Qt, Qu, Qv, Qw, Qx, Qy, Qz, QA, QB, QC, QD, QE, QF, QG, QH, QI, QJ, QK, QL, QM, QN, QO, QP, QQ]
          refine ⟨by rfl, ?_⟩
          rw [e1, g4]
          refine yieldK.by rfl hJ rfl rfl ?_
          simp (config := { maxSteps := 1000000 }) (disch := ((try simp only [awL]); omega)) only [QR, QS, QT, QU, QV, QW, QX, QY, QZ, Q0, Q1, Q2, MY_n, ↓awU, awV, awF, Qa, Qb, Qc, Qd, forall_const, ↓reduceIte, ↓reduceDIte, ↓Qe, Qf, Qg, Qh, Qi, Qj, Qk, Ql, Qm, Qn, Qo, Qp, Qq, Qr, Qs, implies_true, Qt, Qu, Qv, Qw, Qx, Qy, Qz, QA, QB, QC, QD, QE, QF, QG, QH, QI, QJ, QK, QL, QM, QN, QO, QP, QQ]
          exact ⟨[some 0], rfl, by simp, by simp [HWeak, BWeak, SWeak, AWeak], .inl (by simp [AWeak, SWeak])⟩
      · obtain ⟨g1, g2, g3⟩ := i2 h
        rw [rawL_last h hn] at h2
        rw [g1]
        rcases Tdo_cons h2 with ⟨t', rfl, h3⟩ | rfl
        · simp (config := { maxSteps := 1000000 }) (disch := ((try simp only [awL]); omega)) only [QR, QS, QT, QU, QV, QW, QX, QY, QZ, Q0, Q1, Q2, MY_n, ↓awU, awV, awF, Qa, Qb, Qc, Qd, forall_const, ↓reduceIte, ↓reduceDIte, ↓Qe, Qf, Qg, Qh, Qi, Qj, Qk, Ql, Qm, Qn, Qo, Qp, Qq, Qr, Qs, implies_true, Qt, Qu, Qv, Qw, Qx, Qy, Qz, QA, QB, QC, QD, QE, QF, QG, QH, QI, QJ, QK, QL, QM, QN, QO, QP, QQ]
          refine yieldK.by rfl hJ rfl rfl ?_
          simp (config := { maxSteps := 1000000 }) (disch := ((try simp only [awL]); omega)) only [QR, QS, QT, QU, QV, QW, QX, QY, QZ, Q0, Q1, Q2, MY_n, ↓awU, awV, awF, Qa, Qb, Qc, Qd, forall_const, ↓reduceIte, ↓reduceDIte, ↓Qe, Qf, Qg, Qh, Qi, Qj, Qk, Ql, Qm, Qn, Qo, Qp, Qq, Qr, Qs, implies_true, Qt, Qu, Qv, Qw, Qx, Qy, Qz, QA, QB, QC, QD, QE, QF, QG, QH, QI, QJ, QK, QL, QM, QN, QO, QP, QQ]
          exact ⟨([], t'), ⟨by simp, by rw [rawL_nil]; exact h3⟩, hp, ⟨[some 0, some 1], rfl, by simp, by simp [setsA, keepA, SWeak, AWeak], by simp [HWeak, BWeak, SWeak, AWeak]⟩⟩
        · simp (config := { maxSteps := 1000000 }) (disch := ((try simp only [awL]); omega)) only [QR, QS, QT, QU, QV, QW, QX, QY, QZ, Q0, Q1, Q2, MY_n, ↓awU, awV, awF, Qa, Qb, Qc, Qd, forall_const, ↓reduceIte, ↓reduceDIte, ↓Qe, Qf, Qg, Qh, Qi, Qj, Qk, Ql, Qm, Qn, Qo, Qp, Qq, Qr, Qs, implies_true, Qt, Qu, Qv, Qw, Qx, Qy, Qz, QA, QB, QC, QD, QE, QF, QG, QH, QI, QJ, QK, QL, QM, QN, QO, QP, QQ]
          refine yieldK.by rfl hJ rfl rfl ?_
          simp (config := { maxSteps := 1000000 }) (disch := ((try simp only [awL]); omega)) only [QR, QS, QT, QU, QV, QW, QX, QY, QZ, Q0, Q1, Q2, MY_n, ↓awU, awV, awF, Qa, Qb, Qc, Qd, forall_const, ↓reduceIte, ↓reduceDIte, ↓Qe, Qf, Qg, Qh, Qi, Qj, Qk, Ql, Qm, Qn, Qo, Qp, Qq, Qr, Qs, implies_true, Qt, Qu, Qv, Qw, Qx, Qy, Qz, QA, QB, QC, QD, QE, QF, QG, QH, QI, QJ, QK, QL, QM, QN, QO, QP, QQ]
          exact ⟨[some 0], rfl, by simp, by simp [HWeak, BWeak, SWeak, AWeak], .inl (by simp [AWeak, SWeak])⟩
theorem lines0_spec (s : List UInt8) : Ctr Tryz.prog G 95 [.d (S s)] [] (.fn (.func 127) [] [.ptr 0 0]) [.box [.d (S s)]] := by
  refine Ctr.body (M := M0) hmix Tryz.func95 rfl go95 ?_
  simp (config := { maxSteps := 1000000 }) (disch := ((try simp only [awL]); omega)) only [QR, QS, QT, QU, QV, QW, QX, QY, QZ, Q0, Q1, Q2, Tryz.f95, ↓awU, awV, awF, Qa, Qb, Qc, Qd, forall_const, ↓reduceIte, ↓reduceDIte, ↓Qe, Qf, Qg, Qh, Qi, Qj, Qk, Ql, Qm, Qn, Qo, Qp, Qq, Qr, Qs, implies_true, Qt, Qu, Qv, Qw, Qx, Qy, Qz, QA, QB, QC, QD, QE, QF, QG, QH, QI, QJ, QK, QL, QM, QN, QO, QP, QQ]
  exact ⟨[some 0], rfl, by simp, by simp [HWeak, BWeak, SWeak, AWeak], .inl (by simp [AWeak, SWeak])⟩
set_option maxHeartbeats 4000000 in
set_option maxRecDepth 100000 in
theorem lines_spec (s : List UInt8) (hs : s.length ≤ 1000000000) : Ctr Tryz.prog G 56 [.d (S s)] [] (.d (Ss (linesL s) false)) [] := by
  obtain ⟨r, hr⟩ : ∃ r, r = linesL s := ⟨_, rfl⟩
  rw [← hr]
  refine Ctr.pure (M := M0) hmix Tryz.func56 rfl go56 ?_
  obtain ⟨n1, n2⟩ := rawL_len _ s rfl
  have rl : r.length = (rawL s).length := by rw [hr, linesL, List.length_map]
  simp (config := { maxSteps := 1000000 }) (disch := ((try simp only [awL]); omega)) only [QR, QS, QT, QU, QV, QW, QX, QY, QZ, Q0, Q1, Q2, Tryz.f56, ↓awU, awV, awF, Qa, Qb, Qc, Qd, forall_const, ↓reduceIte, ↓reduceDIte, ↓Qe, Qf, Qg, Qh, Qi, Qj, Qk, Ql, Qm, Qn, Qo, Qp, Qq, Qr, Qs, implies_true, Qt, Qu, Qv, Qw, Qx, Qy, Qz, QA, QB, QC, QD, QE, QF, QG, QH, QI, QJ, QK, QL, QM, QN, QO, QP, QQ]
  refine CallC.by (lines0_spec s) rfl rfl (by simp) ?_
  simp (config := { maxSteps := 1000000 }) (disch := ((try simp only [awL]); omega)) only [QR, QS, QT, QU, QV, QW, QX, QY, QZ, Q0, Q1, Q2, ↓awU, awV, awF, Qa, Qb, Qc, Qd, forall_const, ↓reduceIte, ↓reduceDIte, ↓Qe, Qf, Qg, Qh, Qi, Qj, Qk, Ql, Qm, Qn, Qo, Qp, Qq, Qr, Qs, implies_true, Qt, Qu, Qv, Qw, Qx, Qy, Qz, QA, QB, QC, QD, QE, QF, QG, QH, QI, QJ, QK, QL, QM, QN, QO, QP, QQ]
  refine RangeC.all (α := Unit) (lines1_spec s hs) [some 0, none] 0 [(3, .ptr 0 0)] (fun k _ => [.box [.lsl 1 1 0 k], .row false (strs (r.take k))]) (fun k _ => True) rfl rfl rfl rfl rfl rfl rfl (by simp) () trivial (by simp [setsA, keepA, SWeak, AWeak]) (by simp [HWeak, BWeak, SWeak, AWeak, strs]) (fun _ _ => ⟨rfl, rfl⟩) ?_ ?_
  · rintro k d ⟨⟩ hk hd -
    rw [strs_length] at hk
    obtain ⟨y, hy, rfl⟩ := strs_get hd
    have hyl := n2 y (List.mem_of_getElem? hy)
    have e : (r.take k).length = k := by rw [List.length_take]; omega
    have st := @strs_length (r.take k)
    rw [e] at st
    have e2 : strs (r.take k) ++ [D.str (bs (lnF y))] = strs (r.take (k + 1)) := by
      rw [List.take_add_one, hr, linesL, List.getElem?_map, hy]; simp [strs]
    simp only [awK, Nat.reduceMod, Nat.reduceDiv, reduceIte]
    simp (config := { maxSteps := 1000000 }) (disch := ((try simp only [awL]); omega)) only [QR, QS, QT, QU, QV, QW, QX, QY, QZ, Q0, Q1, Q2, st, ↓awU, awV, awF, Qa, Qb, Qc, Qd, forall_const, ↓reduceIte, ↓reduceDIte, ↓Qe, Qf, Qg, Qh, Qi, Qj, Qk, Ql, Qm, Qn, Qo, Qp, Qq, Qr, Qs, implies_true, Qt, Qu, Qv, Qw, Qx, Qy, Qz, QA, QB, QC, QD, QE, QF, QG, QH, QI, QJ, QK, QL, QM, QN, QO, QP, QQ]
    refine CallC.of (cutSuffix_spec y [10] (by omega)) (by rfl) ?_
    cases hb : Lib.hasSuffix y [10]
    · have e3 : lnF y = Lib.trimSuffix y [10] := by simp [lnF, hb]
      rw [e3] at e2
      simp (config := { maxSteps := 1000000 }) (disch := ((try simp only [awL]); omega)) only [QR, QS, QT, QU, QV, QW, QX, QY, QZ, Q0, Q1, Q2, st, ↓awU, awV, awF, Qa, Qb, Qc, Qd, forall_const, ↓reduceIte, ↓reduceDIte, ↓Qe, Qf, Qg, Qh, Qi, Qj, Qk, Ql, Qm, Qn, Qo, Qp, Qq, Qr, Qs, implies_true, Qt, Qu, Qv, Qw, Qx, Qy, Qz, QA, QB, QC, QD, QE, QF, QG, QH, QI, QJ, QK, QL, QM, QN, QO, QP, QQ]
      rw [e2]
      exact RndE.mk (⟨[some 0, some 3], rfl, by simp, by simp [setsA, keepA, SWeak, AWeak], by simp [HWeak, BWeak, SWeak, AWeak]⟩ : Weak 0 _ _ _ [.box [.lsl 1 1 0 (k + 1)], .row false (strs (r.take (k + 1)))]) ⟨(), rfl⟩
    · have e3 : lnF y = Lib.trimSuffix (Lib.trimSuffix y [10]) [13] := by simp [lnF, hb]
      rw [e3] at e2
      simp (config := { maxSteps := 1000000 }) (disch := ((try simp only [awL]); omega)) only [QR, QS, QT, QU, QV, QW, QX, QY, QZ, Q0, Q1, Q2, st, ↓awU, awV, awF, Qa, Qb, Qc, Qd, forall_const, ↓reduceIte, ↓reduceDIte, ↓Qe, Qf, Qg, Qh, Qi, Qj, Qk, Ql, Qm, Qn, Qo, Qp, Qq, Qr, Qs, implies_true, Qt, Qu, Qv, Qw, Qx, Qy, Qz, QA, QB, QC, QD, QE, QF, QG, QH, QI, QJ, QK, QL, QM, QN, QO, QP, QQ]
      refine CallC.of (trimSuffix_spec (Lib.trimSuffix y [10]) [13] (by have := trimS_len y [10]; omega)) (by rfl) ?_
      simp (config := { maxSteps := 1000000 }) (disch := ((try simp only [awL]); omega)) only [QR, QS, QT, QU, QV, QW, QX, QY, QZ, Q0, Q1, Q2, st, ↓awU, awV, awF, Qa, Qb, Qc, Qd, forall_const, ↓reduceIte, ↓reduceDIte, ↓Qe, Qf, Qg, Qh, Qi, Qj, Qk, Ql, Qm, Qn, Qo, Qp, Qq, Qr, Qs, implies_true, Qt, Qu, Qv, Qw, Qx, Qy, Qz, QA, QB, QC, QD, QE, QF, QG, QH, QI, QJ, QK, QL, QM, QN, QO, QP, QQ]
      rw [e2]
      exact RndE.mk (⟨[some 0, some 3], rfl, by simp, by simp [setsA, keepA, SWeak, AWeak], by simp [HWeak, BWeak, SWeak, AWeak]⟩ : Weak 0 _ _ _ [.box [.lsl 1 1 0 (k + 1)], .row false (strs (r.take (k + 1)))]) ⟨(), rfl⟩
  · rintro ⟨⟩ -
    simp only [awK, Nat.reduceMod, Nat.reduceDiv, reduceIte]
    have sl := @strs_length r
    rw [List.take_of_length_le (by rw [strs_length]; omega)]
    simp (config := { maxSteps := 1000000 }) (disch := ((try simp only [awL]); omega)) only [QR, QS, QT, QU, QV, QW, QX, QY, QZ, Q0, Q1, Q2, sl, ↓awU, awV, awF, Qa, Qb, Qc, Qd, forall_const, ↓reduceIte, ↓reduceDIte, ↓Qe, Qf, Qg, Qh, Qi, Qj, Qk, Ql, Qm, Qn, Qo, Qp, Qq, Qr, Qs, implies_true, Qt, Qu, Qv, Qw, Qx, Qy, Qz, QA, QB, QC, QD, QE, QF, QG, QH, QI, QJ, QK, QL, QM, QN, QO, QP, QQ]
    rw [strs_length, ← rl, cut_all (by rw [strs_length])]
end Go.Proofs.YtacepalmphbnfaaGreatDoor

namespace Go.Proofs.YtacepalmphbnfaaGreatDoor
open Go Go.Proofs Go.Abs
variable {G : Globals}
/-! The reference's lines. -/
theorem hasS_snoc (p : List UInt8) (b c : UInt8) : Lib.hasSuffix (p ++ [b]) [c] = (c == b) := by
  simp [Lib.hasSuffix, List.isSuffixOf, List.isPrefixOf]
theorem trimS_snoc (p : List UInt8) (b c : UInt8) : Lib.trimSuffix (p ++ [b]) [c] = if c == b then p else p ++ [b] := by
  simp [Lib.trimSuffix, hasS_snoc]
theorem trimS_nil (c : UInt8) : Lib.trimSuffix [] [c] = [] := by simp [Lib.trimSuffix]
theorem lnF_nl (p : List UInt8) : lnF (p ++ [10]) = Lib.trimSuffix p [13] := by
  simp [lnF, hasS_snoc, trimS_snoc]
theorem cut_at {c : UInt8} : ∀ {t : List UInt8} {k : Nat}, k < t.length → t.getD k 0 = c → c ∉ t.take k → cutL c t = t.take k ∧ cutR c t = t.drop (k + 1) ∧ c ∈ t
  | b :: t, 0, _, h2, _ => by
    simp at h2
    simp [cutL, cutR, h2]
  | b :: t, k + 1, h1, h2, h3 => by
    have hb : ¬ b = c := fun e => h3 (by simp [e])
    obtain ⟨i1, i2, i3⟩ := cut_at (c := c) (t := t) (k := k) (by simpa using h1) (by simpa using h2) (fun hm => h3 (by simp [hm]))
    simp [cutL, cutR, hb, i1, i2, i3]
theorem linesL_nil : linesL [] = [] := by simp [linesL, rawL_nil]
end Go.Proofs.YtacepalmphbnfaaGreatDoor

namespace Go.Proofs.YtacepalmphbnfaaGreatDoor
open Go Go.Proofs Go.Abs
variable {G : Globals}
/-! The places of a text's code points; fixed.offsets. -/
abbrev Is (l : List Int) : D := .sl l.length false (ints .i64 l)
theorem dec_end (l : List UInt8) (p : Nat) (h : p < l.length) : p < p + (dec l p).2 ∧ p + (dec l p).2 ≤ l.length := by
  rcases decw l p h with ⟨_, e⟩ | ⟨_, h1, h2, _⟩
  · rw [e]; simp only; omega
  · omega
/-- The places of the code points from one on. -/
def posF (l : List UInt8) (p : Nat) : List Int :=
  if h : p < l.length then (p : Int) :: posF l (p + (dec l p).2) else []
termination_by l.length - p
decreasing_by have := dec_end l p h; omega
theorem posF_more {l : List UInt8} {p : Nat} (h : p < l.length) : posF l p = (p : Int) :: posF l (p + (dec l p).2) := by rw [posF, dif_pos h]
theorem posF_end {l : List UInt8} {p : Nat} (h : ¬ p < l.length) : posF l p = [] := by rw [posF, dif_neg h]
theorem posF_len : ∀ (n : Nat) (l : List UInt8) (p : Nat), l.length - p = n → (posF l p).length ≤ n := by
  intro n
  induction n using Nat.strongRecOn with
  | _ n ih =>
    intro l p hn
    by_cases h : p < l.length
    · rw [posF_more h, List.length_cons]
      have := dec_end l p h
      have := ih _ (by omega) l (p + (dec l p).2) rfl
      omega
    · rw [posF_end h]; simp
theorem posF_bound : ∀ (n : Nat) (l : List UInt8) (p : Nat), l.length - p = n → ∀ c ∈ posF l p, (p : Int) ≤ c ∧ c < l.length := by
  intro n
  induction n using Nat.strongRecOn with
  | _ n ih =>
    intro l p hn c hc
    by_cases h : p < l.length
    · rw [posF_more h] at hc
      have hd := dec_end l p h
      rcases List.mem_cons.1 hc with rfl | hc
      · omega
      · have := ih _ (by omega) l (p + (dec l p).2) rfl c hc
        omega
    · rw [posF_end h] at hc; cases hc
theorem ints_snoc {k : IntKind} {a : List Int} {x : Int} : ints k a ++ [D.int k x] = ints k (a ++ [x]) := by simp [ints]
/-- The places of all, and the length. -/
def offL (l : List UInt8) : List Int := posF l 0 ++ [(l.length : Int)]
set_option maxHeartbeats 4000000 in
set_option maxRecDepth 100000 in
theorem offsets_spec (l : List UInt8) (hl : l.length ≤ 1000000000) : Ctr Tryz.prog G 100 [.d (S l)] [] (.d (Is (offL l))) [] := by
  obtain ⟨r, hr⟩ : ∃ r, r = offL l := ⟨_, rfl⟩
  rw [← hr]
  refine Ctr.pure (M := M0) hmix Tryz.func100 rfl go100 ?_
  simp (config := { maxSteps := 1000000 }) (disch := ((try simp only [awL]); omega)) only [QR, QS, QT, QU, QV, QW, QX, QY, QZ, Q0, Q1, Q2, Tryz.f100, ↓awU, awV, awF, Qa, Qb, Qc, Qd, forall_const, ↓reduceIte, ↓reduceDIte, ↓Qe, Qf, Qg, Qh, Qi, Qj, Qk, Ql, Qm, Qn, Qo, Qp, Qq, Qr, Qs, implies_true, Qt, Qu, Qv, Qw, Qx, Qy, Qz, QA, QB, QC, QD, QE, QF, QG, QH, QI, QJ, QK, QL, QM, QN, QO, QP, QQ]
  refine LoopC.fr 65 (α := Nat × List Int) (fun x => l.length - x.1) (fun x => [(3, .lsl 1 1 0 x.2.length)])
    (fun x => [.iter (bs l) x.1, .row false (ints .i64 x.2)]) (fun x => x.1 ≤ l.length ∧ r = x.2 ++ posF l x.1 ++ [(l.length : Int)] ∧ x.2.length ≤ x.1) (0, []) ⟨Nat.zero_le _, hr, Nat.le_refl _⟩ ?_ ?_
  · exact ⟨[some 0, none], rfl, by simp, by simp [setsA, keepA, SWeak, AWeak], by simp [HWeak, BWeak, SWeak, AWeak, ints, nats]⟩
  · rintro ⟨p, pre⟩ ⟨h1, h2, h3⟩
    simp only at h1 h2 h3
    have il := @ints_length .i64 pre
    simp only [awK, Nat.reduceMod, Nat.reduceDiv, reduceIte]
    rcases Nat.lt_or_ge p l.length with h | h
    · have hd := dec_end l p h
      simp (config := { maxSteps := 1000000 }) (disch := ((try simp only [awL]); omega)) only [QR, QS, QT, QU, QV, QW, QX, QY, QZ, Q0, Q1, Q2, il, ↓awU, awV, awF, Qa, Qb, Qc, Qd, forall_const, ↓reduceIte, ↓reduceDIte, ↓Qe, Qf, Qg, Qh, Qi, Qj, Qk, Ql, Qm, Qn, Qo, Qp, Qq, Qr, Qs, implies_true, Qt, Qu, Qv, Qw, Qx, Qy, Qz, QA, QB, QC, QD, QE, QF, QG, QH, QI, QJ, QK, QL, QM, QN, QO, QP, QQ]
      exact ⟨(p + (dec l p).2, pre ++ [(p : Int)]), ⟨hd.2, by simp only; rw [h2, posF_more h]; simp, by simp; omega⟩, by simp only; omega, ⟨[some 0, some 3], rfl, by simp, by simp [setsA, keepA, SWeak, AWeak], by simp [HWeak, BWeak, SWeak, AWeak, ints, nats]⟩⟩
    · rw [posF_end (by omega), List.append_nil] at h2
      have rl : r.length = pre.length + 1 := by rw [h2]; simp
      simp (config := { maxSteps := 1000000 }) (disch := ((try simp only [awL]); omega)) only [QR, QS, QT, QU, QV, QW, QX, QY, QZ, Q0, Q1, Q2, il, ↓awU, awV, awF, Qa, Qb, Qc, Qd, forall_const, ↓reduceIte, ↓reduceDIte, ↓Qe, Qf, Qg, Qh, Qi, Qj, Qk, Ql, Qm, Qn, Qo, Qp, Qq, Qr, Qs, implies_true, Qt, Qu, Qv, Qw, Qx, Qy, Qz, QA, QB, QC, QD, QE, QF, QG, QH, QI, QJ, QK, QL, QM, QN, QO, QP, QQ]
      rw [ints_snoc, ← h2, ← rl, cut_all (by rw [ints_length])]
/-- The place of the k-th code point, or the end. -/
def offA (l : List UInt8) (k : Nat) : Nat := ((offL l).getD (min k (posF l 0).length) 0).toNat
theorem offL_len (l : List UInt8) : (offL l).length = (posF l 0).length + 1 := by simp [offL]
theorem offA_eq (l : List UInt8) (k : Nat) : (offL l).getD (min k (posF l 0).length) 0 = (offA l k : Int) ∧ offA l k ≤ l.length := by
  have hb := posF_bound _ l 0 rfl
  have : ∀ c ∈ offL l, 0 ≤ c ∧ c ≤ l.length := fun c hc => by
    rcases List.mem_append.1 hc with h | h
    · have := hb c h; omega
    · simp at h; omega
  have hm := this ((offL l).getD (min k (posF l 0).length) 0) (memD (by rw [offL_len]; omega))
  unfold offA
  omega
/-- The field between two places. -/
def cell1 (l : List UInt8) (a b : Nat) : List UInt8 := Lib.trimB ((l.take b).drop a) 32
def fldAt (lay : List Nat) (l : List UInt8) (i : Nat) : List UInt8 :=
  cell1 l (offA l (lay.getD i 0)) (if i + 1 < lay.length then offA l (lay.getD (i + 1) 0) else l.length)
def fldsL (lay : List Nat) (l : List UInt8) : Row := (List.range lay.length).map (fldAt lay l)
set_option maxRecDepth 100000 in
theorem offset_spec (l : List UInt8) (full : Bool) (k : Nat) (hl : l.length ≤ 1000000000) (hk : k ≤ 1000000000) :
    Ctr Tryz.prog G 101 [.d (.int .i64 k), .ptr 0 0] [.box [.d (.sl (offL l).length full (ints .i64 (offL l)))]] (.d (.int .i64 (offA l k))) [.box [.d (.sl (offL l).length full (ints .i64 (offL l)))]] := by
  refine Ctr.body (M := M0) hmix Tryz.func101 rfl go101 ?_
  have ol := offL_len l
  have pl := posF_len _ l 0 rfl
  have il := @ints_length .i64 (offL l)
  obtain ⟨e1, e2⟩ := offA_eq l k
  have hmin : min k (posF l 0).length < (offL l).length := by rw [ol]; omega
  have g := ints_getD (k := .i64) (d := .nilp) hmin
  rw [e1] at g
  simp (config := { maxSteps := 1000000 }) (disch := ((try simp only [awL]); omega)) only [QR, QS, QT, QU, QV, QW, QX, QY, QZ, Q0, Q1, Q2, il, ol, g, Tryz.f101, ↓awU, awV, awF, Qa, Qb, Qc, Qd, forall_const, ↓reduceIte, ↓reduceDIte, ↓Qe, Qf, Qg, Qh, Qi, Qj, Qk, Ql, Qm, Qn, Qo, Qp, Qq, Qr, Qs, implies_true, Qt, Qu, Qv, Qw, Qx, Qy, Qz, QA, QB, QC, QD, QE, QF, QG, QH, QI, QJ, QK, QL, QM, QN, QO, QP, QQ]
  exact ⟨[some 0], rfl, by simp, by simp [HWeak, BWeak, SWeak, AWeak], .inl (by simp [AWeak, SWeak])⟩
end Go.Proofs.YtacepalmphbnfaaGreatDoor

namespace Go.Proofs.YtacepalmphbnfaaGreatDoor
open Go Go.Proofs Go.Abs
variable {G : Globals}
/-! The fields of a line: fixed.fields and its closures. -/
abbrev Ns (l : List Nat) (full : Bool) : D := .sl l.length full (nats .i64 l)
theorem fields_spec (lay : List Nat) (full : Bool) (l : List UInt8) (hl : l.length ≤ 1000000000) :
    Ctr Tryz.prog G 61 [.d (Ns lay full), .d (S l)] [] (.fn (.func 102) [] [.ptr 0 0, .ptr 1 0, .ptr 3 0])
      [.box [.d (Ns lay full)], .box [.d (S l)], .box [.d (Is (offL l))], .box [.fn (.func 101) [] [.ptr 2 0]]] := by
  refine Ctr.body (M := M0) hmix Tryz.func61 rfl go61 ?_
  simp (config := { maxSteps := 1000000 }) (disch := ((try simp only [awL]); omega)) only [QR, QS, QT, QU, QV, QW, QX, QY, QZ, Q0, Q1, Q2, Ns, Tryz.f61, ↓awU, awV, awF, Qa, Qb, Qc, Qd, forall_const, ↓reduceIte, ↓reduceDIte, ↓Qe, Qf, Qg, Qh, Qi, Qj, Qk, Ql, Qm, Qn, Qo, Qp, Qq, Qr, Qs, implies_true, Qt, Qu, Qv, Qw, Qx, Qy, Qz, QA, QB, QC, QD, QE, QF, QG, QH, QI, QJ, QK, QL, QM, QN, QO, QP, QQ]
  refine CallC.pure (offsets_spec l hl) ?_
  simp (config := { maxSteps := 1000000 }) (disch := ((try simp only [awL]); omega)) only [QR, QS, QT, QU, QV, QW, QX, QY, QZ, Q0, Q1, Q2, Ns, ↓awU, awV, awF, Qa, Qb, Qc, Qd, forall_const, ↓reduceIte, ↓reduceDIte, ↓Qe, Qf, Qg, Qh, Qi, Qj, Qk, Ql, Qm, Qn, Qo, Qp, Qq, Qr, Qs, implies_true, Qt, Qu, Qv, Qw, Qx, Qy, Qz, QA, QB, QC, QD, QE, QF, QG, QH, QI, QJ, QK, QL, QM, QN, QO, QP, QQ]
  exact ⟨[some 0, some 1, some 2, some 3], rfl, by simp, by simp [HWeak, BWeak, SWeak, AWeak], .inl (by simp [AWeak, SWeak])⟩
theorem posF_sorted : ∀ (n : Nat) (l : List UInt8) (p : Nat), l.length - p = n → (posF l p).Pairwise (· ≤ ·) := by
  intro n
  induction n using Nat.strongRecOn with
  | _ n ih =>
    intro l p hn
    by_cases h : p < l.length
    · have hd := dec_end l p h
      rw [posF_more h]
      refine List.pairwise_cons.2 ⟨fun c hc => ?_, ih _ (by omega) l _ rfl⟩
      have := posF_bound _ l _ rfl c hc
      omega
    · rw [posF_end h]; exact .nil
theorem offL_sorted (l : List UInt8) : (offL l).Pairwise (· ≤ ·) := by
  refine List.pairwise_append.2 ⟨posF_sorted _ l 0 rfl, by simp, fun a ha b hb => ?_⟩
  have := posF_bound _ l 0 rfl a ha
  simp at hb
  omega
theorem offA_mono (l : List UInt8) {a b : Nat} (h : a ≤ b) : offA l a ≤ offA l b := by
  obtain ⟨e1, _⟩ := offA_eq l a
  obtain ⟨e2, _⟩ := offA_eq l b
  have ol := offL_len l
  have hs := offL_sorted l
  have h1 : min a (posF l 0).length < (offL l).length := by omega
  have h2 : min b (posF l 0).length < (offL l).length := by omega
  rw [List.getD_eq_getElem?_getD, List.getElem?_eq_getElem h1] at e1
  rw [List.getD_eq_getElem?_getD, List.getElem?_eq_getElem h2] at e2
  simp only [Option.getD_some] at e1 e2
  rcases Nat.lt_or_ge (min a (posF l 0).length) (min b (posF l 0).length) with h3 | h3
  · have := List.pairwise_iff_getElem.1 hs _ _ h1 h2 h3
    omega
  · have : min a (posF l 0).length = min b (posF l 0).length := by omega
    unfold offA
    rw [this]
    exact Nat.le_refl _
/-- Numbers that ascend, none of them great. -/
def Lay (lay : List Nat) : Prop := lay.length ≤ 1000000 ∧ (∀ i, i < lay.length → lay.getD i 0 ≤ 1000000000) ∧ ∀ i, i + 1 < lay.length → lay.getD i 0 ≤ lay.getD (i + 1) 0
theorem fldsL_at {lay : List Nat} {l : List UInt8} {i : Nat} (h : i < lay.length) : (strs (fldsL lay l)).drop i = S (fldAt lay l i) :: (strs (fldsL lay l)).drop (i + 1) := by
  rw [List.drop_eq_getElem_cons (by simp [strs, fldsL]; exact h)]
  simp [strs, fldsL]
set_option maxHeartbeats 8000000 in
set_option maxRecDepth 100000 in
theorem fields2_spec (lay : List Nat) (full : Bool) (l : List UInt8) (hlay : Lay lay) (hl : l.length ≤ 1000000000) :
    IterC Tryz.prog G 102 [.ptr 1 0, .ptr 2 0, .ptr 3 0] [.box [.d (Ns lay full)], .box [.d (S l)], .box [.fn (.func 101) [] [.ptr 4 0]], .box [.d (Is (offL l))]] (strs (fldsL lay l)) := by
  obtain ⟨b1, b2, b3⟩ := hlay
  refine IterC.body (M := MY) hmix Tryz.func102 rfl go102 ?_
  intro lp J todo hJ hT
  simp (config := { maxSteps := 1000000 }) (disch := ((try simp only [awL]); omega)) only [QR, QS, QT, QU, QV, QW, QX, QY, QZ, Q0, Q1, Q2, Ns, MY_n, Tryz.f102, ↓awU, awV, awF, Qa, Qb, Qc, Qd, forall_const, ↓reduceIte, ↓reduceDIte, ↓Qe, Qf, Qg, Qh, Qi, Qj, Qk, Ql, Qm, Qn, Qo, Qp, Qq, Qr, Qs, implies_true, Qt, Qu, Qv, Qw, Qx, Qy, Qz, QA, QB, QC, QD, QE, QF, QG, QH, QI, QJ, QK, QL, QM, QN, QO, QP, QQ]
  refine LoopC.fr 783 (α := Nat × List (D × Bool)) (fun x => lay.length - x.1) (fun x => [(10, .d (.int .i64 x.1))]) (fun x => [.ext J x.2, .box [.d (Ns lay full)], .box [.d (S l)], .box [.fn (.func 101) [] [.ptr 4 0]], .box [.d (Is (offL l))]])
    (fun x => x.1 ≤ lay.length ∧ Tdo ((strs (fldsL lay l)).drop x.1) x.2) (0, todo) ⟨Nat.zero_le _, hT⟩ ?_ ?_
  · exact ⟨[some 0, some 1, some 2, some 3, some 4], rfl, by simp, by simp [setsA, keepA, SWeak, AWeak], by simp [HWeak, BWeak, SWeak, AWeak]⟩
  · rintro ⟨i, t⟩ ⟨h1, h2⟩
    simp only at h1 h2
    simp only [awK, Nat.reduceMod, Nat.reduceDiv, reduceIte]
    rcases Nat.lt_or_ge i lay.length with h | h
    · rw [fldsL_at h] at h2
      have g0 := nats_getD (k := .i64) (d := .nilp) h
      have c0 := b2 i h
      rcases Nat.lt_or_ge (i + 1) lay.length with h3 | h3
      · have g1 := nats_getD (k := .i64) (d := .nilp) h3
        have c1 := b2 _ h3
        have m1 := offA_mono l (b3 i h3)
        have m2 := (offA_eq l (lay.getD (i + 1) 0)).2
        have fe : fldAt lay l i = Lib.trimB ((l.take (offA l (lay.getD (i + 1) 0))).drop (offA l (lay.getD i 0))) 32 := by rw [fldAt, cell1, if_pos h3]
        rcases Tdo_cons h2 with ⟨t', rfl, h4⟩ | rfl
        · simp (config := { maxSteps := 1000000 }) (disch := ((try simp only [awL]); omega)) only [QR, QS, QT, QU, QV, QW, QX, QY, QZ, Q0, Q1, Q2, Ns, g0, g1, MY_n, ↓awU, awV, awF, Qa, Qb, Qc, Qd, forall_const, ↓reduceIte, ↓reduceDIte, ↓Qe, Qf, Qg, Qh, Qi, Qj, Qk, Ql, Qm, Qn, Qo, Qp, Qq, Qr, Qs, implies_true, Qt, Qu, Qv, Qw, Qx, Qy, Qz, QA, QB, QC, QD, QE, QF, QG, QH, QI, QJ, QK, QL, QM, QN, QO, QP, QQ]
          refine CallC.keep [4] (offset_spec l false (lay.getD (i + 1) 0) hl c1) (by rfl) (by rfl) (by simp) (by simp [callEff, outW, outN, frz]) (by simp [callEff, outW, outN, renB, renL, renA, frz]) ?_
          simp (config := { maxSteps := 1000000 }) (disch := ((try simp only [awL]); omega)) only [QR, QS, QT, QU, QV, QW, QX, QY, QZ, Q0, Q1, Q2, Ns, g0, g1, MY_n, ↓awU, awV, awF, Qa, Qb, Qc, Qd, forall_const, ↓reduceIte, ↓reduceDIte, ↓Qe, Qf, Qg, Qh, Qi, Qj, Qk, Ql, Qm, Qn, Qo, Qp, Qq, Qr, Qs, implies_true, Qt, Qu, Qv, Qw, Qx, Qy, Qz, QA, QB, QC, QD, QE, QF, QG, QH, QI, QJ, QK, QL, QM, QN, QO, QP, QQ]
          refine ⟨by rfl, ?_⟩
          refine CallC.keep [4] (offset_spec l false (lay.getD i 0) hl c0) (by rfl) (by rfl) (by simp) (by simp [callEff, outW, outN, frz]) (by simp [callEff, outW, outN, renB, renL, renA, frz]) ?_
          simp (config := { maxSteps := 1000000 }) (disch := ((try simp only [awL]); omega)) only [QR, QS, QT, QU, QV, QW, QX, QY, QZ, Q0, Q1, Q2, Ns, g0, g1, MY_n, ↓awU, awV, awF, Qa, Qb, Qc, Qd, forall_const, ↓reduceIte, ↓reduceDIte, ↓Qe, Qf, Qg, Qh, Qi, Qj, Qk, Ql, Qm, Qn, Qo, Qp, Qq, Qr, Qs, implies_true, Qt, Qu, Qv, Qw, Qx, Qy, Qz, QA, QB, QC, QD, QE, QF, QG, QH, QI, QJ, QK, QL, QM, QN, QO, QP, QQ]
          refine CallC.of (ttrim_spec ((l.take (offA l (lay.getD (i + 1) 0))).drop (offA l (lay.getD i 0))) (by simp; omega)) (by rfl) ?_
          simp (config := { maxSteps := 1000000 }) (disch := ((try simp only [awL]); omega)) only [QR, QS, QT, QU, QV, QW, QX, QY, QZ, Q0, Q1, Q2, Ns, g0, g1, MY_n, ↓awU, awV, awF, Qa, Qb, Qc, Qd, forall_const, ↓reduceIte, ↓reduceDIte, ↓Qe, Qf, Qg, Qh, Qi, Qj, Qk, Ql, Qm, Qn, Qo, Qp, Qq, Qr, Qs, implies_true, Qt, Qu, Qv, Qw, Qx, Qy, Qz, QA, QB, QC, QD, QE, QF, QG, QH, QI, QJ, QK, QL, QM, QN, QO, QP, QQ]
          rw [← fe]
          refine yieldK.by rfl hJ rfl rfl ?_
          simp (config := { maxSteps := 1000000 }) (disch := ((try simp only [awL]); omega)) only [QR, QS, QT, QU, QV, QW, QX, QY, QZ, Q0, Q1, Q2, Ns, g0, g1, MY_n, ↓awU, awV, awF, Qa, Qb, Qc, Qd, forall_const, ↓reduceIte, ↓reduceDIte, ↓Qe, Qf, Qg, Qh, Qi, Qj, Qk, Ql, Qm, Qn, Qo, Qp, Qq, Qr, Qs, implies_true, Qt, Qu, Qv, Qw, Qx, Qy, Qz, QA, QB, QC, QD, QE, QF, QG, QH, QI, QJ, QK, QL, QM, QN, QO, QP, QQ]
          refine ⟨by rfl, ?_⟩
          exact ⟨(i + 1, t'), ⟨h, h4⟩, by simp only; omega, ⟨[some 0, some 1, some 2, some 3, some 4], rfl, by simp, by simp [setsA, keepA, SWeak, AWeak], by simp [HWeak, BWeak, SWeak, AWeak]⟩⟩
        · simp (config := { maxSteps := 1000000 }) (disch := ((try simp only [awL]); omega)) only [QR, QS, QT, QU, QV, QW, QX, QY, QZ, Q0, Q1, Q2, Ns, g0, g1, MY_n, ↓awU, awV, awF, Qa, Qb, Qc, Qd, forall_const, ↓reduceIte, ↓reduceDIte, ↓Qe, Qf, Qg, Qh, Qi, Qj, Qk, Ql, Qm, Qn, Qo, Qp, Qq, Qr, Qs, implies_true, Qt, Qu, Qv, Qw, Qx, Qy, Qz, QA, QB, QC, QD, QE, QF, QG, QH, QI, QJ, QK, QL, QM, QN, QO, QP, QQ]
          refine CallC.keep [4] (offset_spec l false (lay.getD (i + 1) 0) hl c1) (by rfl) (by rfl) (by simp) (by simp [callEff, outW, outN, frz]) (by simp [callEff, outW, outN, renB, renL, renA, frz]) ?_
          simp (config := { maxSteps := 1000000 }) (disch := ((try simp only [awL]); omega)) only [QR, QS, QT, QU, QV, QW, QX, QY, QZ, Q0, Q1, Q2, Ns, g0, g1, MY_n, ↓awU, awV, awF, Qa, Qb, Qc, Qd, forall_const, ↓reduceIte, ↓reduceDIte, ↓Qe, Qf, Qg, Qh, Qi, Qj, Qk, Ql, Qm, Qn, Qo, Qp, Qq, Qr, Qs, implies_true, Qt, Qu, Qv, Qw, Qx, Qy, Qz, QA, QB, QC, QD, QE, QF, QG, QH, QI, QJ, QK, QL, QM, QN, QO, QP, QQ]
          refine ⟨by rfl, ?_⟩
          refine CallC.keep [4] (offset_spec l false (lay.getD i 0) hl c0) (by rfl) (by rfl) (by simp) (by simp [callEff, outW, outN, frz]) (by simp [callEff, outW, outN, renB, renL, renA, frz]) ?_
          simp (config := { maxSteps := 1000000 }) (disch := ((try simp only [awL]); omega)) only [QR, QS, QT, QU, QV, QW, QX, QY, QZ, Q0, Q1, Q2, Ns, g0, g1, MY_n, ↓awU, awV, awF, Qa, Qb, Qc, Qd, forall_const, ↓reduceIte, ↓reduceDIte, ↓Qe, Qf, Qg, Qh, Qi, Qj, Qk, Ql, Qm, Qn, Qo, Qp, Qq, Qr, Qs, implies_true, Qt, Qu, Qv, Qw, Qx, Qy, Qz, QA, QB, QC, QD, QE, QF, QG, QH, QI, QJ, QK, QL, QM, QN, QO, QP, QQ]
          refine CallC.of (ttrim_spec ((l.take (offA l (lay.getD (i + 1) 0))).drop (offA l (lay.getD i 0))) (by simp; omega)) (by rfl) ?_
          simp (config := { maxSteps := 1000000 }) (disch := ((try simp only [awL]); omega)) only [QR, QS, QT, QU, QV, QW, QX, QY, QZ, Q0, Q1, Q2, Ns, g0, g1, MY_n, ↓awU, awV, awF, Qa, Qb, Qc, Qd, forall_const, ↓reduceIte, ↓reduceDIte, ↓Qe, Qf, Qg, Qh, Qi, Qj, Qk, Ql, Qm, Qn, Qo, Qp, Qq, Qr, Qs, implies_true, Qt, Qu, Qv, Qw, Qx, Qy, Qz, QA, QB, QC, QD, QE, QF, QG, QH, QI, QJ, QK, QL, QM, QN, QO, QP, QQ]
          rw [← fe]
          refine yieldK.by rfl hJ rfl rfl ?_
          simp (config := { maxSteps := 1000000 }) (disch := ((try simp only [awL]); omega)) only [QR, QS, QT, QU, QV, QW, QX, QY, QZ, Q0, Q1, Q2, Ns, g0, g1, MY_n, ↓awU, awV, awF, Qa, Qb, Qc, Qd, forall_const, ↓reduceIte, ↓reduceDIte, ↓Qe, Qf, Qg, Qh, Qi, Qj, Qk, Ql, Qm, Qn, Qo, Qp, Qq, Qr, Qs, implies_true, Qt, Qu, Qv, Qw, Qx, Qy, Qz, QA, QB, QC, QD, QE, QF, QG, QH, QI, QJ, QK, QL, QM, QN, QO, QP, QQ]
          refine ⟨by rfl, ?_⟩
          exact ⟨[some 0], rfl, by simp, by simp [HWeak, BWeak, SWeak, AWeak], .inl (by simp [AWeak, SWeak])⟩
      · have m2 := (offA_eq l (lay.getD i 0)).2
        have fe : fldAt lay l i = Lib.trimB (l.drop (offA l (lay.getD i 0))) 32 := by rw [fldAt, cell1, if_neg (by omega), List.take_length]
        rcases Tdo_cons h2 with ⟨t', rfl, h4⟩ | rfl
        · simp (config := { maxSteps := 1000000 }) (disch := ((try simp only [awL]); omega)) only [QR, QS, QT, QU, QV, QW, QX, QY, QZ, Q0, Q1, Q2, Ns, g0, MY_n, ↓awU, awV, awF, Qa, Qb, Qc, Qd, forall_const, ↓reduceIte, ↓reduceDIte, ↓Qe, Qf, Qg, Qh, Qi, Qj, Qk, Ql, Qm, Qn, Qo, Qp, Qq, Qr, Qs, implies_true, Qt, Qu, Qv, Qw, Qx, Qy, Qz, QA, QB, QC, QD, QE, QF, QG, QH, QI, QJ, QK, QL, QM, QN, QO, QP, QQ]
          refine CallC.keep [4] (offset_spec l false (lay.getD i 0) hl c0) (by rfl) (by rfl) (by simp) (by simp [callEff, outW, outN, frz]) (by simp [callEff, outW, outN, renB, renL, renA, frz]) ?_
          simp (config := { maxSteps := 1000000 }) (disch := ((try simp only [awL]); omega)) only [QR, QS, QT, QU, QV, QW, QX, QY, QZ, Q0, Q1, Q2, Ns, g0, MY_n, ↓awU, awV, awF, Qa, Qb, Qc, Qd, forall_const, ↓reduceIte, ↓reduceDIte, ↓Qe, Qf, Qg, Qh, Qi, Qj, Qk, Ql, Qm, Qn, Qo, Qp, Qq, Qr, Qs, implies_true, Qt, Qu, Qv, Qw, Qx, Qy, Qz, QA, QB, QC, QD, QE, QF, QG, QH, QI, QJ, QK, QL, QM, QN, QO, QP, QQ]
          refine CallC.of (ttrim_spec (l.drop (offA l (lay.getD i 0))) (by simp; omega)) (by rfl) ?_
          simp (config := { maxSteps := 1000000 }) (disch := ((try simp only [awL]); omega)) only [QR, QS, QT, QU, QV, QW, QX, QY, QZ, Q0, Q1, Q2, Ns, g0, MY_n, ↓awU, awV, awF, Qa, Qb, Qc, Qd, forall_const, ↓reduceIte, ↓reduceDIte, ↓Qe, Qf, Qg, Qh, Qi, Qj, Qk, Ql, Qm, Qn, Qo, Qp, Qq, Qr, Qs, implies_true, Qt, Qu, Qv, Qw, Qx, Qy, Qz, QA, QB, QC, QD, QE, QF, QG, QH, QI, QJ, QK, QL, QM, QN, QO, QP, QQ]
          rw [← fe]
          refine yieldK.by rfl hJ rfl rfl ?_
          simp (config := { maxSteps := 1000000 }) (disch := ((try simp only [awL]); omega)) only [QR, QS, QT, QU, QV, QW, QX, QY, QZ, Q0, Q1, Q2, Ns, g0, MY_n, ↓awU, awV, awF, Qa, Qb, Qc, Qd, forall_const, ↓reduceIte, ↓reduceDIte, ↓Qe, Qf, Qg, Qh, Qi, Qj, Qk, Ql, Qm, Qn, Qo, Qp, Qq, Qr, Qs, implies_true, Qt, Qu, Qv, Qw, Qx, Qy, Qz, QA, QB, QC, QD, QE, QF, QG, QH, QI, QJ, QK, QL, QM, QN, QO, QP, QQ]
          refine ⟨by rfl, ?_⟩
          exact ⟨(i + 1, t'), ⟨h, h4⟩, by simp only; omega, ⟨[some 0, some 1, some 2, some 3, some 4], rfl, by simp, by simp [setsA, keepA, SWeak, AWeak], by simp [HWeak, BWeak, SWeak, AWeak]⟩⟩
        · simp (config := { maxSteps := 1000000 }) (disch := ((try simp only [awL]); omega)) only [QR, QS, QT, QU, QV, QW, QX, QY, QZ, Q0, Q1, Q2, Ns, g0, MY_n, ↓awU, awV, awF, Qa, Qb, Qc, Qd, forall_const, ↓reduceIte, ↓reduceDIte, ↓Qe, Qf, Qg, Qh, Qi, Qj, Qk, Ql, Qm, Qn, Qo, Qp, Qq, Qr, Qs, implies_true, Qt, Qu, Qv, Qw, Qx, Qy, Qz, QA, QB, QC, QD, QE, QF, QG, QH, QI, QJ, QK, QL, QM, QN, QO, QP, QQ]
          refine CallC.keep [4] (offset_spec l false (lay.getD i 0) hl c0) (by rfl) (by rfl) (by simp) (by simp [callEff, outW, outN, frz]) (by simp [callEff, outW, outN, renB, renL, renA, frz]) ?_
          simp (config := { maxSteps := 1000000 }) (disch := ((try simp only [awL]); omega)) only [QR, QS, QT, QU, QV, QW, QX, QY, QZ, Q0, Q1, Q2, Ns, g0, MY_n, ↓awU, awV, awF, Qa, Qb, Qc, Qd, forall_const, ↓reduceIte, ↓reduceDIte, ↓Qe, Qf, Qg, Qh, Qi, Qj, Qk, Ql, Qm, Qn, Qo, Qp, Qq, Qr, Qs, implies_true, Qt, Qu, Qv, Qw, Qx, Qy, Qz, QA, QB, QC, QD, QE, QF, QG, QH, QI, QJ, QK, QL, QM, QN, QO, QP, QQ]
          refine CallC.of (ttrim_spec (l.drop (offA l (lay.getD i 0))) (by simp; omega)) (by rfl) ?_
          simp (config := { maxSteps := 1000000 }) (disch := ((try simp only [awL]); omega)) only [QR, QS, QT, QU, QV, QW, QX, QY, QZ, Q0, Q1, Q2, Ns, g0, MY_n, ↓awU, awV, awF, Qa, Qb, Qc, Qd, forall_const, ↓reduceIte, ↓reduceDIte, ↓Qe, Qf, Qg, Qh, Qi, Qj, Qk, Ql, Qm, Qn, Qo, Qp, Qq, Qr, Qs, implies_true, Qt, Qu, Qv, Qw, Qx, Qy, Qz, QA, QB, QC, QD, QE, QF, QG, QH, QI, QJ, QK, QL, QM, QN, QO, QP, QQ]
          rw [← fe]
          refine yieldK.by rfl hJ rfl rfl ?_
          simp (config := { maxSteps := 1000000 }) (disch := ((try simp only [awL]); omega)) only [QR, QS, QT, QU, QV, QW, QX, QY, QZ, Q0, Q1, Q2, Ns, g0, MY_n, ↓awU, awV, awF, Qa, Qb, Qc, Qd, forall_const, ↓reduceIte, ↓reduceDIte, ↓Qe, Qf, Qg, Qh, Qi, Qj, Qk, Ql, Qm, Qn, Qo, Qp, Qq, Qr, Qs, implies_true, Qt, Qu, Qv, Qw, Qx, Qy, Qz, QA, QB, QC, QD, QE, QF, QG, QH, QI, QJ, QK, QL, QM, QN, QO, QP, QQ]
          refine ⟨by rfl, ?_⟩
          exact ⟨[some 0], rfl, by simp, by simp [HWeak, BWeak, SWeak, AWeak], .inl (by simp [AWeak, SWeak])⟩
    · have e : (strs (fldsL lay l)).drop i = [] := List.drop_of_length_le (by simp [strs, fldsL]; omega)
      rw [e] at h2
      rw [Tdo_nil h2]
      simp (config := { maxSteps := 1000000 }) (disch := ((try simp only [awL]); omega)) only [QR, QS, QT, QU, QV, QW, QX, QY, QZ, Q0, Q1, Q2, Ns, MY_n, ↓awU, awV, awF, Qa, Qb, Qc, Qd, forall_const, ↓reduceIte, ↓reduceDIte, ↓Qe, Qf, Qg, Qh, Qi, Qj, Qk, Ql, Qm, Qn, Qo, Qp, Qq, Qr, Qs, implies_true, Qt, Qu, Qv, Qw, Qx, Qy, Qz, QA, QB, QC, QD, QE, QF, QG, QH, QI, QJ, QK, QL, QM, QN, QO, QP, QQ]
      exact ⟨[some 0], rfl, by simp, by simp [HWeak, BWeak, SWeak, AWeak], .inl (by simp [AWeak, SWeak])⟩
end Go.Proofs.YtacepalmphbnfaaGreatDoor

namespace Go.Proofs.YtacepalmphbnfaaGreatDoor
open Go Go.Proofs Go.Abs
variable {G : Globals}
/-! The fields of a line, collected. -/
def MSt : Muts := fun k => k == 99
theorem MSt_n {k : Nat} (h : 2000000 ≤ k) : MSt k = false := by
  simp only [MSt, beq_eq_false_iff_ne]
  exact Nat.ne_of_gt (Nat.lt_of_lt_of_le (by decide) h)
theorem fldsL_len (lay : List Nat) (l : List UInt8) : (fldsL lay l).length = lay.length := by simp [fldsL]
abbrev FldB (lay : List Nat) (full : Bool) (l : List UInt8) : List ABlk := [.box [.d (Ns lay full)], .box [.d (S l)], .box [.fn (.func 101) [] [.ptr 3 0]], .box [.d (Is (offL l))]]
abbrev FldA : AV := .fn (.func 102) [] [.ptr 0 0, .ptr 1 0, .ptr 2 0]
set_option maxHeartbeats 4000000 in
set_option maxRecDepth 100000 in
theorem appendFlds_spec (lay : List Nat) (full : Bool) (l : List UInt8) (hlay : Lay lay) (hl : l.length ≤ 1000000000) :
    Ctr Tryz.prog G 99 [.d (.sl 0 true []), FldA] (FldB lay full l) (.lsl 4 1 0 lay.length) [.dead, .dead, .dead, .dead, .row false (strs (fldsL lay l))] := by
  obtain ⟨r, hr⟩ : ∃ r, r = fldsL lay l := ⟨_, rfl⟩
  have rl : r.length = lay.length := by rw [hr, fldsL_len]
  have sp := fields2_spec (G := G) lay full l hlay hl
  rw [← hr] at sp ⊢
  have b1 := hlay.1
  refine Ctr.body (M := M0) hmix Tryz.func99 rfl go99 ?_
  have sl := @strs_length r
  simp (config := { maxSteps := 1000000 }) (disch := ((try simp only [awL]); omega)) only [QR, QS, QT, QU, QV, QW, QX, QY, QZ, Q0, Q1, Q2, sl, Ns, Tryz.f99, ↓awU, awV, awF, Qa, Qb, Qc, Qd, forall_const, ↓reduceIte, ↓reduceDIte, ↓Qe, Qf, Qg, Qh, Qi, Qj, Qk, Ql, Qm, Qn, Qo, Qp, Qq, Qr, Qs, implies_true, Qt, Qu, Qv, Qw, Qx, Qy, Qz, QA, QB, QC, QD, QE, QF, QG, QH, QI, QJ, QK, QL, QM, QN, QO, QP, QQ]
  refine RangeC.all (α := Unit) sp [some 4, none] 0 [(2, .ptr 0 0)] (fun k _ => [.box [.lsl 1 1 0 k], .row false (strs (r.take k))]) (fun k _ => True) rfl rfl rfl rfl rfl rfl rfl (by simp) () trivial (by simp [setsA, keepA, SWeak, AWeak]) (by simp [HWeak, BWeak, SWeak, AWeak, strs]) (fun _ _ => ⟨rfl, rfl⟩) ?_ ?_
  · rintro k d ⟨⟩ hk hd -
    rw [strs_length] at hk
    obtain ⟨y, hy, rfl⟩ := strs_get hd
    have e : (r.take k).length = k := by rw [List.length_take]; omega
    have st := @strs_length (r.take k)
    rw [e] at st
    simp only [awK, Nat.reduceMod, Nat.reduceDiv, reduceIte]
    simp (config := { maxSteps := 1000000 }) (disch := ((try simp only [awL]); omega)) only [QR, QS, QT, QU, QV, QW, QX, QY, QZ, Q0, Q1, Q2, st, ↓awU, awV, awF, Qa, Qb, Qc, Qd, forall_const, ↓reduceIte, ↓reduceDIte, ↓Qe, Qf, Qg, Qh, Qi, Qj, Qk, Ql, Qm, Qn, Qo, Qp, Qq, Qr, Qs, implies_true, Qt, Qu, Qv, Qw, Qx, Qy, Qz, QA, QB, QC, QD, QE, QF, QG, QH, QI, QJ, QK, QL, QM, QN, QO, QP, QQ]
    have e2 : strs (r.take k) ++ [D.str (bs y)] = strs (r.take (k + 1)) := by
      rw [List.take_add_one, hy]; simp [strs]
    rw [e2]
    exact RndE.mk (⟨[some 0, some 3], rfl, by simp, by simp [setsA, keepA, SWeak, AWeak], by simp [HWeak, BWeak, SWeak, AWeak]⟩ : Weak 0 _ _ _ [.box [.lsl 1 1 0 (k + 1)], .row false (strs (r.take (k + 1)))]) ⟨(), rfl⟩
  · rintro ⟨⟩ -
    simp only [awK, Nat.reduceMod, Nat.reduceDiv, reduceIte]
    rw [List.take_of_length_le (by rw [strs_length]; exact Nat.le_refl _)]
    simp (config := { maxSteps := 1000000 }) (disch := ((try simp only [awL]); omega)) only [QR, QS, QT, QU, QV, QW, QX, QY, QZ, Q0, Q1, Q2, sl, ↓awU, awV, awF, Qa, Qb, Qc, Qd, forall_const, ↓reduceIte, ↓reduceDIte, ↓Qe, Qf, Qg, Qh, Qi, Qj, Qk, Ql, Qm, Qn, Qo, Qp, Qq, Qr, Qs, implies_true, Qt, Qu, Qv, Qw, Qx, Qy, Qz, QA, QB, QC, QD, QE, QF, QG, QH, QI, QJ, QK, QL, QM, QN, QO, QP, QQ]
    rw [rl]
    exact ⟨[some 0, some 1, some 2, some 3, some 6], rfl, by simp, by simp [HWeak, BWeak, SWeak, AWeak], .inl (by simp [AWeak, SWeak])⟩
set_option maxRecDepth 100000 in
theorem collect_spec (lay : List Nat) (full : Bool) (l : List UInt8) (hlay : Lay lay) (hl : l.length ≤ 1000000000) :
    Ctr Tryz.prog G 60 [FldA] (FldB lay full l) (.lsl 4 1 0 lay.length) [.dead, .dead, .dead, .dead, .row false (strs (fldsL lay l))] := by
  refine Ctr.body (M := MSt) hmix Tryz.func60 rfl go60 ?_
  have m1 : MSt 99 = true := rfl
  simp (config := { maxSteps := 1000000 }) (disch := ((try simp only [awL]); omega)) only [QR, QS, QT, QU, QV, QW, QX, QY, QZ, Q0, Q1, Q2, Ns, m1, MSt_n, Tryz.f60, ↓awU, awV, awF, Qa, Qb, Qc, Qd, forall_const, ↓reduceIte, ↓reduceDIte, ↓Qe, Qf, Qg, Qh, Qi, Qj, Qk, Ql, Qm, Qn, Qo, Qp, Qq, Qr, Qs, implies_true, Qt, Qu, Qv, Qw, Qx, Qy, Qz, QA, QB, QC, QD, QE, QF, QG, QH, QI, QJ, QK, QL, QM, QN, QO, QP, QQ]
  refine CallC.by (appendFlds_spec lay full l hlay hl) rfl rfl (by simp) ?_
  simp (config := { maxSteps := 1000000 }) (disch := ((try simp only [awL]); omega)) only [QR, QS, QT, QU, QV, QW, QX, QY, QZ, Q0, Q1, Q2, m1, MSt_n, ↓awU, awV, awF, Qa, Qb, Qc, Qd, forall_const, ↓reduceIte, ↓reduceDIte, ↓Qe, Qf, Qg, Qh, Qi, Qj, Qk, Ql, Qm, Qn, Qo, Qp, Qq, Qr, Qs, implies_true, Qt, Qu, Qv, Qw, Qx, Qy, Qz, QA, QB, QC, QD, QE, QF, QG, QH, QI, QJ, QK, QL, QM, QN, QO, QP, QQ]
  exact ⟨[some 0, some 1, some 2, some 3, some 4], rfl, by simp, by simp [HWeak, BWeak, SWeak, AWeak], .inl (by simp [AWeak, SWeak])⟩
end Go.Proofs.YtacepalmphbnfaaGreatDoor

namespace Go.Proofs.YtacepalmphbnfaaGreatDoor
open Go Go.Proofs Go.Abs
variable {G : Globals}
/-! Which lists are layouts. -/
abbrev IsF (l : List Int) (full : Bool) : D := .sl l.length full (ints .i64 l)
def ascF (l : List Int) (i : Nat) : Bool := if h : i < l.length then decide (l.getD (i - 1) 0 < l.getD i 0 ∧ l.getD i 0 ≤ 1048576) && ascF l (i + 1) else true
termination_by l.length - i
theorem ascF_more {l : List Int} {i : Nat} (h : i < l.length) : ascF l i = (decide (l.getD (i - 1) 0 < l.getD i 0 ∧ l.getD i 0 ≤ 1048576) && ascF l (i + 1)) := by rw [ascF, dif_pos h]
theorem ascF_end {l : List Int} {i : Nat} (h : ¬ i < l.length) : ascF l i = true := by rw [ascF, dif_neg h]
def okLay (l : List Int) : Bool := decide (l.length ≠ 0 ∧ l.length ≤ 64 ∧ l.getD 0 0 = 0) && ascF l 1
set_option maxHeartbeats 4000000 in
set_option maxRecDepth 100000 in
theorem fvalid_spec (l : List Int) (full : Bool) (hl : l.length ≤ 1000000000) : Ctr Tryz.prog G 28 [.d (IsF l full)] [] (.d (.bool (okLay l))) [] := by
  obtain ⟨r, hr⟩ : ∃ r, r = okLay l := ⟨_, rfl⟩
  rw [← hr]
  refine Ctr.pure (M := M0) hmix Tryz.func28 rfl go28 ?_
  unfold okLay at hr
  have il := @ints_length .i64 l
  rcases Nat.eq_zero_or_pos l.length with h0 | h0
  · rw [decide_eq_false (by omega), Bool.false_and] at hr
    simp (config := { maxSteps := 1000000 }) (disch := ((try simp only [awL]); omega)) only [QR, QS, QT, QU, QV, QW, QX, QY, QZ, Q0, Q1, Q2, il, h0, Tryz.f28, ↓awU, awV, awF, Qa, Qb, Qc, Qd, forall_const, ↓reduceIte, ↓reduceDIte, ↓Qe, Qf, Qg, Qh, Qi, Qj, Qk, Ql, Qm, Qn, Qo, Qp, Qq, Qr, Qs, implies_true, Qt, Qu, Qv, Qw, Qx, Qy, Qz, QA, QB, QC, QD, QE, QF, QG, QH, QI, QJ, QK, QL, QM, QN, QO, QP, QQ]
    rw [hr]
  · rcases Nat.lt_or_ge 64 l.length with h1 | h1
    · rw [decide_eq_false (by omega), Bool.false_and] at hr
      simp (config := { maxSteps := 1000000 }) (disch := ((try simp only [awL]); omega)) only [QR, QS, QT, QU, QV, QW, QX, QY, QZ, Q0, Q1, Q2, il, Tryz.f28, ↓awU, awV, awF, Qa, Qb, Qc, Qd, forall_const, ↓reduceIte, ↓reduceDIte, ↓Qe, Qf, Qg, Qh, Qi, Qj, Qk, Ql, Qm, Qn, Qo, Qp, Qq, Qr, Qs, implies_true, Qt, Qu, Qv, Qw, Qx, Qy, Qz, QA, QB, QC, QD, QE, QF, QG, QH, QI, QJ, QK, QL, QM, QN, QO, QP, QQ]
      rw [hr]
    · have g0 := ints_getD (k := .i64) (d := .nilp) h0
      by_cases h2 : l.getD 0 0 = 0
      · rw [decide_eq_true ⟨by omega, h1, h2⟩, Bool.true_and] at hr
        simp (config := { maxSteps := 1000000 }) (disch := ((try simp only [awL]); omega)) only [QR, QS, QT, QU, QV, QW, QX, QY, QZ, Q0, Q1, Q2, il, g0, h2, Tryz.f28, ↓awU, awV, awF, Qa, Qb, Qc, Qd, forall_const, ↓reduceIte, ↓reduceDIte, ↓Qe, Qf, Qg, Qh, Qi, Qj, Qk, Ql, Qm, Qn, Qo, Qp, Qq, Qr, Qs, implies_true, Qt, Qu, Qv, Qw, Qx, Qy, Qz, QA, QB, QC, QD, QE, QF, QG, QH, QI, QJ, QK, QL, QM, QN, QO, QP, QQ]
        refine LoopC.fr 1 (α := Nat) (fun i => l.length - i) (fun i => [(3, .d (.int .i64 i))]) (fun _ => []) (fun i => 1 ≤ i ∧ i ≤ l.length ∧ r = ascF l i) 1 ⟨Nat.le_refl _, h0, hr⟩ ?_ ?_
        · exact ⟨[], rfl, by simp, by simp [setsA, keepA, SWeak, AWeak], by simp [HWeak, BWeak, SWeak, AWeak]⟩
        · rintro i ⟨h3, h4, h5⟩
          have ij : ((i : Int) - 1) = ((i - 1 : Nat) : Int) := by omega
          simp only [awK, Nat.reduceMod, Nat.reduceDiv, reduceIte]
          rcases Nat.lt_or_ge i l.length with h | h
          · rw [ascF_more h] at h5
            have ga := ints_getD (k := .i64) (d := .nilp) (show i - 1 < l.length by omega)
            have gb := ints_getD (k := .i64) (d := .nilp) h
            generalize l.getD (i - 1) 0 = a at ga h5
            generalize l.getD i 0 = b at gb h5
            rcases (by omega : a < b ∨ b ≤ a) with h6 | h6
            · rcases (by omega : 1048576 < b ∨ b ≤ 1048576) with h7 | h7
              · rw [decide_eq_false (by omega), Bool.false_and] at h5
                simp (config := { maxSteps := 1000000 }) (disch := ((try simp only [awL]); omega)) only [QR, QS, QT, QU, QV, QW, QX, QY, QZ, Q0, Q1, Q2, il, ij, ga, gb, ↓awU, awV, awF, Qa, Qb, Qc, Qd, forall_const, ↓reduceIte, ↓reduceDIte, ↓Qe, Qf, Qg, Qh, Qi, Qj, Qk, Ql, Qm, Qn, Qo, Qp, Qq, Qr, Qs, implies_true, Qt, Qu, Qv, Qw, Qx, Qy, Qz, QA, QB, QC, QD, QE, QF, QG, QH, QI, QJ, QK, QL, QM, QN, QO, QP, QQ]
                refine ⟨by rfl, ?_⟩
                rw [h5]
              · rw [decide_eq_true ⟨h6, h7⟩, Bool.true_and] at h5
                simp (config := { maxSteps := 1000000 }) (disch := ((try simp only [awL]); omega)) only [QR, QS, QT, QU, QV, QW, QX, QY, QZ, Q0, Q1, Q2, il, ij, ga, gb, ↓awU, awV, awF, Qa, Qb, Qc, Qd, forall_const, ↓reduceIte, ↓reduceDIte, ↓Qe, Qf, Qg, Qh, Qi, Qj, Qk, Ql, Qm, Qn, Qo, Qp, Qq, Qr, Qs, implies_true, Qt, Qu, Qv, Qw, Qx, Qy, Qz, QA, QB, QC, QD, QE, QF, QG, QH, QI, QJ, QK, QL, QM, QN, QO, QP, QQ]
                refine ⟨by rfl, ?_⟩
                exact ⟨i + 1, ⟨Nat.le_add_left 1 i, h, h5⟩, by simp only; omega, ⟨[], rfl, by simp, by simp [setsA, keepA, SWeak, AWeak], by simp [HWeak, BWeak, SWeak, AWeak]⟩⟩
            · rw [decide_eq_false (by omega), Bool.false_and] at h5
              simp (config := { maxSteps := 1000000 }) (disch := ((try simp only [awL]); omega)) only [QR, QS, QT, QU, QV, QW, QX, QY, QZ, Q0, Q1, Q2, il, ij, ga, gb, ↓awU, awV, awF, Qa, Qb, Qc, Qd, forall_const, ↓reduceIte, ↓reduceDIte, ↓Qe, Qf, Qg, Qh, Qi, Qj, Qk, Ql, Qm, Qn, Qo, Qp, Qq, Qr, Qs, implies_true, Qt, Qu, Qv, Qw, Qx, Qy, Qz, QA, QB, QC, QD, QE, QF, QG, QH, QI, QJ, QK, QL, QM, QN, QO, QP, QQ]
              refine ⟨by rfl, ?_⟩
              rw [h5]
          · rw [ascF_end (by omega)] at h5
            simp (config := { maxSteps := 1000000 }) (disch := ((try simp only [awL]); omega)) only [QR, QS, QT, QU, QV, QW, QX, QY, QZ, Q0, Q1, Q2, il, ↓awU, awV, awF, Qa, Qb, Qc, Qd, forall_const, ↓reduceIte, ↓reduceDIte, ↓Qe, Qf, Qg, Qh, Qi, Qj, Qk, Ql, Qm, Qn, Qo, Qp, Qq, Qr, Qs, implies_true, Qt, Qu, Qv, Qw, Qx, Qy, Qz, QA, QB, QC, QD, QE, QF, QG, QH, QI, QJ, QK, QL, QM, QN, QO, QP, QQ]
            rw [h5]
      · rw [decide_eq_false (fun h => h2 h.2.2), Bool.false_and] at hr
        generalize l.getD 0 0 = a at g0 h2
        simp (config := { maxSteps := 1000000 }) (disch := ((try simp only [awL]); omega)) only [QR, QS, QT, QU, QV, QW, QX, QY, QZ, Q0, Q1, Q2, il, g0, Tryz.f28, ↓awU, awV, awF, Qa, Qb, Qc, Qd, forall_const, ↓reduceIte, ↓reduceDIte, ↓Qe, Qf, Qg, Qh, Qi, Qj, Qk, Ql, Qm, Qn, Qo, Qp, Qq, Qr, Qs, implies_true, Qt, Qu, Qv, Qw, Qx, Qy, Qz, QA, QB, QC, QD, QE, QF, QG, QH, QI, QJ, QK, QL, QM, QN, QO, QP, QQ]
        rw [hr]
end Go.Proofs.YtacepalmphbnfaaGreatDoor

namespace Go.Proofs.YtacepalmphbnfaaGreatDoor
open Go Go.Proofs Go.Abs
variable {G : Globals}
/-! fixed.Parse. -/
theorem ascF_all {l : List Int} : ∀ (n i : Nat), l.length - i = n → ascF l i = true → ∀ j, i ≤ j → j < l.length → l.getD (j - 1) 0 < l.getD j 0 ∧ l.getD j 0 ≤ 1048576 := by
  intro n
  induction n with
  | zero => intro i hn _ j h1 h2; omega
  | succ n ih =>
    intro i hn h j h1 h2
    rw [ascF_more (by omega), Bool.and_eq_true] at h
    rcases Nat.lt_or_ge i j with h3 | h3
    · exact ih (i + 1) (by omega) h.2 j h3 h2
    · obtain rfl : i = j := by omega
      exact of_decide_eq_true h.1
def natsOf (l : List Int) : List Nat := l.map Int.toNat
theorem okLay_ok {l : List Int} (h : okLay l = true) : l.length ≠ 0 ∧ l.length ≤ 64 ∧ Lay (natsOf l) ∧ ∀ c ∈ l, 0 ≤ c ∧ c ≤ 1048576 := by
  rw [okLay, Bool.and_eq_true] at h
  obtain ⟨h1, h2, h3⟩ := of_decide_eq_true h.1
  have ha := ascF_all _ 1 rfl h.2
  have hb : ∀ j, j < l.length → 0 ≤ l.getD j 0 ∧ l.getD j 0 ≤ 1048576 := by
    intro j
    induction j with
    | zero => intro _; omega
    | succ j ih => intro hj; have := ha (j + 1) (by omega) hj; have := ih (by omega); simp only [Nat.add_sub_cancel] at *; omega
  have hn : ∀ i, i < l.length → (natsOf l).getD i 0 = (l.getD i 0).toNat := fun i hi => by
    simp [natsOf, List.getD_eq_getElem?_getD, hi]
  have nl : (natsOf l).length = l.length := by simp [natsOf]
  refine ⟨h1, h2, ⟨by omega, fun i hi => ?_, fun i hi => ?_⟩, fun c hc => ?_⟩
  · rw [hn i (by omega)]; have := hb i (by omega); omega
  · rw [hn i (by omega), hn (i + 1) (by omega)]
    have := ha (i + 1) (by omega) (by omega)
    simp only [Nat.add_sub_cancel] at this
    omega
  · obtain ⟨j, hj, rfl⟩ := List.getElem_of_mem hc
    have := hb j hj
    rwa [List.getD_eq_getElem?_getD, List.getElem?_eq_getElem hj] at this
theorem nats_of {l : List Int} (h : ∀ c ∈ l, 0 ≤ c ∧ c ≤ 1048576) : ints .i64 l = nats .i64 (natsOf l) := by
  simp only [ints, nats, natsOf, List.map_map]
  refine List.map_congr_left fun c hc => ?_
  have := h c hc
  simp only [Function.comp]
  congr 1
  omega
theorem flong_spec (s : List UInt8) (hs : s.length ≤ 1000000000) : Ctr Tryz.prog G 77 [.d (S s)] [] (.d (.bool (bigF s))) [] := by
  refine Ctr.pure (M := M0) hmix Tryz.func77 rfl go77 ?_
  unfold bigF
  rcases Nat.lt_or_ge 1024 s.length with h | h
  · rw [decide_eq_true h]
    simp (config := { maxSteps := 1000000 }) (disch := ((try simp only [awL]); omega)) only [QR, QS, QT, QU, QV, QW, QX, QY, QZ, Q0, Q1, Q2, Tryz.f77, ↓awU, awV, awF, Qa, Qb, Qc, Qd, forall_const, ↓reduceIte, ↓reduceDIte, ↓Qe, Qf, Qg, Qh, Qi, Qj, Qk, Ql, Qm, Qn, Qo, Qp, Qq, Qr, Qs, implies_true, Qt, Qu, Qv, Qw, Qx, Qy, Qz, QA, QB, QC, QD, QE, QF, QG, QH, QI, QJ, QK, QL, QM, QN, QO, QP, QQ]
  · rw [decide_eq_false (by omega)]
    simp (config := { maxSteps := 1000000 }) (disch := ((try simp only [awL]); omega)) only [QR, QS, QT, QU, QV, QW, QX, QY, QZ, Q0, Q1, Q2, Tryz.f77, ↓awU, awV, awF, Qa, Qb, Qc, Qd, forall_const, ↓reduceIte, ↓reduceDIte, ↓Qe, Qf, Qg, Qh, Qi, Qj, Qk, Ql, Qm, Qn, Qo, Qp, Qq, Qr, Qs, implies_true, Qt, Qu, Qv, Qw, Qx, Qy, Qz, QA, QB, QC, QD, QE, QF, QG, QH, QI, QJ, QK, QL, QM, QN, QO, QP, QQ]
def gridF (lay : List Nat) (ls : List (List UInt8)) : List Row := ls.map (fldsL lay)
/-- What a file is in a layout, or the number of the error. -/
def parseF (lay : List Int) (l : List UInt8) : List Row × Nat :=
  if okLay lay = false then ([], 1) else if 1048576 < l.length then ([], 3) else if Lib.validD l = false then ([], 4)
  else if 4096 < (linesL l).length then ([], 3) else if (gridF (natsOf lay) (linesL l)).any (fun r => r.any bigF) then ([], 3) else (gridF (natsOf lay) (linesL l), 0)
def gridE (x : List Row × Nat) : D := .tup [.agg [Gr x.1 false], .int .i64 x.2]
theorem linesL_in {s : List UInt8} : (linesL s).length ≤ s.length ∧ ∀ p ∈ linesL s, p.length ≤ s.length := by
  obtain ⟨h1, h2⟩ := rawL_len _ s rfl
  refine ⟨by simpa [linesL] using h1, fun p hp => ?_⟩
  obtain ⟨q, hq, rfl⟩ := List.mem_map.1 hp
  have := h2 q hq
  have a := trimS_len q [10]
  have b := trimS_len (Lib.trimSuffix q [10]) [13]
  unfold lnF
  split <;> omega
theorem dropW_len (p : UInt8 → Bool) : ∀ l : List UInt8, (l.dropWhile p).length ≤ l.length
  | [] => Nat.le_refl _
  | x :: t => by
    rw [List.dropWhile_cons]
    split
    · have := dropW_len p t; simp; omega
    · exact Nat.le_refl _
theorem trimB_len (x : List UInt8) : (Lib.trimB x 32).length ≤ x.length := by
  unfold Lib.trimB Lib.trimLeftB Lib.trimRightB
  refine Nat.le_trans (dropW_len _ _) ?_
  rw [List.length_reverse]
  refine Nat.le_trans (dropW_len _ _) ?_
  simp
theorem fld_len (lay : List Nat) (l : List UInt8) : ∀ s ∈ fldsL lay l, s.length ≤ l.length := by
  intro s hs
  obtain ⟨i, _, rfl⟩ := List.mem_map.1 hs
  unfold fldAt cell1
  refine Nat.le_trans (trimB_len _) ?_
  simp; omega
set_option maxHeartbeats 8000000 in
set_option maxRecDepth 100000 in
theorem fparse_spec (hT : HT G) (lay : List Int) (full : Bool) (l : List UInt8) (hlay : lay.length ≤ 1000000) (hl : l.length ≤ 100000000) :
    Ctr Tryz.prog G 24 [.d (IsF lay full), .d (S l)] [] (.d (gridE (parseF lay l))) [] := by
  obtain ⟨r, hr⟩ : ∃ r, r = parseF lay l := ⟨_, rfl⟩
  rw [← hr]
  refine Ctr.pure (M := M0) hmix Tryz.func24 rfl go24 ?_
  unfold parseF at hr
  simp (config := { maxSteps := 1000000 }) (disch := ((try simp only [awL]); omega)) only [QR, QS, QT, QU, QV, QW, QX, QY, QZ, Q0, Q1, Q2, Tryz.f24, ↓awU, awV, awF, Qa, Qb, Qc, Qd, forall_const, ↓reduceIte, ↓reduceDIte, ↓Qe, Qf, Qg, Qh, Qi, Qj, Qk, Ql, Qm, Qn, Qo, Qp, Qq, Qr, Qs, implies_true, Qt, Qu, Qv, Qw, Qx, Qy, Qz, QA, QB, QC, QD, QE, QF, QG, QH, QI, QJ, QK, QL, QM, QN, QO, QP, QQ]
  refine CallC.of (fvalid_spec lay false (by omega)) (by rfl) ?_
  cases hv : okLay lay
  · rw [if_pos hv] at hr
    simp (config := { maxSteps := 1000000 }) (disch := ((try simp only [awL]); omega)) only [QR, QS, QT, QU, QV, QW, QX, QY, QZ, Q0, Q1, Q2, ↓awU, awV, awF, Qa, Qb, Qc, Qd, forall_const, ↓reduceIte, ↓reduceDIte, ↓Qe, Qf, Qg, Qh, Qi, Qj, Qk, Ql, Qm, Qn, Qo, Qp, Qq, Qr, Qs, implies_true, Qt, Qu, Qv, Qw, Qx, Qy, Qz, QA, QB, QC, QD, QE, QF, QG, QH, QI, QJ, QK, QL, QM, QN, QO, QP, QQ]
    rw [hr]; rfl
  · rw [if_neg (by rw [hv]; decide)] at hr
    obtain ⟨k1, k2, k3, k4⟩ := okLay_ok hv
    have nl : (natsOf lay).length = lay.length := by simp [natsOf]
    by_cases h1 : 1048576 < l.length
    · rw [if_pos h1] at hr
      simp (config := { maxSteps := 1000000 }) (disch := ((try simp only [awL]); omega)) only [QR, QS, QT, QU, QV, QW, QX, QY, QZ, Q0, Q1, Q2, ↓awU, awV, awF, Qa, Qb, Qc, Qd, forall_const, ↓reduceIte, ↓reduceDIte, ↓Qe, Qf, Qg, Qh, Qi, Qj, Qk, Ql, Qm, Qn, Qo, Qp, Qq, Qr, Qs, implies_true, Qt, Qu, Qv, Qw, Qx, Qy, Qz, QA, QB, QC, QD, QE, QF, QG, QH, QI, QJ, QK, QL, QM, QN, QO, QP, QQ]
      rw [hr]; rfl
    · rw [if_neg h1] at hr
      simp (config := { maxSteps := 1000000 }) (disch := ((try simp only [awL]); omega)) only [QR, QS, QT, QU, QV, QW, QX, QY, QZ, Q0, Q1, Q2, ↓awU, awV, awF, Qa, Qb, Qc, Qd, forall_const, ↓reduceIte, ↓reduceDIte, ↓Qe, Qf, Qg, Qh, Qi, Qj, Qk, Ql, Qm, Qn, Qo, Qp, Qq, Qr, Qs, implies_true, Qt, Qu, Qv, Qw, Qx, Qy, Qz, QA, QB, QC, QD, QE, QF, QG, QH, QI, QJ, QK, QL, QM, QN, QO, QP, QQ]
      refine CallC.pure (tvalid_spec hT l (by omega)) ?_
      cases hl2 : Lib.validD l
      · rw [if_pos hl2] at hr
        simp (config := { maxSteps := 1000000 }) (disch := ((try simp only [awL]); omega)) only [QR, QS, QT, QU, QV, QW, QX, QY, QZ, Q0, Q1, Q2, ↓awU, awV, awF, Qa, Qb, Qc, Qd, forall_const, ↓reduceIte, ↓reduceDIte, ↓Qe, Qf, Qg, Qh, Qi, Qj, Qk, Ql, Qm, Qn, Qo, Qp, Qq, Qr, Qs, implies_true, Qt, Qu, Qv, Qw, Qx, Qy, Qz, QA, QB, QC, QD, QE, QF, QG, QH, QI, QJ, QK, QL, QM, QN, QO, QP, QQ]
        rw [hr]; rfl
      · rw [if_neg (by rw [hl2]; decide)] at hr
        simp (config := { maxSteps := 1000000 }) (disch := ((try simp only [awL]); omega)) only [QR, QS, QT, QU, QV, QW, QX, QY, QZ, Q0, Q1, Q2, ↓awU, awV, awF, Qa, Qb, Qc, Qd, forall_const, ↓reduceIte, ↓reduceDIte, ↓Qe, Qf, Qg, Qh, Qi, Qj, Qk, Ql, Qm, Qn, Qo, Qp, Qq, Qr, Qs, implies_true, Qt, Qu, Qv, Qw, Qx, Qy, Qz, QA, QB, QC, QD, QE, QF, QG, QH, QI, QJ, QK, QL, QM, QN, QO, QP, QQ]
        refine CallC.pure (lines_spec l (by omega)) ?_
        obtain ⟨j1, j2⟩ := linesL_in (s := l)
        generalize linesL l = ls at hr j1 j2
        have sl := @strs_length ls
        rcases Nat.lt_or_ge 4096 ls.length with h2 | h2
        · rw [if_pos h2] at hr
          simp (config := { maxSteps := 1000000 }) (disch := ((try simp only [awL]); omega)) only [QR, QS, QT, QU, QV, QW, QX, QY, QZ, Q0, Q1, Q2, sl, ↓awU, awV, awF, Qa, Qb, Qc, Qd, forall_const, ↓reduceIte, ↓reduceDIte, ↓Qe, Qf, Qg, Qh, Qi, Qj, Qk, Ql, Qm, Qn, Qo, Qp, Qq, Qr, Qs, implies_true, Qt, Qu, Qv, Qw, Qx, Qy, Qz, QA, QB, QC, QD, QE, QF, QG, QH, QI, QJ, QK, QL, QM, QN, QO, QP, QQ]
          rw [hr]; rfl
        · rw [if_neg (by omega)] at hr
          simp (config := { maxSteps := 1000000 }) (disch := ((try simp only [awL]); omega)) only [QR, QS, QT, QU, QV, QW, QX, QY, QZ, Q0, Q1, Q2, sl, ↓awU, awV, awF, Qa, Qb, Qc, Qd, forall_const, ↓reduceIte, ↓reduceDIte, ↓Qe, Qf, Qg, Qh, Qi, Qj, Qk, Ql, Qm, Qn, Qo, Qp, Qq, Qr, Qs, implies_true, Qt, Qu, Qv, Qw, Qx, Qy, Qz, QA, QB, QC, QD, QE, QF, QG, QH, QI, QJ, QK, QL, QM, QN, QO, QP, QQ]
          rw [show IsF lay full = Ns (natsOf lay) full by unfold IsF Ns; rw [nats_of k4, nl]]
          refine LoopC.fr 12884902033 (α := Nat) (fun i => ls.length - i) (fun i => [(34, .d (.int .i64 i))]) (fun i => [.box [.d (.sl 0 true [])], .box [.lsl 2 1 0 i], .row false (rowsD (gridF (natsOf lay) (ls.take i)))])
            (fun i => i ≤ ls.length ∧ (gridF (natsOf lay) (ls.take i)).any (fun r => r.any bigF) = false) 0 ⟨Nat.zero_le _, by simp [gridF]⟩ ?_ ?_
          · exact ⟨[some 0, some 1, none], rfl, by simp, by simp [setsA, keepA, SWeak, AWeak], by simp [HWeak, BWeak, SWeak, AWeak, rowsD, gridF]⟩
          · rintro i ⟨h3, h4⟩
            simp only [awK, Nat.reduceMod, Nat.reduceDiv, reduceIte]
            rcases Nat.lt_or_ge i ls.length with h | h
            · have g := strs_getD h
              have hgl : (ls.getD i []).length ≤ 1000000000 := by have := j2 _ (memD (d := []) h); omega
              simp (config := { maxSteps := 1000000 }) (disch := ((try simp only [awL]); omega)) only [QR, QS, QT, QU, QV, QW, QX, QY, QZ, Q0, Q1, Q2, sl, g, ↓awU, awV, awF, Qa, Qb, Qc, Qd, forall_const, ↓reduceIte, ↓reduceDIte, ↓Qe, Qf, Qg, Qh, Qi, Qj, Qk, Ql, Qm, Qn, Qo, Qp, Qq, Qr, Qs, implies_true, Qt, Qu, Qv, Qw, Qx, Qy, Qz, QA, QB, QC, QD, QE, QF, QG, QH, QI, QJ, QK, QL, QM, QN, QO, QP, QQ]
              refine CallC.by (fields_spec (natsOf lay) false (ls.getD i []) hgl) (by rfl) (by rfl) (by simp) ?_
              simp (config := { maxSteps := 1000000 }) (disch := ((try simp only [awL]); omega)) only [QR, QS, QT, QU, QV, QW, QX, QY, QZ, Q0, Q1, Q2, ↓awU, awV, awF, Qa, Qb, Qc, Qd, forall_const, ↓reduceIte, ↓reduceDIte, ↓Qe, Qf, Qg, Qh, Qi, Qj, Qk, Ql, Qm, Qn, Qo, Qp, Qq, Qr, Qs, implies_true, Qt, Qu, Qv, Qw, Qx, Qy, Qz, QA, QB, QC, QD, QE, QF, QG, QH, QI, QJ, QK, QL, QM, QN, QO, QP, QQ]
              refine CallC.by (collect_spec (natsOf lay) false (ls.getD i []) k3 hgl) (by rfl) (by rfl) (by simp) ?_
              simp (config := { maxSteps := 1000000 }) (disch := ((try simp only [awL]); omega)) only [QR, QS, QT, QU, QV, QW, QX, QY, QZ, Q0, Q1, Q2, ↓awU, awV, awF, Qa, Qb, Qc, Qd, forall_const, ↓reduceIte, ↓reduceDIte, ↓Qe, Qf, Qg, Qh, Qi, Qj, Qk, Ql, Qm, Qn, Qo, Qp, Qq, Qr, Qs, implies_true, Qt, Qu, Qv, Qw, Qx, Qy, Qz, QA, QB, QC, QD, QE, QF, QG, QH, QI, QJ, QK, QL, QM, QN, QO, QP, QQ]
              have hfl := fld_len (natsOf lay) (ls.getD i [])
              have hn := fldsL_len (natsOf lay) (ls.getD i [])
              have tk : gridF (natsOf lay) (ls.take (i + 1)) = gridF (natsOf lay) (ls.take i) ++ [fldsL (natsOf lay) (ls.getD i [])] := by
                rw [List.take_add_one, List.getElem?_eq_getElem h, List.getD_eq_getElem?_getD, List.getElem?_eq_getElem h]
                simp only [Option.toList_some, gridF, List.map_append, List.map_cons, List.map_nil, Option.getD_some]
              have gl : (gridF (natsOf lay) (ls.take i)).length = i := by simp [gridF]; omega
              generalize fldsL (natsOf lay) (ls.getD i []) = row at *
              have rn := @strs_length row
              have cu : cut (strs row) 0 (natsOf lay).length = strs row := cut_all (by rw [rn, hn])
              refine CallC.frozenE (containsFunc_spec 77 bigF row false (by rw [hn]; have := k3.1; omega) fun s hm => flong_spec s (by have := hfl s hm; omega)) (by rw [cu, ← hn]; rfl) ?_
              have al := @rowsD_length (gridF (natsOf lay) (ls.take i))
              rw [gl] at al
              cases hb : row.any bigF
              · have sp := @rowsD_push (gridF (natsOf lay) (ls.take i)) row
                have k31 := k3.1
                simp (config := { maxSteps := 1000000 }) (disch := ((try simp only [awL]); omega)) only [QR, QS, QT, QU, QV, QW, QX, QY, QZ, Q0, Q1, Q2, al, cu, ↓awU, awV, awF, Qa, Qb, Qc, Qd, forall_const, ↓reduceIte, ↓reduceDIte, ↓Qe, Qf, Qg, Qh, Qi, Qj, Qk, Ql, Qm, Qn, Qo, Qp, Qq, Qr, Qs, implies_true, Qt, Qu, Qv, Qw, Qx, Qy, Qz, QA, QB, QC, QD, QE, QF, QG, QH, QI, QJ, QK, QL, QM, QN, QO, QP, QQ]
                rw [show D.sl (natsOf lay).length false (strs row) = Ss row false by rw [← hn], sp, ← tk]
                exact ⟨i + 1, ⟨h, by rw [tk, List.any_append, h4]; simp [hb]⟩, by simp only; omega, ⟨[some 0, some 1, some 9], rfl, by simp, by simp [setsA, keepA, SWeak, AWeak], by simp [HWeak, BWeak, SWeak, AWeak]⟩⟩
              · have ha : (gridF (natsOf lay) ls).any (fun r => r.any bigF) = true := by
                  rw [← List.take_append_drop (i + 1) ls, gridF, List.map_append, List.any_append, ← gridF, tk, List.any_append]
                  simp [hb]
                rw [if_pos ha] at hr
                simp (config := { maxSteps := 1000000 }) (disch := ((try simp only [awL]); omega)) only [QR, QS, QT, QU, QV, QW, QX, QY, QZ, Q0, Q1, Q2, ↓awU, awV, awF, Qa, Qb, Qc, Qd, forall_const, ↓reduceIte, ↓reduceDIte, ↓Qe, Qf, Qg, Qh, Qi, Qj, Qk, Ql, Qm, Qn, Qo, Qp, Qq, Qr, Qs, implies_true, Qt, Qu, Qv, Qw, Qx, Qy, Qz, QA, QB, QC, QD, QE, QF, QG, QH, QI, QJ, QK, QL, QM, QN, QO, QP, QQ]
                rw [hr]; rfl
            · rw [List.take_of_length_le h] at h4 ⊢
              have al := @rowsD_length (gridF (natsOf lay) ls)
              have gl : (gridF (natsOf lay) ls).length = ls.length := by simp [gridF]
              obtain rfl : i = ls.length := by omega
              rw [if_neg (by rw [h4]; decide)] at hr
              have cu : cut (rowsD (gridF (natsOf lay) ls)) 0 ls.length = rowsD (gridF (natsOf lay) ls) := cut_all (by rw [al, gl])
              simp (config := { maxSteps := 1000000 }) (disch := ((try simp only [awL]); omega)) only [QR, QS, QT, QU, QV, QW, QX, QY, QZ, Q0, Q1, Q2, al, cu, ↓awU, awV, awF, Qa, Qb, Qc, Qd, forall_const, ↓reduceIte, ↓reduceDIte, ↓Qe, Qf, Qg, Qh, Qi, Qj, Qk, Ql, Qm, Qn, Qo, Qp, Qq, Qr, Qs, implies_true, Qt, Qu, Qv, Qw, Qx, Qy, Qz, QA, QB, QC, QD, QE, QF, QG, QH, QI, QJ, QK, QL, QM, QN, QO, QP, QQ]
              rw [hr]
              simp only [gridE, Gr, gl]
              rfl
end Go.Proofs.YtacepalmphbnfaaGreatDoor

namespace Go.Proofs.YtacepalmphbnfaaGreatDoor
open Go Go.Proofs Go.Abs
variable {G : Globals}
/-! The reference's Trim. -/
theorem trimR_snoc (c : UInt8) (q : List UInt8) : Lib.trimRightB (q ++ [c]) c = Lib.trimRightB q c := by
  simp [Lib.trimRightB, List.dropWhile]
end Go.Proofs.YtacepalmphbnfaaGreatDoor

namespace Go.Proofs.YtacepalmphbnfaaGreatDoor
open Go Go.Proofs Go.Abs
/-! The code points of a text, and the bytes that they stand for. -/
theorem dec_drop (l : List UInt8) (p : Nat) : dec l p = Lib.decodeL (l.drop p) := (Lib.decodeL_drop (bs l) p).symm
/-- The bytes of a code point. -/
def encC (r : Nat) : List UInt8 := Lib.encodeRune (r : Int)
def encL (l : List Nat) : List UInt8 := l.flatMap encC
/-- The code points from a place on. -/
def rnF (l : List UInt8) (p : Nat) : List Nat :=
  if h : p < l.length then (dec l p).1 :: rnF l (p + (dec l p).2) else []
termination_by l.length - p
decreasing_by have := dec_end l p h; omega
theorem rnF_more {l : List UInt8} {p : Nat} (h : p < l.length) : rnF l p = (dec l p).1 :: rnF l (p + (dec l p).2) := by rw [rnF, dif_pos h]
theorem rnF_end {l : List UInt8} {p : Nat} (h : ¬ p < l.length) : rnF l p = [] := by rw [rnF, dif_neg h]
theorem runesN_eq (l : List UInt8) : ∀ (b p : Nat), l.length - p ≤ b → runesN (bs l) b p = rnF l p
  | 0, p, h => by rw [rnF_end (by omega)]; rfl
  | b + 1, p, h => by
    unfold runesN
    rw [bs_size]
    by_cases hp : p < l.length
    · have := dec_end l p hp
      rw [if_pos hp, rnF_more hp]
      congr 1
      exact runesN_eq l b _ (by show l.length - (p + (dec l p).2) ≤ b; omega)
    · rw [if_neg hp, rnF_end hp]
theorem runesS_bs (l : List UInt8) : runesS (bs l) = rnF l 0 := runesN_eq l _ 0 (by rw [bs_size]; omega)
theorem runesD_bs (l : List UInt8) : runesD (bs l) = nats .i32 (rnF l 0) := by rw [runesD, runesS_bs]; rfl
theorem rn_pos_len : ∀ (n : Nat) (l : List UInt8) (p : Nat), l.length - p = n → (rnF l p).length = (posF l p).length := by
  intro n
  induction n using Nat.strongRecOn with
  | _ n ih =>
    intro l p hn
    by_cases h : p < l.length
    · have := dec_end l p h
      rw [rnF_more h, posF_more h, List.length_cons, List.length_cons, ih _ (by omega) l _ rfl]
    · rw [rnF_end h, posF_end h]; rfl
/-- In a valid text a code point at a place that the walk reaches is just its bytes. -/
theorem valid_walk : ∀ (n : Nat) (l : List UInt8) (p : Nat), l.length - p = n → p ≤ l.length → Lib.validD (l.drop p) = true → ∀ k, encL ((rnF l p).take k) = (l.take ((posF l p ++ [(l.length : Int)]).getD (min k (posF l p).length) 0).toNat).drop p := by
  intro n
  induction n using Nat.strongRecOn with
  | _ n ih =>
    intro l p hn hp hv k
    by_cases h : p < l.length
    · have hd := dec_end l p h
      cases k with
      | zero =>
        rw [posF_more h]
        simp [encL]
      | succ k =>
        have hne : l.drop p ≠ [] := by intro e; have := congrArg List.length e; simp at this; omega
        have hv1 : ¬ ((Lib.decodeL (l.drop p)).1 = 65533 ∧ (Lib.decodeL (l.drop p)).2 = 1) ∧ Lib.validD ((l.drop p).drop (Lib.decodeL (l.drop p)).2) = true := by
          rw [Lib.validD_step _ hne] at hv
          by_cases hb : (Lib.decodeL (l.drop p)).1 = 65533 ∧ (Lib.decodeL (l.drop p)).2 = 1
          · rw [if_pos hb] at hv; cases hv
          · rw [if_neg hb] at hv; exact ⟨hb, hv⟩
        have he := Lib.encode_decode _ hne hv1.1
        rw [← dec_drop] at he
        have hv2 : Lib.validD (l.drop (p + (dec l p).2)) = true := by
          have := hv1.2
          rwa [← dec_drop, List.drop_drop] at this
        have i := ih _ (by omega) l (p + (dec l p).2) rfl hd.2 hv2 k
        rw [rnF_more h, posF_more h, List.take_succ_cons]
        have e1 : encL ((dec l p).1 :: (rnF l (p + (dec l p).2)).take k) = encC (dec l p).1 ++ encL ((rnF l (p + (dec l p).2)).take k) := by simp [encL]
        have eq : ((((p : Int) :: posF l (p + (dec l p).2)) ++ [(l.length : Int)]).getD (min (k + 1) ((p : Int) :: posF l (p + (dec l p).2)).length) 0) = ((posF l (p + (dec l p).2) ++ [(l.length : Int)]).getD (min k (posF l (p + (dec l p).2)).length) 0) := by
          rw [List.length_cons, show min (k + 1) ((posF l (p + (dec l p).2)).length + 1) = min k (posF l (p + (dec l p).2)).length + 1 by omega]
          rfl
        have hq : ((p + (dec l p).2 : Nat) : Int) ≤ (posF l (p + (dec l p).2) ++ [(l.length : Int)]).getD (min k (posF l (p + (dec l p).2)).length) 0 := by
          have hm : (posF l (p + (dec l p).2) ++ [(l.length : Int)]).getD (min k (posF l (p + (dec l p).2)).length) 0 ∈ posF l (p + (dec l p).2) ++ [(l.length : Int)] := memD (by simp; omega)
          rcases List.mem_append.1 hm with h1 | h1
          · exact (posF_bound _ l _ rfl _ h1).1
          · simp only [List.mem_singleton] at h1
            rw [h1]
            omega
        rw [e1, i, encC, he, eq]
        generalize (posF l (p + (dec l p).2) ++ [(l.length : Int)]).getD (min k (posF l (p + (dec l p).2)).length) 0 = q at hq
        generalize (dec l p).2 = w at *
        have e2 : (l.take q.toNat).drop p = ((l.take q.toNat).drop p).take w ++ ((l.take q.toNat).drop p).drop w := (List.take_append_drop ..).symm
        rw [e2, List.drop_drop]
        congr 1
        rw [List.drop_take, List.take_take, show min w (q.toNat - p) = w by omega]
    · rw [rnF_end h, posF_end h]
      have : p = l.length := by omega
      subst this
      simp [encL]
/-- The bytes of the first code points of a valid text. -/
theorem enc_take {l : List UInt8} (hv : Lib.validD l = true) (k : Nat) : encL ((rnF l 0).take k) = l.take (offA l k) := by
  have := valid_walk _ l 0 rfl (Nat.zero_le _) (by rw [List.drop_zero]; exact hv) k
  rw [List.drop_zero] at this
  exact this
theorem enc_seg {l : List UInt8} (hv : Lib.validD l = true) {a b : Nat} (h : a ≤ b) : encL (((rnF l 0).take b).drop a) = (l.take (offA l b)).drop (offA l a) := by
  have hm := offA_mono l h
  have e := enc_take hv b
  have ea := enc_take hv a
  have s1 : (rnF l 0).take b = ((rnF l 0).take a) ++ ((rnF l 0).take b).drop a := by
    have := (List.take_append_drop a ((rnF l 0).take b)).symm
    rwa [List.take_take, Nat.min_eq_left h] at this
  have s2 : encL ((rnF l 0).take b) = encL ((rnF l 0).take a) ++ encL (((rnF l 0).take b).drop a) := by
    conv => lhs; rw [s1]
    simp [encL]
  rw [e, ea] at s2
  have hl : (l.take (offA l a)).length = offA l a := by
    have := (offA_eq l a).2
    simp; omega
  rw [s2]
  conv => rhs; rw [show offA l a = (l.take (offA l a)).length from hl.symm]
  rw [hl, List.drop_append_of_le_length (by omega), List.drop_of_length_le (Nat.le_of_eq hl), List.nil_append]
end Go.Proofs.YtacepalmphbnfaaGreatDoor
