/-
  Contracts of the functions, one after another.
-/
import Derived.Test.YtacepalmphbnfaaDoorLa3
import Derived.Lib.ValidLaws
import Derived.Test.YtacepalmphbnfaaDoorChecked
import Derived.KernelRfl
import Derived.Shelf.Unicode.ValidAny
import Derived.Ground.NamesProg
import Derived.Lib.DecodeN
import Derived.Lib.Strings
import Derived.Lib.Slices
import Derived.Lib.Walk
import Derived.Lib.Bytealg
import Derived.Shelf.Strings.Trim
import Derived.Shelf.Strings.Replace
import Derived.Shelf.Strings.Repeat
import Derived.Shelf.Strings.Builder1
import Derived.Shelf.Utf8.RuneCount
import Derived.Shelf.Strings.Prefix
import Derived.Shelf.Small.Wraps
import Derived.Lib.OthersKept
set_option linter.all false
open Go.Abs renaming ofVal → Qa, ofVal0 → Qb, isShift → Qc, aggK → Qd, purePost → Qe, combine → Qf, idsA → Qg, cellsA → Qh, numsOf → Qi, srcA → Qj, calleeA → Qk, refsA → Ql, isScalar → Qm, scalarD → Qn, scalar0 → Qo, putL → Qr, unfA → Qs, sidsB → QJ, keyKD → QL, isIntK → QM, aggD → QN, aggL → QO, eqKs → QP, boxRow → QQ, nextC_more → QT, nextC_over → QU, bs_size → QV, bs_extract → QW, bs_toList → QX, bs_append → QY, byteAt_bs → QZ, bs_cells → Q0, nums_length → Q1, nums_getD → Q2
open Go.Abs.AV renaming one → Qp
open Go.Abs.D renaming one → Qq
open Go.IntKind renaming signed → Qt
open Nat renaming reduceAdd → Qu, reduceSub → Qv, reduceMul → Qw, reducePow → Qx, reduceDiv → Qy, reduceMod → Qz, reduceEqDiff → QI, reduceBEq → QK
open Int renaming reduceAdd → QA, reduceSub → QB, reduceMul → QC, reducePow → QD, reduceNeg → QE, reduceToNat → QF, reduceLT → QG, reduceLE → QH
open Option renaming toList_some → QR, toList_none → QS
namespace Go.Proofs.YtacepalmphbnfaaDoor
/-! Files with a delimiter: what is read. -/
end Go.Proofs.YtacepalmphbnfaaDoor

namespace Go.Proofs.YtacepalmphbnfaaDoor
open Go.Lib
/-! Valid texts: what they are made of. -/
theorem checkN_some {n b1 b2 b3 sz lo hi k : Nat} (h : checkN n b1 b2 b3 sz lo hi = some k) : k = sz ∧ 2 ≤ sz ∧ sz ≤ 4 ∧ sz ≤ n ∧ lo ≤ b1 ∧ b1 ≤ hi ∧ (3 ≤ sz → 128 ≤ b2 ∧ b2 ≤ 191) ∧ (4 ≤ sz → 128 ≤ b3 ∧ b3 ≤ 191) := by
  unfold checkN at h
  split at h
  · split at h
    · cases h
    · cases h; omega
  · split at h
    · split at h
      · cases h
      · cases h; omega
    · split at h
      · split at h
        · cases h
        · cases h; omega
      · cases h
theorem checkN_mk {n b1 b2 b3 sz lo hi : Nat} (h1 : 2 ≤ sz) (h2 : sz ≤ 4) (hn : sz ≤ n) (hl : lo ≤ b1) (hh : b1 ≤ hi) (h3 : 3 ≤ sz → 128 ≤ b2 ∧ b2 ≤ 191) (h4 : 4 ≤ sz → 128 ≤ b3 ∧ b3 ≤ 191) : checkN n b1 b2 b3 sz lo hi = some sz := by
  unfold checkN
  rcases (by omega : sz = 2 ∨ sz = 3 ∨ sz = 4) with rfl | rfl | rfl
  · rw [if_pos rfl, if_neg (by omega)]
  · have := h3 (by omega)
    rw [if_neg (by decide), if_pos rfl, if_neg (by omega)]
  · have := h3 (by omega)
    have := h4 (by omega)
    rw [if_neg (by decide), if_neg (by decide), if_pos rfl, if_neg (by omega)]
set_option maxRecDepth 100000 in
theorem accLo_ge : ∀ b : Fin 256, 2 ≤ firstT b.val % 8 → firstT b.val % 8 ≤ 4 → 128 ≤ accLo (firstT b.val / 16) := by decide
/-- A valid text, by its first rune. -/
theorem valid_cases {l : List UInt8} (h : validD l = true) : l = [] ∨ ∃ p m, l = p ++ m ∧ p ≠ [] ∧ validD m = true ∧ (∀ m', validD (p ++ m') = validD m') ∧ ((∃ c, p = [c] ∧ c.toNat < 128) ∨ ∀ c ∈ p, 128 ≤ c.toNat) := by
  match l, h with
  | [], _ => exact .inl rfl
  | c :: r, h =>
    right
    by_cases hc : c.toNat < 128
    · exact ⟨[c], r, rfl, by simp, by rwa [validD_cons c r hc] at h, fun m' => validD_cons c m' hc, .inl ⟨c, rfl, hc⟩⟩
    · have h0 : 128 ≤ ((c :: r).getD 0 0).toNat := by show 128 ≤ c.toNat; omega
      have hv := validD_lead (c :: r) (by simp) h0
      rw [h] at hv
      cases hk : checkN (c :: r).length ((c :: r).getD 1 0).toNat ((c :: r).getD 2 0).toNat ((c :: r).getD 3 0).toNat (firstT ((c :: r).getD 0 0).toNat % 8) (accLo (firstT ((c :: r).getD 0 0).toNat / 16)) (accHi (firstT ((c :: r).getD 0 0).toNat / 16)) with
      | none => rw [hk] at hv; cases hv
      | some k =>
        rw [hk] at hv
        obtain ⟨ek, k1, k2, k3, k4, k5, k6, k7⟩ := checkN_some hk
        have lo := accLo_ge ⟨((c :: r).getD 0 0).toNat, UInt8.toNat_lt _⟩ k1 k2
        simp only at lo
        generalize hl : c :: r = l at *
        clear hl hc
        have hg : ∀ m' j, j < k → (l.take k ++ m').getD j 0 = l.getD j 0 := by
          intro m' j hj
          rw [List.getD_eq_getElem?_getD, List.getD_eq_getElem?_getD, List.getElem?_append_left (by rw [List.length_take]; omega), List.getElem?_take, if_pos hj]
        have hkl : k ≤ l.length := by omega
        have hlt : (l.take k).length = k := by rw [List.length_take]; omega
        refine ⟨l.take k, l.drop k, (List.take_append_drop k l).symm, ?_, hv.symm, fun m' => ?_, .inr ?_⟩
        · intro e
          rw [e] at hlt; simp at hlt; omega
        · have hne : l.take k ++ m' ≠ [] := by
            intro e
            have := congrArg List.length e
            rw [List.length_append, hlt] at this
            simp only [List.length_nil] at this; omega
          have g0 := hg m' 0 (by omega)
          have g1 := hg m' 1 (by omega)
          rw [validD_lead _ hne (by rw [g0]; exact h0), g0, g1, checkN_mk (sz := firstT (l.getD 0 0).toNat % 8) k1 k2 (by rw [List.length_append, List.length_take]; omega) k4 k5 (fun h3 => by rw [hg m' 2 (by omega)]; exact k6 h3) (fun h4 => by rw [hg m' 3 (by omega)]; exact k7 h4)]
          show validD ((l.take k ++ m').drop (firstT (l.getD 0 0).toNat % 8)) = _
          rw [← ek, List.drop_left' hlt]
        · intro x hx
          obtain ⟨j, hj, rfl⟩ := List.getElem_of_mem hx
          rw [List.length_take] at hj
          rw [List.getElem_take]
          have e : l[j] = l.getD j 0 := by rw [List.getD_eq_getElem?_getD, List.getElem?_eq_getElem (by omega)]; rfl
          rw [e]
          rcases (by omega : j = 0 ∨ j = 1 ∨ j = 2 ∨ j = 3) with rfl | rfl | rfl | rfl
          · exact h0
          · omega
          · exact (k6 (by omega)).1
          · exact (k7 (by omega)).1
theorem valid_append : ∀ (n : Nat) (a b : List UInt8), a.length = n → validD a = true → validD (a ++ b) = validD b := by
  intro n
  induction n using Nat.strongRecOn with
  | _ n ih =>
    intro a b hn ha
    rcases valid_cases ha with rfl | ⟨p, m, rfl, hp, hm, hall, _⟩
    · rfl
    · have := List.length_pos_iff.2 hp
      rw [List.append_assoc, hall, ih m.length (by rw [List.length_append] at hn; omega) m b rfl hm]
theorem valid_app {a b : List UInt8} (ha : validD a = true) (hb : validD b = true) : validD (a ++ b) = true := by rw [valid_append _ a b rfl ha]; exact hb
end Go.Proofs.YtacepalmphbnfaaDoor

/-
  Facts of the program: its types, and which functions are Go text: each by the kernel.
-/
namespace Go.Proofs.YtacepalmphbnfaaDoor
open Go Go.Proofs Go.Abs
theorem ti2 : tiOf Tryd.prog 2 = some ⟨.int .i64, 1, 8, [.int .i64 0]⟩ := by kernel_rfl
theorem ie2 : intE Tryd.prog 2 = some .i64 := by kernel_rfl
theorem it2 : intT Tryd.prog 2 = some .i64 := by kernel_rfl
theorem st2 : isStrT Tryd.prog 2 = false := by kernel_rfl
theorem ti3 : tiOf Tryd.prog 3 = some ⟨.int .i64, 1, 8, [.int .i64 0]⟩ := by kernel_rfl
theorem ie3 : intE Tryd.prog 3 = some .i64 := by kernel_rfl
theorem it3 : intT Tryd.prog 3 = some .i64 := by kernel_rfl
theorem st3 : isStrT Tryd.prog 3 = false := by kernel_rfl
theorem ti4 : tiOf Tryd.prog 4 = some ⟨.bool, 1, 1, [.bool false]⟩ := by kernel_rfl
theorem bt4 : isBoolT Tryd.prog 4 = true := by kernel_rfl
theorem ti5 : tiOf Tryd.prog 5 = some ⟨.int .u8, 1, 1, [.int .u8 0]⟩ := by kernel_rfl
theorem ie5 : intE Tryd.prog 5 = some .u8 := by kernel_rfl
theorem it5 : intT Tryd.prog 5 = some .u8 := by kernel_rfl
theorem st5 : isStrT Tryd.prog 5 = false := by kernel_rfl
theorem ti6 : tiOf Tryd.prog 6 = some ⟨.int .u8, 1, 1, [.int .u8 0]⟩ := by kernel_rfl
theorem ie6 : intE Tryd.prog 6 = some .u8 := by kernel_rfl
theorem it6 : intT Tryd.prog 6 = some .u8 := by kernel_rfl
theorem st6 : isStrT Tryd.prog 6 = false := by kernel_rfl
theorem ti7 : tiOf Tryd.prog 7 = some ⟨.struct [(0, 2, 1), (1, 3, 1), (2, 4, 1), (3, 6, 1)], 4, 24, [.int .i64 0, .int .i64 0, .bool false, .int .u8 0]⟩ := by kernel_rfl
theorem sf7_0 : structF Tryd.prog 7 0 = some (0, 2, 1) := by kernel_rfl
theorem sf7_1 : structF Tryd.prog 7 1 = some (1, 3, 1) := by kernel_rfl
theorem sf7_2 : structF Tryd.prog 7 2 = some (2, 4, 1) := by kernel_rfl
theorem sf7_3 : structF Tryd.prog 7 3 = some (3, 6, 1) := by kernel_rfl
theorem ti8 : tiOf Tryd.prog 8 = some ⟨.struct [(0, 2, 1), (1, 3, 1), (2, 4, 1), (3, 6, 1)], 4, 24, [.int .i64 0, .int .i64 0, .bool false, .int .u8 0]⟩ := by kernel_rfl
theorem sf8_0 : structF Tryd.prog 8 0 = some (0, 2, 1) := by kernel_rfl
theorem sf8_1 : structF Tryd.prog 8 1 = some (1, 3, 1) := by kernel_rfl
theorem sf8_2 : structF Tryd.prog 8 2 = some (2, 4, 1) := by kernel_rfl
theorem sf8_3 : structF Tryd.prog 8 3 = some (3, 6, 1) := by kernel_rfl
theorem ti9 : tiOf Tryd.prog 9 = some ⟨.string, 1, 16, [.str .empty]⟩ := by kernel_rfl
theorem st9 : isStrT Tryd.prog 9 = true := by kernel_rfl
theorem ap9 : appendable Tryd.prog 9 = true := by kernel_rfl
theorem it9 : intT Tryd.prog 9 = none := by kernel_rfl
theorem ti10 : tiOf Tryd.prog 10 = some ⟨.string, 1, 16, [.str .empty]⟩ := by kernel_rfl
theorem st10 : isStrT Tryd.prog 10 = true := by kernel_rfl
theorem ap10 : appendable Tryd.prog 10 = true := by kernel_rfl
theorem it10 : intT Tryd.prog 10 = none := by kernel_rfl
theorem ti11 : tiOf Tryd.prog 11 = some ⟨.string, 1, 16, [.str .empty]⟩ := by kernel_rfl
theorem st11 : isStrT Tryd.prog 11 = true := by kernel_rfl
theorem ap11 : appendable Tryd.prog 11 = true := by kernel_rfl
theorem it11 : intT Tryd.prog 11 = none := by kernel_rfl
theorem ti12 : tiOf Tryd.prog 12 = some ⟨.int .u64, 1, 8, [.int .u64 0]⟩ := by kernel_rfl
theorem ie12 : intE Tryd.prog 12 = some .u64 := by kernel_rfl
theorem it12 : intT Tryd.prog 12 = some .u64 := by kernel_rfl
theorem st12 : isStrT Tryd.prog 12 = false := by kernel_rfl
theorem ti14 : tiOf Tryd.prog 14 = some ⟨.struct [(0, 9, 1), (1, 12, 1)], 2, 24, [.str .empty, .int .u64 0]⟩ := by kernel_rfl
theorem sf14_0 : structF Tryd.prog 14 0 = some (0, 9, 1) := by kernel_rfl
theorem sf14_1 : structF Tryd.prog 14 1 = some (1, 12, 1) := by kernel_rfl
theorem ti15 : tiOf Tryd.prog 15 = some ⟨.ptr 131, 1, 8, [.nilp]⟩ := by kernel_rfl
theorem ti16 : tiOf Tryd.prog 16 = some ⟨.ptr 134, 1, 8, [.nilp]⟩ := by kernel_rfl
theorem ti17 : tiOf Tryd.prog 17 = some ⟨.ptr 141, 1, 8, [.nilp]⟩ := by kernel_rfl
theorem ti19 : tiOf Tryd.prog 19 = some ⟨.struct [(0, 17, 1)], 1, 8, [.nilp]⟩ := by kernel_rfl
theorem sf19_0 : structF Tryd.prog 19 0 = some (0, 17, 1) := by kernel_rfl
theorem ti20 : tiOf Tryd.prog 20 = some ⟨.other, 1, 16, [.nili]⟩ := by kernel_rfl
theorem ti21 : tiOf Tryd.prog 21 = some ⟨.int .i32, 1, 4, [.int .i32 0]⟩ := by kernel_rfl
theorem ie21 : intE Tryd.prog 21 = some .i32 := by kernel_rfl
theorem it21 : intT Tryd.prog 21 = some .i32 := by kernel_rfl
theorem st21 : isStrT Tryd.prog 21 = false := by kernel_rfl
theorem ti22 : tiOf Tryd.prog 22 = some ⟨.slice 5, 1, 24, [.sl 0 true []]⟩ := by kernel_rfl
theorem se22 : sliceElem Tryd.prog 22 = some (5, ⟨.int .u8, 1, 1, [.int .u8 0]⟩) := by kernel_rfl
theorem sz22 : isSliceT Tryd.prog 22 = true := by kernel_rfl
theorem ap22 : appendable Tryd.prog 22 = true := by kernel_rfl
theorem st22 : isStrT Tryd.prog 22 = false := by kernel_rfl
theorem ti24 : tiOf Tryd.prog 24 = some ⟨.ptr 45, 1, 8, [.nilp]⟩ := by kernel_rfl
theorem ti26 : tiOf Tryd.prog 26 = some ⟨.slice 3, 1, 24, [.sl 0 true []]⟩ := by kernel_rfl
theorem se26 : sliceElem Tryd.prog 26 = some (3, ⟨.int .i64, 1, 8, [.int .i64 0]⟩) := by kernel_rfl
theorem sz26 : isSliceT Tryd.prog 26 = true := by kernel_rfl
theorem ap26 : appendable Tryd.prog 26 = true := by kernel_rfl
theorem st26 : isStrT Tryd.prog 26 = false := by kernel_rfl
theorem ti28 : tiOf Tryd.prog 28 = some ⟨.int .i64, 1, 8, [.int .i64 0]⟩ := by kernel_rfl
theorem ie28 : intE Tryd.prog 28 = some .i64 := by kernel_rfl
theorem it28 : intT Tryd.prog 28 = some .i64 := by kernel_rfl
theorem st28 : isStrT Tryd.prog 28 = false := by kernel_rfl
theorem ti31 : tiOf Tryd.prog 31 = some ⟨.slice 39, 1, 24, [.sl 0 true []]⟩ := by kernel_rfl
theorem se31 : sliceElem Tryd.prog 31 = some (39, ⟨.slice 9, 1, 24, [.sl 0 true []]⟩) := by kernel_rfl
theorem sz31 : isSliceT Tryd.prog 31 = true := by kernel_rfl
theorem ap31 : appendable Tryd.prog 31 = true := by kernel_rfl
theorem st31 : isStrT Tryd.prog 31 = false := by kernel_rfl
theorem ti33 : tiOf Tryd.prog 33 = some ⟨.struct [(0, 31, 1)], 1, 24, [.sl 0 true []]⟩ := by kernel_rfl
theorem sf33_0 : structF Tryd.prog 33 0 = some (0, 31, 1) := by kernel_rfl
theorem ti39 : tiOf Tryd.prog 39 = some ⟨.slice 9, 1, 24, [.sl 0 true []]⟩ := by kernel_rfl
theorem se39 : sliceElem Tryd.prog 39 = some (9, ⟨.string, 1, 16, [.str .empty]⟩) := by kernel_rfl
theorem sz39 : isSliceT Tryd.prog 39 = true := by kernel_rfl
theorem ap39 : appendable Tryd.prog 39 = true := by kernel_rfl
theorem st39 : isStrT Tryd.prog 39 = false := by kernel_rfl
theorem ti45 : tiOf Tryd.prog 45 = some ⟨.struct [(0, 22, 1), (1, 3, 1)], 2, 32, [.sl 0 true [], .int .i64 0]⟩ := by kernel_rfl
theorem sf45_0 : structF Tryd.prog 45 0 = some (0, 22, 1) := by kernel_rfl
theorem sf45_1 : structF Tryd.prog 45 1 = some (1, 3, 1) := by kernel_rfl
theorem ti46 : tiOf Tryd.prog 46 = some ⟨.func, 1, 8, [.nilf]⟩ := by kernel_rfl
theorem ti49 : tiOf Tryd.prog 49 = some ⟨.ptr 51, 1, 8, [.nilp]⟩ := by kernel_rfl
theorem ti51 : tiOf Tryd.prog 51 = some ⟨.struct [(0, 49, 1), (1, 22, 1)], 2, 32, [.nilp, .sl 0 true []]⟩ := by kernel_rfl
theorem sf51_0 : structF Tryd.prog 51 0 = some (0, 49, 1) := by kernel_rfl
theorem sf51_1 : structF Tryd.prog 51 1 = some (1, 22, 1) := by kernel_rfl
theorem ti53 : tiOf Tryd.prog 53 = some ⟨.other, 1, 16, [.nili]⟩ := by kernel_rfl
theorem ti63 : tiOf Tryd.prog 63 = some ⟨.slice 21, 1, 24, [.sl 0 true []]⟩ := by kernel_rfl
theorem se63 : sliceElem Tryd.prog 63 = some (21, ⟨.int .i32, 1, 4, [.int .i32 0]⟩) := by kernel_rfl
theorem sz63 : isSliceT Tryd.prog 63 = true := by kernel_rfl
theorem ap63 : appendable Tryd.prog 63 = true := by kernel_rfl
theorem st63 : isStrT Tryd.prog 63 = false := by kernel_rfl
theorem ti64 : tiOf Tryd.prog 64 = some ⟨.func, 1, 8, [.nilf]⟩ := by kernel_rfl
theorem ti65 : tiOf Tryd.prog 65 = some ⟨.slice 4, 1, 24, [.sl 0 true []]⟩ := by kernel_rfl
theorem se65 : sliceElem Tryd.prog 65 = some (4, ⟨.bool, 1, 1, [.bool false]⟩) := by kernel_rfl
theorem sz65 : isSliceT Tryd.prog 65 = true := by kernel_rfl
theorem ap65 : appendable Tryd.prog 65 = true := by kernel_rfl
theorem st65 : isStrT Tryd.prog 65 = false := by kernel_rfl
theorem ti68 : tiOf Tryd.prog 68 = some ⟨.func, 1, 8, [.nilf]⟩ := by kernel_rfl
theorem ti69 : tiOf Tryd.prog 69 = some ⟨.func, 1, 8, [.nilf]⟩ := by kernel_rfl
theorem ti75 : tiOf Tryd.prog 75 = some ⟨.int .u64, 1, 8, [.int .u64 0]⟩ := by kernel_rfl
theorem ie75 : intE Tryd.prog 75 = some .u64 := by kernel_rfl
theorem it75 : intT Tryd.prog 75 = some .u64 := by kernel_rfl
theorem st75 : isStrT Tryd.prog 75 = false := by kernel_rfl
theorem ti79 : tiOf Tryd.prog 79 = some ⟨.ptr 5, 1, 8, [.nilp]⟩ := by kernel_rfl
theorem ti90 : tiOf Tryd.prog 90 = some ⟨.int .u32, 1, 4, [.int .u32 0]⟩ := by kernel_rfl
theorem ie90 : intE Tryd.prog 90 = some .u32 := by kernel_rfl
theorem it90 : intT Tryd.prog 90 = some .u32 := by kernel_rfl
theorem st90 : isStrT Tryd.prog 90 = false := by kernel_rfl
theorem ti93 : tiOf Tryd.prog 93 = some ⟨.int .u64, 1, 8, [.int .u64 0]⟩ := by kernel_rfl
theorem ie93 : intE Tryd.prog 93 = some .u64 := by kernel_rfl
theorem it93 : intT Tryd.prog 93 = some .u64 := by kernel_rfl
theorem st93 : isStrT Tryd.prog 93 = false := by kernel_rfl
theorem ti97 : tiOf Tryd.prog 97 = some ⟨.array 256 5, 256, 256, [.int .u8 0, .int .u8 0, .int .u8 0, .int .u8 0, .int .u8 0, .int .u8 0, .int .u8 0, .int .u8 0, .int .u8 0, .int .u8 0, .int .u8 0, .int .u8 0, .int .u8 0, .int .u8 0, .int .u8 0, .int .u8 0, .int .u8 0, .int .u8 0, .int .u8 0, .int .u8 0, .int .u8 0, .int .u8 0, .int .u8 0, .int .u8 0, .int .u8 0, .int .u8 0, .int .u8 0, .int .u8 0, .int .u8 0, .int .u8 0, .int .u8 0, .int .u8 0, .int .u8 0, .int .u8 0, .int .u8 0, .int .u8 0, .int .u8 0, .int .u8 0, .int .u8 0, .int .u8 0, .int .u8 0, .int .u8 0, .int .u8 0, .int .u8 0, .int .u8 0, .int .u8 0, .int .u8 0, .int .u8 0, .int .u8 0, .int .u8 0, .int .u8 0, .int .u8 0, .int .u8 0, .int .u8 0, .int .u8 0, .int .u8 0, .int .u8 0, .int .u8 0, .int .u8 0, .int .u8 0, .int .u8 0, .int .u8 0, .int .u8 0, .int .u8 0, .int .u8 0, .int .u8 0, .int .u8 0, .int .u8 0, .int .u8 0, .int .u8 0, .int .u8 0, .int .u8 0, .int .u8 0, .int .u8 0, .int .u8 0, .int .u8 0, .int .u8 0, .int .u8 0, .int .u8 0, .int .u8 0, .int .u8 0, .int .u8 0, .int .u8 0, .int .u8 0, .int .u8 0, .int .u8 0, .int .u8 0, .int .u8 0, .int .u8 0, .int .u8 0, .int .u8 0, .int .u8 0, .int .u8 0, .int .u8 0, .int .u8 0, .int .u8 0, .int .u8 0, .int .u8 0, .int .u8 0, .int .u8 0, .int .u8 0, .int .u8 0, .int .u8 0, .int .u8 0, .int .u8 0, .int .u8 0, .int .u8 0, .int .u8 0, .int .u8 0, .int .u8 0, .int .u8 0, .int .u8 0, .int .u8 0, .int .u8 0, .int .u8 0, .int .u8 0, .int .u8 0, .int .u8 0, .int .u8 0, .int .u8 0, .int .u8 0, .int .u8 0, .int .u8 0, .int .u8 0, .int .u8 0, .int .u8 0, .int .u8 0, .int .u8 0, .int .u8 0, .int .u8 0, .int .u8 0, .int .u8 0, .int .u8 0, .int .u8 0, .int .u8 0, .int .u8 0, .int .u8 0, .int .u8 0, .int .u8 0, .int .u8 0, .int .u8 0, .int .u8 0, .int .u8 0, .int .u8 0, .int .u8 0, .int .u8 0, .int .u8 0, .int .u8 0, .int .u8 0, .int .u8 0, .int .u8 0, .int .u8 0, .int .u8 0, .int .u8 0, .int .u8 0, .int .u8 0, .int .u8 0, .int .u8 0, .int .u8 0, .int .u8 0, .int .u8 0, .int .u8 0, .int .u8 0, .int .u8 0, .int .u8 0, .int .u8 0, .int .u8 0, .int .u8 0, .int .u8 0, .int .u8 0, .int .u8 0, .int .u8 0, .int .u8 0, .int .u8 0, .int .u8 0, .int .u8 0, .int .u8 0, .int .u8 0, .int .u8 0, .int .u8 0, .int .u8 0, .int .u8 0, .int .u8 0, .int .u8 0, .int .u8 0, .int .u8 0, .int .u8 0, .int .u8 0, .int .u8 0, .int .u8 0, .int .u8 0, .int .u8 0, .int .u8 0, .int .u8 0, .int .u8 0, .int .u8 0, .int .u8 0, .int .u8 0, .int .u8 0, .int .u8 0, .int .u8 0, .int .u8 0, .int .u8 0, .int .u8 0, .int .u8 0, .int .u8 0, .int .u8 0, .int .u8 0, .int .u8 0, .int .u8 0, .int .u8 0, .int .u8 0, .int .u8 0, .int .u8 0, .int .u8 0, .int .u8 0, .int .u8 0, .int .u8 0, .int .u8 0, .int .u8 0, .int .u8 0, .int .u8 0, .int .u8 0, .int .u8 0, .int .u8 0, .int .u8 0, .int .u8 0, .int .u8 0, .int .u8 0, .int .u8 0, .int .u8 0, .int .u8 0, .int .u8 0, .int .u8 0, .int .u8 0, .int .u8 0, .int .u8 0, .int .u8 0, .int .u8 0, .int .u8 0, .int .u8 0, .int .u8 0, .int .u8 0, .int .u8 0, .int .u8 0, .int .u8 0, .int .u8 0, .int .u8 0, .int .u8 0, .int .u8 0, .int .u8 0, .int .u8 0, .int .u8 0, .int .u8 0, .int .u8 0, .int .u8 0]⟩ := by kernel_rfl
theorem se97 : sliceElem Tryd.prog 97 = none := by kernel_rfl
theorem ae97 : arrayE Tryd.prog 97 = some (256, 5, 1) := by kernel_rfl
theorem ti99 : tiOf Tryd.prog 99 = some ⟨.struct [(0, 5, 1), (1, 5, 1)], 2, 2, [.int .u8 0, .int .u8 0]⟩ := by kernel_rfl
theorem sf99_0 : structF Tryd.prog 99 0 = some (0, 5, 1) := by kernel_rfl
theorem sf99_1 : structF Tryd.prog 99 1 = some (1, 5, 1) := by kernel_rfl
theorem ti100 : tiOf Tryd.prog 100 = some ⟨.array 16 99, 32, 32, [.int .u8 0, .int .u8 0, .int .u8 0, .int .u8 0, .int .u8 0, .int .u8 0, .int .u8 0, .int .u8 0, .int .u8 0, .int .u8 0, .int .u8 0, .int .u8 0, .int .u8 0, .int .u8 0, .int .u8 0, .int .u8 0, .int .u8 0, .int .u8 0, .int .u8 0, .int .u8 0, .int .u8 0, .int .u8 0, .int .u8 0, .int .u8 0, .int .u8 0, .int .u8 0, .int .u8 0, .int .u8 0, .int .u8 0, .int .u8 0, .int .u8 0, .int .u8 0]⟩ := by kernel_rfl
theorem se100 : sliceElem Tryd.prog 100 = none := by kernel_rfl
theorem ae100 : arrayE Tryd.prog 100 = some (16, 99, 2) := by kernel_rfl
theorem ti105 : tiOf Tryd.prog 105 = some ⟨.array 256 4, 256, 256, [.bool false, .bool false, .bool false, .bool false, .bool false, .bool false, .bool false, .bool false, .bool false, .bool false, .bool false, .bool false, .bool false, .bool false, .bool false, .bool false, .bool false, .bool false, .bool false, .bool false, .bool false, .bool false, .bool false, .bool false, .bool false, .bool false, .bool false, .bool false, .bool false, .bool false, .bool false, .bool false, .bool false, .bool false, .bool false, .bool false, .bool false, .bool false, .bool false, .bool false, .bool false, .bool false, .bool false, .bool false, .bool false, .bool false, .bool false, .bool false, .bool false, .bool false, .bool false, .bool false, .bool false, .bool false, .bool false, .bool false, .bool false, .bool false, .bool false, .bool false, .bool false, .bool false, .bool false, .bool false, .bool false, .bool false, .bool false, .bool false, .bool false, .bool false, .bool false, .bool false, .bool false, .bool false, .bool false, .bool false, .bool false, .bool false, .bool false, .bool false, .bool false, .bool false, .bool false, .bool false, .bool false, .bool false, .bool false, .bool false, .bool false, .bool false, .bool false, .bool false, .bool false, .bool false, .bool false, .bool false, .bool false, .bool false, .bool false, .bool false, .bool false, .bool false, .bool false, .bool false, .bool false, .bool false, .bool false, .bool false, .bool false, .bool false, .bool false, .bool false, .bool false, .bool false, .bool false, .bool false, .bool false, .bool false, .bool false, .bool false, .bool false, .bool false, .bool false, .bool false, .bool false, .bool false, .bool false, .bool false, .bool false, .bool false, .bool false, .bool false, .bool false, .bool false, .bool false, .bool false, .bool false, .bool false, .bool false, .bool false, .bool false, .bool false, .bool false, .bool false, .bool false, .bool false, .bool false, .bool false, .bool false, .bool false, .bool false, .bool false, .bool false, .bool false, .bool false, .bool false, .bool false, .bool false, .bool false, .bool false, .bool false, .bool false, .bool false, .bool false, .bool false, .bool false, .bool false, .bool false, .bool false, .bool false, .bool false, .bool false, .bool false, .bool false, .bool false, .bool false, .bool false, .bool false, .bool false, .bool false, .bool false, .bool false, .bool false, .bool false, .bool false, .bool false, .bool false, .bool false, .bool false, .bool false, .bool false, .bool false, .bool false, .bool false, .bool false, .bool false, .bool false, .bool false, .bool false, .bool false, .bool false, .bool false, .bool false, .bool false, .bool false, .bool false, .bool false, .bool false, .bool false, .bool false, .bool false, .bool false, .bool false, .bool false, .bool false, .bool false, .bool false, .bool false, .bool false, .bool false, .bool false, .bool false, .bool false, .bool false, .bool false, .bool false, .bool false, .bool false, .bool false, .bool false, .bool false, .bool false, .bool false, .bool false, .bool false, .bool false, .bool false, .bool false, .bool false, .bool false, .bool false, .bool false, .bool false, .bool false, .bool false, .bool false, .bool false, .bool false, .bool false, .bool false, .bool false, .bool false, .bool false, .bool false, .bool false, .bool false]⟩ := by kernel_rfl
theorem se105 : sliceElem Tryd.prog 105 = none := by kernel_rfl
theorem ae105 : arrayE Tryd.prog 105 = some (256, 4, 1) := by kernel_rfl
theorem ti109 : tiOf Tryd.prog 109 = some ⟨.ptr 105, 1, 8, [.nilp]⟩ := by kernel_rfl
theorem ti114 : tiOf Tryd.prog 114 = some ⟨.array 24 5, 24, 24, [.int .u8 0, .int .u8 0, .int .u8 0, .int .u8 0, .int .u8 0, .int .u8 0, .int .u8 0, .int .u8 0, .int .u8 0, .int .u8 0, .int .u8 0, .int .u8 0, .int .u8 0, .int .u8 0, .int .u8 0, .int .u8 0, .int .u8 0, .int .u8 0, .int .u8 0, .int .u8 0, .int .u8 0, .int .u8 0, .int .u8 0, .int .u8 0]⟩ := by kernel_rfl
theorem se114 : sliceElem Tryd.prog 114 = none := by kernel_rfl
theorem ae114 : arrayE Tryd.prog 114 = some (24, 5, 1) := by kernel_rfl
theorem ti124 : tiOf Tryd.prog 124 = some ⟨.array 20 93, 20, 160, [.int .u64 0, .int .u64 0, .int .u64 0, .int .u64 0, .int .u64 0, .int .u64 0, .int .u64 0, .int .u64 0, .int .u64 0, .int .u64 0, .int .u64 0, .int .u64 0, .int .u64 0, .int .u64 0, .int .u64 0, .int .u64 0, .int .u64 0, .int .u64 0, .int .u64 0, .int .u64 0]⟩ := by kernel_rfl
theorem se124 : sliceElem Tryd.prog 124 = none := by kernel_rfl
theorem ae124 : arrayE Tryd.prog 124 = some (20, 93, 1) := by kernel_rfl
theorem ti125 : tiOf Tryd.prog 125 = some ⟨.array 65 5, 65, 65, [.int .u8 0, .int .u8 0, .int .u8 0, .int .u8 0, .int .u8 0, .int .u8 0, .int .u8 0, .int .u8 0, .int .u8 0, .int .u8 0, .int .u8 0, .int .u8 0, .int .u8 0, .int .u8 0, .int .u8 0, .int .u8 0, .int .u8 0, .int .u8 0, .int .u8 0, .int .u8 0, .int .u8 0, .int .u8 0, .int .u8 0, .int .u8 0, .int .u8 0, .int .u8 0, .int .u8 0, .int .u8 0, .int .u8 0, .int .u8 0, .int .u8 0, .int .u8 0, .int .u8 0, .int .u8 0, .int .u8 0, .int .u8 0, .int .u8 0, .int .u8 0, .int .u8 0, .int .u8 0, .int .u8 0, .int .u8 0, .int .u8 0, .int .u8 0, .int .u8 0, .int .u8 0, .int .u8 0, .int .u8 0, .int .u8 0, .int .u8 0, .int .u8 0, .int .u8 0, .int .u8 0, .int .u8 0, .int .u8 0, .int .u8 0, .int .u8 0, .int .u8 0, .int .u8 0, .int .u8 0, .int .u8 0, .int .u8 0, .int .u8 0, .int .u8 0, .int .u8 0]⟩ := by kernel_rfl
theorem se125 : sliceElem Tryd.prog 125 = none := by kernel_rfl
theorem ae125 : arrayE Tryd.prog 125 = some (65, 5, 1) := by kernel_rfl
theorem ti128 : tiOf Tryd.prog 128 = some ⟨.array 32 5, 32, 32, [.int .u8 0, .int .u8 0, .int .u8 0, .int .u8 0, .int .u8 0, .int .u8 0, .int .u8 0, .int .u8 0, .int .u8 0, .int .u8 0, .int .u8 0, .int .u8 0, .int .u8 0, .int .u8 0, .int .u8 0, .int .u8 0, .int .u8 0, .int .u8 0, .int .u8 0, .int .u8 0, .int .u8 0, .int .u8 0, .int .u8 0, .int .u8 0, .int .u8 0, .int .u8 0, .int .u8 0, .int .u8 0, .int .u8 0, .int .u8 0, .int .u8 0, .int .u8 0]⟩ := by kernel_rfl
theorem se128 : sliceElem Tryd.prog 128 = none := by kernel_rfl
theorem ae128 : arrayE Tryd.prog 128 = some (32, 5, 1) := by kernel_rfl
theorem ti129 : tiOf Tryd.prog 129 = some ⟨.array 64 5, 64, 64, [.int .u8 0, .int .u8 0, .int .u8 0, .int .u8 0, .int .u8 0, .int .u8 0, .int .u8 0, .int .u8 0, .int .u8 0, .int .u8 0, .int .u8 0, .int .u8 0, .int .u8 0, .int .u8 0, .int .u8 0, .int .u8 0, .int .u8 0, .int .u8 0, .int .u8 0, .int .u8 0, .int .u8 0, .int .u8 0, .int .u8 0, .int .u8 0, .int .u8 0, .int .u8 0, .int .u8 0, .int .u8 0, .int .u8 0, .int .u8 0, .int .u8 0, .int .u8 0, .int .u8 0, .int .u8 0, .int .u8 0, .int .u8 0, .int .u8 0, .int .u8 0, .int .u8 0, .int .u8 0, .int .u8 0, .int .u8 0, .int .u8 0, .int .u8 0, .int .u8 0, .int .u8 0, .int .u8 0, .int .u8 0, .int .u8 0, .int .u8 0, .int .u8 0, .int .u8 0, .int .u8 0, .int .u8 0, .int .u8 0, .int .u8 0, .int .u8 0, .int .u8 0, .int .u8 0, .int .u8 0, .int .u8 0, .int .u8 0, .int .u8 0, .int .u8 0]⟩ := by kernel_rfl
theorem se129 : sliceElem Tryd.prog 129 = none := by kernel_rfl
theorem ae129 : arrayE Tryd.prog 129 = some (64, 5, 1) := by kernel_rfl
theorem ti131 : tiOf Tryd.prog 131 = some ⟨.struct [(0, 17, 1), (1, 17, 1), (2, 17, 1), (3, 9, 1)], 4, 40, [.nilp, .nilp, .nilp, .str .empty]⟩ := by kernel_rfl
theorem sf131_0 : structF Tryd.prog 131 0 = some (0, 17, 1) := by kernel_rfl
theorem sf131_1 : structF Tryd.prog 131 1 = some (1, 17, 1) := by kernel_rfl
theorem sf131_2 : structF Tryd.prog 131 2 = some (2, 17, 1) := by kernel_rfl
theorem sf131_3 : structF Tryd.prog 131 3 = some (3, 9, 1) := by kernel_rfl
theorem ti132 : tiOf Tryd.prog 132 = some ⟨.array 0 16, 0, 0, []⟩ := by kernel_rfl
theorem se132 : sliceElem Tryd.prog 132 = none := by kernel_rfl
theorem ae132 : arrayE Tryd.prog 132 = some (0, 16, 1) := by kernel_rfl
theorem ti134 : tiOf Tryd.prog 134 = some ⟨.struct [(0, 132, 0)], 0, 0, []⟩ := by kernel_rfl
theorem sf134_0 : structF Tryd.prog 134 0 = some (0, 132, 0) := by kernel_rfl
theorem ti135 : tiOf Tryd.prog 135 = some ⟨.int .u8, 1, 1, [.int .u8 0]⟩ := by kernel_rfl
theorem ie135 : intE Tryd.prog 135 = some .u8 := by kernel_rfl
theorem it135 : intT Tryd.prog 135 = some .u8 := by kernel_rfl
theorem st135 : isStrT Tryd.prog 135 = false := by kernel_rfl
theorem ti136 : tiOf Tryd.prog 136 = some ⟨.int .u8, 1, 1, [.int .u8 0]⟩ := by kernel_rfl
theorem ie136 : intE Tryd.prog 136 = some .u8 := by kernel_rfl
theorem it136 : intT Tryd.prog 136 = some .u8 := by kernel_rfl
theorem st136 : isStrT Tryd.prog 136 = false := by kernel_rfl
theorem ti137 : tiOf Tryd.prog 137 = some ⟨.func, 1, 8, [.nilf]⟩ := by kernel_rfl
theorem ti138 : tiOf Tryd.prog 138 = some ⟨.int .i32, 1, 4, [.int .i32 0]⟩ := by kernel_rfl
theorem ie138 : intE Tryd.prog 138 = some .i32 := by kernel_rfl
theorem it138 : intT Tryd.prog 138 = some .i32 := by kernel_rfl
theorem st138 : isStrT Tryd.prog 138 = false := by kernel_rfl
theorem ti139 : tiOf Tryd.prog 139 = some ⟨.int .i32, 1, 4, [.int .i32 0]⟩ := by kernel_rfl
theorem ie139 : intE Tryd.prog 139 = some .i32 := by kernel_rfl
theorem it139 : intT Tryd.prog 139 = some .i32 := by kernel_rfl
theorem st139 : isStrT Tryd.prog 139 = false := by kernel_rfl
theorem ti141 : tiOf Tryd.prog 141 = some ⟨.struct [(0, 12, 1), (1, 12, 1), (2, 90, 1), (3, 135, 1), (4, 5, 1), (5, 5, 1), (6, 136, 1), (7, 137, 1), (8, 79, 1), (9, 138, 1), (10, 139, 1)], 11, 48, [.int .u64 0, .int .u64 0, .int .u32 0, .int .u8 0, .int .u8 0, .int .u8 0, .int .u8 0, .nilf, .nilp, .int .i32 0, .int .i32 0]⟩ := by kernel_rfl
theorem sf141_0 : structF Tryd.prog 141 0 = some (0, 12, 1) := by kernel_rfl
theorem sf141_1 : structF Tryd.prog 141 1 = some (1, 12, 1) := by kernel_rfl
theorem sf141_2 : structF Tryd.prog 141 2 = some (2, 90, 1) := by kernel_rfl
theorem sf141_3 : structF Tryd.prog 141 3 = some (3, 135, 1) := by kernel_rfl
theorem sf141_4 : structF Tryd.prog 141 4 = some (4, 5, 1) := by kernel_rfl
theorem sf141_5 : structF Tryd.prog 141 5 = some (5, 5, 1) := by kernel_rfl
theorem sf141_6 : structF Tryd.prog 141 6 = some (6, 136, 1) := by kernel_rfl
theorem sf141_7 : structF Tryd.prog 141 7 = some (7, 137, 1) := by kernel_rfl
theorem sf141_8 : structF Tryd.prog 141 8 = some (8, 79, 1) := by kernel_rfl
theorem sf141_9 : structF Tryd.prog 141 9 = some (9, 138, 1) := by kernel_rfl
theorem sf141_10 : structF Tryd.prog 141 10 = some (10, 139, 1) := by kernel_rfl
theorem go3 : goFn Tryd.prog 3 = true := by kernel_rfl
theorem go4 : goFn Tryd.prog 4 = true := by kernel_rfl
theorem go5 : goFn Tryd.prog 5 = true := by kernel_rfl
theorem go6 : goFn Tryd.prog 6 = true := by kernel_rfl
theorem go7 : goFn Tryd.prog 7 = true := by kernel_rfl
theorem go8 : goFn Tryd.prog 8 = true := by kernel_rfl
theorem go9 : goFn Tryd.prog 9 = true := by kernel_rfl
theorem go10 : goFn Tryd.prog 10 = true := by kernel_rfl
theorem go11 : goFn Tryd.prog 11 = true := by kernel_rfl
theorem go12 : goFn Tryd.prog 12 = true := by kernel_rfl
theorem go13 : goFn Tryd.prog 13 = true := by kernel_rfl
theorem go14 : goFn Tryd.prog 14 = true := by kernel_rfl
theorem go15 : goFn Tryd.prog 15 = true := by kernel_rfl
theorem go16 : goFn Tryd.prog 16 = true := by kernel_rfl
theorem go17 : goFn Tryd.prog 17 = true := by kernel_rfl
theorem go18 : goFn Tryd.prog 18 = true := by kernel_rfl
theorem go19 : goFn Tryd.prog 19 = true := by kernel_rfl
theorem go20 : goFn Tryd.prog 20 = true := by kernel_rfl
theorem go21 : goFn Tryd.prog 21 = true := by kernel_rfl
theorem go22 : goFn Tryd.prog 22 = true := by kernel_rfl
theorem go23 : goFn Tryd.prog 23 = true := by kernel_rfl
theorem go24 : goFn Tryd.prog 24 = true := by kernel_rfl
theorem go25 : goFn Tryd.prog 25 = true := by kernel_rfl
theorem go26 : goFn Tryd.prog 26 = true := by kernel_rfl
theorem go27 : goFn Tryd.prog 27 = true := by kernel_rfl
theorem go28 : goFn Tryd.prog 28 = true := by kernel_rfl
theorem go29 : goFn Tryd.prog 29 = true := by kernel_rfl
theorem go30 : goFn Tryd.prog 30 = true := by kernel_rfl
theorem go31 : goFn Tryd.prog 31 = true := by kernel_rfl
theorem go32 : goFn Tryd.prog 32 = true := by kernel_rfl
theorem go33 : goFn Tryd.prog 33 = true := by kernel_rfl
theorem go34 : goFn Tryd.prog 34 = true := by kernel_rfl
theorem go35 : goFn Tryd.prog 35 = true := by kernel_rfl
theorem go40 : goFn Tryd.prog 40 = true := by kernel_rfl
theorem go41 : goFn Tryd.prog 41 = true := by kernel_rfl
theorem go42 : goFn Tryd.prog 42 = true := by kernel_rfl
theorem go43 : goFn Tryd.prog 43 = true := by kernel_rfl
theorem go44 : goFn Tryd.prog 44 = true := by kernel_rfl
theorem go45 : goFn Tryd.prog 45 = true := by kernel_rfl
theorem go46 : goFn Tryd.prog 46 = true := by kernel_rfl
theorem go47 : goFn Tryd.prog 47 = true := by kernel_rfl
theorem go48 : goFn Tryd.prog 48 = true := by kernel_rfl
theorem go49 : goFn Tryd.prog 49 = true := by kernel_rfl
theorem go50 : goFn Tryd.prog 50 = true := by kernel_rfl
theorem go51 : goFn Tryd.prog 51 = true := by kernel_rfl
theorem go52 : goFn Tryd.prog 52 = true := by kernel_rfl
theorem go53 : goFn Tryd.prog 53 = true := by kernel_rfl
theorem go54 : goFn Tryd.prog 54 = true := by kernel_rfl
theorem go61 : goFn Tryd.prog 61 = true := by kernel_rfl
theorem go62 : goFn Tryd.prog 62 = true := by kernel_rfl
theorem go65 : goFn Tryd.prog 65 = true := by kernel_rfl
theorem go68 : goFn Tryd.prog 68 = true := by kernel_rfl
theorem go73 : goFn Tryd.prog 73 = true := by kernel_rfl
theorem go74 : goFn Tryd.prog 74 = true := by kernel_rfl
theorem go75 : goFn Tryd.prog 75 = true := by kernel_rfl
theorem go77 : goFn Tryd.prog 77 = true := by kernel_rfl
theorem go79 : goFn Tryd.prog 79 = true := by kernel_rfl
theorem go80 : goFn Tryd.prog 80 = true := by kernel_rfl
theorem go81 : goFn Tryd.prog 81 = true := by kernel_rfl
theorem go86 : goFn Tryd.prog 86 = true := by kernel_rfl
theorem go90 : goFn Tryd.prog 90 = true := by kernel_rfl
theorem go91 : goFn Tryd.prog 91 = true := by kernel_rfl
theorem go92 : goFn Tryd.prog 92 = true := by kernel_rfl
set_option linter.defProp false in
def awF :=
 (And.intro (And.intro (And.intro (And.intro (And.intro (And.intro (And.intro ti2
 ie2)
 (And.intro it2
 (And.intro st2
 ti3)))
 (And.intro (And.intro ie3
 (And.intro it3
 st3))
 (And.intro ti4
 (And.intro bt4
 ti5))))
 (And.intro (And.intro (And.intro ie5
 (And.intro it5
 st5))
 (And.intro ti6
 (And.intro ie6
 it6)))
 (And.intro (And.intro st6
 (And.intro ti7
 sf7_0))
 (And.intro sf7_1
 (And.intro sf7_2
 sf7_3)))))
 (And.intro (And.intro (And.intro (And.intro ti8
 sf8_0)
 (And.intro sf8_1
 (And.intro sf8_2
 sf8_3)))
 (And.intro (And.intro ti9
 (And.intro st9
 ap9))
 (And.intro it9
 (And.intro ti10
 st10))))
 (And.intro (And.intro (And.intro ap10
 (And.intro it10
 ti11))
 (And.intro st11
 (And.intro ap11
 it11)))
 (And.intro (And.intro ti12
 (And.intro ie12
 it12))
 (And.intro st12
 (And.intro ti14
 sf14_0))))))
 (And.intro (And.intro (And.intro (And.intro (And.intro sf14_1
 ti15)
 (And.intro ti16
 (And.intro ti17
 ti19)))
 (And.intro (And.intro sf19_0
 (And.intro ti20
 ti21))
 (And.intro ie21
 (And.intro it21
 st21))))
 (And.intro (And.intro (And.intro ti22
 (And.intro se22
 sz22))
 (And.intro ap22
 (And.intro st22
 ti24)))
 (And.intro (And.intro ti26
 (And.intro se26
 sz26))
 (And.intro ap26
 (And.intro st26
 ti28)))))
 (And.intro (And.intro (And.intro (And.intro ie28
 (And.intro it28
 st28))
 (And.intro ti31
 (And.intro se31
 sz31)))
 (And.intro (And.intro ap31
 (And.intro st31
 ti33))
 (And.intro sf33_0
 (And.intro ti39
 se39))))
 (And.intro (And.intro (And.intro sz39
 (And.intro ap39
 st39))
 (And.intro ti45
 (And.intro sf45_0
 sf45_1)))
 (And.intro (And.intro ti46
 (And.intro ti49
 ti51))
 (And.intro sf51_0
 (And.intro sf51_1
 ti53)))))))
 (And.intro (And.intro (And.intro (And.intro (And.intro (And.intro ti63
 se63)
 (And.intro sz63
 (And.intro ap63
 st63)))
 (And.intro (And.intro ti64
 (And.intro ti65
 se65))
 (And.intro sz65
 (And.intro ap65
 st65))))
 (And.intro (And.intro (And.intro ti68
 (And.intro ti69
 ti75))
 (And.intro ie75
 (And.intro it75
 st75)))
 (And.intro (And.intro ti79
 (And.intro ti90
 ie90))
 (And.intro it90
 (And.intro st90
 ti93)))))
 (And.intro (And.intro (And.intro (And.intro ie93
 it93)
 (And.intro st93
 (And.intro ti97
 se97)))
 (And.intro (And.intro ae97
 (And.intro ti99
 sf99_0))
 (And.intro sf99_1
 (And.intro ti100
 se100))))
 (And.intro (And.intro (And.intro ae100
 (And.intro ti105
 se105))
 (And.intro ae105
 (And.intro ti109
 ti114)))
 (And.intro (And.intro se114
 (And.intro ae114
 ti124))
 (And.intro se124
 (And.intro ae124
 ti125))))))
 (And.intro (And.intro (And.intro (And.intro (And.intro se125
 ae125)
 (And.intro ti128
 (And.intro se128
 ae128)))
 (And.intro (And.intro ti129
 (And.intro se129
 ae129))
 (And.intro ti131
 (And.intro sf131_0
 sf131_1))))
 (And.intro (And.intro (And.intro sf131_2
 (And.intro sf131_3
 ti132))
 (And.intro se132
 (And.intro ae132
 ti134)))
 (And.intro (And.intro sf134_0
 (And.intro ti135
 ie135))
 (And.intro it135
 (And.intro st135
 ti136)))))
 (And.intro (And.intro (And.intro (And.intro ie136
 (And.intro it136
 st136))
 (And.intro ti137
 (And.intro ti138
 ie138)))
 (And.intro (And.intro it138
 (And.intro st138
 ti139))
 (And.intro ie139
 (And.intro it139
 st139))))
 (And.intro (And.intro (And.intro ti141
 (And.intro sf141_0
 sf141_1))
 (And.intro sf141_2
 (And.intro sf141_3
 sf141_4)))
 (And.intro (And.intro sf141_5
 (And.intro sf141_6
 sf141_7))
 (And.intro sf141_8
 (And.intro sf141_9
 sf141_10))))))))
theorem hmix : Tryd.prog.follows .mixedOrders = true := by kernel_rfl
end Go.Proofs.YtacepalmphbnfaaDoor

namespace Go.Proofs.YtacepalmphbnfaaDoor
open Go Go.Proofs Go.Abs Go.RowKit Go.Shelf
variable {G : Globals}
/-! utf8.ValidString, out of the kit's contract; its tables. -/
abbrev M0 : Muts := fun _ => false
abbrev S (l : List UInt8) : D := .str (bs l)
def firstDs : List D := (List.range 256).map fun c => .int .u8 (Lib.firstT c)
def accDs : List D := (List.range 32).map fun i => .int .u8 (if i % 2 = 0 then Lib.accLo (i / 2) else Lib.accHi (i / 2) : Nat)
/-- The tables of utf8 are laid. -/
def HT (G : Globals) : Prop := G 0 = some firstDs ∧ G 1 = some accDs
def Tryd.laysValid_ren : Go.Shelf.Ren := ⟨fun | 196 => 43 | 259 => 60 | n => n, fun | 9 => 9 | 4 => 4 | 3 => 3 | 5 => 5 | 12 => 12 | 119 => 97 | 0 => 0 | 46 => 75 | 139 => 100 | 138 => 99 | 53 => 93 | n => n, fun | 3 => 0 | 4 => 1 | n => n⟩
theorem Tryd.laysValid : Go.Proofs.Lays.n196 Tryd.prog Tryd.laysValid_ren where
  mixed := by kernel_rfl
  f196 := Tryd.func43.trans (congrArg some (by kernel_rfl))
  f259 := Tryd.func60.trans (congrArg some (by kernel_rfl))
  t0 := Tryd.underlying0
  a0 := Tryd.isAgg0
  z0 := Tryd.sizeOf0
  v0 := Tryd.zeroValue0
  t3 := Tryd.underlying3
  a3 := Tryd.isAgg3
  z3 := Tryd.sizeOf3
  v3 := Tryd.zeroValue3
  t4 := Tryd.underlying4
  a4 := Tryd.isAgg4
  z4 := Tryd.sizeOf4
  v4 := Tryd.zeroValue4
  t5 := Tryd.underlying5
  a5 := Tryd.isAgg5
  z5 := Tryd.sizeOf5
  v5 := Tryd.zeroValue5
  t9 := Tryd.underlying9
  a9 := Tryd.isAgg9
  z9 := Tryd.sizeOf9
  v9 := Tryd.zeroValue9
  t12 := Tryd.underlying12
  a12 := Tryd.isAgg12
  z12 := Tryd.sizeOf12
  v12 := Tryd.zeroValue12
  t46 := Tryd.underlying75
  a46 := Tryd.isAgg75
  z46 := Tryd.sizeOf75
  v46 := Tryd.zeroValue75
  t53 := Tryd.underlying93
  a53 := Tryd.isAgg93
  z53 := Tryd.sizeOf93
  v53 := Tryd.zeroValue93
  t119 := Tryd.underlying97
  a119 := Tryd.isAgg97
  z119 := Tryd.sizeOf97
  t138 := Tryd.underlying99
  a138 := Tryd.isAgg99
  z138 := Tryd.sizeOf99
  v138 := Tryd.zeroValue99
  t139 := Tryd.underlying100
  a139 := Tryd.isAgg100
  z139 := Tryd.sizeOf100
  v139 := Tryd.zeroValue100
  g3 := by kernel_rfl
  g4 := by kernel_rfl

theorem tab_cell {h : Held} {ρ : Abs.Place} {H : Heap} {w : World} {g : Nat} {l : List Int} (s : Sim G h ρ H w) (e : G g = some (ints .u8 l)) {i : Nat} (hi : i < l.length) : w.cell? ⟨g, i, none⟩ = some (.int .u8 (l.getD i 0)) := by
  obtain ⟨vs, h1, h2⟩ := s.glob g _ e
  have hx : (ints .u8 l)[i]? = some (.int .u8 (l.getD i 0)) := by simp [ints, hi, List.getD_eq_getElem?_getD]
  have := s.prom _ _ _ (h1 i _ hx)
  rw [this]
  have r := h2 i _ hx
  generalize vs i = v at r
  cases r
  rfl
theorem firstDs_eq : firstDs = ints .u8 ((List.range 256).map fun c => (Lib.firstT c : Int)) := by simp [firstDs, ints]
theorem accDs_eq : accDs = ints .u8 ((List.range 32).map fun i => ((if i % 2 = 0 then Lib.accLo (i / 2) else Lib.accHi (i / 2) : Nat) : Int)) := by simp [accDs, ints]
theorem tabs_of {h : Held} {ρ : Abs.Place} {H : Heap} {w : World} (hT : HT G) (s : Sim G h ρ H w) : Lib.Utf8Tabs 0 1 w := by
  obtain ⟨e1, e2⟩ := hT
  rw [firstDs_eq] at e1
  rw [accDs_eq] at e2
  refine ⟨fun c hc => ?_, fun i hi => ⟨?_, ?_⟩⟩
  · rw [tab_cell s e1 (by simpa using hc)]
    simp [List.getD_eq_getElem?_getD, hc]
  · rw [tab_cell s e2 (by simp; omega)]
    simp [List.getD_eq_getElem?_getD, show 2 * i < 32 by omega]
  · rw [tab_cell s e2 (by simp; omega)]
    simp [List.getD_eq_getElem?_getD, show 2 * i + 1 < 32 by omega, show (2 * i + 1) % 2 = 1 by omega, show (2 * i + 1) / 2 = i by omega]
theorem validS_spec (hT : HT G) (l : List UInt8) (hl : l.length ≤ 9223372036854775807) : Ctr Tryd.prog G 43 [.d (S l)] [] (.d (.bool (Lib.validD l))) [] := by
  refine Ctr.of_calls go43 fun h ρ w vs q r => ?_
  obtain ⟨v, rfl, hv⟩ := r.inv1
  rw [hv.str_inv]
  refine (Any.utf8_ValidString Tryd.laysValid (bs l) w (by rw [bs_size]; exact hl) (tabs_of hT q)).mono ?_
  rintro e w' ⟨rfl, hb⟩
  exact ⟨_, rfl, .bool _, hb⟩
theorem tvalid_spec (hT : HT G) (l : List UInt8) (hl : l.length ≤ 9223372036854775807) : Ctr Tryd.prog G 24 [.d (S l)] [] (.d (.bool (Lib.validD l))) [] := by
  refine Ctr.pure (M := M0) hmix Tryd.func24 rfl go24 ?_
  simp (config := { maxSteps := 1000000 }) (disch := ((try simp only [awL]); omega)) only [Tryd.f24, ↓awU, awV, awF, Qa, Qb, Qc, Qd, forall_const, ↓reduceIte, ↓reduceDIte, ↓Qe, Qf, Qg, Qh, Qi, Qj, Qk, Ql, Qm, Qn, Qo, Qp, Qq, Qr, Qs, implies_true, Qt, Qu, Qv, Qw, Qx, Qy, Qz, QA, QB, QC, QD, QE, QF, QG, QH, QI, QJ, QK, QL, QM, QN, QO, QP, QQ]
  refine CallC.pure (validS_spec hT l hl) ?_
  simp (config := { maxSteps := 1000000 }) (disch := ((try simp only [awL]); omega)) only [↓awU, awV, awF, Qa, Qb, Qc, Qd, forall_const, ↓reduceIte, ↓reduceDIte, ↓Qe, Qf, Qg, Qh, Qi, Qj, Qk, Ql, Qm, Qn, Qo, Qp, Qq, Qr, Qs, implies_true, Qt, Qu, Qv, Qw, Qx, Qy, Qz, QA, QB, QC, QD, QE, QF, QG, QH, QI, QJ, QK, QL, QM, QN, QO, QP, QQ]
end Go.Proofs.YtacepalmphbnfaaDoor

namespace Go.Proofs.YtacepalmphbnfaaDoor
open Go Go.Proofs Go.Abs Go.RowKit Go.Shelf
variable {G : Globals}
/-! Texts: prefixes, cutting, the place of a byte, trimming, replacing. -/
set_option maxHeartbeats 1000000 in
set_option maxRecDepth 100000 in
theorem indexByte_calls (s : ByteArray) (c : Int) (w : World) :
    Calls Tryd.prog 77 #[.string s, .int .u8 c] w fun e w' => e = .returned (.int .i64 (Lib.indexByte s.data.toList c.toNat.toUInt8)) ∧ w' = w := by
  go_enter Tryd.func77, Tryd.ntmps77
  go_wp2
  rw [run_callFunc_extern Tryd.func89 (by kernel_rfl) (by kernel_rfl) (by kernel_rfl) (e := Extern.BytealgIndexByte.indexByte) (by kernel_rfl), Lib.run_indexByteString]
  simp only [Result.andThen]
  rw [Oper.upon_value]
  go_wp2
  go_ret
  exact ⟨rfl, rfl⟩
theorem indexByte_spec (s : List UInt8) (c : UInt8) : Ctr Tryd.prog G 77 [.d (S s), .d (.int .u8 c.toNat)] [] (.d (.int .i64 (Lib.indexByte s c))) [] := by
  refine Ctr.of_calls go77 fun h ρ w vs q r => ?_
  obtain ⟨v, u, rfl, hv, hu⟩ := r.inv2
  rw [hv.str_inv, hu.int_inv]
  refine (indexByte_calls (bs s) c.toNat w).mono ?_
  rintro e w' ⟨rfl, rfl⟩
  refine ⟨_, rfl, ?_, .refl _ _⟩
  have : ((c.toNat : Int)).toNat.toUInt8 = c := by simp
  rw [this]
  exact .int _ _
/-- Where a text is cut: in front of the byte, behind it. -/
def cutL (c : UInt8) : List UInt8 → List UInt8
  | [] => []
  | b :: l => if b = c then [] else b :: cutL c l
def cutR (c : UInt8) : List UInt8 → List UInt8
  | [] => []
  | b :: l => if b = c then l else cutR c l
theorem cut_index (c : UInt8) : ∀ s : List UInt8, (c ∈ s → ∃ k : Nat, Lib.indexByte s c = k ∧ k < s.length ∧ s.take k = cutL c s ∧ s.drop (k + 1) = cutR c s) ∧ (c ∉ s → Lib.indexByte s c = -1 ∧ cutL c s = s ∧ cutR c s = [])
  | [] => ⟨fun h => absurd h List.not_mem_nil, fun _ => ⟨rfl, rfl, rfl⟩⟩
  | b :: l => by
    obtain ⟨i1, i2⟩ := cut_index c l
    by_cases e : b = c
    · subst e
      refine ⟨fun _ => ⟨0, ?_, by simp, by simp [cutL], by simp [cutR]⟩, fun h => absurd (List.mem_cons_self ..) h⟩
      simp [Lib.indexByte]
    · have e2 : ¬ c = b := fun h => e h.symm
      refine ⟨fun h => ?_, fun h => ?_⟩
      · obtain ⟨k, h1, h2, h3, h4⟩ := i1 ((List.mem_cons.1 h).resolve_left e2)
        refine ⟨k + 1, ?_, by simpa using h2, by simp [cutL, e, h3], by simp [cutR, e, h4]⟩
        simp only [Lib.indexByte, h1]
        rw [if_neg (by simpa using e), if_neg (by simp)]
        omega
      · obtain ⟨h1, h2, h3⟩ := i2 (fun h2 => h (List.mem_cons_of_mem _ h2))
        refine ⟨?_, by simp [cutL, e, h2], by simp [cutR, e, h3]⟩
        simp only [Lib.indexByte, h1]
        rw [if_neg (by simpa using e), if_pos (by decide)]
theorem sIndexByte_spec (s : List UInt8) (c : UInt8) : Ctr Tryd.prog G 62 [.d (S s), .d (.int .u8 c.toNat)] [] (.d (.int .i64 (Lib.indexByte s c))) [] := by
  refine Ctr.pure (M := M0) hmix Tryd.func62 rfl go62 ?_
  simp (config := { maxSteps := 1000000 }) (disch := ((try simp only [awL]); omega)) only [QR, QS, QT, QU, QV, QW, QX, QY, QZ, Q0, Q1, Q2, Tryd.f62, ↓awU, awV, awF, Qa, Qb, Qc, Qd, forall_const, ↓reduceIte, ↓reduceDIte, ↓Qe, Qf, Qg, Qh, Qi, Qj, Qk, Ql, Qm, Qn, Qo, Qp, Qq, Qr, Qs, implies_true, Qt, Qu, Qv, Qw, Qx, Qy, Qz, QA, QB, QC, QD, QE, QF, QG, QH, QI, QJ, QK, QL, QM, QN, QO, QP, QQ]
  refine CallC.pure (indexByte_spec s c) ?_
  simp (config := { maxSteps := 1000000 }) (disch := ((try simp only [awL]); omega)) only [QR, QS, QT, QU, QV, QW, QX, QY, QZ, Q0, Q1, Q2, ↓awU, awV, awF, Qa, Qb, Qc, Qd, forall_const, ↓reduceIte, ↓reduceDIte, ↓Qe, Qf, Qg, Qh, Qi, Qj, Qk, Ql, Qm, Qn, Qo, Qp, Qq, Qr, Qs, implies_true, Qt, Qu, Qv, Qw, Qx, Qy, Qz, QA, QB, QC, QD, QE, QF, QG, QH, QI, QJ, QK, QL, QM, QN, QO, QP, QQ]
def Tryd.laysTrim_ren : Go.Shelf.Ren := ⟨fun | 160 => 53 | 232 => 67 | 231 => 66 | 227 => 68 | 234 => 70 | 233 => 69 | 236 => 72 | 235 => 71 | 228 => 75 | 271 => 85 | 151 => 84 | 197 => 83 | 120 => 96 | 152 => 73 | 260 => 95 | 137 => 62 | 119 => 86 | 224 => 87 | 225 => 88 | 217 => 77 | 266 => 89 | n => n, fun | 9 => 9 | 4 => 4 | 3 => 3 | 5 => 5 | 117 => 106 | 116 => 105 | 0 => 0 | 124 => 109 | 21 => 21 | 105 => 119 | 46 => 75 | 119 => 97 | 139 => 100 | 138 => 99 | n => n, fun | 3 => 0 | 4 => 1 | n => n⟩
theorem Tryd.laysTrim : Go.Proofs.Lays.n160 Tryd.prog Tryd.laysTrim_ren where
  mixed := by kernel_rfl
  f119 := Tryd.func86.trans (congrArg some (by kernel_rfl))
  f120 := Tryd.func96.trans (congrArg some (by kernel_rfl))
  f137 := Tryd.func62.trans (congrArg some (by kernel_rfl))
  f151 := Tryd.func84.trans (congrArg some (by kernel_rfl))
  f152 := Tryd.func73.trans (congrArg some (by kernel_rfl))
  f160 := Tryd.func53.trans (congrArg some (by kernel_rfl))
  f197 := Tryd.func83.trans (congrArg some (by kernel_rfl))
  f217 := Tryd.func77.trans (congrArg some (by kernel_rfl))
  f224 := Tryd.func87.trans (congrArg some (by kernel_rfl))
  f225 := Tryd.func88.trans (congrArg some (by kernel_rfl))
  f227 := Tryd.func68.trans (congrArg some (by kernel_rfl))
  f228 := Tryd.func75.trans (congrArg some (by kernel_rfl))
  f231 := Tryd.func66.trans (congrArg some (by kernel_rfl))
  f232 := Tryd.func67.trans (congrArg some (by kernel_rfl))
  f233 := Tryd.func69.trans (congrArg some (by kernel_rfl))
  f234 := Tryd.func70.trans (congrArg some (by kernel_rfl))
  f235 := Tryd.func71.trans (congrArg some (by kernel_rfl))
  f236 := Tryd.func72.trans (congrArg some (by kernel_rfl))
  f260 := Tryd.func95.trans (congrArg some (by kernel_rfl))
  f266 := Tryd.func89.trans (congrArg some (by kernel_rfl))
  f271 := Tryd.func85.trans (congrArg some (by kernel_rfl))
  t0 := Tryd.underlying0
  a0 := Tryd.isAgg0
  z0 := Tryd.sizeOf0
  v0 := Tryd.zeroValue0
  t3 := Tryd.underlying3
  a3 := Tryd.isAgg3
  z3 := Tryd.sizeOf3
  v3 := Tryd.zeroValue3
  t4 := Tryd.underlying4
  a4 := Tryd.isAgg4
  z4 := Tryd.sizeOf4
  v4 := Tryd.zeroValue4
  t5 := Tryd.underlying5
  a5 := Tryd.isAgg5
  z5 := Tryd.sizeOf5
  v5 := Tryd.zeroValue5
  t9 := Tryd.underlying9
  a9 := Tryd.isAgg9
  z9 := Tryd.sizeOf9
  v9 := Tryd.zeroValue9
  t21 := Tryd.underlying21
  a21 := Tryd.isAgg21
  z21 := Tryd.sizeOf21
  v21 := Tryd.zeroValue21
  t46 := Tryd.underlying75
  a46 := Tryd.isAgg75
  z46 := Tryd.sizeOf75
  v46 := Tryd.zeroValue75
  t105 := Tryd.underlying119
  a105 := Tryd.isAgg119
  z105 := Tryd.sizeOf119
  v105 := Tryd.zeroValue119
  t116 := Tryd.underlying105
  a116 := Tryd.isAgg105
  z116 := Tryd.sizeOf105
  t117 := Tryd.underlying106
  a117 := Tryd.isAgg106
  z117 := Tryd.sizeOf106
  v117 := Tryd.zeroValue106
  t119 := Tryd.underlying97
  a119 := Tryd.isAgg97
  z119 := Tryd.sizeOf97
  t124 := Tryd.underlying109
  a124 := Tryd.isAgg109
  z124 := Tryd.sizeOf109
  v124 := Tryd.zeroValue109
  t138 := Tryd.underlying99
  a138 := Tryd.isAgg99
  z138 := Tryd.sizeOf99
  v138 := Tryd.zeroValue99
  t139 := Tryd.underlying100
  a139 := Tryd.isAgg100
  z139 := Tryd.sizeOf100
  v139 := Tryd.zeroValue100
  g3 := by kernel_rfl
  g4 := by kernel_rfl

def Tryd.laysReplaceAll_ren : Go.Shelf.Ren := ⟨fun | 105 => 17 | 212 => 37 | 99 => 38 | 165 => 39 | 166 => 16 | 170 => 20 | 169 => 21 | 263 => 56 | 264 => 57 | 206 => 58 | 240 => 36 | 241 => 59 | 276 => 55 | 277 => 76 | n => n, fun | 9 => 9 | 3 => 3 | 4 => 4 | 20 => 20 | 0 => 0 | 46 => 75 | 109 => 76 | 5 => 5 | 72 => 51 | 76 => 54 | 51 => 90 | 146 => 91 | 53 => 93 | 148 => 94 | 70 => 49 | 37 => 22 | 75 => 53 | 127 => 79 | 164 => 88 | 80 => 60 | n => n, fun | n => n⟩
theorem Tryd.laysReplaceAll : Go.Proofs.Lays.n105 Tryd.prog Tryd.laysReplaceAll_ren where
  mixed := by kernel_rfl
  f99 := Tryd.func38.trans (congrArg some (by kernel_rfl))
  f105 := Tryd.func17.trans (congrArg some (by kernel_rfl))
  f165 := Tryd.func39.trans (congrArg some (by kernel_rfl))
  f166 := Tryd.func16.trans (congrArg some (by kernel_rfl))
  f169 := Tryd.func21.trans (congrArg some (by kernel_rfl))
  f170 := Tryd.func20.trans (congrArg some (by kernel_rfl))
  f206 := Tryd.func58.trans (congrArg some (by kernel_rfl))
  f212 := Tryd.func37.trans (congrArg some (by kernel_rfl))
  f240 := Tryd.func36.trans (congrArg some (by kernel_rfl))
  f241 := Tryd.func59.trans (congrArg some (by kernel_rfl))
  f263 := Tryd.func56.trans (congrArg some (by kernel_rfl))
  f264 := Tryd.func57.trans (congrArg some (by kernel_rfl))
  f276 := Tryd.func55.trans (congrArg some (by kernel_rfl))
  f277 := Tryd.func76.trans (congrArg some (by kernel_rfl))
  t0 := Tryd.underlying0
  a0 := Tryd.isAgg0
  z0 := Tryd.sizeOf0
  v0 := Tryd.zeroValue0
  t3 := Tryd.underlying3
  a3 := Tryd.isAgg3
  z3 := Tryd.sizeOf3
  v3 := Tryd.zeroValue3
  t4 := Tryd.underlying4
  a4 := Tryd.isAgg4
  z4 := Tryd.sizeOf4
  v4 := Tryd.zeroValue4
  t5 := Tryd.underlying5
  a5 := Tryd.isAgg5
  z5 := Tryd.sizeOf5
  v5 := Tryd.zeroValue5
  t9 := Tryd.underlying9
  a9 := Tryd.isAgg9
  z9 := Tryd.sizeOf9
  v9 := Tryd.zeroValue9
  t20 := Tryd.underlying20
  a20 := Tryd.isAgg20
  z20 := Tryd.sizeOf20
  v20 := Tryd.zeroValue20
  t37 := Tryd.underlying22
  a37 := Tryd.isAgg22
  z37 := Tryd.sizeOf22
  v37 := Tryd.zeroValue22
  t46 := Tryd.underlying75
  a46 := Tryd.isAgg75
  z46 := Tryd.sizeOf75
  v46 := Tryd.zeroValue75
  t51 := Tryd.underlying90
  a51 := Tryd.isAgg90
  z51 := Tryd.sizeOf90
  v51 := Tryd.zeroValue90
  t53 := Tryd.underlying93
  a53 := Tryd.isAgg93
  z53 := Tryd.sizeOf93
  v53 := Tryd.zeroValue93
  t70 := Tryd.underlying49
  a70 := Tryd.isAgg49
  z70 := Tryd.sizeOf49
  v70 := Tryd.zeroValue49
  t72 := Tryd.underlying51
  a72 := Tryd.isAgg51
  z72 := Tryd.sizeOf51
  v72 := Tryd.zeroValue51
  t75 := Tryd.underlying53
  a75 := Tryd.isAgg53
  z75 := Tryd.sizeOf53
  v75 := Tryd.zeroValue53
  t76 := Tryd.underlying54
  a76 := Tryd.isAgg54
  z76 := Tryd.sizeOf54
  v76 := Tryd.zeroValue54
  t109 := Tryd.underlying76
  a109 := Tryd.isAgg76
  z109 := Tryd.sizeOf76
  v109 := Tryd.zeroValue76
  t127 := Tryd.underlying79
  a127 := Tryd.isAgg79
  z127 := Tryd.sizeOf79
  v127 := Tryd.zeroValue79
  t146 := Tryd.underlying91
  a146 := Tryd.isAgg91
  z146 := Tryd.sizeOf91
  v146 := Tryd.zeroValue91
  t148 := Tryd.underlying94
  a148 := Tryd.isAgg94
  z148 := Tryd.sizeOf94
  v148 := Tryd.zeroValue94
  t164 := Tryd.underlying88
  a164 := Tryd.isAgg88
  z164 := Tryd.sizeOf88
  v164 := Tryd.zeroValue88

theorem trim_spec (s : List UInt8) (hs : s.length ≤ 9223372036854775807) : Ctr Tryd.prog G 53 [.d (S s), .d (S [32])] [] (.d (S (Lib.trimB s 32))) [] :=
  Ctr.of_calls_ss go53 fun h w => (Any.strings_Trim_one Tryd.laysTrim (bs s) 32 (by decide) w (by rw [bs_size]; exact hs)).mono (by
    rintro e w' ⟨rfl, h | h⟩
    · subst h; exact ⟨_, rfl, .str _, .refl _ _⟩
    · subst h; exact ⟨_, rfl, .str _, Below.drew (.refl _ _)⟩)
theorem ttrim_spec (s : List UInt8) (hs : s.length ≤ 9223372036854775807) : Ctr Tryd.prog G 33 [.d (S s)] [] (.d (S (Lib.trimB s 32))) [] := by
  refine Ctr.pure (M := M0) hmix Tryd.func33 rfl go33 ?_
  simp (config := { maxSteps := 1000000 }) (disch := ((try simp only [awL]); omega)) only [QR, QS, QT, QU, QV, QW, QX, QY, QZ, Q0, Q1, Q2, Tryd.f33, ↓awU, awV, awF, Qa, Qb, Qc, Qd, forall_const, ↓reduceIte, ↓reduceDIte, ↓Qe, Qf, Qg, Qh, Qi, Qj, Qk, Ql, Qm, Qn, Qo, Qp, Qq, Qr, Qs, implies_true, Qt, Qu, Qv, Qw, Qx, Qy, Qz, QA, QB, QC, QD, QE, QF, QG, QH, QI, QJ, QK, QL, QM, QN, QO, QP, QQ]
  refine CallC.of (trim_spec s hs) (by rfl) ?_
  simp (config := { maxSteps := 1000000 }) (disch := ((try simp only [awL]); omega)) only [QR, QS, QT, QU, QV, QW, QX, QY, QZ, Q0, Q1, Q2, ↓awU, awV, awF, Qa, Qb, Qc, Qd, forall_const, ↓reduceIte, ↓reduceDIte, ↓Qe, Qf, Qg, Qh, Qi, Qj, Qk, Ql, Qm, Qn, Qo, Qp, Qq, Qr, Qs, implies_true, Qt, Qu, Qv, Qw, Qx, Qy, Qz, QA, QB, QC, QD, QE, QF, QG, QH, QI, QJ, QK, QL, QM, QN, QO, QP, QQ]
theorem extraB : Builder.Extra Tryd.prog Tryd.laysReplaceAll_ren where
  sizeBuilder := by kernel_rfl
  liesBuilder := by kernel_rfl
  t5 := Tryd.underlying5
  a5 := Tryd.isAgg5
  z5 := Tryd.sizeOf5
  v5 := Tryd.zeroValue5
  infoByte := by kernel_rfl
  cellsByte := by kernel_rfl
  sizeByte := by kernel_rfl
  neB5 := by decide
end Go.Proofs.YtacepalmphbnfaaDoor

namespace Go.Proofs.YtacepalmphbnfaaDoor
open Go Go.Proofs Go.Abs
variable {G : Globals}
/-! Trimming by a set of bytes below 128. -/
def setD (l : List UInt8) : List D := (List.range 256).map fun i => .bool (l.any fun b => b.toNat == i)
def setB (l : List UInt8) : List AV := (setD l).map .d
theorem setB_length {l : List UInt8} : (setB l).length = 256 := by simp [setB, setD]
theorem setD_length {l : List UInt8} : (setD l).length = 256 := by simp [setD]
set_option maxRecDepth 10000 in
theorem setB_nil : setB [] = List.replicate 256 (.d (.bool false)) := by rfl
theorem setD_get {l : List UInt8} {c : UInt8} {d : D} : (setD l).getD c.toNat d = .bool (l.contains c) := by
  have hc := c.toNat_lt
  simp only [setD, List.getD_eq_getElem?_getD, List.getElem?_map, List.getElem?_range (show c.toNat < 256 by omega), Option.map_some, Option.getD_some]
  rw [List.contains_eq_any_beq]
  refine congrArg (fun f => D.bool (l.any f)) ?_
  funext b
  show (b.toNat == c.toNat) = _
  by_cases h : b = c
  · subst h; simp
  · have : ¬ b.toNat = c.toNat := fun e => h (UInt8.toNat_inj.1 e)
    have h' : ¬ c = b := fun e => h e.symm
    rw [beq_eq_false_iff_ne.2 this]; exact (beq_eq_false_iff_ne.2 h').symm
theorem setB_get {l : List UInt8} {c : UInt8} {d : AV} : (setB l).getD c.toNat d = .d (.bool (l.contains c)) := by
  have hc := c.toNat_lt
  have := @setD_get l c .nilp
  rw [List.getD_eq_getElem?_getD, List.getElem?_eq_getElem (by rw [setD_length]; omega)] at this
  rw [setB, List.getD_eq_getElem?_getD, List.getElem?_map, List.getElem?_eq_getElem (by rw [setD_length]; omega)]
  simp only [Option.getD_some] at this
  rw [Option.map_some, Option.getD_some, this]
theorem setB_set {l : List UInt8} {c : UInt8} : (setB l).set c.toNat (.d (.bool true)) = setB (l ++ [c]) := by
  have hc := c.toNat_lt
  apply List.ext_getElem
  · rw [List.length_set, setB_length, setB_length]
  · intro i h1 h2
    rw [List.length_set, setB_length] at h1
    rw [List.getElem_set]
    simp only [setB, setD, List.getElem_map, List.getElem_range, List.any_append, List.any_cons, List.any_nil, Bool.or_false]
    split
    · rename_i e; subst e; simp
    · rename_i e
      have : (c.toNat == i) = false := by simpa using e
      rw [this, Bool.or_false]
theorem SWeak_map {fl : List (Option Nat)} : ∀ l : List D, SWeak fl (l.map .d) (l.map .d)
  | [] => by simp [SWeak]
  | x :: l => by simp only [List.map_cons, SWeak]; exact ⟨by simp [AWeak], SWeak_map l⟩
theorem setB_weak {fl : List (Option Nat)} {l : List UInt8} : SWeak fl (setB l) (setB l) = True := eq_true (SWeak_map _)
theorem mem_getDU {α : Type} {l : List α} {i : Nat} {d : α} (h : i < l.length) : l.getD i d ∈ l := by
  rw [List.getD_eq_getElem?_getD, List.getElem?_eq_getElem h]; exact List.getElem_mem h
theorem setB_two (l : List UInt8) : ∃ a b cs, setB l = a :: b :: cs := by
  have := @setB_length l
  match h : setB l with
  | [] => rw [h] at this; cases this
  | [_] => rw [h] at this; cases this
  | a :: b :: cs => exact ⟨a, b, cs, rfl⟩
theorem setB_one {l : List UInt8} : (setB l).all AV.one = true := by
  simp [setB, setD, AV.one, D.one]
theorem setB_seal {H : List ABlk} {l : List UInt8} : sealL H (setB l) = some (setD l) := by
  have : ∀ m : List D, sealL H (m.map .d) = some m := fun m => by
    induction m with
    | nil => rfl
    | cons x m ih => simp only [List.map_cons, sealL, sealA, ih]
  exact this _
theorem setB_refs {l : List UInt8} : refsL (setB l) = [] := by
  have : ∀ m : List D, refsL (m.map .d) = [] := fun m => by
    induction m with
    | nil => rfl
    | cons x m ih => simp only [List.map_cons, refsL, refsA, ih, List.append_nil]
  exact this _
theorem setB_pass {H : List ABlk} {L : List Nat} {l : List UInt8} : passL H L (setB l) = some (setB l) := by
  have : ∀ m : List D, passL H L (m.map .d) = some (m.map .d) := fun m => by
    induction m with
    | nil => rfl
    | cons x m ih => simp only [List.map_cons, passL, passA, ih]
  exact this _
theorem setB_sids {H : List ABlk} {L : List Nat} {l : List UInt8} : sidsL H L (setB l) = [] := by
  have : ∀ m : List D, sidsL H L (m.map .d) = [] := fun m => by
    induction m with
    | nil => rfl
    | cons x m ih => simp only [List.map_cons, sidsL, sidsA, ih, List.append_nil]
  exact this _
theorem setB_ren {f : Nat → Nat} {l : List UInt8} : renL f (setB l) = setB l := by
  have : ∀ m : List D, renL f (m.map .d) = m.map .d := fun m => by
    induction m with
    | nil => rfl
    | cons x m ih => simp only [List.map_cons, renL, renA, ih]
  exact this _
theorem take_succ_getD {s : List UInt8} {i : Nat} (h : i < s.length) : s.take i ++ [s.getD i 0] = s.take (i + 1) := by
  rw [List.take_add_one, List.getElem?_eq_getElem h, List.getD_eq_getElem?_getD, List.getElem?_eq_getElem h]; rfl
theorem contains_spec (l : List UInt8) (c : UInt8) : Ctr Tryd.prog G 75 [.ptr 0 0, .d (.int .u8 c.toNat)] [.box (setB l)] (.d (.bool (l.contains c))) [.box (setB l)] := by
  have hc := c.toNat_lt
  have hl := @setB_length l
  refine Ctr.body (M := M0) hmix Tryd.func75 rfl go75 ?_
  simp (config := { maxSteps := 1000000 }) (disch := ((try simp only [awL]); omega)) only [QR, QS, QT, QU, QV, QW, QX, QY, QZ, Q0, Q1, Q2, hl, setB_get, Tryd.f75, ↓awU, awV, awF, Qa, Qb, Qc, Qd, forall_const, ↓reduceIte, ↓reduceDIte, ↓Qe, Qf, Qg, Qh, Qi, Qj, Qk, Ql, Qm, Qn, Qo, Qp, Qq, Qr, Qs, implies_true, Qt, Qu, Qv, Qw, Qx, Qy, Qz, QA, QB, QC, QD, QE, QF, QG, QH, QI, QJ, QK, QL, QM, QN, QO, QP, QQ]
  exact ⟨[some 0], rfl, by simp, by simp [HWeak, BWeak, setB_weak], .inl (by simp [AWeak])⟩
set_option maxRecDepth 100000 in
theorem makeSet_spec (l : List UInt8) (hl : l.length < 2 ^ 62) (ha : ∀ b ∈ l, b.toNat < 128) : Ctr Tryd.prog G 68 [.d (S l)] [] (.d (.tup [.agg (setD l), .bool true])) [] := by
  refine Ctr.pure (M := M0) hmix Tryd.func68 rfl go68 ?_
  simp (config := { maxSteps := 1000000 }) (disch := ((try simp only [awL]); omega)) only [QR, QS, QT, QU, QV, QW, QX, QY, QZ, Q0, Q1, Q2, Tryd.f68, ↓awU, awV, awF, Qa, Qb, Qc, Qd, forall_const, ↓reduceIte, ↓reduceDIte, ↓Qe, Qf, Qg, Qh, Qi, Qj, Qk, Ql, Qm, Qn, Qo, Qp, Qq, Qr, Qs, implies_true, Qt, Qu, Qv, Qw, Qx, Qy, Qz, QA, QB, QC, QD, QE, QF, QG, QH, QI, QJ, QK, QL, QM, QN, QO, QP, QQ]
  refine LoopC.fr 5 (α := Nat) (fun i => l.length - i) (fun i => [(4, .d (.int .i64 i))]) (fun i => [.box (setB (l.take i))]) (fun i => i ≤ l.length) 0 (Nat.zero_le _) ?_ ?_
  · refine ⟨[some 0], rfl, by simp, by simp [setsA, keepA, SWeak, AWeak], ?_⟩
    rw [List.take_zero, setB_nil]
    simp only [HWeak, BWeak, List.getElem?_cons_zero]
    refine ⟨SWeak_map (List.replicate 256 (.bool false)), trivial⟩
  · intro i hi
    have sl := @setB_length (l.take i)
    simp only [awK, Nat.reduceMod, Nat.reduceDiv, reduceIte]
    rcases Nat.lt_or_ge i l.length with h1 | h1
    · have hb := ha _ (mem_getDU (d := 0) h1)
      have hs := take_succ_getD h1
      simp (config := { maxSteps := 1000000 }) (disch := ((try simp only [awL]); omega)) only [QR, QS, QT, QU, QV, QW, QX, QY, QZ, Q0, Q1, Q2, sl, ↓awU, awV, awF, Qa, Qb, Qc, Qd, forall_const, ↓reduceIte, ↓reduceDIte, ↓Qe, Qf, Qg, Qh, Qi, Qj, Qk, Ql, Qm, Qn, Qo, Qp, Qq, Qr, Qs, implies_true, Qt, Qu, Qv, Qw, Qx, Qy, Qz, QA, QB, QC, QD, QE, QF, QG, QH, QI, QJ, QK, QL, QM, QN, QO, QP, QQ]
      exact ⟨i + 1, h1, by simp only; omega, [some 0], rfl, by simp, by simp [setsA, keepA, SWeak, AWeak], by simp only [HWeak, BWeak, List.getElem?_cons_zero]; rw [setB_set, hs]; exact ⟨by rw [setB_weak]; trivial, trivial⟩⟩
    · have sl := @setB_length l
      have tk : (setB l).take 256 = setB l := List.take_of_length_le (by omega)
      obtain ⟨a, b, cs, e⟩ := setB_two l
      have lc : cs.length = 254 := by rw [e] at sl; simpa using sl
      have tc : cs.take 254 = cs := List.take_of_length_le (by omega)
      have dc : cs.drop cs.length = [] := List.drop_length
      simp (config := { maxSteps := 1000000 }) (disch := ((try simp only [awL]); omega)) only [QR, QS, QT, QU, QV, QW, QX, QY, QZ, Q0, Q1, Q2, sl, tk, ↓awU, awV, awF, Qa, Qb, Qc, Qd, forall_const, ↓reduceIte, ↓reduceDIte, ↓Qe, Qf, Qg, Qh, Qi, Qj, Qk, Ql, Qm, Qn, Qo, Qp, Qq, Qr, Qs, implies_true, Qt, Qu, Qv, Qw, Qx, Qy, Qz, QA, QB, QC, QD, QE, QF, QG, QH, QI, QJ, QK, QL, QM, QN, QO, QP, QQ]
      refine ⟨setB_one, ?_⟩
      have pm : putL (setB l) 0 (setB l) = setB l := by
        rw [e]
        simp only [putL, putL, List.take_zero, List.nil_append, Nat.zero_add, List.length_cons, List.drop_succ_cons, dc, List.append_nil]
      simp only [putL, putL, List.take_zero, List.nil_append, Nat.zero_add] at pm
      rw [pm, sl, tk]
      simp only [Nat.le_refl, if_true, sealA, sealL, setB_seal]
      rfl
theorem setB_fold {l : List UInt8} : (setD l).map AV.d = setB l := rfl
theorem setB_putL {L : List AV} {l : List UInt8} (h : L.length = 256) : putL L 0 ((setD l).map AV.d) = setB l := by
  rw [setB_fold]
  obtain ⟨a, b, cs, e⟩ := setB_two l
  have q := @setB_length l
  rw [e] at q ⊢
  have hd : L.drop (0 + (a :: b :: cs).length) = [] := List.drop_eq_nil_of_le (by omega)
  simp only [putL, hd, List.take_zero, List.nil_append, List.append_nil]
set_option maxRecDepth 10000 in
theorem setB_putL' {l : List UInt8} : putL ([.d (.bool false), .d (.bool false), .d (.bool false), .d (.bool false), .d (.bool false), .d (.bool false), .d (.bool false), .d (.bool false), .d (.bool false), .d (.bool false), .d (.bool false), .d (.bool false), .d (.bool false), .d (.bool false), .d (.bool false), .d (.bool false), .d (.bool false), .d (.bool false), .d (.bool false), .d (.bool false), .d (.bool false), .d (.bool false), .d (.bool false), .d (.bool false), .d (.bool false), .d (.bool false), .d (.bool false), .d (.bool false), .d (.bool false), .d (.bool false), .d (.bool false), .d (.bool false), .d (.bool false), .d (.bool false), .d (.bool false), .d (.bool false), .d (.bool false), .d (.bool false), .d (.bool false), .d (.bool false), .d (.bool false), .d (.bool false), .d (.bool false), .d (.bool false), .d (.bool false), .d (.bool false), .d (.bool false), .d (.bool false), .d (.bool false), .d (.bool false), .d (.bool false), .d (.bool false), .d (.bool false), .d (.bool false), .d (.bool false), .d (.bool false), .d (.bool false), .d (.bool false), .d (.bool false), .d (.bool false), .d (.bool false), .d (.bool false), .d (.bool false), .d (.bool false), .d (.bool false), .d (.bool false), .d (.bool false), .d (.bool false), .d (.bool false), .d (.bool false), .d (.bool false), .d (.bool false), .d (.bool false), .d (.bool false), .d (.bool false), .d (.bool false), .d (.bool false), .d (.bool false), .d (.bool false), .d (.bool false), .d (.bool false), .d (.bool false), .d (.bool false), .d (.bool false), .d (.bool false), .d (.bool false), .d (.bool false), .d (.bool false), .d (.bool false), .d (.bool false), .d (.bool false), .d (.bool false), .d (.bool false), .d (.bool false), .d (.bool false), .d (.bool false), .d (.bool false), .d (.bool false), .d (.bool false), .d (.bool false), .d (.bool false), .d (.bool false), .d (.bool false), .d (.bool false), .d (.bool false), .d (.bool false), .d (.bool false), .d (.bool false), .d (.bool false), .d (.bool false), .d (.bool false), .d (.bool false), .d (.bool false), .d (.bool false), .d (.bool false), .d (.bool false), .d (.bool false), .d (.bool false), .d (.bool false), .d (.bool false), .d (.bool false), .d (.bool false), .d (.bool false), .d (.bool false), .d (.bool false), .d (.bool false), .d (.bool false), .d (.bool false), .d (.bool false), .d (.bool false), .d (.bool false), .d (.bool false), .d (.bool false), .d (.bool false), .d (.bool false), .d (.bool false), .d (.bool false), .d (.bool false), .d (.bool false), .d (.bool false), .d (.bool false), .d (.bool false), .d (.bool false), .d (.bool false), .d (.bool false), .d (.bool false), .d (.bool false), .d (.bool false), .d (.bool false), .d (.bool false), .d (.bool false), .d (.bool false), .d (.bool false), .d (.bool false), .d (.bool false), .d (.bool false), .d (.bool false), .d (.bool false), .d (.bool false), .d (.bool false), .d (.bool false), .d (.bool false), .d (.bool false), .d (.bool false), .d (.bool false), .d (.bool false), .d (.bool false), .d (.bool false), .d (.bool false), .d (.bool false), .d (.bool false), .d (.bool false), .d (.bool false), .d (.bool false), .d (.bool false), .d (.bool false), .d (.bool false), .d (.bool false), .d (.bool false), .d (.bool false), .d (.bool false), .d (.bool false), .d (.bool false), .d (.bool false), .d (.bool false), .d (.bool false), .d (.bool false), .d (.bool false), .d (.bool false), .d (.bool false), .d (.bool false), .d (.bool false), .d (.bool false), .d (.bool false), .d (.bool false), .d (.bool false), .d (.bool false), .d (.bool false), .d (.bool false), .d (.bool false), .d (.bool false), .d (.bool false), .d (.bool false), .d (.bool false), .d (.bool false), .d (.bool false), .d (.bool false), .d (.bool false), .d (.bool false), .d (.bool false), .d (.bool false), .d (.bool false), .d (.bool false), .d (.bool false), .d (.bool false), .d (.bool false), .d (.bool false), .d (.bool false), .d (.bool false), .d (.bool false), .d (.bool false), .d (.bool false), .d (.bool false), .d (.bool false), .d (.bool false), .d (.bool false), .d (.bool false), .d (.bool false), .d (.bool false), .d (.bool false), .d (.bool false), .d (.bool false), .d (.bool false), .d (.bool false), .d (.bool false), .d (.bool false), .d (.bool false), .d (.bool false), .d (.bool false), .d (.bool false), .d (.bool false), .d (.bool false), .d (.bool false), .d (.bool false), .d (.bool false), .d (.bool false), .d (.bool false), .d (.bool false), .d (.bool false), .d (.bool false), .d (.bool false), .d (.bool false), .d (.bool false), .d (.bool false), .d (.bool false), .d (.bool false)] : List AV) 0 (setB l) = setB l := setB_putL rfl
end Go.Proofs.YtacepalmphbnfaaDoor

namespace Go.Proofs.YtacepalmphbnfaaDoor
open Go Go.Proofs Go.Abs
variable {G : Globals}
/-! Whether a text holds a line end's byte. -/
theorem decw (l : List UInt8) (p : Nat) (h : p < l.length) : ((l.getD p 0).toNat < 128 ∧ dec l p = ((l.getD p 0).toNat, 1)) ∨
    (128 ≤ (dec l p).1 ∧ 1 ≤ (dec l p).2 ∧ p + (dec l p).2 ≤ l.length ∧ ∀ i, i < (dec l p).2 → 128 ≤ (l.getD (p + i) 0).toNat) := by
  by_cases h0 : (l.getD p 0).toNat < 128
  · exact .inl ⟨h0, dec_ascii h h0⟩
  · right
    have hget : ∀ k, ((bs l).get! (p + k)).toNat = (l.getD (p + k) 0).toNat := fun k => by
      show (l.toArray.getD (p + k) default).toNat = _
      simp [List.getD_eq_getElem?_getD]; rfl
    have hsz : (bs l).size = l.length := bs_size
    unfold dec Utf8.decode
    have hget0 : ((bs l).get! p).toNat = (l.getD p 0).toNat := hget 0
    simp only [hget, hsz, Nat.add_zero, hget0]
    have hb : ∀ k, (l.getD (p + k) 0).toNat < 256 := fun k => (l.getD (p + k) 0).toNat_lt
    have hb1 := hb 1
    have hb2 := hb 2
    have hb3 := hb 3
    have hb0 := hb 0
    rw [Nat.add_zero] at hb0
    rw [if_neg h0]
    have one : ∀ i, i < 1 → 128 ≤ (l.getD (p + i) 0).toNat := fun i hi => by obtain rfl : i = 0 := by omega
                                                                             rw [Nat.add_zero]; omega
    split
    · rename_i h1
      simp only [Bool.and_eq_true, beq_iff_eq, decide_eq_true_eq] at h1
      split
      · rename_i h2
        refine ⟨by omega, by omega, by omega, fun i hi => ?_⟩
        rcases (by omega : i = 0 ∨ i = 1) with rfl | rfl
        · rw [Nat.add_zero]; omega
        · omega
      · exact ⟨by simp [Utf8.runeError], by omega, by omega, one⟩
    · split
      · rename_i h1
        simp only [Bool.and_eq_true, beq_iff_eq, decide_eq_true_eq] at h1
        split
        · rename_i h2
          simp only [Bool.and_eq_true, decide_eq_true_eq] at h2
          refine ⟨by omega, by omega, by omega, fun i hi => ?_⟩
          rcases (by omega : i = 0 ∨ i = 1 ∨ i = 2) with rfl | rfl | rfl
          · rw [Nat.add_zero]; omega
          · omega
          · omega
        · exact ⟨by simp [Utf8.runeError], by omega, by omega, one⟩
      · split
        · rename_i h1
          simp only [Bool.and_eq_true, beq_iff_eq, decide_eq_true_eq] at h1
          split
          · rename_i h2
            simp only [Bool.and_eq_true, decide_eq_true_eq] at h2
            refine ⟨by omega, by omega, by omega, fun i hi => ?_⟩
            rcases (by omega : i = 0 ∨ i = 1 ∨ i = 2 ∨ i = 3) with rfl | rfl | rfl | rfl
            · rw [Nat.add_zero]; omega
            · omega
            · omega
            · omega
          · exact ⟨by simp [Utf8.runeError], by omega, by omega, one⟩
        · exact ⟨by simp [Utf8.runeError], by omega, by omega, one⟩
/-- A wide rune's bytes: more than one, the last one is none of ASCII. -/
theorem enc_wide (r : Nat) (h : 128 ≤ r) : ∃ e : List UInt8, Utf8.encode (r : Int) = bs e ∧ 2 ≤ e.length ∧ e.length ≤ 4 ∧ 128 ≤ (e.getD (e.length - 1) 0).toNat := by
  have key : ∃ e : List UInt8, (Utf8.encode (r : Int)).data.toList = e ∧ 2 ≤ e.length ∧ e.length ≤ 4 ∧ 128 ≤ (e.getD (e.length - 1) 0).toNat := by
    by_cases c2 : r < 2048
    · refine ⟨[UInt8.ofNat (192 + r / 64), UInt8.ofNat (128 + r % 64)], ?_, by simp, by simp, ?_⟩
      · have : Utf8.valid (r : Int) = true := by simp [Utf8.valid]; omega
        simp [Utf8.encode, this, c2, show ¬ r < 128 by omega]
      · simp; omega
    · by_cases hv : (55296 ≤ r ∧ r ≤ 57343) ∨ 1114111 < r
      · refine ⟨[239, 191, 189], ?_, by simp, by simp, by decide⟩
        have : Utf8.valid (r : Int) = false := by simp [Utf8.valid]; omega
        simp [Utf8.encode, this, Utf8.runeError]
      · by_cases c3 : r < 65536
        · refine ⟨[UInt8.ofNat (224 + r / 4096), UInt8.ofNat (128 + r / 64 % 64), UInt8.ofNat (128 + r % 64)], ?_, by simp, by simp, ?_⟩
          · have : Utf8.valid (r : Int) = true := by simp [Utf8.valid]; omega
            simp [Utf8.encode, this, c2, c3, show ¬ r < 128 by omega]
          · simp; omega
        · refine ⟨[UInt8.ofNat (240 + r / 262144), UInt8.ofNat (128 + r / 4096 % 64), UInt8.ofNat (128 + r / 64 % 64), UInt8.ofNat (128 + r % 64)], ?_, by simp, by simp, ?_⟩
          · have : Utf8.valid (r : Int) = true := by simp [Utf8.valid]; omega
            simp [Utf8.encode, this, c2, c3, show ¬ r < 128 by omega]
          · simp; omega
  obtain ⟨e, h1, h2⟩ := key
  exact ⟨e, bs_ext (by rw [h1]), h2⟩
def nlL : List UInt8 := [13, 10]
theorem validRune_spec (r : Nat) (hr : r ≤ 2147483647) : Ctr Tryd.prog G 86 [.d (.int .i32 r)] [] (.d (.bool (decide (r < 55296 ∨ 57343 < r ∧ r ≤ 1114111)))) [] := by
  refine Ctr.pure (M := M0) hmix Tryd.func86 rfl go86 ?_
  rcases (by omega : r < 55296 ∨ (55296 ≤ r ∧ r ≤ 57343) ∨ (57343 < r ∧ r ≤ 1114111) ∨ 1114111 < r) with h | h | h | h
  all_goals
    simp (config := { maxSteps := 1000000 }) (disch := ((try simp only [awL]); omega)) only [QR, QS, QT, QU, QV, QW, QX, QY, QZ, Q0, Q1, Q2, Tryd.f86, ↓awU, awV, awF, Qa, Qb, Qc, Qd, forall_const, ↓reduceIte, ↓reduceDIte, ↓Qe, Qf, Qg, Qh, Qi, Qj, Qk, Ql, Qm, Qn, Qo, Qp, Qq, Qr, Qs, implies_true, Qt, Qu, Qv, Qw, Qx, Qy, Qz, QA, QB, QC, QD, QE, QF, QG, QH, QI, QJ, QK, QL, QM, QN, QO, QP, QQ]
  all_goals (first | done | (simp <;> omega))
set_option maxHeartbeats 4000000 in
set_option maxRecDepth 100000 in
theorem indexRune_spec (r : Nat) (hr : r ≤ 2147483647) : Ctr Tryd.prog G 73 [.d (S nlL), .d (.int .i32 r)] [] (.d (.int .i64 (if r < 128 then Lib.indexByte nlL (UInt8.ofNat r) else -1))) [] := by
  refine Ctr.pure (M := M0) hmix Tryd.func73 rfl go73 ?_
  obtain ⟨L, hL⟩ : ∃ L : List UInt8, L = nlL := ⟨_, rfl⟩
  have ll : L.length = 2 := by rw [hL]; rfl
  have l0 : (L.getD 0 0).toNat = 13 := by rw [hL]; rfl
  have l1 : (L.getD 1 0).toNat = 10 := by rw [hL]; rfl
  rw [← hL]
  by_cases h : r < 128
  · rw [if_pos h]
    have e : (UInt8.ofNat r).toNat = r := by simp; omega
    have sp := sIndexByte_spec (G := G) L (UInt8.ofNat r)
    rw [e] at sp
    simp (config := { maxSteps := 1000000 }) (disch := ((try simp only [awL]); omega)) only [QR, QS, QT, QU, QV, QW, QX, QY, QZ, Q0, Q1, Q2, Tryd.f73, ↓awU, awV, awF, Qa, Qb, Qc, Qd, forall_const, ↓reduceIte, ↓reduceDIte, ↓Qe, Qf, Qg, Qh, Qi, Qj, Qk, Ql, Qm, Qn, Qo, Qp, Qq, Qr, Qs, implies_true, Qt, Qu, Qv, Qw, Qx, Qy, Qz, QA, QB, QC, QD, QE, QF, QG, QH, QI, QJ, QK, QL, QM, QN, QO, QP, QQ]
    refine CallC.pure sp ?_
    simp (config := { maxSteps := 1000000 }) (disch := ((try simp only [awL]); omega)) only [QR, QS, QT, QU, QV, QW, QX, QY, QZ, Q0, Q1, Q2, ↓awU, awV, awF, Qa, Qb, Qc, Qd, forall_const, ↓reduceIte, ↓reduceDIte, ↓Qe, Qf, Qg, Qh, Qi, Qj, Qk, Ql, Qm, Qn, Qo, Qp, Qq, Qr, Qs, implies_true, Qt, Qu, Qv, Qw, Qx, Qy, Qz, QA, QB, QC, QD, QE, QF, QG, QH, QI, QJ, QK, QL, QM, QN, QO, QP, QQ]
  · rw [if_neg h]
    by_cases h2 : r = 65533
    · subst h2
      simp (config := { maxSteps := 1000000 }) (disch := ((try simp only [awL]); omega)) only [QR, QS, QT, QU, QV, QW, QX, QY, QZ, Q0, Q1, Q2, Tryd.f73, ↓awU, awV, awF, Qa, Qb, Qc, Qd, forall_const, ↓reduceIte, ↓reduceDIte, ↓Qe, Qf, Qg, Qh, Qi, Qj, Qk, Ql, Qm, Qn, Qo, Qp, Qq, Qr, Qs, implies_true, Qt, Qu, Qv, Qw, Qx, Qy, Qz, QA, QB, QC, QD, QE, QF, QG, QH, QI, QJ, QK, QL, QM, QN, QO, QP, QQ]
      refine LoopC.fr 47890485652059026823698344598447161988085597568237568 (α := Nat) (fun i => 2 - i) (fun _ => []) (fun i => [.iter (bs L) i]) (fun i => i ≤ 2) 0 (Nat.zero_le _) ?_ ?_
      · exact ⟨[some 0], rfl, by simp, by simp [setsA, keepA, SWeak, AWeak], by simp [HWeak, BWeak, SWeak, AWeak]⟩
      · intro i hi
        simp only [awK, Nat.reduceMod, Nat.reduceDiv, reduceIte]
        rcases (by omega : i = 0 ∨ i = 1 ∨ i = 2) with rfl | rfl | rfl
        · have d := dec_ascii (l := L) (p := 0) (by omega) (by omega)
          rw [l0] at d
          simp (config := { maxSteps := 1000000 }) (disch := ((try simp only [awL]); omega)) only [QR, QS, QT, QU, QV, QW, QX, QY, QZ, Q0, Q1, Q2, d, ↓awU, awV, awF, Qa, Qb, Qc, Qd, forall_const, ↓reduceIte, ↓reduceDIte, ↓Qe, Qf, Qg, Qh, Qi, Qj, Qk, Ql, Qm, Qn, Qo, Qp, Qq, Qr, Qs, implies_true, Qt, Qu, Qv, Qw, Qx, Qy, Qz, QA, QB, QC, QD, QE, QF, QG, QH, QI, QJ, QK, QL, QM, QN, QO, QP, QQ]
          exact ⟨1, by decide, by simp only; omega, ⟨[some 0], rfl, by simp, by simp [setsA, keepA, SWeak, AWeak], by simp [HWeak, BWeak, SWeak, AWeak]⟩⟩
        · have d := dec_ascii (l := L) (p := 1) (by omega) (by omega)
          rw [l1] at d
          simp (config := { maxSteps := 1000000 }) (disch := ((try simp only [awL]); omega)) only [QR, QS, QT, QU, QV, QW, QX, QY, QZ, Q0, Q1, Q2, d, ↓awU, awV, awF, Qa, Qb, Qc, Qd, forall_const, ↓reduceIte, ↓reduceDIte, ↓Qe, Qf, Qg, Qh, Qi, Qj, Qk, Ql, Qm, Qn, Qo, Qp, Qq, Qr, Qs, implies_true, Qt, Qu, Qv, Qw, Qx, Qy, Qz, QA, QB, QC, QD, QE, QF, QG, QH, QI, QJ, QK, QL, QM, QN, QO, QP, QQ]
          exact ⟨2, by decide, by simp only; omega, ⟨[some 0], rfl, by simp, by simp [setsA, keepA, SWeak, AWeak], by simp [HWeak, BWeak, SWeak, AWeak]⟩⟩
        · simp (config := { maxSteps := 1000000 }) (disch := ((try simp only [awL]); omega)) only [QR, QS, QT, QU, QV, QW, QX, QY, QZ, Q0, Q1, Q2, ↓awU, awV, awF, Qa, Qb, Qc, Qd, forall_const, ↓reduceIte, ↓reduceDIte, ↓Qe, Qf, Qg, Qh, Qi, Qj, Qk, Ql, Qm, Qn, Qo, Qp, Qq, Qr, Qs, implies_true, Qt, Qu, Qv, Qw, Qx, Qy, Qz, QA, QB, QC, QD, QE, QF, QG, QH, QI, QJ, QK, QL, QM, QN, QO, QP, QQ]
    · simp (config := { maxSteps := 1000000 }) (disch := ((try simp only [awL]); omega)) only [QR, QS, QT, QU, QV, QW, QX, QY, QZ, Q0, Q1, Q2, Tryd.f73, ↓awU, awV, awF, Qa, Qb, Qc, Qd, forall_const, ↓reduceIte, ↓reduceDIte, ↓Qe, Qf, Qg, Qh, Qi, Qj, Qk, Ql, Qm, Qn, Qo, Qp, Qq, Qr, Qs, implies_true, Qt, Qu, Qv, Qw, Qx, Qy, Qz, QA, QB, QC, QD, QE, QF, QG, QH, QI, QJ, QK, QL, QM, QN, QO, QP, QQ]
      refine CallC.pure (validRune_spec r hr) ?_
      by_cases hv : r < 55296 ∨ 57343 < r ∧ r ≤ 1114111
      · rw [decide_eq_true hv]
        obtain ⟨e, e1, e2, e3, e4⟩ := enc_wide r (by omega)
        have hb := (e.getD (e.length - 1) 0).toNat_lt
        simp (config := { maxSteps := 1000000 }) (disch := ((try simp only [awL]); omega)) only [QR, QS, QT, QU, QV, QW, QX, QY, QZ, Q0, Q1, Q2, e1, ↓awU, awV, awF, Qa, Qb, Qc, Qd, forall_const, ↓reduceIte, ↓reduceDIte, ↓Qe, Qf, Qg, Qh, Qi, Qj, Qk, Ql, Qm, Qn, Qo, Qp, Qq, Qr, Qs, implies_true, Qt, Qu, Qv, Qw, Qx, Qy, Qz, QA, QB, QC, QD, QE, QF, QG, QH, QI, QJ, QK, QL, QM, QN, QO, QP, QQ]
        refine LoopC.fr 385 (α := Nat) (fun _ => 1) (fun _ => [(9, .d (.int .i64 (e.length - 1 : Int)))]) (fun _ => []) (fun _ => True) 0 trivial ?_ ?_
        · exact ⟨[], rfl, by simp, by simp [setsA, keepA, SWeak, AWeak], by simp [HWeak, BWeak, SWeak, AWeak]⟩
        · intro i hi
          simp only [awK, Nat.reduceMod, Nat.reduceDiv, reduceIte]
          rcases (by omega : e.length = 2 ∨ 2 < e.length) with h3 | h3
          · rw [h3] at e4 hb
            replace e4 : 128 ≤ (e.getD 1 0).toNat := e4
            have sp : Ctr Tryd.prog G 62 [.d (S []), .d (.int .u8 (e.getD 1 0).toNat)] [] (.d (.int .i64 (-1))) [] := sIndexByte_spec (G := G) [] (e.getD 1 0)
            simp (config := { maxSteps := 1000000 }) (disch := ((try simp only [awL]); omega)) only [QR, QS, QT, QU, QV, QW, QX, QY, QZ, Q0, Q1, Q2, h3, ↓awU, awV, awF, Qa, Qb, Qc, Qd, forall_const, ↓reduceIte, ↓reduceDIte, ↓Qe, Qf, Qg, Qh, Qi, Qj, Qk, Ql, Qm, Qn, Qo, Qp, Qq, Qr, Qs, implies_true, Qt, Qu, Qv, Qw, Qx, Qy, Qz, QA, QB, QC, QD, QE, QF, QG, QH, QI, QJ, QK, QL, QM, QN, QO, QP, QQ]
            have hne : ¬ (((L.getD 1 0).toNat : Nat) : Int) = ((e.getD 1 0).toNat : Nat) := by omega
            refine ⟨by rfl, ?_⟩
            refine CallC.of sp (by rw [hL]; rfl) ?_
            simp (config := { maxSteps := 1000000 }) (disch := ((try simp only [awL]); omega)) only [QR, QS, QT, QU, QV, QW, QX, QY, QZ, Q0, Q1, Q2, ↓awU, awV, awF, Qa, Qb, Qc, Qd, forall_const, ↓reduceIte, ↓reduceDIte, ↓Qe, Qf, Qg, Qh, Qi, Qj, Qk, Ql, Qm, Qn, Qo, Qp, Qq, Qr, Qs, implies_true, Qt, Qu, Qv, Qw, Qx, Qy, Qz, QA, QB, QC, QD, QE, QF, QG, QH, QI, QJ, QK, QL, QM, QN, QO, QP, QQ]
            try rfl
          · simp (config := { maxSteps := 1000000 }) (disch := ((try simp only [awL]); omega)) only [QR, QS, QT, QU, QV, QW, QX, QY, QZ, Q0, Q1, Q2, ↓awU, awV, awF, Qa, Qb, Qc, Qd, forall_const, ↓reduceIte, ↓reduceDIte, ↓Qe, Qf, Qg, Qh, Qi, Qj, Qk, Ql, Qm, Qn, Qo, Qp, Qq, Qr, Qs, implies_true, Qt, Qu, Qv, Qw, Qx, Qy, Qz, QA, QB, QC, QD, QE, QF, QG, QH, QI, QJ, QK, QL, QM, QN, QO, QP, QQ]
      · rw [decide_eq_false hv]
        simp (config := { maxSteps := 1000000 }) (disch := ((try simp only [awL]); omega)) only [QR, QS, QT, QU, QV, QW, QX, QY, QZ, Q0, Q1, Q2, ↓awU, awV, awF, Qa, Qb, Qc, Qd, forall_const, ↓reduceIte, ↓reduceDIte, ↓Qe, Qf, Qg, Qh, Qi, Qj, Qk, Ql, Qm, Qn, Qo, Qp, Qq, Qr, Qs, implies_true, Qt, Qu, Qv, Qw, Qx, Qy, Qz, QA, QB, QC, QD, QE, QF, QG, QH, QI, QJ, QK, QL, QM, QN, QO, QP, QQ]
/-- The place of the first line end's byte, from a place on. -/
def nlIx (l : List UInt8) (p : Nat) : Int := if h : p < l.length then (if (l.getD p 0).toNat = 13 ∨ (l.getD p 0).toNat = 10 then (p : Int) else nlIx l (p + 1)) else -1
termination_by l.length - p
theorem nlIx_end {l : List UInt8} {p : Nat} (h : ¬ p < l.length) : nlIx l p = -1 := by rw [nlIx, dif_neg h]
theorem nlIx_hit {l : List UInt8} {p : Nat} (h : p < l.length) (h2 : (l.getD p 0).toNat = 13 ∨ (l.getD p 0).toNat = 10) : nlIx l p = p := by rw [nlIx, dif_pos h, if_pos h2]
theorem nlIx_miss {l : List UInt8} {p : Nat} (h : p < l.length) (h2 : ¬ ((l.getD p 0).toNat = 13 ∨ (l.getD p 0).toNat = 10)) : nlIx l p = nlIx l (p + 1) := by rw [nlIx, dif_pos h, if_neg h2]
theorem nlIx_skip {l : List UInt8} {p : Nat} : ∀ w, p + w ≤ l.length → (∀ i, i < w → 128 ≤ (l.getD (p + i) 0).toNat) → nlIx l p = nlIx l (p + w)
  | 0, _, _ => rfl
  | w + 1, h, h2 => by
    rw [nlIx_skip w (by omega) (fun i hi => h2 i (by omega)), nlIx_miss (by omega) (by have := h2 w (by omega); omega)]; rfl
theorem nlIx_mem : ∀ (n : Nat) (l : List UInt8) (p : Nat), l.length - p = n → (0 ≤ nlIx l p ↔ 10 ∈ l.drop p ∨ 13 ∈ l.drop p)
  | 0, l, p, hn => by rw [nlIx_end (by omega), List.drop_eq_nil_of_le (by omega)]; simp
  | n + 1, l, p, hn => by
    have hp : p < l.length := by omega
    have e10 : ∀ x : UInt8, (10 : UInt8) = x ↔ x.toNat = 10 := fun x => ⟨fun e => by rw [← e]; rfl, fun e => UInt8.toNat_inj.1 e.symm⟩
    have e13 : ∀ x : UInt8, (13 : UInt8) = x ↔ x.toNat = 13 := fun x => ⟨fun e => by rw [← e]; rfl, fun e => UInt8.toNat_inj.1 e.symm⟩
    have ed : l.drop p = l.getD p 0 :: l.drop (p + 1) := by rw [List.drop_eq_getElem_cons hp, List.getD_eq_getElem?_getD, List.getElem?_eq_getElem hp]; rfl
    rw [ed, List.mem_cons, List.mem_cons, e10, e13]
    by_cases h : (l.getD p 0).toNat = 13 ∨ (l.getD p 0).toNat = 10
    · rw [nlIx_hit hp h]
      exact ⟨fun _ => by rcases h with h | h; exact .inr (.inl h); exact .inl (.inl h), fun _ => by omega⟩
    · rw [nlIx_miss hp h, nlIx_mem n l (p + 1) (by omega)]
      constructor
      · rintro (h2 | h2)
        · exact .inl (.inr h2)
        · exact .inr (.inr h2)
      · rintro ((h2 | h2) | (h2 | h2))
        · exact absurd (.inr h2) h
        · exact .inl h2
        · exact absurd (.inl h2) h
        · exact .inr h2
def hasNl (l : List UInt8) : Bool := decide (10 ∈ l ∨ 13 ∈ l)
theorem nl_contains (c : UInt8) : nlL.contains c = decide (c.toNat = 13 ∨ c.toNat = 10) := by
  have e10 : c = 10 ↔ c.toNat = 10 := ⟨fun e => by rw [e]; rfl, fun e => UInt8.toNat_inj.1 e⟩
  have e13 : c = 13 ↔ c.toNat = 13 := ⟨fun e => by rw [e]; rfl, fun e => UInt8.toNat_inj.1 e⟩
  simp [nlL, e10, e13]
theorem nl_index {r : Nat} (h : r < 128) : Lib.indexByte nlL (UInt8.ofNat r) = if r = 13 then 0 else if r = 10 then 1 else -1 := by
  have hr : (UInt8.ofNat r).toNat = r := by simp; omega
  have e10 : (10 : UInt8) = UInt8.ofNat r ↔ r = 10 := ⟨fun e => by rw [← e] at hr; exact hr.symm, fun e => by rw [e]; rfl⟩
  have e13 : (13 : UInt8) = UInt8.ofNat r ↔ r = 13 := ⟨fun e => by rw [← e] at hr; exact hr.symm, fun e => by rw [e]; rfl⟩
  simp only [nlL, Lib.indexByte, beq_iff_eq, e10, e13]
  by_cases h1 : r = 13 <;> by_cases h2 : r = 10 <;> simp [h1, h2]
set_option maxHeartbeats 4000000 in
set_option maxRecDepth 100000 in
theorem indexAny_spec (l : List UInt8) (hl : l.length ≤ 1000000000) : Ctr Tryd.prog G 54 [.d (S l), .d (S nlL)] [] (.d (.int .i64 (nlIx l 0))) [] := by
  refine Ctr.pure (M := M0) hmix Tryd.func54 rfl go54 ?_
  have us : ∀ n : Nat, n ≤ 1000000000 → Ctr Tryd.prog G 74 [.d (.int .i64 n)] [] (.d (.bool (decide (8 < n)))) [] := fun n hn => by
    refine Ctr.pure (M := M0) hmix Tryd.func74 rfl go74 ?_
    rcases Nat.lt_or_ge 8 n with h | h
    · simp (config := { maxSteps := 1000000 }) (disch := ((try simp only [awL]); omega)) only [QR, QS, QT, QU, QV, QW, QX, QY, QZ, Q0, Q1, Q2, Tryd.f74, ↓awU, awV, awF, Qa, Qb, Qc, Qd, forall_const, ↓reduceIte, ↓reduceDIte, ↓Qe, Qf, Qg, Qh, Qi, Qj, Qk, Ql, Qm, Qn, Qo, Qp, Qq, Qr, Qs, implies_true, Qt, Qu, Qv, Qw, Qx, Qy, Qz, QA, QB, QC, QD, QE, QF, QG, QH, QI, QJ, QK, QL, QM, QN, QO, QP, QQ]
      try (simp <;> omega)
    · simp (config := { maxSteps := 1000000 }) (disch := ((try simp only [awL]); omega)) only [QR, QS, QT, QU, QV, QW, QX, QY, QZ, Q0, Q1, Q2, Tryd.f74, ↓awU, awV, awF, Qa, Qb, Qc, Qd, forall_const, ↓reduceIte, ↓reduceDIte, ↓Qe, Qf, Qg, Qh, Qi, Qj, Qk, Ql, Qm, Qn, Qo, Qp, Qq, Qr, Qs, implies_true, Qt, Qu, Qv, Qw, Qx, Qy, Qz, QA, QB, QC, QD, QE, QF, QG, QH, QI, QJ, QK, QL, QM, QN, QO, QP, QQ]
      try (simp <;> omega)
  have nl2 : nlL.length = 2 := rfl
  obtain ⟨L, hL⟩ : ∃ L : List UInt8, L = nlL := ⟨_, rfl⟩
  rw [← hL] at nl2 ⊢
  have nlne : ¬ L = [] := by rw [hL]; decide
  simp (config := { maxSteps := 1000000 }) (disch := ((try simp only [awL]); omega)) only [QR, QS, QT, QU, QV, QW, QX, QY, QZ, Q0, Q1, Q2, nl2, nlne, Tryd.f54, ↓awU, awV, awF, Qa, Qb, Qc, Qd, forall_const, ↓reduceIte, ↓reduceDIte, ↓Qe, Qf, Qg, Qh, Qi, Qj, Qk, Ql, Qm, Qn, Qo, Qp, Qq, Qr, Qs, implies_true, Qt, Qu, Qv, Qw, Qx, Qy, Qz, QA, QB, QC, QD, QE, QF, QG, QH, QI, QJ, QK, QL, QM, QN, QO, QP, QQ]
  refine CallC.pure (us _ hl) ?_
  rcases Nat.lt_or_ge 8 l.length with h | h
  · rw [decide_eq_true h]
    simp (config := { maxSteps := 1000000 }) (disch := ((try simp only [awL]); omega)) only [QR, QS, QT, QU, QV, QW, QX, QY, QZ, Q0, Q1, Q2, ↓awU, awV, awF, Qa, Qb, Qc, Qd, forall_const, ↓reduceIte, ↓reduceDIte, ↓Qe, Qf, Qg, Qh, Qi, Qj, Qk, Ql, Qm, Qn, Qo, Qp, Qq, Qr, Qs, implies_true, Qt, Qu, Qv, Qw, Qx, Qy, Qz, QA, QB, QC, QD, QE, QF, QG, QH, QI, QJ, QK, QL, QM, QN, QO, QP, QQ]
    refine CallC.of (makeSet_spec nlL (by decide) (by decide)) (by rw [hL]) ?_
    have sl := @setD_length nlL
    have sb := @setB_length nlL
    have hal := (setB_one : (setB nlL).all AV.one = true)
    simp (config := { maxSteps := 1000000 }) (disch := ((try simp only [awL]); omega)) only [QR, QS, QT, QU, QV, QW, QX, QY, QZ, Q0, Q1, Q2, sl, sb, ↓ setB_putL', setB_putL', setB_fold, setB_refs, setB_pass, setB_sids, setB_ren, ↓awU, awV, awF, Qa, Qb, Qc, Qd, forall_const, ↓reduceIte, ↓reduceDIte, ↓Qe, Qf, Qg, Qh, Qi, Qj, Qk, Ql, Qm, Qn, Qo, Qp, Qq, Qr, Qs, implies_true, Qt, Qu, Qv, Qw, Qx, Qy, Qz, QA, QB, QC, QD, QE, QF, QG, QH, QI, QJ, QK, QL, QM, QN, QO, QP, QQ]
    refine ⟨setB_one, ?_⟩
    refine LoopC.fr 65 (α := Nat) (fun p => l.length - p) (fun p => [(8, .d (.int .i64 p))]) (fun p => [.box (setB nlL)]) (fun p => p ≤ l.length ∧ nlIx l 0 = nlIx l p) 0 ⟨Nat.zero_le _, rfl⟩ ?_ ?_
    · exact ⟨[some 0], rfl, by simp, by simp [setsA, keepA, SWeak, AWeak], by simp [HWeak, BWeak, setB_weak]⟩
    · rintro p ⟨h1, h2⟩
      simp only [awK, Nat.reduceMod, Nat.reduceDiv, reduceIte]
      rw [h2]
      rcases Nat.lt_or_ge p l.length with h3 | h3
      · simp (config := { maxSteps := 1000000 }) (disch := ((try simp only [awL]); omega)) only [QR, QS, QT, QU, QV, QW, QX, QY, QZ, Q0, Q1, Q2, setB_refs, setB_pass, setB_sids, setB_ren, ↓awU, awV, awF, Qa, Qb, Qc, Qd, forall_const, ↓reduceIte, ↓reduceDIte, ↓Qe, Qf, Qg, Qh, Qi, Qj, Qk, Ql, Qm, Qn, Qo, Qp, Qq, Qr, Qs, implies_true, Qt, Qu, Qv, Qw, Qx, Qy, Qz, QA, QB, QC, QD, QE, QF, QG, QH, QI, QJ, QK, QL, QM, QN, QO, QP, QQ]
        refine CallC.by (contains_spec nlL (l.getD p 0)) (by rfl) (by rfl) (Nat.le_refl _) ?_
        rw [nl_contains]
        by_cases n : (l.getD p 0).toNat = 13 ∨ (l.getD p 0).toNat = 10
        · rw [decide_eq_true n, nlIx_hit h3 n]
          simp (config := { maxSteps := 1000000 }) (disch := ((try simp only [awL]); omega)) only [QR, QS, QT, QU, QV, QW, QX, QY, QZ, Q0, Q1, Q2, setB_refs, setB_pass, setB_sids, setB_ren, ↓awU, awV, awF, Qa, Qb, Qc, Qd, forall_const, ↓reduceIte, ↓reduceDIte, ↓Qe, Qf, Qg, Qh, Qi, Qj, Qk, Ql, Qm, Qn, Qo, Qp, Qq, Qr, Qs, implies_true, Qt, Qu, Qv, Qw, Qx, Qy, Qz, QA, QB, QC, QD, QE, QF, QG, QH, QI, QJ, QK, QL, QM, QN, QO, QP, QQ]
        · rw [decide_eq_false n]
          simp (config := { maxSteps := 1000000 }) (disch := ((try simp only [awL]); omega)) only [QR, QS, QT, QU, QV, QW, QX, QY, QZ, Q0, Q1, Q2, setB_refs, setB_pass, setB_sids, setB_ren, ↓awU, awV, awF, Qa, Qb, Qc, Qd, forall_const, ↓reduceIte, ↓reduceDIte, ↓Qe, Qf, Qg, Qh, Qi, Qj, Qk, Ql, Qm, Qn, Qo, Qp, Qq, Qr, Qs, implies_true, Qt, Qu, Qv, Qw, Qx, Qy, Qz, QA, QB, QC, QD, QE, QF, QG, QH, QI, QJ, QK, QL, QM, QN, QO, QP, QQ]
          exact ⟨p + 1, ⟨h3, nlIx_miss h3 n⟩, by simp only; omega, ⟨[some 0], rfl, by simp, by simp [setsA, keepA, SWeak, AWeak], by simp [HWeak, BWeak, setB_weak]⟩⟩
      · rw [nlIx_end (by omega)]
        simp (config := { maxSteps := 1000000 }) (disch := ((try simp only [awL]); omega)) only [QR, QS, QT, QU, QV, QW, QX, QY, QZ, Q0, Q1, Q2, ↓awU, awV, awF, Qa, Qb, Qc, Qd, forall_const, ↓reduceIte, ↓reduceDIte, ↓Qe, Qf, Qg, Qh, Qi, Qj, Qk, Ql, Qm, Qn, Qo, Qp, Qq, Qr, Qs, implies_true, Qt, Qu, Qv, Qw, Qx, Qy, Qz, QA, QB, QC, QD, QE, QF, QG, QH, QI, QJ, QK, QL, QM, QN, QO, QP, QQ]
  · rw [decide_eq_false (by omega)]
    simp (config := { maxSteps := 1000000 }) (disch := ((try simp only [awL]); omega)) only [QR, QS, QT, QU, QV, QW, QX, QY, QZ, Q0, Q1, Q2, ↓awU, awV, awF, Qa, Qb, Qc, Qd, forall_const, ↓reduceIte, ↓reduceDIte, ↓Qe, Qf, Qg, Qh, Qi, Qj, Qk, Ql, Qm, Qn, Qo, Qp, Qq, Qr, Qs, implies_true, Qt, Qu, Qv, Qw, Qx, Qy, Qz, QA, QB, QC, QD, QE, QF, QG, QH, QI, QJ, QK, QL, QM, QN, QO, QP, QQ]
    refine LoopC.fr 35184372088834 (α := Nat) (fun p => l.length - p) (fun _ => []) (fun p => [.iter (bs l) p]) (fun p => p ≤ l.length ∧ nlIx l 0 = nlIx l p) 0 ⟨Nat.zero_le _, rfl⟩ ?_ ?_
    · exact ⟨[some 0], rfl, by simp, by simp [setsA, keepA, SWeak, AWeak], by simp [HWeak, BWeak, SWeak, AWeak]⟩
    · rintro p ⟨h1, h2⟩
      simp only [awK, Nat.reduceMod, Nat.reduceDiv, reduceIte]
      rw [h2]
      rcases Nat.lt_or_ge p l.length with h3 | h3
      · rcases decw l p h3 with ⟨d1, d2⟩ | ⟨d1, d2, d3, d4⟩
        · have sp := indexRune_spec (G := G) (l.getD p 0).toNat (by omega)
          rw [if_pos d1, nl_index d1] at sp
          simp (config := { maxSteps := 1000000 }) (disch := ((try simp only [awL]); omega)) only [QR, QS, QT, QU, QV, QW, QX, QY, QZ, Q0, Q1, Q2, d2, ↓awU, awV, awF, Qa, Qb, Qc, Qd, forall_const, ↓reduceIte, ↓reduceDIte, ↓Qe, Qf, Qg, Qh, Qi, Qj, Qk, Ql, Qm, Qn, Qo, Qp, Qq, Qr, Qs, implies_true, Qt, Qu, Qv, Qw, Qx, Qy, Qz, QA, QB, QC, QD, QE, QF, QG, QH, QI, QJ, QK, QL, QM, QN, QO, QP, QQ]
          refine CallC.of sp (by rw [hL]) ?_
          by_cases n13 : (l.getD p 0).toNat = 13
          · rw [if_pos n13, nlIx_hit h3 (.inl n13)]
            simp (config := { maxSteps := 1000000 }) (disch := ((try simp only [awL]); omega)) only [QR, QS, QT, QU, QV, QW, QX, QY, QZ, Q0, Q1, Q2, ↓awU, awV, awF, Qa, Qb, Qc, Qd, forall_const, ↓reduceIte, ↓reduceDIte, ↓Qe, Qf, Qg, Qh, Qi, Qj, Qk, Ql, Qm, Qn, Qo, Qp, Qq, Qr, Qs, implies_true, Qt, Qu, Qv, Qw, Qx, Qy, Qz, QA, QB, QC, QD, QE, QF, QG, QH, QI, QJ, QK, QL, QM, QN, QO, QP, QQ]
          · rw [if_neg n13]
            by_cases n10 : (l.getD p 0).toNat = 10
            · rw [if_pos n10, nlIx_hit h3 (.inr n10)]
              simp (config := { maxSteps := 1000000 }) (disch := ((try simp only [awL]); omega)) only [QR, QS, QT, QU, QV, QW, QX, QY, QZ, Q0, Q1, Q2, ↓awU, awV, awF, Qa, Qb, Qc, Qd, forall_const, ↓reduceIte, ↓reduceDIte, ↓Qe, Qf, Qg, Qh, Qi, Qj, Qk, Ql, Qm, Qn, Qo, Qp, Qq, Qr, Qs, implies_true, Qt, Qu, Qv, Qw, Qx, Qy, Qz, QA, QB, QC, QD, QE, QF, QG, QH, QI, QJ, QK, QL, QM, QN, QO, QP, QQ]
            · rw [if_neg n10]
              simp (config := { maxSteps := 1000000 }) (disch := ((try simp only [awL]); omega)) only [QR, QS, QT, QU, QV, QW, QX, QY, QZ, Q0, Q1, Q2, ↓awU, awV, awF, Qa, Qb, Qc, Qd, forall_const, ↓reduceIte, ↓reduceDIte, ↓Qe, Qf, Qg, Qh, Qi, Qj, Qk, Ql, Qm, Qn, Qo, Qp, Qq, Qr, Qs, implies_true, Qt, Qu, Qv, Qw, Qx, Qy, Qz, QA, QB, QC, QD, QE, QF, QG, QH, QI, QJ, QK, QL, QM, QN, QO, QP, QQ]
              exact ⟨p + 1, ⟨h3, nlIx_miss h3 (by omega)⟩, by simp only; omega, ⟨[some 0], rfl, by simp, by simp [setsA, keepA, SWeak, AWeak], by simp [HWeak, BWeak, SWeak, AWeak]⟩⟩
        · have hb := dec_bounds l p
          have sp := indexRune_spec (G := G) (dec l p).1 hb.2
          rw [if_neg (by omega)] at sp
          simp (config := { maxSteps := 1000000 }) (disch := ((try simp only [awL]); omega)) only [QR, QS, QT, QU, QV, QW, QX, QY, QZ, Q0, Q1, Q2, ↓awU, awV, awF, Qa, Qb, Qc, Qd, forall_const, ↓reduceIte, ↓reduceDIte, ↓Qe, Qf, Qg, Qh, Qi, Qj, Qk, Ql, Qm, Qn, Qo, Qp, Qq, Qr, Qs, implies_true, Qt, Qu, Qv, Qw, Qx, Qy, Qz, QA, QB, QC, QD, QE, QF, QG, QH, QI, QJ, QK, QL, QM, QN, QO, QP, QQ]
          refine CallC.of sp (by rw [hL]) ?_
          simp (config := { maxSteps := 1000000 }) (disch := ((try simp only [awL]); omega)) only [QR, QS, QT, QU, QV, QW, QX, QY, QZ, Q0, Q1, Q2, ↓awU, awV, awF, Qa, Qb, Qc, Qd, forall_const, ↓reduceIte, ↓reduceDIte, ↓Qe, Qf, Qg, Qh, Qi, Qj, Qk, Ql, Qm, Qn, Qo, Qp, Qq, Qr, Qs, implies_true, Qt, Qu, Qv, Qw, Qx, Qy, Qz, QA, QB, QC, QD, QE, QF, QG, QH, QI, QJ, QK, QL, QM, QN, QO, QP, QQ]
          exact ⟨p + (dec l p).2, ⟨d3, nlIx_skip _ d3 d4⟩, by simp only; omega, ⟨[some 0], rfl, by simp, by simp [setsA, keepA, SWeak, AWeak], by simp [HWeak, BWeak, SWeak, AWeak]⟩⟩
      · rw [nlIx_end (by omega)]
        simp (config := { maxSteps := 1000000 }) (disch := ((try simp only [awL]); omega)) only [QR, QS, QT, QU, QV, QW, QX, QY, QZ, Q0, Q1, Q2, ↓awU, awV, awF, Qa, Qb, Qc, Qd, forall_const, ↓reduceIte, ↓reduceDIte, ↓Qe, Qf, Qg, Qh, Qi, Qj, Qk, Ql, Qm, Qn, Qo, Qp, Qq, Qr, Qs, implies_true, Qt, Qu, Qv, Qw, Qx, Qy, Qz, QA, QB, QC, QD, QE, QF, QG, QH, QI, QJ, QK, QL, QM, QN, QO, QP, QQ]
theorem containsAny_spec (l : List UInt8) (hl : l.length ≤ 1000000000) : Ctr Tryd.prog G 34 [.d (S l), .d (S nlL)] [] (.d (.bool (hasNl l))) [] := by
  have hm := nlIx_mem _ l 0 rfl
  rw [List.drop_zero] at hm
  refine Ctr.pure (M := M0) hmix Tryd.func34 rfl go34 ?_
  simp (config := { maxSteps := 1000000 }) (disch := ((try simp only [awL]); omega)) only [QR, QS, QT, QU, QV, QW, QX, QY, QZ, Q0, Q1, Q2, Tryd.f34, ↓awU, awV, awF, Qa, Qb, Qc, Qd, forall_const, ↓reduceIte, ↓reduceDIte, ↓Qe, Qf, Qg, Qh, Qi, Qj, Qk, Ql, Qm, Qn, Qo, Qp, Qq, Qr, Qs, implies_true, Qt, Qu, Qv, Qw, Qx, Qy, Qz, QA, QB, QC, QD, QE, QF, QG, QH, QI, QJ, QK, QL, QM, QN, QO, QP, QQ]
  refine CallC.pure (indexAny_spec l hl) ?_
  unfold hasNl
  simp only [← hm]
  generalize nlIx l 0 = z at *
  rcases (by omega : 0 ≤ z ∨ z < 0) with h | h
  · simp (config := { maxSteps := 1000000 }) (disch := ((try simp only [awL]); omega)) only [QR, QS, QT, QU, QV, QW, QX, QY, QZ, Q0, Q1, Q2, ↓awU, awV, awF, Qa, Qb, Qc, Qd, forall_const, ↓reduceIte, ↓reduceDIte, ↓Qe, Qf, Qg, Qh, Qi, Qj, Qk, Ql, Qm, Qn, Qo, Qp, Qq, Qr, Qs, implies_true, Qt, Qu, Qv, Qw, Qx, Qy, Qz, QA, QB, QC, QD, QE, QF, QG, QH, QI, QJ, QK, QL, QM, QN, QO, QP, QQ]
    try (simp <;> omega)
  · simp (config := { maxSteps := 1000000 }) (disch := ((try simp only [awL]); omega)) only [QR, QS, QT, QU, QV, QW, QX, QY, QZ, Q0, Q1, Q2, ↓awU, awV, awF, Qa, Qb, Qc, Qd, forall_const, ↓reduceIte, ↓reduceDIte, ↓Qe, Qf, Qg, Qh, Qi, Qj, Qk, Ql, Qm, Qn, Qo, Qp, Qq, Qr, Qs, implies_true, Qt, Qu, Qv, Qw, Qx, Qy, Qz, QA, QB, QC, QD, QE, QF, QG, QH, QI, QJ, QK, QL, QM, QN, QO, QP, QQ]
    try (simp <;> omega)
end Go.Proofs.YtacepalmphbnfaaDoor

namespace Go.Proofs.YtacepalmphbnfaaDoor
open Go Go.Proofs Go.Abs Go.RowKit Go.Shelf Go.Lib
variable {G : Globals}
/-! strings.Builder: contracts over the machine's blocks. -/
theorem append_str {P : Program} {w : World} (t u ty e : TypeId) (i : TypeInfo) (ht : P.underlying t = some (.slice e)) (hu : P.underlying u = some .string) (hi : P.info? e = some i) (hz : i.zero = some (.int .u8 0))
    (hsize : i.size = 1) (hby : i.bytes = 1) (v : Value) (n : Nat) (xs : List Value) (hown : w.ownsRow 0 e 1 v n xs) (s : ByteArray) (h63 : n + s.size ≤ maxLen) (hbytes : n + s.size ≤ 140737488355328) :
    ∃ v' w', (Builtin.append_ #[t, u] ty #[v, .string s]).run P w = .ok v' w' ∧ w'.ownsRow 0 e 1 v' (n + s.size) (xs ++ strCells s) ∧ w.grownBy w' v.ownBlock ∧ (v'.ownBlock = v.ownBlock ∨ ∀ g, v'.ownBlock = some g → w.heap.size ≤ g) := by
  obtain ⟨v', w', hr, h2, h3, h4⟩ := run_append_own_string (P := P) w 0 t u ty e i ht hu hi hz hsize hby v n xs hown s h63 hbytes (Nat.zero_le _)
  refine ⟨v', w', hr, h2, h3, ?_⟩
  have hxl : xs.length = n := by simpa using hown.1
  rcases hown.2 with ⟨rfl, rfl⟩ | ⟨g, cap, cur, rfl, hbg, hg, hnc, hcm, hcs, htake⟩
  · right
    intro g hgv
    obtain rfl : xs = [] := List.eq_nil_of_length_eq_zero hxl
    obtain ⟨v2, w2, hr2, k2, _⟩ := run_append_own_string (P := P) w w.heap.size t u ty e i ht hu hi hz hsize hby (.slice none 0 0) 0 [] (World.ownsRow_nil w _ e 1) s h63 hbytes (Nat.le_refl _)
    rw [hr] at hr2
    cases hr2
    exact (k2.lt g hgv).1
  · by_cases hroom : n + s.size ≤ cap
    · left
      have hcs' : cur.size = cap := by simpa using hcs
      have hr2 := run_append_room_string (P := P) w t u ty e i ht hu hi hsize g n cap cur hg s hroom (by unfold maxLen at h63; omega)
      rw [hr] at hr2
      cases hr2
      rfl
    · right
      intro g' hg'
      have holds : ∀ j u, xs[j]? = some u → w.cell? ((⟨g, 0, none⟩ : Addr).add j) = some u := hown.cells (g := g) rfl
      have hr2 := run_append_grow_string (P := P) w t u ty e i (.int .u8 0) ht hu hi hz ⟨g, 0, none⟩ n cap xs (by rw [hsize]; simpa using hxl) holds s (by omega) (by unfold maxLen at h63; omega) (by rw [hby]; exact growslice_fits (by omega) (by omega))
      rw [hr] at hr2
      cases hr2
      simp [Value.ownBlock] at hg'
      omega
theorem wpList_append_str {P : Program} {w : World} {ops : Array Oper} {rest : List Oper} {o : Oper} {a : Act} {Q : Exit → Act → World → Prop} (hgd : o.guard = none) (sl x : Operand) (t u : TypeId)
    (ho : o.op = .call { callee := .builtin .append, args := #[sl, x], argTypes := #[t, u] })
    (e : TypeId) (i : TypeInfo) (ht : P.underlying t = some (.slice e)) (hu : P.underlying u = some .string) (hi : P.info? e = some i) (hz : i.zero = some (.int .u8 0))
    (hsize : i.size = 1) (hby : i.bytes = 1) (v : Value) (n : Nat) (xs : List Value) (hs : a.eval sl = v) (hown : w.ownsRow 0 e 1 v n xs) (s : ByteArray) (hx : a.eval x = .string s)
    (h63 : n + s.size ≤ maxLen) (hbytes : n + s.size ≤ 140737488355328)
    (h : ∀ v' w', w'.ownsRow 0 e 1 v' (n + s.size) (xs ++ strCells s) → w.grownBy w' v.ownBlock → (v'.ownBlock = v.ownBlock ∨ ∀ g, v'.ownBlock = some g → w.heap.size ≤ g) → wpList P ops Q rest (a.put o.dst v') w') : wpList P ops Q (o :: rest) a w := by
  refine wpList_plain hgd fun K hK => ?_
  obtain ⟨v', w', hr, h2, h3, h4⟩ := append_str (P := P) (w := w) t u o.type e i ht hu hi hz hsize hby v n xs hown s h63 hbytes
  unfold Oper.wp execOp
  simp only [ho, resolve, invoke, builtin, Sem.run_bind, Sem.run_pure, Result.andThen_ok, List.map_toArray, List.map_cons, List.map_nil, hs, hx, hr]
  exact hK _ _ (h v' w' h2 h3 h4)
theorem setCell_at_block {w : World} {b o : Nat} {v : Value} {c : Array Value} {T : TypeId} {fz : Nat × Nat} (h : w.heap[b]? = some (.cells c T fz)) : (w.setCell ⟨b, o, none⟩ v).heap[b]? = some (.cells (c.setIfInBounds o v) T fz) := by
  show (w.heap.modify b _)[b]? = _
  rw [Array.getElem?_modify, if_pos rfl, h]
  rfl
theorem setCell_at_other {w : World} {b o k : Nat} {v : Value} (h : k ≠ b) : (w.setCell ⟨b, o, none⟩ v).heap[k]? = w.heap[k]? := by
  show (w.heap.modify b _)[k]? = _
  rw [Array.getElem?_modify, if_neg (Ne.symm h)]
theorem setCell_at_size {w : World} {a : Addr} {v : Value} : (w.setCell a v).heap.size = w.heap.size := by simp [World.setCell]
/-- What a call on a builder leaves. -/
structure BldW (T e : TypeId) (b : Nat) (v : Value) (l : List Value) (w w' : World) : Prop where
  os : w'.os = w.os
  tape : w'.tape = w.tape
  output : w'.output = w.output
  size : w.heap.size ≤ w'.heap.size
  keep : ∀ k, k < w.heap.size → k ≠ b → some k ≠ v.ownBlock → w'.heap[k]? = w.heap[k]?
  left : ∃ v', w'.heap[b]? = some (.cells #[.pointer (some ⟨b, 0, none⟩), v'] T (0, 0)) ∧ w'.ownsRow 0 e 1 v' l.length l ∧ (v'.ownBlock = v.ownBlock ∨ ∀ g, v'.ownBlock = some g → w.heap.size ≤ g)
theorem bld_check {P : Program} {ρ : Ren} (L : Lays.n240 P ρ) (X : Builder.X72 P ρ) (b : Nat) (used : Bool) (v : Value) (w : World) (hbk : w.heap[b]? = some (.cells #[.pointer (if used then some ⟨b, 0, none⟩ else none), v] (ρ.t 72) (0, 0))) :
    Calls P (ρ.f 240) #[.pointer (some ⟨b, 0, none⟩)] w fun e w' => e = .returned (.tuple #[]) ∧ w'.os = w.os ∧ w'.tape = w.tape ∧ w'.output = w.output ∧ w'.heap.size = w.heap.size ∧ (∀ k, k ≠ b → w'.heap[k]? = w.heap[k]?) ∧
      w'.heap[b]? = some (.cells #[.pointer (some ⟨b, 0, none⟩), v] (ρ.t 72) (0, 0)) := by
  have c0 : w.cell? ⟨b, 0, none⟩ = some (.pointer (if used then some ⟨b, 0, none⟩ else none)) := by rw [Lib.cell_of_heap hbk]; rfl
  cases used
  · refine (Any.Builder_copyCheck_fresh L X b w c0 (by simp [World.shape?, hbk]) (Lib.frozen_of_heap hbk 0)).mono ?_
    rintro e w' ⟨rfl, rfl⟩
    exact ⟨rfl, rfl, rfl, rfl, setCell_at_size, fun k hk => setCell_at_other hk, by rw [setCell_at_block hbk]; rfl⟩
  · refine (Any.Builder_copyCheck_used L X b w c0).mono ?_
    rintro e w' ⟨rfl, rfl⟩
    exact ⟨rfl, rfl, rfl, rfl, rfl, fun _ _ => rfl, hbk⟩
theorem bld_same {T e : TypeId} {b : Nat} {v : Value} {l : List Value} {w w1 : World} (hown : w.ownsRow 0 e 1 v l.length l) (hne : v.ownBlock ≠ some b) (ho : ∀ k, k ≠ b → w1.heap[k]? = w.heap[k]?) : w1.ownsRow 0 e 1 v l.length l := by
  refine ⟨hown.1, ?_⟩
  rcases hown.2 with h | ⟨g, cap, cur, rfl, h1, h2, h3⟩
  · exact .inl h
  · exact .inr ⟨g, cap, cur, rfl, h1, (ho g (fun e => hne (by rw [e]; rfl))).trans h2, h3⟩
set_option maxHeartbeats 1000000 in
set_option maxRecDepth 100000 in
theorem bld_writeString {P : Program} {ρ : Ren} (L : Lays.n166 P ρ) (X : Builder.Extra P ρ) (b : Nat) (used : Bool) (v : Value) (l : List Value) (s : ByteArray) (w : World)
    (hbk : w.heap[b]? = some (.cells #[.pointer (if used then some ⟨b, 0, none⟩ else none), v] (ρ.t 72) (0, 0))) (hown : w.ownsRow 0 (ρ.t 5) 1 v l.length l) (hne : v.ownBlock ≠ some b) (hlen : l.length + s.size ≤ 140737488355328) :
    Calls P (ρ.f 166) #[.pointer (some ⟨b, 0, none⟩), .string s] w fun e w' => e = .returned (.tuple #[.int .i64 s.size, .nilIface]) ∧ BldW (ρ.t 72) (ρ.t 5) b v (l ++ strCells s) w w' := by
  obtain ⟨i0, hi, hz0, hz1, hz2⟩ := info_parts X.infoByte
  have mixed := L.mixed
  have t72 := L.t72; have a72 := L.a72; have z72 := L.z72; have v72 := L.v72; have u72 := run_underlying L.t72
  have t70 := L.t70; have a70 := L.a70; have z70 := L.z70; have v70 := L.v70; have u70 := run_underlying L.t70
  have t37 := L.t37; have a37 := L.a37; have z37 := L.z37; have v37 := L.v37; have u37 := run_underlying L.t37
  have t3 := L.t3; have a3 := L.a3; have z3 := L.z3; have v3 := L.v3; have u3 := run_underlying L.t3
  have t9 := L.t9; have a9 := L.a9; have z9 := L.z9; have v9 := L.v9; have u9 := run_underlying L.t9
  have t4 := L.t4; have a4 := L.a4; have z4 := L.z4; have v4 := L.v4; have u4 := run_underlying L.t4
  have t164 := L.t164; have a164 := L.a164; have z164 := L.z164; have v164 := L.v164; have u164 := run_underlying L.t164
  have t5 := X.t5; have a5 := X.a5; have z5 := X.z5; have v5 := X.v5; have u5 := run_underlying X.t5
  have e240 : ∀ args w, (callFunc (ρ.f 240) args).run P w = .ok (.enter (ρ.f 240) args) w := enters_of L.f240 (by kernel_rfl) rfl
  have cc := bld_check { L with } X.toX72 b used v w hbk
  go_enter L.f166, Body.n166_ntmps ρ
  go_wp2_with (go_at_fn (ρ.f 240); refine cc.mono ?_)
  rintro e w1 ⟨rfl, q1, q2, q3, q4, q5, hb1⟩
  have hown1 : w1.ownsRow 0 (ρ.t 5) 1 v l.length l := bld_same (T := ρ.t 72) hown hne q5
  clear cc hown
  have c0 : w1.cell? ⟨b, 0, none⟩ = some (.pointer (some ⟨b, 0, none⟩)) := by rw [Lib.cell_of_heap hb1]; rfl
  have c1 : w1.cell? ⟨b, 1, none⟩ = some v := by rw [Lib.cell_of_heap hb1]; rfl
  go_wp2_with (at_builtin; refine wpList_append_str rfl _ _ (ρ.t 37) (ρ.t 9) rfl (ρ.t 5) i0 L.t37 L.t9 hi hz0 hz1 hz2 _ _ _ rfl hown1 s rfl ?c3 ?c4 ?_)
  case c3 => unfold maxLen; omega
  case c4 => omega
  intro v' w2 hown' hgrow hor
  have hlt : b < w1.heap.size := (Array.getElem?_eq_some_iff.1 hb1).1
  have hb2 : w2.heap[b]? = some (.cells #[.pointer (some ⟨b, 0, none⟩), v] (ρ.t 72) (0, 0)) := by
    rw [hgrow.block b hlt (fun e => hne e.symm)]
    exact hb1
  have d0 : w2.cell? ⟨b, 0, none⟩ = some (.pointer (some ⟨b, 0, none⟩)) := by rw [Lib.cell_of_heap hb2]; rfl
  have d1 : w2.cell? ⟨b, 1, none⟩ = some v := by rw [Lib.cell_of_heap hb2]; rfl
  have f1 : w2.frozen? ⟨b, 1, none⟩ = false := Lib.frozen_of_heap hb2 1
  obtain ⟨ao, n', cap, rfl⟩ : ∃ ao n' cap, v' = .slice ao n' cap := by
    rcases hown'.2 with ⟨hv, _⟩ | ⟨g, cap, cur, hv, _⟩
    · exact ⟨_, _, _, hv⟩
    · exact ⟨_, _, _, hv⟩
  go_wp2
  go_ret2
  refine ⟨rfl, hgrow.os.trans q1, hgrow.tape.trans q2, hgrow.output.trans q3, ?_, fun k hk h1 h2 => ?_, .slice ao n' cap, ?_, ?_, ?_⟩
  · rw [setCell_at_size]; have := hgrow.size; omega
  · rw [setCell_at_other h1, hgrow.block k (by omega) h2, q5 k h1]
  · rw [setCell_at_block hb2]; rfl
  · rw [show (l ++ strCells s).length = l.length + s.size by rw [List.length_append, Lib.strCells_length]]
    have hnb : Value.ownBlock (.slice ao n' cap) ≠ some b := by
      intro e
      rcases hor with h | h
      · rw [h] at e; exact hne e
      · have := h b e; omega
    refine ⟨hown'.1, ?_⟩
    rcases hown'.2 with h | ⟨g, cp, cur, e1, k1, k2, k3⟩
    · exact .inl h
    · refine .inr ⟨g, cp, cur, e1, k1, ?_, k3⟩
      rw [setCell_at_other (fun e => hnb (by rw [e1, ← e]; rfl))]
      exact k2
  · rcases hor with h | h
    · exact .inl h
    · exact .inr fun g hg => by have := h g hg; omega
theorem append_one {P : Program} {w : World} (t ty e : TypeId) (i : TypeInfo) (ht : P.underlying t = some (.slice e)) (hi : P.info? e = some i) (hz : i.zero = some (.int .u8 0))
    (hsize : i.size = 1) (hby : i.bytes = 1) (v : Value) (n : Nat) (xs : List Value) (hown : w.ownsRow 0 e 1 v n xs) (ad : Addr) (k : Nat) (u : Value) (hu : w.cell? ad = some u) (h1 : u.oneCell' = true) (hbytes : n + 1 ≤ 140737488355328) :
    ∃ v' w', (Builtin.append_ #[t, t] ty #[v, .slice (some ad) 1 k]).run P w = .ok v' w' ∧ w'.ownsRow 0 e 1 v' (n + 1) (xs ++ [u]) ∧ w.grownBy w' v.ownBlock ∧ (v'.ownBlock = v.ownBlock ∨ ∀ g, v'.ownBlock = some g → w.heap.size ≤ g) := by
  have hnews : ∀ j x, [u][j]? = some x → w.cell? (ad.add j) = some x := by
    intro j x hj
    match j, hj with
    | 0, hj => simp at hj; subst hj; simpa [Addr.add] using hu
  have hone : ∀ x ∈ [u], x.oneCell' = true := by intro x hx; simp at hx; subst hx; exact h1
  have h63 : n + 1 ≤ maxLen := by unfold maxLen; omega
  obtain ⟨v', w', hr, h2, h3, h4⟩ := run_append_own (P := P) w 0 t ty e i (.int .u8 0) 1 1 ht hi hz hsize hby rfl (by decide) v n xs hown ad 1 k [u] rfl hnews hone h63 (by omega) (Nat.zero_le _)
  refine ⟨v', w', hr, h2, h3, ?_⟩
  have hxl : xs.length = n := by simpa using hown.1
  rcases hown.2 with ⟨rfl, rfl⟩ | ⟨g, cap, cur, rfl, hbg, hg, hnc, hcm, hcs, htake⟩
  · right
    intro g hgv
    obtain rfl : xs = [] := List.eq_nil_of_length_eq_zero hxl
    obtain ⟨v2, w2, hr2, k2, _⟩ := run_append_own (P := P) w w.heap.size t ty e i (.int .u8 0) 1 1 ht hi hz hsize hby rfl (by decide) (.slice none 0 0) 0 [] (World.ownsRow_nil w _ e 1) ad 1 k [u] rfl hnews hone h63 (by omega) (Nat.le_refl _)
    rw [hr] at hr2
    cases hr2
    exact (k2.lt g hgv).1
  · by_cases hroom : n + 1 ≤ cap
    · left
      have hcs' : cur.size = cap := by simpa using hcs
      have hr2 := run_append_room (P := P) w t ty e i ht hi g n cap cur hg ad 1 k [u] (by rw [hsize]; rfl) hnews hone hroom (by rw [hsize]; simp; omega)
      rw [hr] at hr2
      cases hr2
      rfl
    · right
      intro g' hg'
      have holds : ∀ j u, xs[j]? = some u → w.cell? ((⟨g, 0, none⟩ : Addr).add j) = some u := hown.cells (g := g) rfl
      have hr2 := run_append_grow (P := P) w t ty e i (.int .u8 0) ht hi hz ⟨g, 0, none⟩ n cap xs (by rw [hsize]; simpa using hxl) holds ad 1 k [u] (by rw [hsize]; rfl) hnews (by omega) (by omega) (by rw [hby]; exact growslice_fits (by omega) (by omega))
      rw [hr] at hr2
      cases hr2
      simp [Value.ownBlock] at hg'
      omega
theorem wpList_append_one {P : Program} {w : World} {ops : Array Oper} {rest : List Oper} {o : Oper} {a : Act} {Q : Exit → Act → World → Prop} (hgd : o.guard = none) (sl x : Operand) (t : TypeId)
    (ho : o.op = .call { callee := .builtin .append, args := #[sl, x], argTypes := #[t, t] })
    (e : TypeId) (i : TypeInfo) (ht : P.underlying t = some (.slice e)) (hi : P.info? e = some i) (hz : i.zero = some (.int .u8 0))
    (hsize : i.size = 1) (hby : i.bytes = 1) (v : Value) (n : Nat) (xs : List Value) (hs : a.eval sl = v) (hown : w.ownsRow 0 e 1 v n xs) (ad : Addr) (k : Nat) (u : Value) (hx : a.eval x = .slice (some ad) 1 k) (hu : w.cell? ad = some u) (h1 : u.oneCell' = true)
    (hbytes : n + 1 ≤ 140737488355328)
    (h : ∀ v' w', w'.ownsRow 0 e 1 v' (n + 1) (xs ++ [u]) → w.grownBy w' v.ownBlock → (v'.ownBlock = v.ownBlock ∨ ∀ g, v'.ownBlock = some g → w.heap.size ≤ g) → wpList P ops Q rest (a.put o.dst v') w') : wpList P ops Q (o :: rest) a w := by
  refine wpList_plain hgd fun K hK => ?_
  obtain ⟨v', w', hr, h2, h3, h4⟩ := append_one (P := P) (w := w) t o.type e i ht hi hz hsize hby v n xs hown ad k u hu h1 hbytes
  unfold Oper.wp execOp
  simp only [ho, resolve, invoke, builtin, Sem.run_bind, Sem.run_pure, Result.andThen_ok, List.map_toArray, List.map_cons, List.map_nil, hs, hx, hr]
  exact hK _ _ (h v' w' h2 h3 h4)
theorem alloc_at_old (w : World) (o : Obj) (k : Nat) (h : k < w.heap.size) : (w.alloc o).heap[k]? = w.heap[k]? := by
  show (w.heap.push o)[k]? = _
  rw [Array.getElem?_push]
  split
  · omega
  · rfl
set_option maxHeartbeats 1000000 in
set_option maxRecDepth 100000 in
theorem bld_writeByte {P : Program} {ρ : Ren} (L : Lays.n167 P ρ) (X : Builder.Extra P ρ) (b : Nat) (used : Bool) (v : Value) (l : List Value) (c : Int) (w : World)
    (hbk : w.heap[b]? = some (.cells #[.pointer (if used then some ⟨b, 0, none⟩ else none), v] (ρ.t 72) (0, 0))) (hown : w.ownsRow 0 (ρ.t 5) 1 v l.length l) (hne : v.ownBlock ≠ some b) (hlen : l.length + 1 ≤ 140737488355328) :
    Calls P (ρ.f 167) #[.pointer (some ⟨b, 0, none⟩), .int .u8 c] w fun e w' => e = .returned .nilIface ∧ BldW (ρ.t 72) (ρ.t 5) b v (l ++ [.int .u8 c]) w w' := by
  obtain ⟨i0, hi, hz0, hz1, hz2⟩ := info_parts X.infoByte
  have mixed := L.mixed
  have t72 := L.t72; have a72 := L.a72; have z72 := L.z72; have v72 := L.v72; have u72 := run_underlying L.t72
  have t70 := L.t70; have a70 := L.a70; have z70 := L.z70; have v70 := L.v70; have u70 := run_underlying L.t70
  have t5 := L.t5; have a5 := L.a5; have z5 := L.z5; have v5 := L.v5; have u5 := run_underlying L.t5
  have t37 := L.t37; have a37 := L.a37; have z37 := L.z37; have v37 := L.v37; have u37 := run_underlying L.t37
  have t9 := L.t9; have a9 := L.a9; have z9 := L.z9; have v9 := L.v9; have u9 := run_underlying L.t9
  have t4 := L.t4; have a4 := L.a4; have z4 := L.z4; have v4 := L.v4; have u4 := run_underlying L.t4
  have t164 := L.t164; have a164 := L.a164; have z164 := L.z164; have v164 := L.v164; have u164 := run_underlying L.t164
  have e240 : ∀ args w, (callFunc (ρ.f 240) args).run P w = .ok (.enter (ρ.f 240) args) w := enters_of L.f240 (by kernel_rfl) rfl
  have cc := bld_check { L with } X.toX72 b used v w hbk
  go_enter L.f167, Body.n167_ntmps ρ
  go_wp2_with (go_at_fn (ρ.f 240); refine cc.mono ?_)
  rintro e w1 ⟨rfl, q1, q2, q3, q4, q5, hb1⟩
  have hown1 : w1.ownsRow 0 (ρ.t 5) 1 v l.length l := bld_same (T := ρ.t 72) hown hne q5
  clear cc hown
  have hlt : b < w1.heap.size := (Array.getElem?_eq_some_iff.1 hb1).1
  have c0 : w1.cell? ⟨b, 0, none⟩ = some (.pointer (some ⟨b, 0, none⟩)) := by rw [Lib.cell_of_heap hb1]; rfl
  have c1 : w1.cell? ⟨b, 1, none⟩ = some v := by rw [Lib.cell_of_heap hb1]; rfl
  go_wp2_with (at_builtin; refine wpList_append_one rfl _ _ (ρ.t 37) rfl (ρ.t 5) i0 L.t37 hi hz0 hz1 hz2 _ _ _ rfl (hown1.alloc _) ⟨w.heap.size, 0, none⟩ 1 (.int .u8 c) rfl ?c1 ?c2 ?c4 ?_)
  case c1 => rw [← q4]; simp
  case c2 => rfl
  case c4 => omega
  intro v' w2 hown' hgrow hor
  have hb2 : w2.heap[b]? = some (.cells #[.pointer (some ⟨b, 0, none⟩), v] (ρ.t 72) (0, 0)) := by
    rw [hgrow.block b (by simp; omega) (fun e => hne e.symm), alloc_at_old w1 _ b hlt]
    exact hb1
  have d0 : w2.cell? ⟨b, 0, none⟩ = some (.pointer (some ⟨b, 0, none⟩)) := by rw [Lib.cell_of_heap hb2]; rfl
  have d1 : w2.cell? ⟨b, 1, none⟩ = some v := by rw [Lib.cell_of_heap hb2]; rfl
  have f1 : w2.frozen? ⟨b, 1, none⟩ = false := Lib.frozen_of_heap hb2 1
  obtain ⟨ao, n', cap, rfl⟩ : ∃ ao n' cap, v' = .slice ao n' cap := by
    rcases hown'.2 with ⟨hv, _⟩ | ⟨g, cap, cur, hv, _⟩
    · exact ⟨_, _, _, hv⟩
    · exact ⟨_, _, _, hv⟩
  go_wp2
  go_ret
  refine ⟨rfl, hgrow.os.trans q1, hgrow.tape.trans q2, hgrow.output.trans q3, ?_, fun k hk h1 h2 => ?_, .slice ao n' cap, ?_, ?_, ?_⟩
  · rw [setCell_at_size]; have := hgrow.size; first | omega | (simp at this; omega)
  · rw [setCell_at_other h1, hgrow.block k (by simp; omega) h2, alloc_at_old w1 _ k (by omega), q5 k h1]
  · rw [setCell_at_block hb2]; rfl
  · rw [show (l ++ [Value.int .u8 c]).length = l.length + 1 by simp]
    have hnb : Value.ownBlock (.slice ao n' cap) ≠ some b := by
      intro e
      rcases hor with h | h
      · rw [h] at e; exact hne e
      · have := h b e; first | omega | (simp at this; omega)
    refine ⟨hown'.1, ?_⟩
    rcases hown'.2 with h | ⟨g, cp, cur, e1, k1, k2, k3⟩
    · exact .inl h
    · refine .inr ⟨g, cp, cur, e1, k1, ?_, k3⟩
      rw [setCell_at_other (fun e => hnb (by rw [e1, ← e]; rfl))]
      exact k2
  · rcases hor with h | h
    · exact .inl h
    · exact .inr fun g hg => by have := h g hg; first | omega | (simp at this; omega)
/-- What a reading of a builder leaves. -/
structure BldR (v : Value) (w w' : World) : Prop where
  os : w'.os = w.os
  tape : w'.tape = w.tape
  output : w'.output = w.output
  size : w.heap.size ≤ w'.heap.size
  keep : ∀ k, k < w.heap.size → some k ≠ v.ownBlock → w'.heap[k]? = w.heap[k]?
theorem BldR.of {v : Value} {w w' : World} (h : Below w.heap.size w w') : BldR v w w' := ⟨h.os, h.tape, h.output, h.size, fun k hk _ => h.block k hk⟩
theorem bld_len {P : Program} {ρ : Ren} (L : Lays.n170 P ρ) (b : Nat) (used : Bool) (v : Value) (l : List Value) (w : World)
    (hbk : w.heap[b]? = some (.cells #[.pointer (if used then some ⟨b, 0, none⟩ else none), v] (ρ.t 72) (0, 0))) (hown : w.ownsRow 0 (ρ.t 5) 1 v l.length l) (hne : v.ownBlock ≠ some b) :
    Calls P (ρ.f 170) #[.pointer (some ⟨b, 0, none⟩)] w fun e w' => e = .returned (.int .i64 l.length) ∧ w' = w := by
  refine Any.Builder_Len L 0 b l w ?_
  cases used
  · exact .inl ⟨Nat.zero_le _, v, hbk, hown, hne⟩
  · exact .inr ⟨Nat.zero_le _, v, hbk, hown, hne⟩
set_option maxHeartbeats 1000000 in
set_option maxRecDepth 100000 in
theorem bld_string {P : Program} {ρ : Ren} (L : Lays.n169 P ρ) (X : Builder.Extra P ρ) (b : Nat) (p v : Value) (l : List UInt8) (w : World)
    (hbk : w.heap[b]? = some (.cells #[p, v] (ρ.t 72) (0, 0))) (hown : w.ownsRow 0 (ρ.t 5) 1 v l.length (Lib.byteCells l)) :
    Calls P (ρ.f 169) #[.pointer (some ⟨b, 0, none⟩)] w fun e w' => e = .returned (.string ⟨l.toArray⟩) ∧ BldR v w w' := by
  by_cases h0 : l = []
  · subst h0
    rcases hown.2 with ⟨rfl, _⟩ | ⟨g, cap, cur, rfl, hbg, hg, hnc, hcm, hcs, htake⟩
    · refine (Any.Builder_String_nil L X w.heap.size b p w hbk).mono ?_
      rintro e w' ⟨rfl, hb⟩
      exact ⟨rfl, .of hb⟩
    · by_cases hc : cap = 0
      · subst hc
        refine (Any.Builder_String_noroom L X w.heap.size b g p cur w (Nat.le_refl _) hbk hg).mono ?_
        rintro e w' ⟨rfl, hb⟩
        exact ⟨rfl, .of hb⟩
      · refine (Any.Builder_String_room L X w.heap.size b g cap p w hc hbk).mono ?_
        rintro e w' ⟨rfl, hb⟩
        exact ⟨rfl, .of hb⟩
  · have hl0 : l.length ≠ 0 := by simpa using h0
    obtain ⟨g, cap, cur, rfl, hbg, hg, hnc, hcm, hcs, htake⟩ : ∃ g cap cur, v = .slice (some ⟨g, 0, none⟩) l.length cap ∧ 0 ≤ g ∧ w.heap[g]? = some (.cells cur (ρ.t 5) (0, 0)) ∧ l.length ≤ cap ∧ cap ≤ maxLen ∧ cur.size = cap * 1 ∧ cur.toList.take (l.length * 1) = Lib.byteCells l := by
      rcases hown.2 with ⟨_, hz⟩ | ⟨g, cap, cur, hv, r⟩
      · exact absurd hz hl0
      · exact ⟨g, cap, cur, hv, r⟩
    have c1 : w.drew.cell? ⟨b, 1, none⟩ = some (.slice (some ⟨g, 0, none⟩) l.length cap) := by
      have : w.drew.heap[b]? = some (.cells #[p, .slice (some ⟨g, 0, none⟩) l.length cap] (ρ.t 72) (0, 0)) := hbk
      rw [Lib.cell_of_heap this]; rfl
    have hSD : (Builtin.unsafeSliceData_ #[(ρ.t 37)] (ρ.t 127) #[.slice (some ⟨g, 0, none⟩) l.length cap]).run P w.drew = .ok (.pointer (some ⟨g, 0, none⟩)) w.drew :=
      Lib.run_unsafeSliceData_row _ _ _ _ _ _ (by omega)
    have hUS : (Builtin.unsafeString_ #[(ρ.t 127), (ρ.t 3)] (ρ.t 9) #[.pointer (some ⟨g, 0, none⟩), .int .i64 l.length]).run P w.drew = .ok (.string ⟨l.toArray⟩) (w.drew.freeze ⟨g, 0, none⟩ l.length) := by
      refine Lib.run_unsafeString_row w.drew (ρ.t 127) (ρ.t 3) (ρ.t 9) (ρ.t 5) L.t127 X.cellsByte g cur.size (by have hg' : w.drew.heap[g]? = some (.cells cur (ρ.t 5) (0, 0)) := hg; simp [World.shape?, hg']) l h0 (by omega) (by unfold maxLen at hcm; omega) ?_
      intro j x hx
      exact hown.cells (g := g) rfl j (.int .u8 x.toNat) (by simp [Lib.byteCells, hx])
    have mixed := L.mixed
    have t72 := L.t72; have a72 := L.a72; have z72 := L.z72; have v72 := L.v72; have u72 := run_underlying L.t72
    have t70 := L.t70; have a70 := L.a70; have z70 := L.z70; have v70 := L.v70; have u70 := run_underlying L.t70
    have t37 := L.t37; have a37 := L.a37; have z37 := L.z37; have v37 := L.v37; have u37 := run_underlying L.t37
    have t127 := L.t127; have a127 := L.a127; have z127 := L.z127; have v127 := L.v127; have u127 := run_underlying L.t127
    have t3 := L.t3; have a3 := L.a3; have z3 := L.z3; have v3 := L.v3; have u3 := run_underlying L.t3
    have t9 := L.t9; have a9 := L.a9; have z9 := L.z9; have v9 := L.v9; have u9 := run_underlying L.t9
    have t5 := X.t5; have a5 := X.a5; have z5 := X.z5; have v5 := X.v5; have u5 := run_underlying X.t5
    have fin : BldR (.slice (some ⟨g, 0, none⟩) l.length cap) w (w.drew.freeze ⟨g, 0, none⟩ l.length) := by
      unfold World.freeze
      rw [if_neg hl0]
      refine ⟨rfl, rfl, rfl, by simp, fun k hk hne => ?_⟩
      show (w.heap.modify g _)[k]? = _
      rw [Array.getElem?_modify, if_neg (fun e => hne (by rw [← e]; rfl))]
    go_enter L.f169, Body.n169_ntmps ρ
    go_wp2
    go_region_o
    all_goals (go_wp2; go_ret; exact ⟨rfl, fin⟩)
end Go.Proofs.YtacepalmphbnfaaDoor

namespace Go.Proofs.YtacepalmphbnfaaDoor
open Go Go.Proofs Go.Abs Go.RowKit Go.Shelf Go.Lib
variable {G : Globals}
/-! strings.Builder: the contracts. -/
theorem ptr_inv {h : Held} {ρ : Abs.Place} {u : Value} {g S : Nat} (r : R h ρ u (.ptr 0 0)) (hρ : ρ 0 = some (g, S)) : u = .pointer (some ⟨g, 0, none⟩) := by
  cases r with
  | ptr b off g' S' h1 => rw [hρ] at h1; cases h1; rfl
theorem bld_fin {h : Held} {ρ : Abs.Place} {H : List ABlk} {w w' : World} {T e : TypeId} {g S : Nat} {v : Value} {l : List UInt8} (s : Sim G h ρ (hp H) w) (hm : 0 < H.length) (hρ0 : ρ 0 = some (g, S)) (hh : ∀ j, h g j = none)
    (hv : ∀ g1, v.ownBlock = some g1 → (∃ i S1, ρ i = some (g1, S1)) ∧ g1 ≠ g ∧ ∀ j, h g1 j = none) (bw : BldW T e g v (byteCells l) w w') :
    ∃ ρ', Sim G h ρ' (hp (.bld T true l.length (some H.length) :: (List.replicate (H.length - 1) .dead ++ [.buf e l]))) w' ∧ Step h ρ w h ρ' w' := by
  obtain ⟨v', b1, b2, b3⟩ := bw.left
  have bl : (byteCells l).length = l.length := byteCells_length l
  rw [bl] at b2
  have hgl : g < w.heap.size := (s.dom 0 g S hρ0).1
  have hρm : ρ H.length = none := by
    cases hx : ρ H.length with
    | none => rfl
    | some x => obtain ⟨_, b, hb⟩ := s.dom _ x.1 x.2 hx; simp [hp] at hb
  have hkept : ∀ b o u, h b o = some u → w'.heap[b]? = w.heap[b]? := by
    intro b o u hbu
    refine bw.keep b (s.held_lt hbu) (fun e => by rw [e, hh] at hbu; cases hbu) (fun e => ?_)
    have := (hv b e.symm).2.2 o
    rw [hbu] at this; cases this
  have hprom : ∀ b o u, h b o = some u → w'.cell? ⟨b, o, none⟩ = some u := by
    intro b o u hbu
    have := s.prom b o u hbu
    rw [← this]
    simp [World.cell?, hkept b o u hbu]
  have key : ∃ ρ' : Abs.Place, ρ.le ρ' ∧ (∀ i g2 S2, ρ' i = some (g2, S2) → i = H.length ∨ ρ i = some (g2, S2)) ∧ (∀ i, i ≠ H.length → ρ' i = ρ i) ∧ BufR ρ' v' l.length (some H.length) ∧ BlkR h ρ' w' H.length (.buf e l) ∧
      (∀ g2 S2, ρ' H.length = some (g2, S2) → g2 ≠ g ∧ g2 < w'.heap.size ∧ ((∃ i S1, ρ i = some (g2, S1)) ∨ w.heap.size ≤ g2)) := by
    rcases b2.2 with ⟨rfl, h0⟩ | ⟨g2, cap, cur, rfl, _, k1, k2, k3, k4, k5⟩
    · refine ⟨ρ, Place.le_refl _, fun i g2 S2 e => .inr e, fun _ _ => rfl, .inl ⟨rfl, h0⟩, .inl ⟨hρm, List.eq_nil_of_length_eq_zero h0⟩, fun g2 S2 e => by rw [hρm] at e; cases e⟩
    · have hg2 : g2 ≠ g ∧ ((∃ i S1, ρ i = some (g2, S1)) ∨ w.heap.size ≤ g2) ∧ ∀ j, h g2 j = none := by
        rcases b3 with b3 | b3
        · obtain ⟨c1, c2, c3⟩ := hv g2 b3.symm
          exact ⟨c2, .inl c1, c3⟩
        · have := b3 g2 rfl
          refine ⟨by omega, .inr this, fun j => ?_⟩
          cases hj : h g2 j with
          | none => rfl
          | some u => have := s.held_lt hj; omega
      have hlt : g2 < w'.heap.size := (Array.getElem?_eq_some_iff.1 k1).1
      refine ⟨updP ρ H.length (g2, cap), fun i x e => ?_, fun i g3 S3 e => ?_, fun i hi => by simp [updP, hi], .inr ⟨g2, cap, rfl, updP_same _ _ _, k2⟩, .inr ⟨g2, cap, cur, updP_same _ _ _, k1, by simpa using k4, k3, by omega, fun j x hx => ?_, hg2.2.2⟩, fun g3 S3 e => ?_⟩
      · by_cases hi : i = H.length
        · subst hi; rw [hρm] at e; cases e
        · simp [updP, hi, e]
      · by_cases hi : i = H.length
        · exact .inl hi
        · simp [updP, hi] at e; exact .inr e
      · have hj : j < l.length := (List.getElem?_eq_some_iff.1 hx).1
        have h1 : (cur.toList.take (l.length * 1))[j]? = (byteCells l)[j]? := by rw [k5]
        rw [List.getElem?_take, if_pos (by omega)] at h1
        rw [← Array.getElem?_toList, h1]
        simp [byteCells, hx]
      · rw [updP_same] at e
        cases e
        exact ⟨hg2.1, hlt, hg2.2.1⟩
  obtain ⟨ρ', p1, p2, p3, p4, p5, p6⟩ := key
  have hρ0' : ρ' 0 = some (g, S) := p1 _ _ hρ0
  have hlen : (ABlk.bld T true l.length (some H.length) :: (List.replicate (H.length - 1) ABlk.dead ++ [.buf e l])).length = H.length + 1 := by simp; omega
  have hat : ∀ i b, (ABlk.bld T true l.length (some H.length) :: (List.replicate (H.length - 1) ABlk.dead ++ [.buf e l]))[i]? = some b → (i = 0 ∧ b = .bld T true l.length (some H.length)) ∨ (i = H.length ∧ b = .buf e l) ∨ (0 < i ∧ i < H.length ∧ b = .dead) := by
    intro i b hi
    rcases i with _ | i
    · simp at hi; exact .inl ⟨rfl, hi.symm⟩
    · rw [List.getElem?_cons_succ] at hi
      by_cases hc : i < H.length - 1
      · rw [List.getElem?_append_left (by simpa using hc), List.getElem?_replicate, if_pos hc] at hi
        cases hi
        exact .inr (.inr ⟨by omega, by omega, rfl⟩)
      · rw [List.getElem?_append_right (by simpa using hc)] at hi
        have : i - (List.replicate (H.length - 1) ABlk.dead).length = 0 := by
          have := (List.getElem?_eq_some_iff.1 hi).1
          simp at this ⊢; omega
        rw [this] at hi
        simp at hi this
        exact .inr (.inl ⟨by omega, hi.symm⟩)
  have hex : ∀ i, i < H.length + 1 → ∃ b, hp (ABlk.bld T true l.length (some H.length) :: (List.replicate (H.length - 1) ABlk.dead ++ [.buf e l])) i = some b := by
    intro i hi
    refine ⟨_, List.getElem?_eq_getElem (by rw [hlen]; exact hi)⟩
  refine ⟨ρ', ⟨hprom, s.glob, fun i b hb => ?_, fun i g2 S2 e2 => ?_, fun i j g2 S2 S2' e1 e2 l1 l2 => ?_⟩, ⟨bw.os, bw.tape, bw.output, bw.size, fun k hk hn => ?_, Held.le_refl _, fun _ _ _ _ => rfl, p1, fun i g2 S2 e2 => ?_⟩⟩
  · rcases hat i b hb with ⟨rfl, rfl⟩ | ⟨rfl, rfl⟩ | ⟨_, _, rfl⟩
    · exact ⟨g, S, v', hρ0', b1, p4, hh⟩
    · exact p5
    · trivial
  · rcases p2 i g2 S2 e2 with rfl | e3
    · exact ⟨(p6 _ _ e2).2.1, hex _ (by omega)⟩
    · obtain ⟨c1, b, c2⟩ := s.dom i g2 S2 e3
      have : i < H.length := (List.getElem?_eq_some_iff.1 c2).1
      exact ⟨by have := bw.size; omega, hex _ (by omega)⟩
  · have lv : ∀ i, live (hp (ABlk.bld T true l.length (some H.length) :: (List.replicate (H.length - 1) ABlk.dead ++ [.buf e l]))) i → i = 0 ∨ i = H.length := by
      intro i ⟨b, hb, hne⟩
      rcases hat i b hb with ⟨h1, _⟩ | ⟨h1, _⟩ | ⟨_, _, h1⟩
      · exact .inl h1
      · exact .inr h1
      · exact absurd h1 hne
    rcases lv i l1 with rfl | rfl <;> rcases lv j l2 with rfl | rfl
    · rfl
    · rw [hρ0'] at e1; cases e1; exact absurd rfl (p6 _ _ e2).1
    · rw [hρ0'] at e2; cases e2; exact absurd rfl (p6 _ _ e1).1
    · rfl
  · refine bw.keep k hk (fun e => hn 0 S (e ▸ hρ0)) (fun e => ?_)
    obtain ⟨⟨i, S1, c⟩, _⟩ := hv k e.symm
    exact hn i S1 c
  · rcases p2 i g2 S2 e2 with rfl | e3
    · exact (p6 _ _ e2).2.2
    · exact .inl ⟨i, S2, e3⟩
end Go.Proofs.YtacepalmphbnfaaDoor

namespace Go.Proofs.YtacepalmphbnfaaDoor
open Go Go.Proofs Go.Abs Go.RowKit Go.Shelf Go.Lib
variable {G : Globals}
/-! strings.Builder: WriteString, WriteByte, Len, String. -/
theorem Tryd.laysWriteString : Lays.n166 Tryd.prog Tryd.laysReplaceAll_ren := { Tryd.laysReplaceAll with }
theorem Tryd.laysString : Lays.n169 Tryd.prog Tryd.laysReplaceAll_ren := { Tryd.laysReplaceAll with }
def Tryd.laysLen_ren : Go.Shelf.Ren := ⟨fun | 170 => 20 | n => n, fun | 70 => 49 | 3 => 3 | 0 => 0 | 72 => 51 | 37 => 22 | 5 => 5 | n => n, fun | n => n⟩
theorem Tryd.laysLen : Go.Proofs.Lays.n170 Tryd.prog Tryd.laysLen_ren where
  mixed := by kernel_rfl
  f170 := Tryd.func20.trans (congrArg some (by kernel_rfl))
  t0 := Tryd.underlying0
  a0 := Tryd.isAgg0
  z0 := Tryd.sizeOf0
  v0 := Tryd.zeroValue0
  t3 := Tryd.underlying3
  a3 := Tryd.isAgg3
  z3 := Tryd.sizeOf3
  v3 := Tryd.zeroValue3
  t37 := Tryd.underlying22
  a37 := Tryd.isAgg22
  z37 := Tryd.sizeOf22
  v37 := Tryd.zeroValue22
  t70 := Tryd.underlying49
  a70 := Tryd.isAgg49
  z70 := Tryd.sizeOf49
  v70 := Tryd.zeroValue49
  t72 := Tryd.underlying51
  a72 := Tryd.isAgg51
  z72 := Tryd.sizeOf51
  v72 := Tryd.zeroValue51

abbrev BL (used : Bool) (l : List UInt8) : List ABlk := [.bld 51 used l.length (some 1), .buf 5 l]
/-- What memory holds of a builder. -/
theorem bl_own {h : Held} {ρ : Abs.Place} {w : World} {used : Bool} {l : List UInt8} {T e : TypeId} (s : Sim G h ρ (hp [.bld T used l.length (some 1), .buf e l]) w) :
    ∃ g S v, ρ 0 = some (g, S) ∧ (∀ j, h g j = none) ∧ w.heap[g]? = some (.cells #[.pointer (if used then some ⟨g, 0, none⟩ else none), v] T (0, 0)) ∧ w.ownsRow 0 e 1 v l.length (byteCells l) ∧
      ∀ g1, v.ownBlock = some g1 → (∃ i S1, ρ i = some (g1, S1)) ∧ g1 ≠ g ∧ ∀ j, h g1 j = none := by
  obtain ⟨g, S, v, h1, h2, h3, h4⟩ := s.blk 0 _ rfl
  refine ⟨g, S, v, h1, h4, h2, ?_⟩
  have bl : (byteCells l).length = l.length * 1 := by rw [byteCells_length, Nat.mul_one]
  rcases h3 with ⟨rfl, h0⟩ | ⟨g1, cap, rfl, h5, h6⟩
  · exact ⟨⟨bl, .inl ⟨rfl, h0⟩⟩, fun g1 e => by cases e⟩
  · rcases s.blk 1 _ rfl with ⟨k1, _⟩ | ⟨g2, S2, c, k1, k2, k3, k4, k5, k6, k7⟩
    · rw [h5] at k1; cases k1
    · rw [h5] at k1; cases k1
      refine ⟨⟨bl, .inr ⟨g1, cap, c, rfl, Nat.zero_le _, k2, h6, k4, by omega, ?_⟩⟩, fun g3 e => ?_⟩
      · apply List.ext_getElem?
        intro j
        rw [List.getElem?_take]
        split
        · rename_i hj
          have hj' : j < l.length := by omega
          rw [Array.getElem?_toList, k6 j l[j] (List.getElem?_eq_getElem hj')]
          simp [byteCells, hj']
        · rename_i hj
          rw [List.getElem?_eq_none (by rw [byteCells_length]; omega)]
      · have : g1 = g3 := Option.some.inj e
        subst this
        refine ⟨⟨1, _, h5⟩, fun e => ?_, k7⟩
        subst e
        have := s.inj 0 1 g1 _ _ h1 h5 ⟨_, rfl, by simp⟩ ⟨_, rfl, by simp⟩
        cases this
theorem writeString_next (used : Bool) (l x : List UInt8) (hl : l.length ≤ 10000000000000) (hx : x.length ≤ 10000000000000) :
    Ctr Tryd.prog G 16 [.ptr 0 0, .d (S x)] (BL used l) (.tup [.d (.int .i64 x.length), .undef]) [.bld 51 true (l ++ x).length (some 2), .dead, .buf 5 (l ++ x)] := by
  refine ⟨go16, fun h ρ w vs s r => ?_⟩
  obtain ⟨v, u, rfl, hv, hu⟩ := r.inv2
  obtain ⟨g, S, vb, h1, h4, h2, h3, h5⟩ := bl_own s
  rw [ptr_inv hv h1, hu.str_inv]
  have hne : vb.ownBlock ≠ some g := fun e => (h5 g e).2.1 rfl
  refine (bld_writeString Tryd.laysWriteString extraB g used vb (byteCells l) (bs x) w h2 (by rw [byteCells_length]; exact h3) hne (by rw [bs_size, byteCells_length]; omega)).mono ?_
  rintro e w' ⟨rfl, bw⟩
  obtain ⟨ρ', s1, s2⟩ := bld_fin (l := l ++ x) s (by simp) h1 h4 h5 (by rw [byteCells_append]; exact bw)
  refine ⟨_, h, ρ', rfl, s1, ?_, s2⟩
  refine .tup _ _ rfl fun i v y hv hy => ?_
  rcases i with _ | _ | i <;> simp at hv hy
  · subst hv; subst hy; rw [bs_size]; exact .d _ _ (.int _ _)
  · subst hv; subst hy; exact .undef _
theorem len_spec (used : Bool) (l : List UInt8) : Ctr Tryd.prog G 20 [.ptr 0 0] (BL used l) (.d (.int .i64 l.length)) (BL used l) := by
  refine ⟨go20, fun h ρ w vs s r => ?_⟩
  obtain ⟨v, rfl, hv⟩ := r.inv1
  obtain ⟨g, S, vb, h1, h4, h2, h3, h5⟩ := bl_own s
  rw [ptr_inv hv h1]
  have hne : vb.ownBlock ≠ some g := fun e => (h5 g e).2.1 rfl
  refine (bld_len Tryd.laysLen g used vb (byteCells l) w h2 (by rw [byteCells_length]; exact h3) hne).mono ?_
  rintro e w' ⟨rfl, rfl⟩
  rw [byteCells_length]
  exact ⟨_, h, ρ, rfl, s, .d _ _ (.int _ _), Step.refl _ _ _⟩
end Go.Proofs.YtacepalmphbnfaaDoor

namespace Go.Proofs.YtacepalmphbnfaaDoor
open Go Go.Proofs Go.Abs Go.RowKit Go.Shelf Go.Lib
variable {G : Globals}
/-! strings.Builder: WriteByte, String. -/
def Tryd.laysWriteByte_ren : Go.Shelf.Ren := ⟨fun | 167 => 19 | n => Tryd.laysReplaceAll_ren.f n, Tryd.laysReplaceAll_ren.t, Tryd.laysReplaceAll_ren.g⟩
theorem Tryd.laysWriteByte : Lays.n167 Tryd.prog Tryd.laysWriteByte_ren :=
  { Tryd.laysReplaceAll with f167 := Tryd.func19.trans (congrArg some (by kernel_rfl)) }
theorem extraY : Builder.Extra Tryd.prog Tryd.laysWriteByte_ren where
  sizeBuilder := by kernel_rfl
  liesBuilder := by kernel_rfl
  t5 := Tryd.underlying5
  a5 := Tryd.isAgg5
  z5 := Tryd.sizeOf5
  v5 := Tryd.zeroValue5
  infoByte := by kernel_rfl
  cellsByte := by kernel_rfl
  sizeByte := by kernel_rfl
  neB5 := by decide
theorem writeByte_next (used : Bool) (l : List UInt8) (c : UInt8) (hl : l.length ≤ 10000000000000) :
    Ctr Tryd.prog G 19 [.ptr 0 0, .d (.int .u8 c.toNat)] (BL used l) .undef [.bld 51 true (l ++ [c]).length (some 2), .dead, .buf 5 (l ++ [c])] := by
  refine ⟨go19, fun h ρ w vs s r => ?_⟩
  obtain ⟨v, u, rfl, hv, hu⟩ := r.inv2
  obtain ⟨g, S, vb, h1, h4, h2, h3, h5⟩ := bl_own s
  rw [ptr_inv hv h1, hu.int_inv]
  have hne : vb.ownBlock ≠ some g := fun e => (h5 g e).2.1 rfl
  refine (bld_writeByte Tryd.laysWriteByte extraY g used vb (byteCells l) c.toNat w h2 (by rw [byteCells_length]; exact h3) hne (by rw [byteCells_length]; omega)).mono ?_
  rintro e w' ⟨rfl, bw⟩
  obtain ⟨ρ', s1, s2⟩ := bld_fin (l := l ++ [c]) s (by simp) h1 h4 h5 (by rw [byteCells_append]; exact bw)
  exact ⟨_, h, ρ', rfl, s1, .undef _, s2⟩
/-- String freezes the bytes: the buffer is given up. -/
theorem string_spec (used : Bool) (l : List UInt8) : Ctr Tryd.prog G 21 [.ptr 0 0] (BL used l) (.d (S l)) [.dead, .dead] := by
  refine ⟨go21, fun h ρ w vs s r => ?_⟩
  obtain ⟨v, rfl, hv⟩ := r.inv1
  obtain ⟨g, S, vb, h1, h4, h2, h3, h5⟩ := bl_own s
  rw [ptr_inv hv h1]
  refine (bld_string Tryd.laysString extraB g _ vb l w h2 h3).mono ?_
  rintro e w' ⟨rfl, hb⟩
  have hpr : ∀ b o u, h b o = some u → w'.cell? ⟨b, o, none⟩ = some u := fun b o u e => by
    rw [← s.prom b o u e]
    have : w'.heap[b]? = w.heap[b]? := hb.keep b (s.held_lt e) (fun e2 => by have := (h5 b e2.symm).2.2 o; rw [e] at this; cases this)
    simp [World.cell?, this]
  have st : Step h ρ w h ρ w' := ⟨hb.os, hb.tape, hb.output, hb.size, fun k hk1 hn => hb.keep k hk1 (fun e2 => by obtain ⟨⟨i, S1, c⟩, _⟩ := h5 k e2.symm; exact hn i S1 c), Held.le_refl _, fun _ _ _ _ => rfl, Place.le_refl _, fun i g S e => .inl ⟨i, S, e⟩⟩
  have hd : ∀ i b, hp [ABlk.dead, ABlk.dead] i = some b → b = .dead := by
    intro i b e
    rcases i with _ | _ | i <;> simp [hp] at e
    · exact e.symm
    · exact e.symm
  refine ⟨_, h, ρ, rfl, ⟨hpr, s.glob, fun i b e => by rw [hd i b e]; trivial, fun i g S e => ?_, fun i j g S S' e1 e2 l1 l2 => ?_⟩, .d _ _ (.str _), st⟩
  · obtain ⟨c1, b, c2⟩ := s.dom i g S e
    have hi : i < 2 := (List.getElem?_eq_some_iff.1 c2).1
    refine ⟨by have := hb.size; omega, .dead, ?_⟩
    rcases (by omega : i = 0 ∨ i = 1) with rfl | rfl <;> rfl
  · obtain ⟨b, c1, c2⟩ := l1
    exact absurd (hd i b c1) c2
end Go.Proofs.YtacepalmphbnfaaDoor

namespace Go.Proofs.YtacepalmphbnfaaDoor
open Go Go.Proofs Go.Abs
variable {G : Globals}
/-! The dice; the words. -/
def strs (l : List (List UInt8)) : List D := l.map fun s => S s
theorem strs_length {l : List (List UInt8)} : (strs l).length = l.length := by simp [strs]
theorem strs_unf {l : List (List UInt8)} : (strs l).map unf0 = strs l := by simp [strs, unf0]
theorem strs_getD {l : List (List UInt8)} {i : Nat} (h : i < l.length) : (strs l).getD i .nilp = S (l.getD i []) := by
  simp [strs, List.getD_eq_getElem?_getD, h]
abbrev Ss (l : List (List UInt8)) (full : Bool) : D := .sl l.length full (strs l)
def wordsL : List (List UInt8) := [[97, 110, 110], [98, 111, 98], [99, 121], [66, 101, 114, 110], [85, 108, 109], [78, 101, 119, 32, 89, 111, 114, 107], [121, 111, 114, 107, 32, 110, 101, 119], [97, 45, 49], [98, 45, 50, 50], [120], [122, 195, 188, 114, 105, 99, 104], [65, 110, 110], [98, 111], [99, 97, 116], [98, 97, 116], [114, 97, 116]]
abbrev DiceM (t : List Int) (k : Nat) : ABlk := .box [.d (.sl t.length false (ints .u8 t)), .d (.int .i64 (min k t.length : Nat))]
def OkM (t : List Int) : Prop := t.length ≤ 300 ∧ ∀ i, 0 ≤ t.getD i 0 ∧ t.getD i 0 ≤ 255
theorem new_spec (t : List Int) (ht : t.length ≤ 9223372036854775807) : Ctr Tryd.prog G 5 [.d (.sl t.length false (ints .u8 t))] [] (.ptr 0 0) [DiceM (t.take 300) 0] := by
  refine Ctr.body (M := M0) hmix Tryd.func5 rfl go5 ?_
  rcases Nat.lt_or_ge 300 t.length with h | h
  · have e : (t.take 300).length = 300 := by rw [List.length_take]; omega
    simp (config := { maxSteps := 1000000 }) (disch := ((try simp only [awL]); omega)) only [Tryd.f5, e, ↓awU, awV, awF, Qa, Qb, Qc, Qd, forall_const, ↓reduceIte, ↓reduceDIte, ↓Qe, Qf, Qg, Qh, Qi, Qj, Qk, Ql, Qm, Qn, Qo, Qp, Qq, Qr, Qs, implies_true, Qt, Qu, Qv, Qw, Qx, Qy, Qz, QA, QB, QC, QD, QE, QF, QG, QH, QI, QJ, QK, QL, QM, QN, QO, QP, QQ]
    exact ⟨[some 0], rfl, by simp, by simp [HWeak, BWeak, SWeak, AWeak]; omega, .inl (by simp [AWeak])⟩
  · have e : t.take 300 = t := List.take_of_length_le h
    simp (config := { maxSteps := 1000000 }) (disch := ((try simp only [awL]); omega)) only [Tryd.f5, e, ↓awU, awV, awF, Qa, Qb, Qc, Qd, forall_const, ↓reduceIte, ↓reduceDIte, ↓Qe, Qf, Qg, Qh, Qi, Qj, Qk, Ql, Qm, Qn, Qo, Qp, Qq, Qr, Qs, implies_true, Qt, Qu, Qv, Qw, Qx, Qy, Qz, QA, QB, QC, QD, QE, QF, QG, QH, QI, QJ, QK, QL, QM, QN, QO, QP, QQ]
    exact ⟨[some 0], rfl, by simp, by simp [HWeak, BWeak, SWeak, AWeak], .inl (by simp [AWeak, SWeak])⟩
def pk (t : List Int) (k : Nat) (n : Int) : Int := t.getD k 0 % n
theorem pk_range {t : List Int} {k : Nat} {n : Int} (h : 0 < n) : 0 ≤ pk t k n ∧ pk t k n < n := ⟨Int.emod_nonneg _ (by omega), Int.emod_lt_of_pos _ h⟩
theorem pk_nat (t : List Int) (k : Nat) (n : Int) (h : 0 < n) : ∃ c : Nat, pk t k n = c ∧ (c : Int) < n := ⟨(pk t k n).toNat, by have := @pk_range t k n h; omega, by have := @pk_range t k n h; omega⟩
set_option maxHeartbeats 4000000 in
set_option maxRecDepth 100000 in
theorem pick_spec (t : List Int) (k : Nat) (n : Int) (ht : OkM t) (h0 : 0 < n) (h1 : n ≤ 1000) :
    Ctr Tryd.prog G 13 [.ptr 0 0, .d (.int .i64 n)] [DiceM t k] (.d (.int .i64 (pk t k n))) [DiceM t (k + 1)] := by
  obtain ⟨ht, htt⟩ := ht
  refine Ctr.body (M := M0) hmix Tryd.func13 rfl go13 ?_
  rcases Nat.lt_or_ge k t.length with h | h
  · have e1 : min k t.length = k := by omega
    have e2 : min (k + 1) t.length = k + 1 := by omega
    obtain ⟨b1, b2⟩ := htt k
    have e3 : (t.getD k 0).tmod n = pk t k n := Int.tmod_eq_emod_of_nonneg b1
    simp only [e1, e2, DiceM]
    simp (config := { maxSteps := 1000000 }) (disch := ((try simp only [awL]); omega)) only [Tryd.f13, e3, ↓awU, awV, awF, Qa, Qb, Qc, Qd, forall_const, ↓reduceIte, ↓reduceDIte, ↓Qe, Qf, Qg, Qh, Qi, Qj, Qk, Ql, Qm, Qn, Qo, Qp, Qq, Qr, Qs, implies_true, Qt, Qu, Qv, Qw, Qx, Qy, Qz, QA, QB, QC, QD, QE, QF, QG, QH, QI, QJ, QK, QL, QM, QN, QO, QP, QQ]
    refine ⟨by rfl, by rfl, ?_⟩
    exact ⟨[some 0], rfl, by simp, by simp [HWeak, BWeak, SWeak, AWeak], .inl (by simp [AWeak, SWeak])⟩
  · have e1 : min k t.length = t.length := by omega
    have e2 : min (k + 1) t.length = t.length := by omega
    have e3 : pk t k n = 0 := by rw [pk, List.getD_eq_getElem?_getD, List.getElem?_eq_none h]; simp
    simp only [e1, e2, e3, DiceM]
    simp (config := { maxSteps := 1000000 }) (disch := ((try simp only [awL]); omega)) only [Tryd.f13, ↓awU, awV, awF, Qa, Qb, Qc, Qd, forall_const, ↓reduceIte, ↓reduceDIte, ↓Qe, Qf, Qg, Qh, Qi, Qj, Qk, Ql, Qm, Qn, Qo, Qp, Qq, Qr, Qs, implies_true, Qt, Qu, Qv, Qw, Qx, Qy, Qz, QA, QB, QC, QD, QE, QF, QG, QH, QI, QJ, QK, QL, QM, QN, QO, QP, QQ]
    refine ⟨by rfl, ?_⟩
    exact ⟨[some 0], rfl, by simp, by simp [HWeak, BWeak, SWeak, AWeak], .inl (by simp [AWeak, SWeak])⟩
set_option maxRecDepth 100000 in
theorem words_spec : Ctr Tryd.prog G 40 [] [] (.d (Ss wordsL false)) [] := by
  refine Ctr.pure (M := M0) hmix Tryd.func40 rfl go40 ?_
  simp (config := { maxSteps := 1000000 }) (disch := ((try simp only [awL]); omega)) only [QR, QS, QT, QU, QV, QW, QX, QY, QZ, Q0, Q1, Q2, Tryd.f40, ↓awU, awV, awF, Qa, Qb, Qc, Qd, forall_const, ↓reduceIte, ↓reduceDIte, ↓Qe, Qf, Qg, Qh, Qi, Qj, Qk, Ql, Qm, Qn, Qo, Qp, Qq, Qr, Qs, implies_true, Qt, Qu, Qv, Qw, Qx, Qy, Qz, QA, QB, QC, QD, QE, QF, QG, QH, QI, QJ, QK, QL, QM, QN, QO, QP, QQ]
  try rfl
end Go.Proofs.YtacepalmphbnfaaDoor

namespace Go.Proofs.YtacepalmphbnfaaDoor
open Go Go.Proofs Go.Abs
variable {G : Globals}
/-! Grids; whether one of a list's elements is so. -/
abbrev Row := List (List UInt8)
def rowsD (g : List Row) : List D := g.map fun r => Ss r false
abbrev Gr (g : List Row) (full : Bool) : D := .sl g.length full (rowsD g)
theorem rowsD_length {g : List Row} : (rowsD g).length = g.length := by simp [rowsD]
theorem rowsD_getD {g : List Row} {i : Nat} (h : i < g.length) : (rowsD g).getD i .nilp = Ss (g.getD i []) false := by
  simp [rowsD, List.getD_eq_getElem?_getD, h]
theorem strs_push {a : Row} {x : List UInt8} : strs a ++ [S x] = strs (a ++ [x]) := by simp [strs]
theorem rowsD_push {a : List Row} {x : Row} : rowsD a ++ [Ss x false] = rowsD (a ++ [x]) := by simp [rowsD]
theorem rowsD_unf {l : List Row} : (rowsD l).map unf0 = rowsD l := by
  simp only [rowsD, List.map_map]
  rfl
/-- The place of the first element of which p holds. -/
def ixF {α : Type} (p : α → Bool) : List α → Int → Int
  | [], _ => -1
  | x :: r, k => if p x then k else ixF p r (k + 1)
theorem ixF_any {α : Type} {p : α → Bool} : ∀ (l : List α) (k : Int), 0 ≤ k → (0 ≤ ixF p l k ↔ l.any p = true)
  | [], k, h => by simp [ixF]
  | x :: r, k, h => by
    rw [ixF, List.any_cons]
    cases hx : p x
    · simpa using ixF_any r (k + 1) (by omega)
    · simpa using h
theorem ixF_at {α : Type} {p : α → Bool} {l : List α} {i : Nat} {d : α} (h : i < l.length) : ixF p (l.drop i) i = if p (l.getD i d) then (i : Int) else ixF p (l.drop (i + 1)) (i + 1 : Nat) := by
  rw [List.drop_eq_getElem_cons h, ixF, List.getD_eq_getElem?_getD, List.getElem?_eq_getElem h]; rfl
theorem memD {α : Type} {l : List α} {i : Nat} {d : α} (h : i < l.length) : l.getD i d ∈ l := by
  rw [List.getD_eq_getElem?_getD, List.getElem?_eq_getElem h]; exact List.getElem_mem h
set_option maxHeartbeats 4000000 in
theorem indexFunc_spec (f : FuncId) (p : List UInt8 → Bool) (l : Row) (full : Bool) (hl : l.length ≤ 1000000000) (hp : ∀ s ∈ l, Ctr Tryd.prog G f [.d (S s)] [] (.d (.bool (p s))) []) :
    Ctr Tryd.prog G 51 [.d (Ss l full), .d (.fn (.func f) [] [])] [] (.d (.int .i64 (ixF p l 0))) [] := by
  refine Ctr.pure (M := M0) hmix Tryd.func51 rfl go51 ?_
  have sl := @strs_length l
  simp (config := { maxSteps := 1000000 }) (disch := ((try simp only [awL]); omega)) only [sl, Tryd.f51, ↓awU, awV, awF, Qa, Qb, Qc, Qd, forall_const, ↓reduceIte, ↓reduceDIte, ↓Qe, Qf, Qg, Qh, Qi, Qj, Qk, Ql, Qm, Qn, Qo, Qp, Qq, Qr, Qs, implies_true, Qt, Qu, Qv, Qw, Qx, Qy, Qz, QA, QB, QC, QD, QE, QF, QG, QH, QI, QJ, QK, QL, QM, QN, QO, QP, QQ]
  refine LoopC.fr 131 (α := Nat) (fun i => l.length - i) (fun i => [(8, .d (.int .i64 i))]) (fun _ => []) (fun i => i ≤ l.length ∧ ixF p l 0 = ixF p (l.drop i) i) 0 ⟨Nat.zero_le _, rfl⟩ ?_ ?_
  · exact ⟨[], rfl, by simp, by simp [setsA, keepA, SWeak, AWeak], by simp [HWeak, BWeak, SWeak, AWeak]⟩
  · rintro i ⟨h1, h2⟩
    simp only [awK, Nat.reduceMod, Nat.reduceDiv, reduceIte]
    rw [h2]
    rcases Nat.lt_or_ge i l.length with h | h
    · have g := strs_getD h
      rw [ixF_at (d := []) h]
      simp (config := { maxSteps := 1000000 }) (disch := ((try simp only [awL]); omega)) only [sl, g, ↓awU, awV, awF, Qa, Qb, Qc, Qd, forall_const, ↓reduceIte, ↓reduceDIte, ↓Qe, Qf, Qg, Qh, Qi, Qj, Qk, Ql, Qm, Qn, Qo, Qp, Qq, Qr, Qs, implies_true, Qt, Qu, Qv, Qw, Qx, Qy, Qz, QA, QB, QC, QD, QE, QF, QG, QH, QI, QJ, QK, QL, QM, QN, QO, QP, QQ]
      refine CallC.pure (hp _ (memD h)) ?_
      cases hx : p (l.getD i [])
      · simp (config := { maxSteps := 1000000 }) (disch := ((try simp only [awL]); omega)) only [↓awU, awV, awF, Qa, Qb, Qc, Qd, forall_const, ↓reduceIte, ↓reduceDIte, ↓Qe, Qf, Qg, Qh, Qi, Qj, Qk, Ql, Qm, Qn, Qo, Qp, Qq, Qr, Qs, implies_true, Qt, Qu, Qv, Qw, Qx, Qy, Qz, QA, QB, QC, QD, QE, QF, QG, QH, QI, QJ, QK, QL, QM, QN, QO, QP, QQ]
        exact ⟨i + 1, ⟨h, rfl⟩, by simp only; omega, ⟨[], rfl, by simp, by simp [setsA, keepA, SWeak, AWeak], by simp [HWeak, BWeak, SWeak, AWeak]⟩⟩
      · simp (config := { maxSteps := 1000000 }) (disch := ((try simp only [awL]); omega)) only [↓awU, awV, awF, Qa, Qb, Qc, Qd, forall_const, ↓reduceIte, ↓reduceDIte, ↓Qe, Qf, Qg, Qh, Qi, Qj, Qk, Ql, Qm, Qn, Qo, Qp, Qq, Qr, Qs, implies_true, Qt, Qu, Qv, Qw, Qx, Qy, Qz, QA, QB, QC, QD, QE, QF, QG, QH, QI, QJ, QK, QL, QM, QN, QO, QP, QQ]
    · rw [List.drop_eq_nil_of_le h]
      simp (config := { maxSteps := 1000000 }) (disch := ((try simp only [awL]); omega)) only [↓awU, awV, awF, Qa, Qb, Qc, Qd, forall_const, ↓reduceIte, ↓reduceDIte, ↓Qe, Qf, Qg, Qh, Qi, Qj, Qk, Ql, Qm, Qn, Qo, Qp, Qq, Qr, Qs, implies_true, Qt, Qu, Qv, Qw, Qx, Qy, Qz, QA, QB, QC, QD, QE, QF, QG, QH, QI, QJ, QK, QL, QM, QN, QO, QP, QQ]
      rfl
theorem containsFunc_spec (f : FuncId) (p : List UInt8 → Bool) (l : Row) (full : Bool) (hl : l.length ≤ 1000000000) (hp : ∀ s ∈ l, Ctr Tryd.prog G f [.d (S s)] [] (.d (.bool (p s))) []) :
    Ctr Tryd.prog G 29 [.d (Ss l full), .d (.fn (.func f) [] [])] [] (.d (.bool (l.any p))) [] := by
  refine Ctr.pure (M := M0) hmix Tryd.func29 rfl go29 ?_
  simp (config := { maxSteps := 1000000 }) (disch := ((try simp only [awL]); omega)) only [Tryd.f29, ↓awU, awV, awF, Qa, Qb, Qc, Qd, forall_const, ↓reduceIte, ↓reduceDIte, ↓Qe, Qf, Qg, Qh, Qi, Qj, Qk, Ql, Qm, Qn, Qo, Qp, Qq, Qr, Qs, implies_true, Qt, Qu, Qv, Qw, Qx, Qy, Qz, QA, QB, QC, QD, QE, QF, QG, QH, QI, QJ, QK, QL, QM, QN, QO, QP, QQ]
  refine CallC.of (indexFunc_spec f p l false hl hp) (by rfl) ?_
  have hi := ixF_any (p := p) l 0 (Int.le_refl _)
  generalize ixF p l 0 = z at *
  rcases (by omega : 0 ≤ z ∨ z < 0) with h | h
  · rw [hi.1 h]
    simp (config := { maxSteps := 1000000 }) (disch := ((try simp only [awL]); omega)) only [↓awU, awV, awF, Qa, Qb, Qc, Qd, forall_const, ↓reduceIte, ↓reduceDIte, ↓Qe, Qf, Qg, Qh, Qi, Qj, Qk, Ql, Qm, Qn, Qo, Qp, Qq, Qr, Qs, implies_true, Qt, Qu, Qv, Qw, Qx, Qy, Qz, QA, QB, QC, QD, QE, QF, QG, QH, QI, QJ, QK, QL, QM, QN, QO, QP, QQ]
  · have : l.any p = false := by cases hx : l.any p with
      | false => rfl
      | true => have := hi.2 hx; omega
    rw [this]
    simp (config := { maxSteps := 1000000 }) (disch := ((try simp only [awL]); omega)) only [↓awU, awV, awF, Qa, Qb, Qc, Qd, forall_const, ↓reduceIte, ↓reduceDIte, ↓Qe, Qf, Qg, Qh, Qi, Qj, Qk, Ql, Qm, Qn, Qo, Qp, Qq, Qr, Qs, implies_true, Qt, Qu, Qv, Qw, Qx, Qy, Qz, QA, QB, QC, QD, QE, QF, QG, QH, QI, QJ, QK, QL, QM, QN, QO, QP, QQ]
/-- Rows are more, or longer, than they may be. -/
def bigF (s : List UInt8) : Bool := decide (1024 < s.length)
/-- Texts of a size that memory has. -/
def okRow (r : Row) : Prop := r.length ≤ 1000000000 ∧ ∀ s ∈ r, s.length ≤ 1000000000
def okGrid (g : List Row) : Prop := g.length ≤ 1000000000 ∧ ∀ r ∈ g, okRow r
/-- What may not be written. -/
def badF (s : List UInt8) : Bool := !Lib.validD s
def badR (r : Row) : Bool := decide (r.length = 0) || r.any badF
end Go.Proofs.YtacepalmphbnfaaDoor

namespace Go.Proofs.YtacepalmphbnfaaDoor
open Go Go.Proofs Go.Abs
variable {G : Globals}
/-! The reference: equal grids, limits, which texts fit. -/
end Go.Proofs.YtacepalmphbnfaaDoor

namespace Go.Proofs.YtacepalmphbnfaaDoor
open Go Go.Proofs Go.Abs
variable {G : Globals}
/-! Small numbers as texts; the dice's numbers. -/
def digitsL : List UInt8 := [48, 49, 50, 51, 52, 53, 54, 55, 56, 57, 97, 98, 99, 100, 101, 102, 103, 104, 105, 106, 107, 108, 109, 110, 111, 112, 113, 114, 115, 116, 117, 118, 119, 120, 121, 122]
def smallsL : List UInt8 := (List.range 100).flatMap fun n => [UInt8.ofNat (48 + n / 10), UInt8.ofNat (48 + n % 10)]
theorem smalls_eq : (([48, 48, 48, 49, 48, 50, 48, 51, 48, 52, 48, 53, 48, 54, 48, 55, 48, 56, 48, 57, 49, 48, 49, 49, 49, 50, 49, 51, 49, 52, 49, 53, 49, 54, 49, 55, 49, 56, 49, 57, 50, 48, 50, 49, 50, 50, 50, 51, 50, 52] : List UInt8).append [50, 53, 50, 54, 50, 55, 50, 56, 50, 57, 51, 48, 51, 49, 51, 50, 51, 51, 51, 52, 51, 53, 51, 54, 51, 55, 51, 56, 51, 57, 52, 48, 52, 49, 52, 50, 52, 51, 52, 52, 52, 53, 52, 54, 52, 55, 52, 56, 52, 57]).append (List.append [53, 48, 53, 49, 53, 50, 53, 51, 53, 52, 53, 53, 53, 54, 53, 55, 53, 56, 53, 57, 54, 48, 54, 49, 54, 50, 54, 51, 54, 52, 54, 53, 54, 54, 54, 55, 54, 56, 54, 57, 55, 48, 55, 49, 55, 50, 55, 51, 55, 52] [55, 53, 55, 54, 55, 55, 55, 56, 55, 57, 56, 48, 56, 49, 56, 50, 56, 51, 56, 52, 56, 53, 56, 54, 56, 55, 56, 56, 56, 57, 57, 48, 57, 49, 57, 50, 57, 51, 57, 52, 57, 53, 57, 54, 57, 55, 57, 56, 57, 57]) = smallsL := by decide +kernel
theorem smallsL_len : smallsL.length = 200 := by decide +kernel
def itoaL (n : Nat) : List UInt8 := if n < 10 then [UInt8.ofNat (48 + n)] else [UInt8.ofNat (48 + n / 10), UInt8.ofNat (48 + n % 10)]
theorem itoa_one {n : Nat} (h : n < 10) : (digitsL.take (n + 1)).drop n = itoaL n := by
  have : ∀ n : Fin 10, (digitsL.take (n.val + 1)).drop n.val = itoaL n.val := by decide
  exact this ⟨n, h⟩
theorem itoa_two {n : Nat} (h1 : 10 ≤ n) (h : n < 100) : (smallsL.take (n * 2 + 2)).drop (n * 2) = itoaL n := by
  have : ∀ n : Fin 100, 10 ≤ n.val → (smallsL.take (n.val * 2 + 2)).drop (n.val * 2) = itoaL n.val := by decide +kernel
  exact this ⟨n, h⟩ h1
theorem itoaL_len (n : Nat) : 1 ≤ (itoaL n).length ∧ (itoaL n).length ≤ 2 := by unfold itoaL; split <;> simp
set_option maxRecDepth 100000 in
theorem small_spec (n : Nat) (h : n < 100) : Ctr Tryd.prog G 79 [.d (.int .i64 n)] [] (.d (S (itoaL n))) [] := by
  refine Ctr.pure (M := M0) hmix Tryd.func79 rfl go79 ?_
  rcases Nat.lt_or_ge n 10 with h1 | h1
  · rw [← itoa_one h1]
    simp (config := { maxSteps := 1000000 }) (disch := ((try simp only [awL]); omega)) only [QR, QS, QT, QU, QV, QW, QX, QY, QZ, Q0, Q1, Q2, Tryd.f79, ↓awU, awV, awF, Qa, Qb, Qc, Qd, forall_const, ↓reduceIte, ↓reduceDIte, ↓Qe, Qf, Qg, Qh, Qi, Qj, Qk, Ql, Qm, Qn, Qo, Qp, Qq, Qr, Qs, implies_true, Qt, Qu, Qv, Qw, Qx, Qy, Qz, QA, QB, QC, QD, QE, QF, QG, QH, QI, QJ, QK, QL, QM, QN, QO, QP, QQ]
    first | done | rfl
  · rw [← itoa_two h1 h]
    have e1 : ((n : Int) * 2).toNat = n * 2 := by omega
    have e2 : ((n : Int) * 2 + 2).toNat = n * 2 + 2 := by omega
    simp (config := { maxSteps := 1000000 }) (disch := ((try simp only [awL]); omega)) only [QR, QS, QT, QU, QV, QW, QX, QY, QZ, Q0, Q1, Q2, smalls_eq, smallsL_len, e1, e2, Tryd.f79, ↓awU, awV, awF, Qa, Qb, Qc, Qd, forall_const, ↓reduceIte, ↓reduceDIte, ↓Qe, Qf, Qg, Qh, Qi, Qj, Qk, Ql, Qm, Qn, Qo, Qp, Qq, Qr, Qs, implies_true, Qt, Qu, Qv, Qw, Qx, Qy, Qz, QA, QB, QC, QD, QE, QF, QG, QH, QI, QJ, QK, QL, QM, QN, QO, QP, QQ]
    first | done | rfl
set_option maxRecDepth 100000 in
theorem formatInt_spec (n : Nat) (h : n < 100) : Ctr Tryd.prog G 65 [.d (.int .i64 n), .d (.int .i64 10)] [] (.d (S (itoaL n))) [] := by
  refine Ctr.pure (M := M0) hmix Tryd.func65 rfl go65 ?_
  simp (config := { maxSteps := 1000000 }) (disch := ((try simp only [awL]); omega)) only [QR, QS, QT, QU, QV, QW, QX, QY, QZ, Q0, Q1, Q2, Tryd.f65, ↓awU, awV, awF, Qa, Qb, Qc, Qd, forall_const, ↓reduceIte, ↓reduceDIte, ↓Qe, Qf, Qg, Qh, Qi, Qj, Qk, Ql, Qm, Qn, Qo, Qp, Qq, Qr, Qs, implies_true, Qt, Qu, Qv, Qw, Qx, Qy, Qz, QA, QB, QC, QD, QE, QF, QG, QH, QI, QJ, QK, QL, QM, QN, QO, QP, QQ]
  refine CallC.pure (small_spec n h) ?_
  simp (config := { maxSteps := 1000000 }) (disch := ((try simp only [awL]); omega)) only [QR, QS, QT, QU, QV, QW, QX, QY, QZ, Q0, Q1, Q2, ↓awU, awV, awF, Qa, Qb, Qc, Qd, forall_const, ↓reduceIte, ↓reduceDIte, ↓Qe, Qf, Qg, Qh, Qi, Qj, Qk, Ql, Qm, Qn, Qo, Qp, Qq, Qr, Qs, implies_true, Qt, Qu, Qv, Qw, Qx, Qy, Qz, QA, QB, QC, QD, QE, QF, QG, QH, QI, QJ, QK, QL, QM, QN, QO, QP, QQ]
  first | done | rfl
set_option maxRecDepth 100000 in
theorem itoaI_spec (n : Nat) (h : n < 100) : Ctr Tryd.prog G 52 [.d (.int .i64 n)] [] (.d (S (itoaL n))) [] := by
  refine Ctr.pure (M := M0) hmix Tryd.func52 rfl go52 ?_
  simp (config := { maxSteps := 1000000 }) (disch := ((try simp only [awL]); omega)) only [QR, QS, QT, QU, QV, QW, QX, QY, QZ, Q0, Q1, Q2, Tryd.f52, ↓awU, awV, awF, Qa, Qb, Qc, Qd, forall_const, ↓reduceIte, ↓reduceDIte, ↓Qe, Qf, Qg, Qh, Qi, Qj, Qk, Ql, Qm, Qn, Qo, Qp, Qq, Qr, Qs, implies_true, Qt, Qu, Qv, Qw, Qx, Qy, Qz, QA, QB, QC, QD, QE, QF, QG, QH, QI, QJ, QK, QL, QM, QN, QO, QP, QQ]
  refine CallC.pure (formatInt_spec n h) ?_
  simp (config := { maxSteps := 1000000 }) (disch := ((try simp only [awL]); omega)) only [QR, QS, QT, QU, QV, QW, QX, QY, QZ, Q0, Q1, Q2, ↓awU, awV, awF, Qa, Qb, Qc, Qd, forall_const, ↓reduceIte, ↓reduceDIte, ↓Qe, Qf, Qg, Qh, Qi, Qj, Qk, Ql, Qm, Qn, Qo, Qp, Qq, Qr, Qs, implies_true, Qt, Qu, Qv, Qw, Qx, Qy, Qz, QA, QB, QC, QD, QE, QF, QG, QH, QI, QJ, QK, QL, QM, QN, QO, QP, QQ]
  first | done | rfl
set_option maxRecDepth 100000 in
theorem itoa_spec (n : Nat) (h : n < 100) : Ctr Tryd.prog G 31 [.d (.int .i64 n)] [] (.d (S (itoaL n))) [] := by
  refine Ctr.pure (M := M0) hmix Tryd.func31 rfl go31 ?_
  simp (config := { maxSteps := 1000000 }) (disch := ((try simp only [awL]); omega)) only [QR, QS, QT, QU, QV, QW, QX, QY, QZ, Q0, Q1, Q2, Tryd.f31, ↓awU, awV, awF, Qa, Qb, Qc, Qd, forall_const, ↓reduceIte, ↓reduceDIte, ↓Qe, Qf, Qg, Qh, Qi, Qj, Qk, Ql, Qm, Qn, Qo, Qp, Qq, Qr, Qs, implies_true, Qt, Qu, Qv, Qw, Qx, Qy, Qz, QA, QB, QC, QD, QE, QF, QG, QH, QI, QJ, QK, QL, QM, QN, QO, QP, QQ]
  refine CallC.pure (itoaI_spec n h) ?_
  simp (config := { maxSteps := 1000000 }) (disch := ((try simp only [awL]); omega)) only [QR, QS, QT, QU, QV, QW, QX, QY, QZ, Q0, Q1, Q2, ↓awU, awV, awF, Qa, Qb, Qc, Qd, forall_const, ↓reduceIte, ↓reduceDIte, ↓Qe, Qf, Qg, Qh, Qi, Qj, Qk, Ql, Qm, Qn, Qo, Qp, Qq, Qr, Qs, implies_true, Qt, Qu, Qv, Qw, Qx, Qy, Qz, QA, QB, QC, QD, QE, QF, QG, QH, QI, QJ, QK, QL, QM, QN, QO, QP, QQ]
  first | done | rfl
def signL : List (List UInt8) := [[], [], [], [45], [43]]
def fracsL : List (List UInt8) := [[53], [53, 48], [48], [49, 50, 53], [48, 48, 55], [48, 48, 48, 48, 48, 48, 48, 48, 49]]
def notDig (c : UInt8) : Bool := decide (c.toNat < 48) || decide (57 < c.toNat)
/-- The text of a number that the dice make: its sign and whole part; with a zero ahead; with a fraction. -/
def num1 (t : List Int) (k : Nat) : List UInt8 := signL.getD (pk t k 5).toNat [] ++ itoaL (pk t (k + 1) 40).toNat
def num2 (t : List Int) (k : Nat) : List UInt8 := if pk t (k + 2) 3 = 0 then (if notDig ((num1 t k).getD 0 0) = true then num1 t k else 48 :: num1 t k) else num1 t k
def numM (t : List Int) (k : Nat) : List UInt8 := if pk t (k + 3) 3 = 0 then num2 t k ++ (46 :: fracsL.getD (pk t (k + 4) 6).toNat []) else num2 t k
def numK (t : List Int) (k : Nat) : Nat := if pk t (k + 3) 3 = 0 then k + 5 else k + 4
theorem get_len {l : List (List UInt8)} {m : Nat} (h : ∀ s ∈ l, s.length ≤ m) (i : Nat) : (l.getD i []).length ≤ m := by
  rcases Nat.lt_or_ge i l.length with h1 | h1
  · rw [List.getD_eq_getElem?_getD, List.getElem?_eq_getElem h1]; exact h _ (List.getElem_mem _)
  · rw [List.getD_eq_getElem?_getD, List.getElem?_eq_none h1]; simp
theorem num1_len (t : List Int) (k : Nat) : 1 ≤ (num1 t k).length ∧ (num1 t k).length ≤ 3 := by
  have h1 := itoaL_len (pk t (k + 1) 40).toNat
  have h2 := get_len (l := signL) (m := 1) (by decide) (pk t k 5).toNat
  unfold num1
  rw [List.length_append]
  omega
theorem num2_len (t : List Int) (k : Nat) : 1 ≤ (num2 t k).length ∧ (num2 t k).length ≤ 4 := by
  have h1 := num1_len t k
  unfold num2
  split
  · split
    · omega
    · rw [List.length_cons]; omega
  · omega
theorem numM_len (t : List Int) (k : Nat) : 1 ≤ (numM t k).length ∧ (numM t k).length ≤ 20 := by
  have h1 := num2_len t k
  have h2 := get_len (l := fracsL) (m := 9) (by decide) (pk t (k + 4) 6).toNat
  unfold numM
  split
  · rw [List.length_append, List.length_cons]; omega
  · omega
theorem row_sign : [D.str (bs []), D.str (bs []), D.str (bs []), D.str (bs [45]), D.str (bs [43])] = strs signL := rfl
theorem row_fracs : [D.str (bs [53]), D.str (bs [53, 48]), D.str (bs [48]), D.str (bs [49, 50, 53]), D.str (bs [48, 48, 55]), D.str (bs [48, 48, 48, 48, 48, 48, 48, 48, 49])] = strs fracsL := rfl
set_option maxHeartbeats 4000000 in
set_option maxRecDepth 100000 in
theorem number_spec (t : List Int) (k : Nat) (ht : OkM t) : Ctr Tryd.prog G 41 [.ptr 0 0] [DiceM t k] (.d (S (numM t k))) [DiceM t (numK t k)] := by
  refine Ctr.body (M := M0) hmix Tryd.func41 rfl go41 ?_
  have ls := @strs_length signL
  have lf := @strs_length fracsL
  have ls' : signL.length = 5 := rfl
  have lf' : fracsL.length = 6 := rfl
  obtain ⟨a, ha, ha2⟩ := pk_nat t k 5 (by decide)
  obtain ⟨b, hb, hb2⟩ := pk_nat t (k + 1) 40 (by decide)
  have e1 : num1 t k = signL.getD a [] ++ itoaL b := by rw [num1, ha, hb]; rfl
  have lg := get_len (l := signL) (m := 1) (by decide) a
  have li := itoaL_len b
  have l1 := num1_len t k
  have l2 := num2_len t k
  have gs := strs_getD (l := signL) (i := a) (by omega)
  simp (config := { maxSteps := 1000000 }) (disch := ((try simp only [awL]); omega)) only [QR, QS, QT, QU, QV, QW, QX, QY, QZ, Q0, Q1, Q2, Tryd.f41, row_sign, strs_unf, ls, ls', ↓awU, awV, awF, Qa, Qb, Qc, Qd, forall_const, ↓reduceIte, ↓reduceDIte, ↓Qe, Qf, Qg, Qh, Qi, Qj, Qk, Ql, Qm, Qn, Qo, Qp, Qq, Qr, Qs, implies_true, Qt, Qu, Qv, Qw, Qx, Qy, Qz, QA, QB, QC, QD, QE, QF, QG, QH, QI, QJ, QK, QL, QM, QN, QO, QP, QQ]
  refine CallC.by (pick_spec t k 5 ht (by decide) (by decide)) (by rfl) (by rfl) (Nat.le_refl _) ?_
  rw [ha]
  simp (config := { maxSteps := 1000000 }) (disch := ((try simp only [awL]); omega)) only [QR, QS, QT, QU, QV, QW, QX, QY, QZ, Q0, Q1, Q2, row_sign, row_fracs, strs_unf, gs, ls, ls', lf, lf', ↓awU, awV, awF, Qa, Qb, Qc, Qd, forall_const, ↓reduceIte, ↓reduceDIte, ↓Qe, Qf, Qg, Qh, Qi, Qj, Qk, Ql, Qm, Qn, Qo, Qp, Qq, Qr, Qs, implies_true, Qt, Qu, Qv, Qw, Qx, Qy, Qz, QA, QB, QC, QD, QE, QF, QG, QH, QI, QJ, QK, QL, QM, QN, QO, QP, QQ]
  refine CallC.by (pick_spec t (k + 1) 40 ht (by decide) (by decide)) (by rfl) (by rfl) (Nat.le_refl _) ?_
  rw [hb]
  simp (config := { maxSteps := 1000000 }) (disch := ((try simp only [awL]); omega)) only [QR, QS, QT, QU, QV, QW, QX, QY, QZ, Q0, Q1, Q2, row_sign, row_fracs, strs_unf, gs, ls, ls', lf, lf', ↓awU, awV, awF, Qa, Qb, Qc, Qd, forall_const, ↓reduceIte, ↓reduceDIte, ↓Qe, Qf, Qg, Qh, Qi, Qj, Qk, Ql, Qm, Qn, Qo, Qp, Qq, Qr, Qs, implies_true, Qt, Qu, Qv, Qw, Qx, Qy, Qz, QA, QB, QC, QD, QE, QF, QG, QH, QI, QJ, QK, QL, QM, QN, QO, QP, QQ]
  refine CallC.of (itoa_spec b (by omega)) (by rfl) ?_
  simp (config := { maxSteps := 1000000 }) (disch := ((try simp only [awL]); omega)) only [QR, QS, QT, QU, QV, QW, QX, QY, QZ, Q0, Q1, Q2, e1.symm, row_sign, row_fracs, strs_unf, gs, ls, ls', lf, lf', ↓awU, awV, awF, Qa, Qb, Qc, Qd, forall_const, ↓reduceIte, ↓reduceDIte, ↓Qe, Qf, Qg, Qh, Qi, Qj, Qk, Ql, Qm, Qn, Qo, Qp, Qq, Qr, Qs, implies_true, Qt, Qu, Qv, Qw, Qx, Qy, Qz, QA, QB, QC, QD, QE, QF, QG, QH, QI, QJ, QK, QL, QM, QN, QO, QP, QQ]
  refine ⟨by rfl, ?_⟩
  refine CallC.by (pick_spec t (k + 1 + 1) 3 ht (by decide) (by decide)) (by rfl) (by rfl) (Nat.le_refl _) ?_
  have e2 : num2 t k = (if pk t (k + 1 + 1) 3 = 0 then (if notDig ((num1 t k).getD 0 0) = true then num1 t k else 48 :: num1 t k) else num1 t k) := rfl
  have tail : ∀ r : List UInt8, r = num2 t k → numM t k = (if pk t (k + 1 + 1 + 1) 3 = 0 then r ++ (46 :: fracsL.getD (pk t (k + 1 + 1 + 1 + 1) 6).toNat []) else r) := by rintro r rfl; rfl
  have ek : numK t k = (if pk t (k + 1 + 1 + 1) 3 = 0 then k + 1 + 1 + 1 + 1 + 1 else k + 1 + 1 + 1 + 1) := rfl
  generalize num1 t k = r1 at *
  by_cases h3 : pk t (k + 1 + 1) 3 = 0
  · rw [h3]
    rw [if_pos h3] at e2
    by_cases c1 : (r1.getD 0 0).toNat < 48
    · have c3 : notDig (r1.getD 0 0) = true := by unfold notDig; rw [decide_eq_true c1]; rfl
      have hr : r1 = num2 t k := by rw [e2, if_pos c3]
      have tl := tail (r1) hr
      have lr : (r1).length ≤ 4 := by rw [hr]; exact l2.2
      simp (config := { maxSteps := 1000000 }) (disch := ((try simp only [awL]); omega)) only [QR, QS, QT, QU, QV, QW, QX, QY, QZ, Q0, Q1, Q2, row_sign, row_fracs, strs_unf, gs, ls, ls', lf, lf', ↓awU, awV, awF, Qa, Qb, Qc, Qd, forall_const, ↓reduceIte, ↓reduceDIte, ↓Qe, Qf, Qg, Qh, Qi, Qj, Qk, Ql, Qm, Qn, Qo, Qp, Qq, Qr, Qs, implies_true, Qt, Qu, Qv, Qw, Qx, Qy, Qz, QA, QB, QC, QD, QE, QF, QG, QH, QI, QJ, QK, QL, QM, QN, QO, QP, QQ]
      refine CallC.by (pick_spec t (k + 1 + 1 + 1) 3 ht (by decide) (by decide)) (by rfl) (by rfl) (Nat.le_refl _) ?_
      by_cases h4 : pk t (k + 1 + 1 + 1) 3 = 0
      · rw [if_pos h4] at tl ek
        rw [h4, tl, ek]
        obtain ⟨d, hd, hd2⟩ := pk_nat t (k + 1 + 1 + 1 + 1) 6 (by decide)
        have gs2 := strs_getD (l := fracsL) (i := d) (by omega)
        have lg2 := get_len (l := fracsL) (m := 9) (by decide) d
        rw [hd, Int.toNat_natCast]
        simp (config := { maxSteps := 1000000 }) (disch := ((try simp only [awL]); omega)) only [QR, QS, QT, QU, QV, QW, QX, QY, QZ, Q0, Q1, Q2, row_sign, row_fracs, strs_unf, gs, ls, ls', lf, lf', ↓awU, awV, awF, Qa, Qb, Qc, Qd, forall_const, ↓reduceIte, ↓reduceDIte, ↓Qe, Qf, Qg, Qh, Qi, Qj, Qk, Ql, Qm, Qn, Qo, Qp, Qq, Qr, Qs, implies_true, Qt, Qu, Qv, Qw, Qx, Qy, Qz, QA, QB, QC, QD, QE, QF, QG, QH, QI, QJ, QK, QL, QM, QN, QO, QP, QQ]
        refine CallC.by (pick_spec t (k + 1 + 1 + 1 + 1) 6 ht (by decide) (by decide)) (by rfl) (by rfl) (Nat.le_refl _) ?_
        rw [hd]
        simp (config := { maxSteps := 1000000 }) (disch := ((try simp only [awL]); omega)) only [QR, QS, QT, QU, QV, QW, QX, QY, QZ, Q0, Q1, Q2, gs2, row_sign, row_fracs, strs_unf, gs, ls, ls', lf, lf', ↓awU, awV, awF, Qa, Qb, Qc, Qd, forall_const, ↓reduceIte, ↓reduceDIte, ↓Qe, Qf, Qg, Qh, Qi, Qj, Qk, Ql, Qm, Qn, Qo, Qp, Qq, Qr, Qs, implies_true, Qt, Qu, Qv, Qw, Qx, Qy, Qz, QA, QB, QC, QD, QE, QF, QG, QH, QI, QJ, QK, QL, QM, QN, QO, QP, QQ]
        first
        | exact ⟨[some 0], rfl, by simp, by simp [HWeak, BWeak, SWeak, AWeak], .inl (by simp [AWeak, SWeak])⟩
        | refine ⟨by rfl, ?_⟩
          exact ⟨[some 0], rfl, by simp, by simp [HWeak, BWeak, SWeak, AWeak], .inl (by simp [AWeak, SWeak])⟩
      · rw [if_neg h4] at tl ek
        rw [tl, ek]
        generalize pk t (k + 1 + 1 + 1) 3 = z at *
        simp (config := { maxSteps := 1000000 }) (disch := ((try simp only [awL]); omega)) only [QR, QS, QT, QU, QV, QW, QX, QY, QZ, Q0, Q1, Q2, row_sign, row_fracs, strs_unf, gs, ls, ls', lf, lf', ↓awU, awV, awF, Qa, Qb, Qc, Qd, forall_const, ↓reduceIte, ↓reduceDIte, ↓Qe, Qf, Qg, Qh, Qi, Qj, Qk, Ql, Qm, Qn, Qo, Qp, Qq, Qr, Qs, implies_true, Qt, Qu, Qv, Qw, Qx, Qy, Qz, QA, QB, QC, QD, QE, QF, QG, QH, QI, QJ, QK, QL, QM, QN, QO, QP, QQ]
        exact ⟨[some 0], rfl, by simp, by simp [HWeak, BWeak, SWeak, AWeak], .inl (by simp [AWeak, SWeak])⟩
    · by_cases c2 : 57 < (r1.getD 0 0).toNat
      · have c3 : notDig (r1.getD 0 0) = true := by unfold notDig; rw [decide_eq_true c2, Bool.or_true]
        have hr : r1 = num2 t k := by rw [e2, if_pos c3]
        have tl := tail (r1) hr
        have lr : (r1).length ≤ 4 := by rw [hr]; exact l2.2
        simp (config := { maxSteps := 1000000 }) (disch := ((try simp only [awL]); omega)) only [QR, QS, QT, QU, QV, QW, QX, QY, QZ, Q0, Q1, Q2, row_sign, row_fracs, strs_unf, gs, ls, ls', lf, lf', ↓awU, awV, awF, Qa, Qb, Qc, Qd, forall_const, ↓reduceIte, ↓reduceDIte, ↓Qe, Qf, Qg, Qh, Qi, Qj, Qk, Ql, Qm, Qn, Qo, Qp, Qq, Qr, Qs, implies_true, Qt, Qu, Qv, Qw, Qx, Qy, Qz, QA, QB, QC, QD, QE, QF, QG, QH, QI, QJ, QK, QL, QM, QN, QO, QP, QQ]
        refine CallC.by (pick_spec t (k + 1 + 1 + 1) 3 ht (by decide) (by decide)) (by rfl) (by rfl) (Nat.le_refl _) ?_
        by_cases h4 : pk t (k + 1 + 1 + 1) 3 = 0
        · rw [if_pos h4] at tl ek
          rw [h4, tl, ek]
          obtain ⟨d, hd, hd2⟩ := pk_nat t (k + 1 + 1 + 1 + 1) 6 (by decide)
          have gs2 := strs_getD (l := fracsL) (i := d) (by omega)
          have lg2 := get_len (l := fracsL) (m := 9) (by decide) d
          rw [hd, Int.toNat_natCast]
          simp (config := { maxSteps := 1000000 }) (disch := ((try simp only [awL]); omega)) only [QR, QS, QT, QU, QV, QW, QX, QY, QZ, Q0, Q1, Q2, row_sign, row_fracs, strs_unf, gs, ls, ls', lf, lf', ↓awU, awV, awF, Qa, Qb, Qc, Qd, forall_const, ↓reduceIte, ↓reduceDIte, ↓Qe, Qf, Qg, Qh, Qi, Qj, Qk, Ql, Qm, Qn, Qo, Qp, Qq, Qr, Qs, implies_true, Qt, Qu, Qv, Qw, Qx, Qy, Qz, QA, QB, QC, QD, QE, QF, QG, QH, QI, QJ, QK, QL, QM, QN, QO, QP, QQ]
          refine CallC.by (pick_spec t (k + 1 + 1 + 1 + 1) 6 ht (by decide) (by decide)) (by rfl) (by rfl) (Nat.le_refl _) ?_
          rw [hd]
          simp (config := { maxSteps := 1000000 }) (disch := ((try simp only [awL]); omega)) only [QR, QS, QT, QU, QV, QW, QX, QY, QZ, Q0, Q1, Q2, gs2, row_sign, row_fracs, strs_unf, gs, ls, ls', lf, lf', ↓awU, awV, awF, Qa, Qb, Qc, Qd, forall_const, ↓reduceIte, ↓reduceDIte, ↓Qe, Qf, Qg, Qh, Qi, Qj, Qk, Ql, Qm, Qn, Qo, Qp, Qq, Qr, Qs, implies_true, Qt, Qu, Qv, Qw, Qx, Qy, Qz, QA, QB, QC, QD, QE, QF, QG, QH, QI, QJ, QK, QL, QM, QN, QO, QP, QQ]
          first
          | exact ⟨[some 0], rfl, by simp, by simp [HWeak, BWeak, SWeak, AWeak], .inl (by simp [AWeak, SWeak])⟩
          | refine ⟨by rfl, ?_⟩
            exact ⟨[some 0], rfl, by simp, by simp [HWeak, BWeak, SWeak, AWeak], .inl (by simp [AWeak, SWeak])⟩
        · rw [if_neg h4] at tl ek
          rw [tl, ek]
          generalize pk t (k + 1 + 1 + 1) 3 = z at *
          simp (config := { maxSteps := 1000000 }) (disch := ((try simp only [awL]); omega)) only [QR, QS, QT, QU, QV, QW, QX, QY, QZ, Q0, Q1, Q2, row_sign, row_fracs, strs_unf, gs, ls, ls', lf, lf', ↓awU, awV, awF, Qa, Qb, Qc, Qd, forall_const, ↓reduceIte, ↓reduceDIte, ↓Qe, Qf, Qg, Qh, Qi, Qj, Qk, Ql, Qm, Qn, Qo, Qp, Qq, Qr, Qs, implies_true, Qt, Qu, Qv, Qw, Qx, Qy, Qz, QA, QB, QC, QD, QE, QF, QG, QH, QI, QJ, QK, QL, QM, QN, QO, QP, QQ]
          exact ⟨[some 0], rfl, by simp, by simp [HWeak, BWeak, SWeak, AWeak], .inl (by simp [AWeak, SWeak])⟩
      · have c3 : notDig (r1.getD 0 0) = false := by unfold notDig; rw [decide_eq_false c1, decide_eq_false c2]; rfl
        have hr : 48 :: r1 = num2 t k := by rw [e2, c3, if_neg Bool.false_ne_true]
        have tl := tail (48 :: r1) hr
        have lr : (48 :: r1).length ≤ 4 := by rw [hr]; exact l2.2
        simp (config := { maxSteps := 1000000 }) (disch := ((try simp only [awL]); omega)) only [QR, QS, QT, QU, QV, QW, QX, QY, QZ, Q0, Q1, Q2, row_sign, row_fracs, strs_unf, gs, ls, ls', lf, lf', ↓awU, awV, awF, Qa, Qb, Qc, Qd, forall_const, ↓reduceIte, ↓reduceDIte, ↓Qe, Qf, Qg, Qh, Qi, Qj, Qk, Ql, Qm, Qn, Qo, Qp, Qq, Qr, Qs, implies_true, Qt, Qu, Qv, Qw, Qx, Qy, Qz, QA, QB, QC, QD, QE, QF, QG, QH, QI, QJ, QK, QL, QM, QN, QO, QP, QQ]
        refine CallC.by (pick_spec t (k + 1 + 1 + 1) 3 ht (by decide) (by decide)) (by rfl) (by rfl) (Nat.le_refl _) ?_
        by_cases h4 : pk t (k + 1 + 1 + 1) 3 = 0
        · rw [if_pos h4] at tl ek
          rw [h4, tl, ek]
          obtain ⟨d, hd, hd2⟩ := pk_nat t (k + 1 + 1 + 1 + 1) 6 (by decide)
          have gs2 := strs_getD (l := fracsL) (i := d) (by omega)
          have lg2 := get_len (l := fracsL) (m := 9) (by decide) d
          rw [hd, Int.toNat_natCast]
          generalize hX : 48 :: r1 = X at *
          simp (config := { maxSteps := 1000000 }) (disch := ((try simp only [awL]); omega)) only [QR, QS, QT, QU, QV, QW, QX, QY, QZ, Q0, Q1, Q2, row_sign, row_fracs, strs_unf, gs, ls, ls', lf, lf', ↓awU, awV, awF, Qa, Qb, Qc, Qd, forall_const, ↓reduceIte, ↓reduceDIte, ↓Qe, Qf, Qg, Qh, Qi, Qj, Qk, Ql, Qm, Qn, Qo, Qp, Qq, Qr, Qs, implies_true, Qt, Qu, Qv, Qw, Qx, Qy, Qz, QA, QB, QC, QD, QE, QF, QG, QH, QI, QJ, QK, QL, QM, QN, QO, QP, QQ]
          refine CallC.by (pick_spec t (k + 1 + 1 + 1 + 1) 6 ht (by decide) (by decide)) (by rfl) (by rfl) (Nat.le_refl _) ?_
          rw [hd]
          simp (config := { maxSteps := 1000000 }) (disch := ((try simp only [awL]); omega)) only [QR, QS, QT, QU, QV, QW, QX, QY, QZ, Q0, Q1, Q2, gs2, row_sign, row_fracs, strs_unf, gs, ls, ls', lf, lf', ↓awU, awV, awF, Qa, Qb, Qc, Qd, forall_const, ↓reduceIte, ↓reduceDIte, ↓Qe, Qf, Qg, Qh, Qi, Qj, Qk, Ql, Qm, Qn, Qo, Qp, Qq, Qr, Qs, implies_true, Qt, Qu, Qv, Qw, Qx, Qy, Qz, QA, QB, QC, QD, QE, QF, QG, QH, QI, QJ, QK, QL, QM, QN, QO, QP, QQ]
          first
          | exact ⟨[some 0], rfl, by simp, by simp [HWeak, BWeak, SWeak, AWeak], .inl (by simp [AWeak, SWeak])⟩
          | refine ⟨by rfl, ?_⟩
            exact ⟨[some 0], rfl, by simp, by simp [HWeak, BWeak, SWeak, AWeak], .inl (by simp [AWeak, SWeak])⟩
        · rw [if_neg h4] at tl ek
          rw [tl, ek]
          generalize pk t (k + 1 + 1 + 1) 3 = z at *
          simp (config := { maxSteps := 1000000 }) (disch := ((try simp only [awL]); omega)) only [QR, QS, QT, QU, QV, QW, QX, QY, QZ, Q0, Q1, Q2, row_sign, row_fracs, strs_unf, gs, ls, ls', lf, lf', ↓awU, awV, awF, Qa, Qb, Qc, Qd, forall_const, ↓reduceIte, ↓reduceDIte, ↓Qe, Qf, Qg, Qh, Qi, Qj, Qk, Ql, Qm, Qn, Qo, Qp, Qq, Qr, Qs, implies_true, Qt, Qu, Qv, Qw, Qx, Qy, Qz, QA, QB, QC, QD, QE, QF, QG, QH, QI, QJ, QK, QL, QM, QN, QO, QP, QQ]
          exact ⟨[some 0], rfl, by simp, by simp [HWeak, BWeak, SWeak, AWeak], .inl (by simp [AWeak, SWeak])⟩
  · rw [if_neg h3] at e2
    generalize pk t (k + 1 + 1) 3 = z3 at *
    have hr : r1 = num2 t k := e2.symm
    have tl := tail (r1) hr
    have lr : (r1).length ≤ 4 := by rw [hr]; exact l2.2
    simp (config := { maxSteps := 1000000 }) (disch := ((try simp only [awL]); omega)) only [QR, QS, QT, QU, QV, QW, QX, QY, QZ, Q0, Q1, Q2, row_sign, row_fracs, strs_unf, gs, ls, ls', lf, lf', ↓awU, awV, awF, Qa, Qb, Qc, Qd, forall_const, ↓reduceIte, ↓reduceDIte, ↓Qe, Qf, Qg, Qh, Qi, Qj, Qk, Ql, Qm, Qn, Qo, Qp, Qq, Qr, Qs, implies_true, Qt, Qu, Qv, Qw, Qx, Qy, Qz, QA, QB, QC, QD, QE, QF, QG, QH, QI, QJ, QK, QL, QM, QN, QO, QP, QQ]
    refine CallC.by (pick_spec t (k + 1 + 1 + 1) 3 ht (by decide) (by decide)) (by rfl) (by rfl) (Nat.le_refl _) ?_
    by_cases h4 : pk t (k + 1 + 1 + 1) 3 = 0
    · rw [if_pos h4] at tl ek
      rw [h4, tl, ek]
      obtain ⟨d, hd, hd2⟩ := pk_nat t (k + 1 + 1 + 1 + 1) 6 (by decide)
      have gs2 := strs_getD (l := fracsL) (i := d) (by omega)
      have lg2 := get_len (l := fracsL) (m := 9) (by decide) d
      rw [hd, Int.toNat_natCast]
      simp (config := { maxSteps := 1000000 }) (disch := ((try simp only [awL]); omega)) only [QR, QS, QT, QU, QV, QW, QX, QY, QZ, Q0, Q1, Q2, row_sign, row_fracs, strs_unf, gs, ls, ls', lf, lf', ↓awU, awV, awF, Qa, Qb, Qc, Qd, forall_const, ↓reduceIte, ↓reduceDIte, ↓Qe, Qf, Qg, Qh, Qi, Qj, Qk, Ql, Qm, Qn, Qo, Qp, Qq, Qr, Qs, implies_true, Qt, Qu, Qv, Qw, Qx, Qy, Qz, QA, QB, QC, QD, QE, QF, QG, QH, QI, QJ, QK, QL, QM, QN, QO, QP, QQ]
      refine CallC.by (pick_spec t (k + 1 + 1 + 1 + 1) 6 ht (by decide) (by decide)) (by rfl) (by rfl) (Nat.le_refl _) ?_
      rw [hd]
      simp (config := { maxSteps := 1000000 }) (disch := ((try simp only [awL]); omega)) only [QR, QS, QT, QU, QV, QW, QX, QY, QZ, Q0, Q1, Q2, gs2, row_sign, row_fracs, strs_unf, gs, ls, ls', lf, lf', ↓awU, awV, awF, Qa, Qb, Qc, Qd, forall_const, ↓reduceIte, ↓reduceDIte, ↓Qe, Qf, Qg, Qh, Qi, Qj, Qk, Ql, Qm, Qn, Qo, Qp, Qq, Qr, Qs, implies_true, Qt, Qu, Qv, Qw, Qx, Qy, Qz, QA, QB, QC, QD, QE, QF, QG, QH, QI, QJ, QK, QL, QM, QN, QO, QP, QQ]
      first
      | exact ⟨[some 0], rfl, by simp, by simp [HWeak, BWeak, SWeak, AWeak], .inl (by simp [AWeak, SWeak])⟩
      | refine ⟨by rfl, ?_⟩
        exact ⟨[some 0], rfl, by simp, by simp [HWeak, BWeak, SWeak, AWeak], .inl (by simp [AWeak, SWeak])⟩
    · rw [if_neg h4] at tl ek
      rw [tl, ek]
      generalize pk t (k + 1 + 1 + 1) 3 = z at *
      simp (config := { maxSteps := 1000000 }) (disch := ((try simp only [awL]); omega)) only [QR, QS, QT, QU, QV, QW, QX, QY, QZ, Q0, Q1, Q2, row_sign, row_fracs, strs_unf, gs, ls, ls', lf, lf', ↓awU, awV, awF, Qa, Qb, Qc, Qd, forall_const, ↓reduceIte, ↓reduceDIte, ↓Qe, Qf, Qg, Qh, Qi, Qj, Qk, Ql, Qm, Qn, Qo, Qp, Qq, Qr, Qs, implies_true, Qt, Qu, Qv, Qw, Qx, Qy, Qz, QA, QB, QC, QD, QE, QF, QG, QH, QI, QJ, QK, QL, QM, QN, QO, QP, QQ]
      exact ⟨[some 0], rfl, by simp, by simp [HWeak, BWeak, SWeak, AWeak], .inl (by simp [AWeak, SWeak])⟩
end Go.Proofs.YtacepalmphbnfaaDoor

namespace Go.Proofs.YtacepalmphbnfaaDoor
open Go Go.Proofs Go.Abs
variable {G : Globals}
/-! The dice's dates, fields, grids of odd fields. -/
def yearsL : List (List UInt8) := [[50, 48, 50, 52], [49, 57, 57, 57], [50, 48, 50, 54], [49, 57, 48, 48], [48, 48, 48, 49], [57, 57, 57, 57]]
def monthsL : List (List UInt8) := [[48, 49], [48, 50], [49, 50], [49, 49], [49, 51]]
def daysL : List (List UInt8) := [[48, 49], [50, 56], [50, 57], [51, 48], [51, 49]]
def dateM (t : List Int) (k : Nat) : List UInt8 :=
  let y := yearsL.getD (pk t k 6).toNat []
  let m := monthsL.getD (pk t (k + 1) 5).toNat []
  let e := daysL.getD (pk t (k + 2) 5).toNat []
  if pk t (k + 3) 3 = 0 then y ++ [45] ++ m ++ [45] ++ e else if pk t (k + 3) 3 = 1 then y ++ [47] ++ m ++ [47] ++ e else e ++ [46] ++ m ++ [46] ++ y
theorem row_years : [D.str (bs [50, 48, 50, 52]), D.str (bs [49, 57, 57, 57]), D.str (bs [50, 48, 50, 54]), D.str (bs [49, 57, 48, 48]), D.str (bs [48, 48, 48, 49]), D.str (bs [57, 57, 57, 57])] = strs yearsL := rfl
theorem row_months : [D.str (bs [48, 49]), D.str (bs [48, 50]), D.str (bs [49, 50]), D.str (bs [49, 49]), D.str (bs [49, 51])] = strs monthsL := rfl
theorem row_days : [D.str (bs [48, 49]), D.str (bs [50, 56]), D.str (bs [50, 57]), D.str (bs [51, 48]), D.str (bs [51, 49])] = strs daysL := rfl
set_option maxHeartbeats 4000000 in
set_option maxRecDepth 100000 in
theorem date_spec (t : List Int) (k : Nat) (ht : OkM t) : Ctr Tryd.prog G 42 [.ptr 0 0] [DiceM t k] (.d (S (dateM t k))) [DiceM t (k + 4)] := by
  obtain ⟨r, hr⟩ : ∃ r, r = dateM t k := ⟨_, rfl⟩
  rw [← hr]
  unfold dateM at hr
  refine Ctr.body (M := M0) hmix Tryd.func42 rfl go42 ?_
  obtain ⟨a, ha, ha2⟩ := pk_nat t k 6 (by decide)
  obtain ⟨b, hb, hb2⟩ := pk_nat t (k + 1) 5 (by decide)
  obtain ⟨c, hc, hc2⟩ := pk_nat t (k + 2) 5 (by decide)
  obtain ⟨e, he, he2⟩ := pk_nat t (k + 3) 3 (by decide)
  rw [ha, hb, hc, he] at hr
  simp only [Int.toNat_natCast] at hr
  have l1 := @strs_length yearsL
  have l2 := @strs_length monthsL
  have l3 := @strs_length daysL
  have n1 : yearsL.length = 6 := rfl
  have n2 : monthsL.length = 5 := rfl
  have n3 : daysL.length = 5 := rfl
  have g1 := strs_getD (l := yearsL) (i := a) (by omega)
  have g2 := strs_getD (l := monthsL) (i := b) (by omega)
  have g3 := strs_getD (l := daysL) (i := c) (by omega)
  have s1 := get_len (l := yearsL) (m := 4) (by decide) a
  have s2 := get_len (l := monthsL) (m := 2) (by decide) b
  have s3 := get_len (l := daysL) (m := 2) (by decide) c
  generalize yearsL.getD a [] = y at *
  generalize monthsL.getD b [] = m at *
  generalize daysL.getD c [] = dd at *
  simp (config := { maxSteps := 1000000 }) (disch := ((try simp only [awL]); omega)) only [QR, QS, QT, QU, QV, QW, QX, QY, QZ, Q0, Q1, Q2, row_years, row_months, row_days, strs_unf, l1, l2, l3, n1, n2, n3, Tryd.f42, ↓awU, awV, awF, Qa, Qb, Qc, Qd, forall_const, ↓reduceIte, ↓reduceDIte, ↓Qe, Qf, Qg, Qh, Qi, Qj, Qk, Ql, Qm, Qn, Qo, Qp, Qq, Qr, Qs, implies_true, Qt, Qu, Qv, Qw, Qx, Qy, Qz, QA, QB, QC, QD, QE, QF, QG, QH, QI, QJ, QK, QL, QM, QN, QO, QP, QQ]
  refine CallC.by (pick_spec t k 6 ht (by decide) (by decide)) (by rfl) (by rfl) (Nat.le_refl _) ?_
  rw [ha]
  simp (config := { maxSteps := 1000000 }) (disch := ((try simp only [awL]); omega)) only [QR, QS, QT, QU, QV, QW, QX, QY, QZ, Q0, Q1, Q2, row_years, row_months, row_days, strs_unf, l1, l2, l3, n1, n2, n3, g1, ↓awU, awV, awF, Qa, Qb, Qc, Qd, forall_const, ↓reduceIte, ↓reduceDIte, ↓Qe, Qf, Qg, Qh, Qi, Qj, Qk, Ql, Qm, Qn, Qo, Qp, Qq, Qr, Qs, implies_true, Qt, Qu, Qv, Qw, Qx, Qy, Qz, QA, QB, QC, QD, QE, QF, QG, QH, QI, QJ, QK, QL, QM, QN, QO, QP, QQ]
  refine CallC.by (pick_spec t (k + 1) 5 ht (by decide) (by decide)) (by rfl) (by rfl) (Nat.le_refl _) ?_
  rw [hb]
  simp (config := { maxSteps := 1000000 }) (disch := ((try simp only [awL]); omega)) only [QR, QS, QT, QU, QV, QW, QX, QY, QZ, Q0, Q1, Q2, row_years, row_months, row_days, strs_unf, l1, l2, l3, n1, n2, n3, g2, ↓awU, awV, awF, Qa, Qb, Qc, Qd, forall_const, ↓reduceIte, ↓reduceDIte, ↓Qe, Qf, Qg, Qh, Qi, Qj, Qk, Ql, Qm, Qn, Qo, Qp, Qq, Qr, Qs, implies_true, Qt, Qu, Qv, Qw, Qx, Qy, Qz, QA, QB, QC, QD, QE, QF, QG, QH, QI, QJ, QK, QL, QM, QN, QO, QP, QQ]
  refine CallC.by (pick_spec t (k + 1 + 1) 5 ht (by decide) (by decide)) (by rfl) (by rfl) (Nat.le_refl _) ?_
  rw [hc]
  simp (config := { maxSteps := 1000000 }) (disch := ((try simp only [awL]); omega)) only [QR, QS, QT, QU, QV, QW, QX, QY, QZ, Q0, Q1, Q2, row_years, row_months, row_days, strs_unf, l1, l2, l3, n1, n2, n3, g3, ↓awU, awV, awF, Qa, Qb, Qc, Qd, forall_const, ↓reduceIte, ↓reduceDIte, ↓Qe, Qf, Qg, Qh, Qi, Qj, Qk, Ql, Qm, Qn, Qo, Qp, Qq, Qr, Qs, implies_true, Qt, Qu, Qv, Qw, Qx, Qy, Qz, QA, QB, QC, QD, QE, QF, QG, QH, QI, QJ, QK, QL, QM, QN, QO, QP, QQ]
  refine CallC.by (pick_spec t (k + 1 + 1 + 1) 3 ht (by decide) (by decide)) (by rfl) (by rfl) (Nat.le_refl _) ?_
  rw [he]
  rcases (by omega : e = 0 ∨ e = 1 ∨ e = 2) with rfl | rfl | rfl
  all_goals
    simp (config := { maxSteps := 1000000 }) (disch := ((try simp only [awL]); omega)) only [QR, QS, QT, QU, QV, QW, QX, QY, QZ, Q0, Q1, Q2, ↓awU, awV, awF, Qa, Qb, Qc, Qd, forall_const, ↓reduceIte, ↓reduceDIte, ↓Qe, Qf, Qg, Qh, Qi, Qj, Qk, Ql, Qm, Qn, Qo, Qp, Qq, Qr, Qs, implies_true, Qt, Qu, Qv, Qw, Qx, Qy, Qz, QA, QB, QC, QD, QE, QF, QG, QH, QI, QJ, QK, QL, QM, QN, QO, QP, QQ]
    rw [hr]
    exact ⟨[some 0], rfl, by simp, by simp [HWeak, BWeak, SWeak, AWeak], .inl (by simp [AWeak, SWeak])⟩
def boolsL : List (List UInt8) := [[121, 101, 115], [110, 111], [84, 82, 85, 69], [70, 97, 108, 115, 101], [32, 121, 101, 115, 32]]
theorem row_bools : [D.str (bs [121, 101, 115]), D.str (bs [110, 111]), D.str (bs [84, 82, 85, 69]), D.str (bs [70, 97, 108, 115, 101]), D.str (bs [32, 121, 101, 115, 32])] = strs boolsL := rfl
def unitsL : List (List UInt8) := [[32, 107, 103], [103], [32, 107, 109], [109], [32, 109, 105, 110], [37], [32, 109, 109]]
theorem row_units : [D.str (bs [32, 107, 103]), D.str (bs [103]), D.str (bs [32, 107, 109]), D.str (bs [109]), D.str (bs [32, 109, 105, 110]), D.str (bs [37]), D.str (bs [32, 109, 109])] = strs unitsL := rfl
def nullsL : List (List UInt8) := [[], [32], [78, 65], [45], [110, 111, 110, 101], [63], [110, 117, 108, 108]]
theorem row_nulls : [D.str (bs []), D.str (bs [32]), D.str (bs [78, 65]), D.str (bs [45]), D.str (bs [110, 111, 110, 101]), D.str (bs [63]), D.str (bs [110, 117, 108, 108])] = strs nullsL := rfl
def oddsL : List (List UInt8) := [[97, 44, 98], [34, 113, 34], [39], [120, 59, 121], [108, 10, 105], [99, 13, 114], [32, 112, 97, 100, 32], [9], [124], [], [195, 169], [123], [97, 34, 98], [13, 10]]
theorem row_odds : [D.str (bs [97, 44, 98]), D.str (bs [34, 113, 34]), D.str (bs [39]), D.str (bs [120, 59, 121]), D.str (bs [108, 10, 105]), D.str (bs [99, 13, 114]), D.str (bs [32, 112, 97, 100, 32]), D.str (bs [9]), D.str (bs [124]), D.str (bs []), D.str (bs [195, 169]), D.str (bs [123]), D.str (bs [97, 34, 98]), D.str (bs [13, 10])] = strs oddsL := rfl
def fieldM (t : List Int) (k c : Nat) : List UInt8 :=
  if c = 0 then wordsL.getD (pk t k 16).toNat [] else if c = 1 then numM t k else if c = 2 then dateM t k else if c = 3 then boolsL.getD (pk t k 5).toNat [] else
    if c = 4 then numM t k ++ unitsL.getD (pk t (numK t k) 7).toNat [] else if c = 5 then nullsL.getD (pk t k 7).toNat [] else oddsL.getD (pk t k 14).toNat []
def fieldK (t : List Int) (k c : Nat) : Nat := if c = 1 then numK t k else if c = 2 then k + 4 else if c = 4 then numK t k + 1 else k + 1
set_option maxHeartbeats 8000000 in
set_option maxRecDepth 100000 in
theorem field_mspec (t : List Int) (k c : Nat) (ht : OkM t) (hc : c ≤ 100) : Ctr Tryd.prog G 22 [.ptr 0 0, .d (.int .i64 c)] [DiceM t k] (.d (S (fieldM t k c))) [DiceM t (fieldK t k c)] := by
  obtain ⟨r, hr⟩ : ∃ r, r = fieldM t k c := ⟨_, rfl⟩
  obtain ⟨k2, hk⟩ : ∃ k2, k2 = fieldK t k c := ⟨_, rfl⟩
  rw [← hr, ← hk]
  unfold fieldM at hr
  unfold fieldK at hk
  refine Ctr.body (M := M0) hmix Tryd.func22 rfl go22 ?_
  rcases (by omega : c = 0 ∨ c = 1 ∨ c = 2 ∨ c = 3 ∨ c = 4 ∨ c = 5 ∨ 5 < c) with rfl | rfl | rfl | rfl | rfl | rfl | h
  · simp only [if_true, if_false, show ¬ (0 = 1) by decide, show ¬ (0 = 2) by decide, show ¬ (0 = 4) by decide] at hr hk
    subst hk
    obtain ⟨a, ha, ha2⟩ := pk_nat t k 16 (by decide)
    rw [ha] at hr
    simp only [Int.toNat_natCast] at hr
    have l1 := @strs_length wordsL
    have n1 : wordsL.length = 16 := rfl
    have g1 := strs_getD (l := wordsL) (i := a) (by omega)
    generalize wordsL.getD a [] = y at *
    simp (config := { maxSteps := 1000000 }) (disch := ((try simp only [awL]); omega)) only [QR, QS, QT, QU, QV, QW, QX, QY, QZ, Q0, Q1, Q2, strs_unf, l1, n1, Tryd.f22, ↓awU, awV, awF, Qa, Qb, Qc, Qd, forall_const, ↓reduceIte, ↓reduceDIte, ↓Qe, Qf, Qg, Qh, Qi, Qj, Qk, Ql, Qm, Qn, Qo, Qp, Qq, Qr, Qs, implies_true, Qt, Qu, Qv, Qw, Qx, Qy, Qz, QA, QB, QC, QD, QE, QF, QG, QH, QI, QJ, QK, QL, QM, QN, QO, QP, QQ]
    refine CallC.of words_spec (by rfl) ?_
    simp (config := { maxSteps := 1000000 }) (disch := ((try simp only [awL]); omega)) only [QR, QS, QT, QU, QV, QW, QX, QY, QZ, Q0, Q1, Q2, strs_unf, l1, n1, ↓awU, awV, awF, Qa, Qb, Qc, Qd, forall_const, ↓reduceIte, ↓reduceDIte, ↓Qe, Qf, Qg, Qh, Qi, Qj, Qk, Ql, Qm, Qn, Qo, Qp, Qq, Qr, Qs, implies_true, Qt, Qu, Qv, Qw, Qx, Qy, Qz, QA, QB, QC, QD, QE, QF, QG, QH, QI, QJ, QK, QL, QM, QN, QO, QP, QQ]
    refine CallC.of words_spec (by rfl) ?_
    simp (config := { maxSteps := 1000000 }) (disch := ((try simp only [awL]); omega)) only [QR, QS, QT, QU, QV, QW, QX, QY, QZ, Q0, Q1, Q2, strs_unf, l1, n1, ↓awU, awV, awF, Qa, Qb, Qc, Qd, forall_const, ↓reduceIte, ↓reduceDIte, ↓Qe, Qf, Qg, Qh, Qi, Qj, Qk, Ql, Qm, Qn, Qo, Qp, Qq, Qr, Qs, implies_true, Qt, Qu, Qv, Qw, Qx, Qy, Qz, QA, QB, QC, QD, QE, QF, QG, QH, QI, QJ, QK, QL, QM, QN, QO, QP, QQ]
    refine CallC.by (pick_spec t k 16 ht (by decide) (by decide)) (by rfl) (by rfl) (Nat.le_refl _) ?_
    rw [ha]
    simp (config := { maxSteps := 1000000 }) (disch := ((try simp only [awL]); omega)) only [QR, QS, QT, QU, QV, QW, QX, QY, QZ, Q0, Q1, Q2, strs_unf, l1, n1, g1, ↓awU, awV, awF, Qa, Qb, Qc, Qd, forall_const, ↓reduceIte, ↓reduceDIte, ↓Qe, Qf, Qg, Qh, Qi, Qj, Qk, Ql, Qm, Qn, Qo, Qp, Qq, Qr, Qs, implies_true, Qt, Qu, Qv, Qw, Qx, Qy, Qz, QA, QB, QC, QD, QE, QF, QG, QH, QI, QJ, QK, QL, QM, QN, QO, QP, QQ]
    rw [hr]
    exact ⟨[some 0], rfl, by simp, by simp [HWeak, BWeak, SWeak, AWeak], .inl (by simp [AWeak, SWeak])⟩
  · simp only [if_true, if_false, show ¬ (1 = 0) by decide] at hr hk
    subst hk hr
    simp (config := { maxSteps := 1000000 }) (disch := ((try simp only [awL]); omega)) only [QR, QS, QT, QU, QV, QW, QX, QY, QZ, Q0, Q1, Q2, Tryd.f22, ↓awU, awV, awF, Qa, Qb, Qc, Qd, forall_const, ↓reduceIte, ↓reduceDIte, ↓Qe, Qf, Qg, Qh, Qi, Qj, Qk, Ql, Qm, Qn, Qo, Qp, Qq, Qr, Qs, implies_true, Qt, Qu, Qv, Qw, Qx, Qy, Qz, QA, QB, QC, QD, QE, QF, QG, QH, QI, QJ, QK, QL, QM, QN, QO, QP, QQ]
    refine CallC.by (number_spec t k ht) (by rfl) (by rfl) (Nat.le_refl _) ?_
    simp (config := { maxSteps := 1000000 }) (disch := ((try simp only [awL]); omega)) only [QR, QS, QT, QU, QV, QW, QX, QY, QZ, Q0, Q1, Q2, ↓awU, awV, awF, Qa, Qb, Qc, Qd, forall_const, ↓reduceIte, ↓reduceDIte, ↓Qe, Qf, Qg, Qh, Qi, Qj, Qk, Ql, Qm, Qn, Qo, Qp, Qq, Qr, Qs, implies_true, Qt, Qu, Qv, Qw, Qx, Qy, Qz, QA, QB, QC, QD, QE, QF, QG, QH, QI, QJ, QK, QL, QM, QN, QO, QP, QQ]
    exact ⟨[some 0], rfl, by simp, by simp [HWeak, BWeak, SWeak, AWeak], .inl (by simp [AWeak, SWeak])⟩
  · simp only [if_true, if_false, show ¬ (2 = 0) by decide, show ¬ (2 = 1) by decide] at hr hk
    subst hk hr
    simp (config := { maxSteps := 1000000 }) (disch := ((try simp only [awL]); omega)) only [QR, QS, QT, QU, QV, QW, QX, QY, QZ, Q0, Q1, Q2, Tryd.f22, ↓awU, awV, awF, Qa, Qb, Qc, Qd, forall_const, ↓reduceIte, ↓reduceDIte, ↓Qe, Qf, Qg, Qh, Qi, Qj, Qk, Ql, Qm, Qn, Qo, Qp, Qq, Qr, Qs, implies_true, Qt, Qu, Qv, Qw, Qx, Qy, Qz, QA, QB, QC, QD, QE, QF, QG, QH, QI, QJ, QK, QL, QM, QN, QO, QP, QQ]
    refine CallC.by (date_spec t k ht) (by rfl) (by rfl) (Nat.le_refl _) ?_
    simp (config := { maxSteps := 1000000 }) (disch := ((try simp only [awL]); omega)) only [QR, QS, QT, QU, QV, QW, QX, QY, QZ, Q0, Q1, Q2, ↓awU, awV, awF, Qa, Qb, Qc, Qd, forall_const, ↓reduceIte, ↓reduceDIte, ↓Qe, Qf, Qg, Qh, Qi, Qj, Qk, Ql, Qm, Qn, Qo, Qp, Qq, Qr, Qs, implies_true, Qt, Qu, Qv, Qw, Qx, Qy, Qz, QA, QB, QC, QD, QE, QF, QG, QH, QI, QJ, QK, QL, QM, QN, QO, QP, QQ]
    exact ⟨[some 0], rfl, by simp, by simp [HWeak, BWeak, SWeak, AWeak], .inl (by simp [AWeak, SWeak])⟩
  · simp only [if_true, if_false, show ¬ (3 = 0) by decide, show ¬ (3 = 1) by decide, show ¬ (3 = 2) by decide, show ¬ (3 = 4) by decide] at hr hk
    subst hk
    obtain ⟨a, ha, ha2⟩ := pk_nat t k 5 (by decide)
    rw [ha] at hr
    simp only [Int.toNat_natCast] at hr
    have l1 := @strs_length boolsL
    have n1 : boolsL.length = 5 := rfl
    have g1 := strs_getD (l := boolsL) (i := a) (by omega)
    generalize boolsL.getD a [] = y at *
    simp (config := { maxSteps := 1000000 }) (disch := ((try simp only [awL]); omega)) only [QR, QS, QT, QU, QV, QW, QX, QY, QZ, Q0, Q1, Q2, row_bools, strs_unf, l1, n1, Tryd.f22, ↓awU, awV, awF, Qa, Qb, Qc, Qd, forall_const, ↓reduceIte, ↓reduceDIte, ↓Qe, Qf, Qg, Qh, Qi, Qj, Qk, Ql, Qm, Qn, Qo, Qp, Qq, Qr, Qs, implies_true, Qt, Qu, Qv, Qw, Qx, Qy, Qz, QA, QB, QC, QD, QE, QF, QG, QH, QI, QJ, QK, QL, QM, QN, QO, QP, QQ]
    refine CallC.by (pick_spec t k 5 ht (by decide) (by decide)) (by rfl) (by rfl) (Nat.le_refl _) ?_
    rw [ha]
    simp (config := { maxSteps := 1000000 }) (disch := ((try simp only [awL]); omega)) only [QR, QS, QT, QU, QV, QW, QX, QY, QZ, Q0, Q1, Q2, row_bools, strs_unf, l1, n1, g1, ↓awU, awV, awF, Qa, Qb, Qc, Qd, forall_const, ↓reduceIte, ↓reduceDIte, ↓Qe, Qf, Qg, Qh, Qi, Qj, Qk, Ql, Qm, Qn, Qo, Qp, Qq, Qr, Qs, implies_true, Qt, Qu, Qv, Qw, Qx, Qy, Qz, QA, QB, QC, QD, QE, QF, QG, QH, QI, QJ, QK, QL, QM, QN, QO, QP, QQ]
    rw [hr]
    exact ⟨[some 0], rfl, by simp, by simp [HWeak, BWeak, SWeak, AWeak], .inl (by simp [AWeak, SWeak])⟩
  · simp only [if_true, if_false, show ¬ (4 = 0) by decide, show ¬ (4 = 1) by decide, show ¬ (4 = 2) by decide, show ¬ (4 = 3) by decide] at hr hk
    have nl := (numM_len t k).2
    obtain ⟨a, ha, ha2⟩ := pk_nat t (numK t k) 7 (by decide)
    rw [ha] at hr
    simp only [Int.toNat_natCast] at hr
    have l1 := @strs_length unitsL
    have n1 : unitsL.length = 7 := rfl
    have g1 := strs_getD (l := unitsL) (i := a) (by omega)
    have s1 := get_len (l := unitsL) (m := 4) (by decide) a
    generalize unitsL.getD a [] = y at *
    simp (config := { maxSteps := 1000000 }) (disch := ((try simp only [awL]); omega)) only [QR, QS, QT, QU, QV, QW, QX, QY, QZ, Q0, Q1, Q2, row_units, strs_unf, l1, n1, Tryd.f22, ↓awU, awV, awF, Qa, Qb, Qc, Qd, forall_const, ↓reduceIte, ↓reduceDIte, ↓Qe, Qf, Qg, Qh, Qi, Qj, Qk, Ql, Qm, Qn, Qo, Qp, Qq, Qr, Qs, implies_true, Qt, Qu, Qv, Qw, Qx, Qy, Qz, QA, QB, QC, QD, QE, QF, QG, QH, QI, QJ, QK, QL, QM, QN, QO, QP, QQ]
    refine CallC.by (number_spec t k ht) (by rfl) (by rfl) (Nat.le_refl _) ?_
    generalize numK t k = kk at *
    generalize numM t k = nn at *
    subst hk
    simp (config := { maxSteps := 1000000 }) (disch := ((try simp only [awL]); omega)) only [QR, QS, QT, QU, QV, QW, QX, QY, QZ, Q0, Q1, Q2, row_units, strs_unf, l1, n1, ↓awU, awV, awF, Qa, Qb, Qc, Qd, forall_const, ↓reduceIte, ↓reduceDIte, ↓Qe, Qf, Qg, Qh, Qi, Qj, Qk, Ql, Qm, Qn, Qo, Qp, Qq, Qr, Qs, implies_true, Qt, Qu, Qv, Qw, Qx, Qy, Qz, QA, QB, QC, QD, QE, QF, QG, QH, QI, QJ, QK, QL, QM, QN, QO, QP, QQ]
    refine CallC.by (pick_spec t kk 7 ht (by decide) (by decide)) (by rfl) (by rfl) (Nat.le_refl _) ?_
    rw [ha]
    simp (config := { maxSteps := 1000000 }) (disch := ((try simp only [awL]); omega)) only [QR, QS, QT, QU, QV, QW, QX, QY, QZ, Q0, Q1, Q2, row_units, strs_unf, l1, n1, g1, ↓awU, awV, awF, Qa, Qb, Qc, Qd, forall_const, ↓reduceIte, ↓reduceDIte, ↓Qe, Qf, Qg, Qh, Qi, Qj, Qk, Ql, Qm, Qn, Qo, Qp, Qq, Qr, Qs, implies_true, Qt, Qu, Qv, Qw, Qx, Qy, Qz, QA, QB, QC, QD, QE, QF, QG, QH, QI, QJ, QK, QL, QM, QN, QO, QP, QQ]
    rw [hr]
    first | exact ⟨[some 0], rfl, by simp, by simp [HWeak, BWeak, SWeak, AWeak], .inl (by simp [AWeak, SWeak])⟩ | (refine ⟨by rfl, ?_⟩; exact ⟨[some 0], rfl, by simp, by simp [HWeak, BWeak, SWeak, AWeak], .inl (by simp [AWeak, SWeak])⟩)
  · simp only [if_true, if_false, show ¬ (5 = 0) by decide, show ¬ (5 = 1) by decide, show ¬ (5 = 2) by decide, show ¬ (5 = 3) by decide, show ¬ (5 = 4) by decide] at hr hk
    subst hk
    obtain ⟨a, ha, ha2⟩ := pk_nat t k 7 (by decide)
    rw [ha] at hr
    simp only [Int.toNat_natCast] at hr
    have l1 := @strs_length nullsL
    have n1 : nullsL.length = 7 := rfl
    have g1 := strs_getD (l := nullsL) (i := a) (by omega)
    generalize nullsL.getD a [] = y at *
    simp (config := { maxSteps := 1000000 }) (disch := ((try simp only [awL]); omega)) only [QR, QS, QT, QU, QV, QW, QX, QY, QZ, Q0, Q1, Q2, row_nulls, strs_unf, l1, n1, Tryd.f22, ↓awU, awV, awF, Qa, Qb, Qc, Qd, forall_const, ↓reduceIte, ↓reduceDIte, ↓Qe, Qf, Qg, Qh, Qi, Qj, Qk, Ql, Qm, Qn, Qo, Qp, Qq, Qr, Qs, implies_true, Qt, Qu, Qv, Qw, Qx, Qy, Qz, QA, QB, QC, QD, QE, QF, QG, QH, QI, QJ, QK, QL, QM, QN, QO, QP, QQ]
    refine CallC.by (pick_spec t k 7 ht (by decide) (by decide)) (by rfl) (by rfl) (Nat.le_refl _) ?_
    rw [ha]
    simp (config := { maxSteps := 1000000 }) (disch := ((try simp only [awL]); omega)) only [QR, QS, QT, QU, QV, QW, QX, QY, QZ, Q0, Q1, Q2, row_nulls, strs_unf, l1, n1, g1, ↓awU, awV, awF, Qa, Qb, Qc, Qd, forall_const, ↓reduceIte, ↓reduceDIte, ↓Qe, Qf, Qg, Qh, Qi, Qj, Qk, Ql, Qm, Qn, Qo, Qp, Qq, Qr, Qs, implies_true, Qt, Qu, Qv, Qw, Qx, Qy, Qz, QA, QB, QC, QD, QE, QF, QG, QH, QI, QJ, QK, QL, QM, QN, QO, QP, QQ]
    rw [hr]
    exact ⟨[some 0], rfl, by simp, by simp [HWeak, BWeak, SWeak, AWeak], .inl (by simp [AWeak, SWeak])⟩
  · simp only [if_false, show ¬ c = 0 by omega, show ¬ c = 1 by omega, show ¬ c = 2 by omega, show ¬ c = 3 by omega, show ¬ c = 4 by omega, show ¬ c = 5 by omega] at hr hk
    subst hk
    obtain ⟨a, ha, ha2⟩ := pk_nat t k 14 (by decide)
    rw [ha] at hr
    simp only [Int.toNat_natCast] at hr
    have l1 := @strs_length oddsL
    have n1 : oddsL.length = 14 := rfl
    have g1 := strs_getD (l := oddsL) (i := a) (by omega)
    generalize oddsL.getD a [] = y at *
    simp (config := { maxSteps := 1000000 }) (disch := ((try simp only [awL]); omega)) only [QR, QS, QT, QU, QV, QW, QX, QY, QZ, Q0, Q1, Q2, row_odds, strs_unf, l1, n1, Tryd.f22, ↓awU, awV, awF, Qa, Qb, Qc, Qd, forall_const, ↓reduceIte, ↓reduceDIte, ↓Qe, Qf, Qg, Qh, Qi, Qj, Qk, Ql, Qm, Qn, Qo, Qp, Qq, Qr, Qs, implies_true, Qt, Qu, Qv, Qw, Qx, Qy, Qz, QA, QB, QC, QD, QE, QF, QG, QH, QI, QJ, QK, QL, QM, QN, QO, QP, QQ]
    refine CallC.by (pick_spec t k 14 ht (by decide) (by decide)) (by rfl) (by rfl) (Nat.le_refl _) ?_
    rw [ha]
    simp (config := { maxSteps := 1000000 }) (disch := ((try simp only [awL]); omega)) only [QR, QS, QT, QU, QV, QW, QX, QY, QZ, Q0, Q1, Q2, row_odds, strs_unf, l1, n1, g1, ↓awU, awV, awF, Qa, Qb, Qc, Qd, forall_const, ↓reduceIte, ↓reduceDIte, ↓Qe, Qf, Qg, Qh, Qi, Qj, Qk, Ql, Qm, Qn, Qo, Qp, Qq, Qr, Qs, implies_true, Qt, Qu, Qv, Qw, Qx, Qy, Qz, QA, QB, QC, QD, QE, QF, QG, QH, QI, QJ, QK, QL, QM, QN, QO, QP, QQ]
    rw [hr]
    exact ⟨[some 0], rfl, by simp, by simp [HWeak, BWeak, SWeak, AWeak], .inl (by simp [AWeak, SWeak])⟩
end Go.Proofs.YtacepalmphbnfaaDoor

namespace Go.Proofs.YtacepalmphbnfaaDoor
open Go Go.Proofs Go.Abs
variable {G : Globals}
/-! The dice's grids of odd fields. -/
end Go.Proofs.YtacepalmphbnfaaDoor

namespace Go.Proofs.YtacepalmphbnfaaDoor
open Go Go.Proofs Go.Abs Go.RowKit Go.Shelf
variable {G : Globals}
/-! Texts: repeated, their runes counted, their ends cut. -/
def Tryd.laysRuneCount_ren : Go.Shelf.Ren := ⟨fun | 195 => 18 | n => n, fun | 9 => 9 | 3 => 3 | 0 => 0 | 4 => 4 | n => n, fun | n => n⟩
theorem Tryd.laysRuneCount : Go.Proofs.Lays.n195 Tryd.prog Tryd.laysRuneCount_ren where
  mixed := by kernel_rfl
  f195 := Tryd.func18.trans (congrArg some (by kernel_rfl))
  t0 := Tryd.underlying0
  a0 := Tryd.isAgg0
  z0 := Tryd.sizeOf0
  v0 := Tryd.zeroValue0
  t3 := Tryd.underlying3
  a3 := Tryd.isAgg3
  z3 := Tryd.sizeOf3
  v3 := Tryd.zeroValue3
  t4 := Tryd.underlying4
  a4 := Tryd.isAgg4
  z4 := Tryd.sizeOf4
  v4 := Tryd.zeroValue4
  t9 := Tryd.underlying9
  a9 := Tryd.isAgg9
  z9 := Tryd.sizeOf9
  v9 := Tryd.zeroValue9

def Tryd.laysCutSuffix_ren : Go.Shelf.Ren := ⟨fun | 104 => 45 | 211 => 63 | 207 => 78 | n => n, fun | 9 => 9 | 4 => 4 | 24 => 42 | 3 => 3 | n => n, fun | n => n⟩
theorem Tryd.laysCutSuffix : Go.Proofs.Lays.n104 Tryd.prog Tryd.laysCutSuffix_ren where
  mixed := by kernel_rfl
  f104 := Tryd.func45.trans (congrArg some (by kernel_rfl))
  f207 := Tryd.func78.trans (congrArg some (by kernel_rfl))
  f211 := Tryd.func63.trans (congrArg some (by kernel_rfl))
  t3 := Tryd.underlying3
  a3 := Tryd.isAgg3
  z3 := Tryd.sizeOf3
  v3 := Tryd.zeroValue3
  t4 := Tryd.underlying4
  a4 := Tryd.isAgg4
  z4 := Tryd.sizeOf4
  v4 := Tryd.zeroValue4
  t9 := Tryd.underlying9
  a9 := Tryd.isAgg9
  z9 := Tryd.sizeOf9
  v9 := Tryd.zeroValue9
  t24 := Tryd.underlying42
  a24 := Tryd.isAgg42
  z24 := Tryd.sizeOf42
  v24 := Tryd.zeroValue42

def Tryd.laysTrimSuffix_ren : Go.Shelf.Ren := ⟨fun | 102 => 46 | 209 => 64 | 207 => 78 | n => n, fun | 9 => 9 | 4 => 4 | 3 => 3 | n => n, fun | n => n⟩
theorem Tryd.laysTrimSuffix : Go.Proofs.Lays.n102 Tryd.prog Tryd.laysTrimSuffix_ren where
  mixed := by kernel_rfl
  f102 := Tryd.func46.trans (congrArg some (by kernel_rfl))
  f207 := Tryd.func78.trans (congrArg some (by kernel_rfl))
  f209 := Tryd.func64.trans (congrArg some (by kernel_rfl))
  t3 := Tryd.underlying3
  a3 := Tryd.isAgg3
  z3 := Tryd.sizeOf3
  v3 := Tryd.zeroValue3
  t4 := Tryd.underlying4
  a4 := Tryd.isAgg4
  z4 := Tryd.sizeOf4
  v4 := Tryd.zeroValue4
  t9 := Tryd.underlying9
  a9 := Tryd.isAgg9
  z9 := Tryd.sizeOf9
  v9 := Tryd.zeroValue9

theorem Tryd.laysRepeat : Lays.n105 Tryd.prog Tryd.laysReplaceAll_ren := Tryd.laysReplaceAll
/-- How many runes a text has. -/
def rcL (l : List UInt8) : Nat := Lib.runeCount (bs l)
theorem below_iter (w : World) (s : ByteArray) (pos : Nat) : Below w.heap.size w (w.iter s pos) := Below.alloc (Below.refl _ _) (Nat.le_refl _) _
theorem runeCount_spec (l : List UInt8) (hl : l.length ≤ 1000000000) : Ctr Tryd.prog G 18 [.d (S l)] [] (.d (.int .i64 (rcL l))) [] :=
  Ctr.of_calls_s go18 fun h w => (Any.utf8_RuneCountInString Tryd.laysRuneCount (bs l) w (by rw [bs_size]; omega)).mono (by
    rintro e w' ⟨rfl, pos, rfl⟩; exact ⟨_, rfl, .int _ _, below_iter _ _ _⟩)
theorem repeat1 (c : UInt8) : ∀ n : Nat, Lib.repeatL [c] n = List.replicate n c
  | 0 => rfl
  | n + 1 => by rw [Lib.repeatL, repeat1 c n, List.replicate_succ]; rfl
theorem repeat_spec (c : UInt8) (n : Nat) (hn : n ≤ 1000000000) : Ctr Tryd.prog G 17 [.d (S [c]), .d (.int .i64 n)] [] (.d (S (List.replicate n c))) [] := by
  refine Ctr.of_calls go17 fun h ρ w vs q r => ?_
  obtain ⟨v, u, rfl, hv, hu⟩ := r.inv2
  rw [hv.str_inv, hu.int_inv]
  refine (Any.strings_Repeat Tryd.laysRepeat extraB (bs [c]) n w (by omega) (by rw [bs_size]; simp; omega)).mono ?_
  rintro e w' ⟨rfl, hb⟩
  refine ⟨_, rfl, ?_, hb⟩
  have e1 : (bs [c]).data.toList = [c] := rfl
  rw [e1, repeat1]
  exact .str _
theorem cutSuffix_spec (l p : List UInt8) (hl : l.length ≤ 1000000000) : Ctr Tryd.prog G 45 [.d (S l), .d (S p)] [] (.d (.tup [S (Lib.trimSuffix l p), .bool (Lib.hasSuffix l p)])) [] :=
  Ctr.of_calls_ss go45 fun h w => (Any.strings_CutSuffix Tryd.laysCutSuffix (bs l) (bs p) w (by rw [bs_size]; omega)).mono (by
    rintro e w' ⟨rfl, rfl⟩
    refine ⟨_, rfl, .tup _ _ rfl fun i v x hv hx => ?_, .refl _ _⟩
    rcases i with _ | _ | i <;> simp at hv hx
    · subst hv; subst hx; exact .str _
    · subst hv; subst hx; exact .bool _)
theorem trimSuffix_spec (l p : List UInt8) (hl : l.length ≤ 1000000000) : Ctr Tryd.prog G 46 [.d (S l), .d (S p)] [] (.d (S (Lib.trimSuffix l p))) [] :=
  Ctr.of_calls_ss go46 fun h w => (Any.strings_TrimSuffix Tryd.laysTrimSuffix (bs l) (bs p) w (by rw [bs_size]; omega)).mono (by
    rintro e w' ⟨rfl, rfl⟩; exact ⟨_, rfl, .str _, .refl _ _⟩)
end Go.Proofs.YtacepalmphbnfaaDoor

namespace Go.Proofs.YtacepalmphbnfaaDoor
open Go Go.Proofs Go.Abs
variable {G : Globals}
/-! The lines of a text. -/
theorem cutR_lt {c : UInt8} : ∀ {s : List UInt8}, c ∈ s → (cutR c s).length < s.length
  | b :: l, h => by
    by_cases e : b = c
    · simp [cutR, e]
    · have := cutR_lt ((List.mem_cons.1 h).resolve_left fun x => e x.symm)
      simp only [cutR, e, if_false, List.length_cons]; omega
theorem cut_join {c : UInt8} : ∀ {s : List UInt8}, c ∈ s → s = (cutL c s ++ [c]) ++ cutR c s
  | b :: l, h => by
    by_cases e : b = c
    · simp [cutR, cutL, e]
    · have := cut_join ((List.mem_cons.1 h).resolve_left fun x => e x.symm)
      simp only [cutR, cutL, e, if_false]
      conv => lhs; rw [this]
      simp
/-- The pieces of a text, each with its line end. -/
def rawL (s : List UInt8) : List (List UInt8) :=
  if h : (10 : UInt8) ∈ s then (cutL 10 s ++ [10]) :: rawL (cutR 10 s) else if s = [] then [] else [s]
termination_by s.length
decreasing_by exact cutR_lt h
theorem rawL_nil : rawL [] = [] := by rw [rawL]; simp
theorem rawL_last {s : List UInt8} (h : (10 : UInt8) ∉ s) (h2 : s ≠ []) : rawL s = [s] := by rw [rawL, dif_neg h, if_neg h2]
theorem rawL_more {s : List UInt8} (h : (10 : UInt8) ∈ s) : rawL s = (cutL 10 s ++ [10]) :: rawL (cutR 10 s) := by rw [rawL, dif_pos h]
theorem cut_len {c : UInt8} : ∀ {s : List UInt8}, c ∈ s → (cutL c s).length + 1 + (cutR c s).length = s.length
  | b :: l, h => by
    by_cases e : b = c
    · simp [cutR, cutL, e]; omega
    · have := cut_len ((List.mem_cons.1 h).resolve_left fun x => e x.symm)
      simp only [cutR, cutL, e, if_false, List.length_cons]; omega
theorem rawL_len : ∀ (n : Nat) (s : List UInt8), s.length = n → (rawL s).length ≤ n ∧ ∀ p ∈ rawL s, p.length ≤ n := by
  intro n
  induction n using Nat.strongRecOn with
  | _ n ih =>
    intro s hs
    by_cases h : (10 : UInt8) ∈ s
    · have hl := cut_len h
      obtain ⟨i1, i2⟩ := ih _ (by have := cutR_lt h; omega) (cutR 10 s) rfl
      rw [rawL_more h]
      refine ⟨by simp; omega, fun p hp => ?_⟩
      rcases List.mem_cons.1 hp with rfl | hp
      · simp; omega
      · have := i2 p hp; omega
    · by_cases h2 : s = []
      · subst h2; rw [rawL_nil]; simp
      · rw [rawL_last h h2]
        refine ⟨?_, fun p hp => ?_⟩
        · have : 0 < s.length := List.length_pos_iff.2 h2
          simp; omega
        · simp at hp; subst hp; omega
/-- A piece without its line end. -/
def lnF (p : List UInt8) : List UInt8 := if Lib.hasSuffix p [10] then Lib.trimSuffix (Lib.trimSuffix p [10]) [13] else Lib.trimSuffix p [10]
def linesL (s : List UInt8) : List (List UInt8) := (rawL s).map lnF
def MY : Muts := fun k => k == 3000000
theorem MY_n {k : Nat} (h : k < 3000000) : MY k = false := by
  simp only [MY, beq_eq_false_iff_ne]; exact Nat.ne_of_lt h
theorem trimS_len (s p : List UInt8) : (Lib.trimSuffix s p).length ≤ s.length := by unfold Lib.trimSuffix; split <;> simp
theorem Tdo_cons {x : D} {r : List D} {t : List (D × Bool)} (h : Tdo (x :: r) t) : (∃ t', t = (x, true) :: t' ∧ Tdo r t') ∨ t = [(x, false)] := by
  match t, h with
  | (z, true) :: t, h => exact .inl ⟨t, by rw [h.1], h.2⟩
  | (z, false) :: t, h => exact .inr (by rw [h.1, h.2])
theorem Tdo_nil {t : List (D × Bool)} (h : Tdo [] t) : t = [] := by
  match t, h with
  | [], _ => rfl
theorem strs_get {l : List (List UInt8)} {i : Nat} {x : D} (h : (strs l)[i]? = some x) : ∃ y, l[i]? = some y ∧ x = S y := by
  simp only [strs, List.getElem?_map] at h
  cases e : l[i]? with
  | none => simp [e] at h
  | some y => simp [e] at h; exact ⟨y, rfl, h.symm⟩
set_option maxHeartbeats 4000000 in
set_option maxRecDepth 100000 in
theorem lines1_spec (s : List UInt8) (hs : s.length ≤ 1000000000) : IterC Tryd.prog G 61 [.ptr 1 0] [.box [.d (S s)]] (strs (rawL s)) := by
  refine IterC.body (M := MY) hmix Tryd.func61 rfl go61 ?_
  intro lp J todo hJ hT
  simp (config := { maxSteps := 1000000 }) (disch := ((try simp only [awL]); omega)) only [QR, QS, QT, QU, QV, QW, QX, QY, QZ, Q0, Q1, Q2, MY_n, Tryd.f61, ↓awU, awV, awF, Qa, Qb, Qc, Qd, forall_const, ↓reduceIte, ↓reduceDIte, ↓Qe, Qf, Qg, Qh, Qi, Qj, Qk, Ql, Qm, Qn, Qo, Qp, Qq, Qr, Qs, implies_true, Qt, Qu, Qv, Qw, Qx, Qy, Qz, QA, QB, QC, QD, QE, QF, QG, QH, QI, QJ, QK, QL, QM, QN, QO, QP, QQ]
  refine LoopC.fr 3 (α := List UInt8 × List (D × Bool)) (fun x => x.1.length) (fun x => []) (fun x => [.ext J x.2, .box [.d (S x.1)]]) (fun x => x.1.length ≤ 1000000000 ∧ Tdo (strs (rawL x.1)) x.2) (s, todo) ⟨hs, hT⟩ ?_ ?_
  · exact ⟨[some 0, some 1], rfl, by simp, by simp [setsA, keepA, SWeak, AWeak], by simp [HWeak, BWeak, SWeak, AWeak]⟩
  · rintro ⟨r, t⟩ ⟨h1, h2⟩
    simp only at h1 h2
    simp only [awK, Nat.reduceMod, Nat.reduceDiv, reduceIte]
    by_cases hn : r = []
    · subst hn
      rw [rawL_nil] at h2
      rw [Tdo_nil h2]
      simp (config := { maxSteps := 1000000 }) (disch := ((try simp only [awL]); omega)) only [QR, QS, QT, QU, QV, QW, QX, QY, QZ, Q0, Q1, Q2, MY_n, ↓awU, awV, awF, Qa, Qb, Qc, Qd, forall_const, ↓reduceIte, ↓reduceDIte, ↓Qe, Qf, Qg, Qh, Qi, Qj, Qk, Ql, Qm, Qn, Qo, Qp, Qq, Qr, Qs, implies_true, Qt, Qu, Qv, Qw, Qx, Qy, Qz, QA, QB, QC, QD, QE, QF, QG, QH, QI, QJ, QK, QL, QM, QN, QO, QP, QQ]
      exact ⟨[some 0], rfl, by simp, by simp [HWeak, BWeak, SWeak, AWeak], .inl (by simp [AWeak, SWeak])⟩
    · have hp : 0 < r.length := List.length_pos_iff.2 hn
      simp (config := { maxSteps := 1000000 }) (disch := ((try simp only [awL]); omega)) only [QR, QS, QT, QU, QV, QW, QX, QY, QZ, Q0, Q1, Q2, MY_n, ↓awU, awV, awF, Qa, Qb, Qc, Qd, forall_const, ↓reduceIte, ↓reduceDIte, ↓Qe, Qf, Qg, Qh, Qi, Qj, Qk, Ql, Qm, Qn, Qo, Qp, Qq, Qr, Qs, implies_true, Qt, Qu, Qv, Qw, Qx, Qy, Qz, QA, QB, QC, QD, QE, QF, QG, QH, QI, QJ, QK, QL, QM, QN, QO, QP, QQ]
      refine CallC.of (sIndexByte_spec r 10) (by rfl) ?_
      obtain ⟨i1, i2⟩ := cut_index 10 r
      by_cases h : (10 : UInt8) ∈ r
      · obtain ⟨k, g1, g2, g3, g4⟩ := i1 h
        rw [rawL_more h] at h2
        rw [g1]
        have e1 : r.take (k + 1) = cutL 10 r ++ [10] := by
          have hk : (cutL 10 r ++ [(10 : UInt8)]).length = k + 1 := by rw [← g3]; simp; omega
          conv => lhs; rw [cut_join h]
          rw [← hk, List.take_left]
        have hlt := cutR_lt h
        rcases Tdo_cons h2 with ⟨t', rfl, h3⟩ | rfl
        · simp (config := { maxSteps := 1000000 }) (disch := ((try simp only [awL]); omega)) only [QR, QS, QT, QU, QV, QW, QX, QY, QZ, Q0, Q1, Q2, MY_n, ↓awU, awV, awF, Qa, Qb, Qc, Qd, forall_const, ↓reduceIte, ↓reduceDIte, ↓Qe, Qf, Qg, Qh, Qi, Qj, Qk, Ql, Qm, Qn, Qo, Qp, Qq, Qr, Qs, implies_true, Qt, Qu, Qv, Qw, Qx, Qy, Qz, QA, QB, QC, QD, QE, QF, QG, QH, QI, QJ, QK, QL, QM, QN, QO, QP, QQ]
          refine ⟨by rfl, ?_⟩
          rw [e1, g4]
          refine yieldK.by rfl hJ rfl rfl ?_
          simp (config := { maxSteps := 1000000 }) (disch := ((try simp only [awL]); omega)) only [QR, QS, QT, QU, QV, QW, QX, QY, QZ, Q0, Q1, Q2, MY_n, ↓awU, awV, awF, Qa, Qb, Qc, Qd, forall_const, ↓reduceIte, ↓reduceDIte, ↓Qe, Qf, Qg, Qh, Qi, Qj, Qk, Ql, Qm, Qn, Qo, Qp, Qq, Qr, Qs, implies_true, Qt, Qu, Qv, Qw, Qx, Qy, Qz, QA, QB, QC, QD, QE, QF, QG, QH, QI, QJ, QK, QL, QM, QN, QO, QP, QQ]
          exact ⟨(cutR 10 r, t'), ⟨by simp only; omega, h3⟩, hlt, ⟨[some 0, some 1], rfl, by simp, by simp [setsA, keepA, SWeak, AWeak], by simp [HWeak, BWeak, SWeak, AWeak]⟩⟩
        · simp (config := { maxSteps := 1000000 }) (disch := ((try simp only [awL]); omega)) only [QR, QS, QT, QU, QV, QW, QX, QY, QZ, Q0, Q1, Q2, MY_n, ↓awU, awV, awF, Qa, Qb, Qc, Qd, forall_const, ↓reduceIte, ↓reduceDIte, ↓Qe, Qf, Qg, Qh, Qi, Qj, Qk, Ql, Qm, Qn, Qo, Qp, Qq, Qr, Qs, implies_true, Qt, Qu, Qv, Qw, Qx, Qy, Qz, QA, QB, QC, QD, QE, QF, QG, QH, QI, QJ, QK, QL, QM, QN, QO, QP, QQ]
          refine ⟨by rfl, ?_⟩
          rw [e1, g4]
          refine yieldK.by rfl hJ rfl rfl ?_
          simp (config := { maxSteps := 1000000 }) (disch := ((try simp only [awL]); omega)) only [QR, QS, QT, QU, QV, QW, QX, QY, QZ, Q0, Q1, Q2, MY_n, ↓awU, awV, awF, Qa, Qb, Qc, Qd, forall_const, ↓reduceIte, ↓reduceDIte, ↓Qe, Qf, Qg, Qh, Qi, Qj, Qk, Ql, Qm, Qn, Qo, Qp, Qq, Qr, Qs, implies_true, Qt, Qu, Qv, Qw, Qx, Qy, Qz, QA, QB, QC, QD, QE, QF, QG, QH, QI, QJ, QK, QL, QM, QN, QO, QP, QQ]
          exact ⟨[some 0], rfl, by simp, by simp [HWeak, BWeak, SWeak, AWeak], .inl (by simp [AWeak, SWeak])⟩
      · obtain ⟨g1, g2, g3⟩ := i2 h
        rw [rawL_last h hn] at h2
        rw [g1]
        rcases Tdo_cons h2 with ⟨t', rfl, h3⟩ | rfl
        · simp (config := { maxSteps := 1000000 }) (disch := ((try simp only [awL]); omega)) only [QR, QS, QT, QU, QV, QW, QX, QY, QZ, Q0, Q1, Q2, MY_n, ↓awU, awV, awF, Qa, Qb, Qc, Qd, forall_const, ↓reduceIte, ↓reduceDIte, ↓Qe, Qf, Qg, Qh, Qi, Qj, Qk, Ql, Qm, Qn, Qo, Qp, Qq, Qr, Qs, implies_true, Qt, Qu, Qv, Qw, Qx, Qy, Qz, QA, QB, QC, QD, QE, QF, QG, QH, QI, QJ, QK, QL, QM, QN, QO, QP, QQ]
          refine yieldK.by rfl hJ rfl rfl ?_
          simp (config := { maxSteps := 1000000 }) (disch := ((try simp only [awL]); omega)) only [QR, QS, QT, QU, QV, QW, QX, QY, QZ, Q0, Q1, Q2, MY_n, ↓awU, awV, awF, Qa, Qb, Qc, Qd, forall_const, ↓reduceIte, ↓reduceDIte, ↓Qe, Qf, Qg, Qh, Qi, Qj, Qk, Ql, Qm, Qn, Qo, Qp, Qq, Qr, Qs, implies_true, Qt, Qu, Qv, Qw, Qx, Qy, Qz, QA, QB, QC, QD, QE, QF, QG, QH, QI, QJ, QK, QL, QM, QN, QO, QP, QQ]
          exact ⟨([], t'), ⟨by simp, by rw [rawL_nil]; exact h3⟩, hp, ⟨[some 0, some 1], rfl, by simp, by simp [setsA, keepA, SWeak, AWeak], by simp [HWeak, BWeak, SWeak, AWeak]⟩⟩
        · simp (config := { maxSteps := 1000000 }) (disch := ((try simp only [awL]); omega)) only [QR, QS, QT, QU, QV, QW, QX, QY, QZ, Q0, Q1, Q2, MY_n, ↓awU, awV, awF, Qa, Qb, Qc, Qd, forall_const, ↓reduceIte, ↓reduceDIte, ↓Qe, Qf, Qg, Qh, Qi, Qj, Qk, Ql, Qm, Qn, Qo, Qp, Qq, Qr, Qs, implies_true, Qt, Qu, Qv, Qw, Qx, Qy, Qz, QA, QB, QC, QD, QE, QF, QG, QH, QI, QJ, QK, QL, QM, QN, QO, QP, QQ]
          refine yieldK.by rfl hJ rfl rfl ?_
          simp (config := { maxSteps := 1000000 }) (disch := ((try simp only [awL]); omega)) only [QR, QS, QT, QU, QV, QW, QX, QY, QZ, Q0, Q1, Q2, MY_n, ↓awU, awV, awF, Qa, Qb, Qc, Qd, forall_const, ↓reduceIte, ↓reduceDIte, ↓Qe, Qf, Qg, Qh, Qi, Qj, Qk, Ql, Qm, Qn, Qo, Qp, Qq, Qr, Qs, implies_true, Qt, Qu, Qv, Qw, Qx, Qy, Qz, QA, QB, QC, QD, QE, QF, QG, QH, QI, QJ, QK, QL, QM, QN, QO, QP, QQ]
          exact ⟨[some 0], rfl, by simp, by simp [HWeak, BWeak, SWeak, AWeak], .inl (by simp [AWeak, SWeak])⟩
theorem lines0_spec (s : List UInt8) : Ctr Tryd.prog G 44 [.d (S s)] [] (.fn (.func 61) [] [.ptr 0 0]) [.box [.d (S s)]] := by
  refine Ctr.body (M := M0) hmix Tryd.func44 rfl go44 ?_
  simp (config := { maxSteps := 1000000 }) (disch := ((try simp only [awL]); omega)) only [QR, QS, QT, QU, QV, QW, QX, QY, QZ, Q0, Q1, Q2, Tryd.f44, ↓awU, awV, awF, Qa, Qb, Qc, Qd, forall_const, ↓reduceIte, ↓reduceDIte, ↓Qe, Qf, Qg, Qh, Qi, Qj, Qk, Ql, Qm, Qn, Qo, Qp, Qq, Qr, Qs, implies_true, Qt, Qu, Qv, Qw, Qx, Qy, Qz, QA, QB, QC, QD, QE, QF, QG, QH, QI, QJ, QK, QL, QM, QN, QO, QP, QQ]
  exact ⟨[some 0], rfl, by simp, by simp [HWeak, BWeak, SWeak, AWeak], .inl (by simp [AWeak, SWeak])⟩
set_option maxHeartbeats 4000000 in
set_option maxRecDepth 100000 in
theorem lines_spec (s : List UInt8) (hs : s.length ≤ 1000000000) : Ctr Tryd.prog G 25 [.d (S s)] [] (.d (Ss (linesL s) false)) [] := by
  obtain ⟨r, hr⟩ : ∃ r, r = linesL s := ⟨_, rfl⟩
  rw [← hr]
  refine Ctr.pure (M := M0) hmix Tryd.func25 rfl go25 ?_
  obtain ⟨n1, n2⟩ := rawL_len _ s rfl
  have rl : r.length = (rawL s).length := by rw [hr, linesL, List.length_map]
  simp (config := { maxSteps := 1000000 }) (disch := ((try simp only [awL]); omega)) only [QR, QS, QT, QU, QV, QW, QX, QY, QZ, Q0, Q1, Q2, Tryd.f25, ↓awU, awV, awF, Qa, Qb, Qc, Qd, forall_const, ↓reduceIte, ↓reduceDIte, ↓Qe, Qf, Qg, Qh, Qi, Qj, Qk, Ql, Qm, Qn, Qo, Qp, Qq, Qr, Qs, implies_true, Qt, Qu, Qv, Qw, Qx, Qy, Qz, QA, QB, QC, QD, QE, QF, QG, QH, QI, QJ, QK, QL, QM, QN, QO, QP, QQ]
  refine CallC.by (lines0_spec s) rfl rfl (by simp) ?_
  simp (config := { maxSteps := 1000000 }) (disch := ((try simp only [awL]); omega)) only [QR, QS, QT, QU, QV, QW, QX, QY, QZ, Q0, Q1, Q2, ↓awU, awV, awF, Qa, Qb, Qc, Qd, forall_const, ↓reduceIte, ↓reduceDIte, ↓Qe, Qf, Qg, Qh, Qi, Qj, Qk, Ql, Qm, Qn, Qo, Qp, Qq, Qr, Qs, implies_true, Qt, Qu, Qv, Qw, Qx, Qy, Qz, QA, QB, QC, QD, QE, QF, QG, QH, QI, QJ, QK, QL, QM, QN, QO, QP, QQ]
  refine RangeC.all (α := Unit) (lines1_spec s hs) [some 0, none] 0 [(3, .ptr 0 0)] (fun k _ => [.box [.lsl 1 1 0 k], .row false (strs (r.take k))]) (fun k _ => True) rfl rfl rfl rfl rfl rfl rfl (by simp) () trivial (by simp [setsA, keepA, SWeak, AWeak]) (by simp [HWeak, BWeak, SWeak, AWeak, strs]) (fun _ _ => ⟨rfl, rfl⟩) ?_ ?_
  · rintro k d ⟨⟩ hk hd -
    rw [strs_length] at hk
    obtain ⟨y, hy, rfl⟩ := strs_get hd
    have hyl := n2 y (List.mem_of_getElem? hy)
    have e : (r.take k).length = k := by rw [List.length_take]; omega
    have st := @strs_length (r.take k)
    rw [e] at st
    have e2 : strs (r.take k) ++ [D.str (bs (lnF y))] = strs (r.take (k + 1)) := by
      rw [List.take_add_one, hr, linesL, List.getElem?_map, hy]; simp [strs]
    simp only [awK, Nat.reduceMod, Nat.reduceDiv, reduceIte]
    simp (config := { maxSteps := 1000000 }) (disch := ((try simp only [awL]); omega)) only [QR, QS, QT, QU, QV, QW, QX, QY, QZ, Q0, Q1, Q2, st, ↓awU, awV, awF, Qa, Qb, Qc, Qd, forall_const, ↓reduceIte, ↓reduceDIte, ↓Qe, Qf, Qg, Qh, Qi, Qj, Qk, Ql, Qm, Qn, Qo, Qp, Qq, Qr, Qs, implies_true, Qt, Qu, Qv, Qw, Qx, Qy, Qz, QA, QB, QC, QD, QE, QF, QG, QH, QI, QJ, QK, QL, QM, QN, QO, QP, QQ]
    refine CallC.of (cutSuffix_spec y [10] (by omega)) (by rfl) ?_
    cases hb : Lib.hasSuffix y [10]
    · have e3 : lnF y = Lib.trimSuffix y [10] := by simp [lnF, hb]
      rw [e3] at e2
      simp (config := { maxSteps := 1000000 }) (disch := ((try simp only [awL]); omega)) only [QR, QS, QT, QU, QV, QW, QX, QY, QZ, Q0, Q1, Q2, st, ↓awU, awV, awF, Qa, Qb, Qc, Qd, forall_const, ↓reduceIte, ↓reduceDIte, ↓Qe, Qf, Qg, Qh, Qi, Qj, Qk, Ql, Qm, Qn, Qo, Qp, Qq, Qr, Qs, implies_true, Qt, Qu, Qv, Qw, Qx, Qy, Qz, QA, QB, QC, QD, QE, QF, QG, QH, QI, QJ, QK, QL, QM, QN, QO, QP, QQ]
      rw [e2]
      exact RndE.mk (⟨[some 0, some 3], rfl, by simp, by simp [setsA, keepA, SWeak, AWeak], by simp [HWeak, BWeak, SWeak, AWeak]⟩ : Weak 0 _ _ _ [.box [.lsl 1 1 0 (k + 1)], .row false (strs (r.take (k + 1)))]) ⟨(), rfl⟩
    · have e3 : lnF y = Lib.trimSuffix (Lib.trimSuffix y [10]) [13] := by simp [lnF, hb]
      rw [e3] at e2
      simp (config := { maxSteps := 1000000 }) (disch := ((try simp only [awL]); omega)) only [QR, QS, QT, QU, QV, QW, QX, QY, QZ, Q0, Q1, Q2, st, ↓awU, awV, awF, Qa, Qb, Qc, Qd, forall_const, ↓reduceIte, ↓reduceDIte, ↓Qe, Qf, Qg, Qh, Qi, Qj, Qk, Ql, Qm, Qn, Qo, Qp, Qq, Qr, Qs, implies_true, Qt, Qu, Qv, Qw, Qx, Qy, Qz, QA, QB, QC, QD, QE, QF, QG, QH, QI, QJ, QK, QL, QM, QN, QO, QP, QQ]
      refine CallC.of (trimSuffix_spec (Lib.trimSuffix y [10]) [13] (by have := trimS_len y [10]; omega)) (by rfl) ?_
      simp (config := { maxSteps := 1000000 }) (disch := ((try simp only [awL]); omega)) only [QR, QS, QT, QU, QV, QW, QX, QY, QZ, Q0, Q1, Q2, st, ↓awU, awV, awF, Qa, Qb, Qc, Qd, forall_const, ↓reduceIte, ↓reduceDIte, ↓Qe, Qf, Qg, Qh, Qi, Qj, Qk, Ql, Qm, Qn, Qo, Qp, Qq, Qr, Qs, implies_true, Qt, Qu, Qv, Qw, Qx, Qy, Qz, QA, QB, QC, QD, QE, QF, QG, QH, QI, QJ, QK, QL, QM, QN, QO, QP, QQ]
      rw [e2]
      exact RndE.mk (⟨[some 0, some 3], rfl, by simp, by simp [setsA, keepA, SWeak, AWeak], by simp [HWeak, BWeak, SWeak, AWeak]⟩ : Weak 0 _ _ _ [.box [.lsl 1 1 0 (k + 1)], .row false (strs (r.take (k + 1)))]) ⟨(), rfl⟩
  · rintro ⟨⟩ -
    simp only [awK, Nat.reduceMod, Nat.reduceDiv, reduceIte]
    have sl := @strs_length r
    rw [List.take_of_length_le (by rw [strs_length]; omega)]
    simp (config := { maxSteps := 1000000 }) (disch := ((try simp only [awL]); omega)) only [QR, QS, QT, QU, QV, QW, QX, QY, QZ, Q0, Q1, Q2, sl, ↓awU, awV, awF, Qa, Qb, Qc, Qd, forall_const, ↓reduceIte, ↓reduceDIte, ↓Qe, Qf, Qg, Qh, Qi, Qj, Qk, Ql, Qm, Qn, Qo, Qp, Qq, Qr, Qs, implies_true, Qt, Qu, Qv, Qw, Qx, Qy, Qz, QA, QB, QC, QD, QE, QF, QG, QH, QI, QJ, QK, QL, QM, QN, QO, QP, QQ]
    rw [strs_length, ← rl, cut_all (by rw [strs_length])]
end Go.Proofs.YtacepalmphbnfaaDoor

namespace Go.Proofs.YtacepalmphbnfaaDoor
open Go Go.Proofs Go.Abs
variable {G : Globals}
/-! The reference's lines. -/
theorem hasS_snoc (p : List UInt8) (b c : UInt8) : Lib.hasSuffix (p ++ [b]) [c] = (c == b) := by
  simp [Lib.hasSuffix, List.isSuffixOf, List.isPrefixOf]
theorem trimS_snoc (p : List UInt8) (b c : UInt8) : Lib.trimSuffix (p ++ [b]) [c] = if c == b then p else p ++ [b] := by
  simp [Lib.trimSuffix, hasS_snoc]
theorem trimS_nil (c : UInt8) : Lib.trimSuffix [] [c] = [] := by simp [Lib.trimSuffix]
theorem lnF_nl (p : List UInt8) : lnF (p ++ [10]) = Lib.trimSuffix p [13] := by
  simp [lnF, hasS_snoc, trimS_snoc]
theorem lnF_last {p : List UInt8} (h : (10 : UInt8) ∉ p) : lnF p = p := by
  rcases List.eq_nil_or_concat p with rfl | ⟨q, b, rfl⟩
  · simp [lnF, trimS_nil]
  · have hb : ¬ (10 : UInt8) = b := fun e => h (by simp [e])
    simp [lnF, hasS_snoc, trimS_snoc, hb]
theorem cut_at {c : UInt8} : ∀ {t : List UInt8} {k : Nat}, k < t.length → t.getD k 0 = c → c ∉ t.take k → cutL c t = t.take k ∧ cutR c t = t.drop (k + 1) ∧ c ∈ t
  | b :: t, 0, _, h2, _ => by
    simp at h2
    simp [cutL, cutR, h2]
  | b :: t, k + 1, h1, h2, h3 => by
    have hb : ¬ b = c := fun e => h3 (by simp [e])
    obtain ⟨i1, i2, i3⟩ := cut_at (c := c) (t := t) (k := k) (by simpa using h1) (by simpa using h2) (fun hm => h3 (by simp [hm]))
    simp [cutL, cutR, hb, i1, i2, i3]
theorem linesL_nil : linesL [] = [] := by simp [linesL, rawL_nil]
theorem linesL_last {s : List UInt8} (h : (10 : UInt8) ∉ s) (h2 : s ≠ []) : linesL s = [s] := by simp [linesL, rawL_last h h2, lnF_last h]
theorem line_step {s : List UInt8} {a i : Nat} (h1 : a ≤ i) (h2 : i < s.length) (h3 : s.getD i 0 = 10) (h4 : (10 : UInt8) ∉ (s.take i).drop a) :
    linesL (s.drop a) = Lib.trimSuffix ((s.take i).drop a) [13] :: linesL (s.drop (i + 1)) := by
  have e : (s.drop a).take (i - a) = (s.take i).drop a := by rw [List.drop_take]
  obtain ⟨c1, c2, c3⟩ := cut_at (c := 10) (t := s.drop a) (k := i - a) (by simp; omega) (by
    rw [List.getD_eq_getElem?_getD, List.getElem?_drop, show a + (i - a) = i by omega, ← List.getD_eq_getElem?_getD]; exact h3) (by rw [e]; exact h4)
  rw [linesL, rawL_more c3, List.map_cons, c1, c2, e, lnF_nl, List.drop_drop, show a + (i - a + 1) = i + 1 by omega]
  rfl
theorem take_snoc {s : List UInt8} {a i : Nat} (h1 : a ≤ i) (h2 : i < s.length) : (s.take (i + 1)).drop a = (s.take i).drop a ++ [s.getD i 0] := by
  rw [List.take_add_one, List.drop_append_of_le_length (by simp; omega), List.getElem?_eq_getElem h2, List.getD_eq_getElem?_getD, List.getElem?_eq_getElem h2]
  rfl
set_option maxHeartbeats 4000000 in
set_option maxRecDepth 100000 in
theorem rlines_spec (s : List UInt8) (hs : s.length ≤ 1000000000) : Ctr Tryd.prog G 11 [.d (S s)] [] (.d (Ss (linesL s) false)) [] := by
  obtain ⟨r, hr⟩ : ∃ r, r = linesL s := ⟨_, rfl⟩
  rw [← hr]
  refine Ctr.pure (M := M0) hmix Tryd.func11 rfl go11 ?_
  simp (config := { maxSteps := 1000000 }) (disch := ((try simp only [awL]); omega)) only [QR, QS, QT, QU, QV, QW, QX, QY, QZ, Q0, Q1, Q2, Tryd.f11, ↓awU, awV, awF, Qa, Qb, Qc, Qd, forall_const, ↓reduceIte, ↓reduceDIte, ↓Qe, Qf, Qg, Qh, Qi, Qj, Qk, Ql, Qm, Qn, Qo, Qp, Qq, Qr, Qs, implies_true, Qt, Qu, Qv, Qw, Qx, Qy, Qz, QA, QB, QC, QD, QE, QF, QG, QH, QI, QJ, QK, QL, QM, QN, QO, QP, QQ]
  refine LoopC.fr 1 (α := Row × Nat × Nat) (fun x => s.length - x.2.2) (fun x => [(3, .lsl 0 1 0 x.1.length), (4, .d (.int .i64 x.2.1)), (5, .d (.int .i64 x.2.2))]) (fun x => [.row false (strs x.1)])
    (fun x => x.2.1 ≤ x.2.2 ∧ x.2.2 ≤ s.length ∧ (10 : UInt8) ∉ (s.take x.2.2).drop x.2.1 ∧ r = x.1 ++ linesL (s.drop x.2.1) ∧ x.1.length ≤ x.2.1) ([], 0, 0) ⟨Nat.le_refl _, Nat.zero_le _, by simp, by simp [hr], Nat.le_refl _⟩ ?_ ?_
  · exact ⟨[none], rfl, by simp, by simp [setsA, keepA, SWeak, AWeak], by simp [HWeak, BWeak, SWeak, AWeak, strs]⟩
  · rintro ⟨acc, a, i⟩ ⟨h1, h2, h3, h4, h5⟩
    simp only at h1 h2 h3 h4 h5
    have al := @strs_length acc
    simp only [awK, Nat.reduceMod, Nat.reduceDiv, reduceIte]
    rcases Nat.lt_or_ge i s.length with h | h
    · by_cases hc : s.getD i 0 = 10
      · have hstep := line_step h1 h hc h3
        have hcn : (s.getD i 0).toNat = 10 := by rw [hc]; rfl
        rcases Nat.lt_or_ge a i with h6 | h6
        · have ij : ((i : Int) - 1) = ((i - 1 : Nat) : Int) := by omega
          have tk : (s.take i).drop a = (s.take (i - 1)).drop a ++ [s.getD (i - 1) 0] := by
            have := take_snoc (s := s) (a := a) (i := i - 1) (by omega) (by omega)
            rwa [show i - 1 + 1 = i by omega] at this
          rw [tk, trimS_snoc] at hstep
          by_cases h7 : s.getD (i - 1) 0 = 13
          · have h7n : (s.getD (i - 1) 0).toNat = 13 := by rw [h7]; rfl
            rw [h7] at hstep
            simp only [BEq.rfl, if_true] at hstep
            simp (config := { maxSteps := 1000000 }) (disch := ((try simp only [awL]); omega)) only [QR, QS, QT, QU, QV, QW, QX, QY, QZ, Q0, Q1, Q2, al, hcn, ij, h7n, ↓awU, awV, awF, Qa, Qb, Qc, Qd, forall_const, ↓reduceIte, ↓reduceDIte, ↓Qe, Qf, Qg, Qh, Qi, Qj, Qk, Ql, Qm, Qn, Qo, Qp, Qq, Qr, Qs, implies_true, Qt, Qu, Qv, Qw, Qx, Qy, Qz, QA, QB, QC, QD, QE, QF, QG, QH, QI, QJ, QK, QL, QM, QN, QO, QP, QQ]
            rw [strs_push]
            exact ⟨(acc ++ [(s.take (i - 1)).drop a], i + 1, i + 1), ⟨Nat.le_refl _, h, by simp, by simp only; rw [h4, hstep]; simp, by simp; omega⟩, by simp only; omega, ⟨[some 2], rfl, by simp, by simp [setsA, keepA, SWeak, AWeak], by simp [HWeak, BWeak, SWeak, AWeak]⟩⟩
          · have h7n : ¬ (s.getD (i - 1) 0).toNat = 13 := fun e => h7 (UInt8.toNat_inj.1 e)
            rw [if_neg (by intro e; exact h7 (beq_iff_eq.1 e).symm), ← tk] at hstep
            simp (config := { maxSteps := 1000000 }) (disch := ((try simp only [awL]); omega)) only [QR, QS, QT, QU, QV, QW, QX, QY, QZ, Q0, Q1, Q2, al, hcn, ij, h7n, ↓awU, awV, awF, Qa, Qb, Qc, Qd, forall_const, ↓reduceIte, ↓reduceDIte, ↓Qe, Qf, Qg, Qh, Qi, Qj, Qk, Ql, Qm, Qn, Qo, Qp, Qq, Qr, Qs, implies_true, Qt, Qu, Qv, Qw, Qx, Qy, Qz, QA, QB, QC, QD, QE, QF, QG, QH, QI, QJ, QK, QL, QM, QN, QO, QP, QQ]
            rw [strs_push]
            exact ⟨(acc ++ [(s.take i).drop a], i + 1, i + 1), ⟨Nat.le_refl _, h, by simp, by simp only; rw [h4, hstep]; simp, by simp; omega⟩, by simp only; omega, ⟨[some 2], rfl, by simp, by simp [setsA, keepA, SWeak, AWeak], by simp [HWeak, BWeak, SWeak, AWeak]⟩⟩
        · have e0 : (s.take i).drop a = [] := by rw [show i = a by omega, List.drop_eq_nil_iff]; simp; omega
          rw [e0, trimS_nil, ← e0] at hstep
          simp (config := { maxSteps := 1000000 }) (disch := ((try simp only [awL]); omega)) only [QR, QS, QT, QU, QV, QW, QX, QY, QZ, Q0, Q1, Q2, al, hcn, ↓awU, awV, awF, Qa, Qb, Qc, Qd, forall_const, ↓reduceIte, ↓reduceDIte, ↓Qe, Qf, Qg, Qh, Qi, Qj, Qk, Ql, Qm, Qn, Qo, Qp, Qq, Qr, Qs, implies_true, Qt, Qu, Qv, Qw, Qx, Qy, Qz, QA, QB, QC, QD, QE, QF, QG, QH, QI, QJ, QK, QL, QM, QN, QO, QP, QQ]
          rw [strs_push]
          exact ⟨(acc ++ [(s.take i).drop a], i + 1, i + 1), ⟨Nat.le_refl _, h, by simp, by simp only; rw [h4, hstep]; simp, by simp; omega⟩, by simp only; omega, ⟨[some 2], rfl, by simp, by simp [setsA, keepA, SWeak, AWeak], by simp [HWeak, BWeak, SWeak, AWeak]⟩⟩
      · have hcn : ¬ (s.getD i 0).toNat = 10 := fun e => hc (UInt8.toNat_inj.1 e)
        have nx : (10 : UInt8) ∉ (s.take (i + 1)).drop a := by
          rw [take_snoc h1 h, List.mem_append]
          rintro (x | x)
          · exact h3 x
          · exact hc (List.mem_singleton.1 x).symm
        simp (config := { maxSteps := 1000000 }) (disch := ((try simp only [awL]); omega)) only [QR, QS, QT, QU, QV, QW, QX, QY, QZ, Q0, Q1, Q2, al, hcn, ↓awU, awV, awF, Qa, Qb, Qc, Qd, forall_const, ↓reduceIte, ↓reduceDIte, ↓Qe, Qf, Qg, Qh, Qi, Qj, Qk, Ql, Qm, Qn, Qo, Qp, Qq, Qr, Qs, implies_true, Qt, Qu, Qv, Qw, Qx, Qy, Qz, QA, QB, QC, QD, QE, QF, QG, QH, QI, QJ, QK, QL, QM, QN, QO, QP, QQ]
        exact ⟨(acc, a, i + 1), ⟨by simp only; omega, by simp only; omega, nx, h4, h5⟩, by simp only; omega, ⟨[some 0], rfl, by simp, by simp [setsA, keepA, SWeak, AWeak], by simp [HWeak, BWeak, SWeak, AWeak]⟩⟩
    · have hi : i = s.length := by omega
      subst hi
      rw [List.take_of_length_le (Nat.le_refl _)] at h3
      rcases Nat.lt_or_ge a s.length with h6 | h6
      · rw [linesL_last h3 (by intro e; have := congrArg List.length e; simp at this; omega)] at h4
        have rl : r.length = acc.length + 1 := by rw [h4]; simp
        simp (config := { maxSteps := 1000000 }) (disch := ((try simp only [awL]); omega)) only [QR, QS, QT, QU, QV, QW, QX, QY, QZ, Q0, Q1, Q2, al, ↓awU, awV, awF, Qa, Qb, Qc, Qd, forall_const, ↓reduceIte, ↓reduceDIte, ↓Qe, Qf, Qg, Qh, Qi, Qj, Qk, Ql, Qm, Qn, Qo, Qp, Qq, Qr, Qs, implies_true, Qt, Qu, Qv, Qw, Qx, Qy, Qz, QA, QB, QC, QD, QE, QF, QG, QH, QI, QJ, QK, QL, QM, QN, QO, QP, QQ]
        rw [strs_push, ← h4, ← rl, cut_all (by rw [strs_length])]
      · rw [List.drop_of_length_le h6, linesL_nil, List.append_nil] at h4
        simp (config := { maxSteps := 1000000 }) (disch := ((try simp only [awL]); omega)) only [QR, QS, QT, QU, QV, QW, QX, QY, QZ, Q0, Q1, Q2, al, ↓awU, awV, awF, Qa, Qb, Qc, Qd, forall_const, ↓reduceIte, ↓reduceDIte, ↓Qe, Qf, Qg, Qh, Qi, Qj, Qk, Ql, Qm, Qn, Qo, Qp, Qq, Qr, Qs, implies_true, Qt, Qu, Qv, Qw, Qx, Qy, Qz, QA, QB, QC, QD, QE, QF, QG, QH, QI, QJ, QK, QL, QM, QN, QO, QP, QQ]
        rw [← h4, cut_all (by rw [strs_length])]
end Go.Proofs.YtacepalmphbnfaaDoor

namespace Go.Proofs.YtacepalmphbnfaaDoor
open Go Go.Proofs Go.Abs
variable {G : Globals}
/-! The places of a text's code points; fixed.offsets. -/
abbrev Is (l : List Int) : D := .sl l.length false (ints .i64 l)
theorem dec_end (l : List UInt8) (p : Nat) (h : p < l.length) : p < p + (dec l p).2 ∧ p + (dec l p).2 ≤ l.length := by
  rcases decw l p h with ⟨_, e⟩ | ⟨_, h1, h2, _⟩
  · rw [e]; simp only; omega
  · omega
/-- The places of the code points from one on. -/
def posF (l : List UInt8) (p : Nat) : List Int :=
  if h : p < l.length then (p : Int) :: posF l (p + (dec l p).2) else []
termination_by l.length - p
decreasing_by have := dec_end l p h; omega
theorem posF_more {l : List UInt8} {p : Nat} (h : p < l.length) : posF l p = (p : Int) :: posF l (p + (dec l p).2) := by rw [posF, dif_pos h]
theorem posF_end {l : List UInt8} {p : Nat} (h : ¬ p < l.length) : posF l p = [] := by rw [posF, dif_neg h]
theorem posF_len : ∀ (n : Nat) (l : List UInt8) (p : Nat), l.length - p = n → (posF l p).length ≤ n := by
  intro n
  induction n using Nat.strongRecOn with
  | _ n ih =>
    intro l p hn
    by_cases h : p < l.length
    · rw [posF_more h, List.length_cons]
      have := dec_end l p h
      have := ih _ (by omega) l (p + (dec l p).2) rfl
      omega
    · rw [posF_end h]; simp
theorem posF_bound : ∀ (n : Nat) (l : List UInt8) (p : Nat), l.length - p = n → ∀ c ∈ posF l p, (p : Int) ≤ c ∧ c < l.length := by
  intro n
  induction n using Nat.strongRecOn with
  | _ n ih =>
    intro l p hn c hc
    by_cases h : p < l.length
    · rw [posF_more h] at hc
      have hd := dec_end l p h
      rcases List.mem_cons.1 hc with rfl | hc
      · omega
      · have := ih _ (by omega) l (p + (dec l p).2) rfl c hc
        omega
    · rw [posF_end h] at hc; cases hc
theorem ints_snoc {k : IntKind} {a : List Int} {x : Int} : ints k a ++ [D.int k x] = ints k (a ++ [x]) := by simp [ints]
/-- The places of all, and the length. -/
def offL (l : List UInt8) : List Int := posF l 0 ++ [(l.length : Int)]
set_option maxHeartbeats 4000000 in
set_option maxRecDepth 100000 in
theorem offsets_spec (l : List UInt8) (hl : l.length ≤ 1000000000) : Ctr Tryd.prog G 48 [.d (S l)] [] (.d (Is (offL l))) [] := by
  obtain ⟨r, hr⟩ : ∃ r, r = offL l := ⟨_, rfl⟩
  rw [← hr]
  refine Ctr.pure (M := M0) hmix Tryd.func48 rfl go48 ?_
  simp (config := { maxSteps := 1000000 }) (disch := ((try simp only [awL]); omega)) only [QR, QS, QT, QU, QV, QW, QX, QY, QZ, Q0, Q1, Q2, Tryd.f48, ↓awU, awV, awF, Qa, Qb, Qc, Qd, forall_const, ↓reduceIte, ↓reduceDIte, ↓Qe, Qf, Qg, Qh, Qi, Qj, Qk, Ql, Qm, Qn, Qo, Qp, Qq, Qr, Qs, implies_true, Qt, Qu, Qv, Qw, Qx, Qy, Qz, QA, QB, QC, QD, QE, QF, QG, QH, QI, QJ, QK, QL, QM, QN, QO, QP, QQ]
  refine LoopC.fr 65 (α := Nat × List Int) (fun x => l.length - x.1) (fun x => [(3, .lsl 1 1 0 x.2.length)])
    (fun x => [.iter (bs l) x.1, .row false (ints .i64 x.2)]) (fun x => x.1 ≤ l.length ∧ r = x.2 ++ posF l x.1 ++ [(l.length : Int)] ∧ x.2.length ≤ x.1) (0, []) ⟨Nat.zero_le _, hr, Nat.le_refl _⟩ ?_ ?_
  · exact ⟨[some 0, none], rfl, by simp, by simp [setsA, keepA, SWeak, AWeak], by simp [HWeak, BWeak, SWeak, AWeak, ints, nats]⟩
  · rintro ⟨p, pre⟩ ⟨h1, h2, h3⟩
    simp only at h1 h2 h3
    have il := @ints_length .i64 pre
    simp only [awK, Nat.reduceMod, Nat.reduceDiv, reduceIte]
    rcases Nat.lt_or_ge p l.length with h | h
    · have hd := dec_end l p h
      simp (config := { maxSteps := 1000000 }) (disch := ((try simp only [awL]); omega)) only [QR, QS, QT, QU, QV, QW, QX, QY, QZ, Q0, Q1, Q2, il, ↓awU, awV, awF, Qa, Qb, Qc, Qd, forall_const, ↓reduceIte, ↓reduceDIte, ↓Qe, Qf, Qg, Qh, Qi, Qj, Qk, Ql, Qm, Qn, Qo, Qp, Qq, Qr, Qs, implies_true, Qt, Qu, Qv, Qw, Qx, Qy, Qz, QA, QB, QC, QD, QE, QF, QG, QH, QI, QJ, QK, QL, QM, QN, QO, QP, QQ]
      exact ⟨(p + (dec l p).2, pre ++ [(p : Int)]), ⟨hd.2, by simp only; rw [h2, posF_more h]; simp, by simp; omega⟩, by simp only; omega, ⟨[some 0, some 3], rfl, by simp, by simp [setsA, keepA, SWeak, AWeak], by simp [HWeak, BWeak, SWeak, AWeak, ints, nats]⟩⟩
    · rw [posF_end (by omega), List.append_nil] at h2
      have rl : r.length = pre.length + 1 := by rw [h2]; simp
      simp (config := { maxSteps := 1000000 }) (disch := ((try simp only [awL]); omega)) only [QR, QS, QT, QU, QV, QW, QX, QY, QZ, Q0, Q1, Q2, il, ↓awU, awV, awF, Qa, Qb, Qc, Qd, forall_const, ↓reduceIte, ↓reduceDIte, ↓Qe, Qf, Qg, Qh, Qi, Qj, Qk, Ql, Qm, Qn, Qo, Qp, Qq, Qr, Qs, implies_true, Qt, Qu, Qv, Qw, Qx, Qy, Qz, QA, QB, QC, QD, QE, QF, QG, QH, QI, QJ, QK, QL, QM, QN, QO, QP, QQ]
      rw [ints_snoc, ← h2, ← rl, cut_all (by rw [ints_length])]
/-- The place of the k-th code point, or the end. -/
def offA (l : List UInt8) (k : Nat) : Nat := ((offL l).getD (min k (posF l 0).length) 0).toNat
theorem offL_len (l : List UInt8) : (offL l).length = (posF l 0).length + 1 := by simp [offL]
theorem offA_eq (l : List UInt8) (k : Nat) : (offL l).getD (min k (posF l 0).length) 0 = (offA l k : Int) ∧ offA l k ≤ l.length := by
  have hb := posF_bound _ l 0 rfl
  have : ∀ c ∈ offL l, 0 ≤ c ∧ c ≤ l.length := fun c hc => by
    rcases List.mem_append.1 hc with h | h
    · have := hb c h; omega
    · simp at h; omega
  have hm := this ((offL l).getD (min k (posF l 0).length) 0) (memD (by rw [offL_len]; omega))
  unfold offA
  omega
/-- The field between two places. -/
def cell1 (l : List UInt8) (a b : Nat) : List UInt8 := Lib.trimB ((l.take b).drop a) 32
def fldAt (lay : List Nat) (l : List UInt8) (i : Nat) : List UInt8 :=
  cell1 l (offA l (lay.getD i 0)) (if i + 1 < lay.length then offA l (lay.getD (i + 1) 0) else l.length)
def fldsL (lay : List Nat) (l : List UInt8) : Row := (List.range lay.length).map (fldAt lay l)
set_option maxRecDepth 100000 in
theorem offset_spec (l : List UInt8) (full : Bool) (k : Nat) (hl : l.length ≤ 1000000000) (hk : k ≤ 1000000000) :
    Ctr Tryd.prog G 49 [.d (.int .i64 k), .ptr 0 0] [.box [.d (.sl (offL l).length full (ints .i64 (offL l)))]] (.d (.int .i64 (offA l k))) [.box [.d (.sl (offL l).length full (ints .i64 (offL l)))]] := by
  refine Ctr.body (M := M0) hmix Tryd.func49 rfl go49 ?_
  have ol := offL_len l
  have pl := posF_len _ l 0 rfl
  have il := @ints_length .i64 (offL l)
  obtain ⟨e1, e2⟩ := offA_eq l k
  have hmin : min k (posF l 0).length < (offL l).length := by rw [ol]; omega
  have g := ints_getD (k := .i64) (d := .nilp) hmin
  rw [e1] at g
  simp (config := { maxSteps := 1000000 }) (disch := ((try simp only [awL]); omega)) only [QR, QS, QT, QU, QV, QW, QX, QY, QZ, Q0, Q1, Q2, il, ol, g, Tryd.f49, ↓awU, awV, awF, Qa, Qb, Qc, Qd, forall_const, ↓reduceIte, ↓reduceDIte, ↓Qe, Qf, Qg, Qh, Qi, Qj, Qk, Ql, Qm, Qn, Qo, Qp, Qq, Qr, Qs, implies_true, Qt, Qu, Qv, Qw, Qx, Qy, Qz, QA, QB, QC, QD, QE, QF, QG, QH, QI, QJ, QK, QL, QM, QN, QO, QP, QQ]
  exact ⟨[some 0], rfl, by simp, by simp [HWeak, BWeak, SWeak, AWeak], .inl (by simp [AWeak, SWeak])⟩
end Go.Proofs.YtacepalmphbnfaaDoor

namespace Go.Proofs.YtacepalmphbnfaaDoor
open Go Go.Proofs Go.Abs
variable {G : Globals}
/-! The fields of a line: fixed.fields and its closures. -/
abbrev Ns (l : List Nat) (full : Bool) : D := .sl l.length full (nats .i64 l)
theorem fields_spec (lay : List Nat) (full : Bool) (l : List UInt8) (hl : l.length ≤ 1000000000) :
    Ctr Tryd.prog G 28 [.d (Ns lay full), .d (S l)] [] (.fn (.func 50) [] [.ptr 0 0, .ptr 1 0, .ptr 3 0])
      [.box [.d (Ns lay full)], .box [.d (S l)], .box [.d (Is (offL l))], .box [.fn (.func 49) [] [.ptr 2 0]]] := by
  refine Ctr.body (M := M0) hmix Tryd.func28 rfl go28 ?_
  simp (config := { maxSteps := 1000000 }) (disch := ((try simp only [awL]); omega)) only [QR, QS, QT, QU, QV, QW, QX, QY, QZ, Q0, Q1, Q2, Ns, Tryd.f28, ↓awU, awV, awF, Qa, Qb, Qc, Qd, forall_const, ↓reduceIte, ↓reduceDIte, ↓Qe, Qf, Qg, Qh, Qi, Qj, Qk, Ql, Qm, Qn, Qo, Qp, Qq, Qr, Qs, implies_true, Qt, Qu, Qv, Qw, Qx, Qy, Qz, QA, QB, QC, QD, QE, QF, QG, QH, QI, QJ, QK, QL, QM, QN, QO, QP, QQ]
  refine CallC.pure (offsets_spec l hl) ?_
  simp (config := { maxSteps := 1000000 }) (disch := ((try simp only [awL]); omega)) only [QR, QS, QT, QU, QV, QW, QX, QY, QZ, Q0, Q1, Q2, Ns, ↓awU, awV, awF, Qa, Qb, Qc, Qd, forall_const, ↓reduceIte, ↓reduceDIte, ↓Qe, Qf, Qg, Qh, Qi, Qj, Qk, Ql, Qm, Qn, Qo, Qp, Qq, Qr, Qs, implies_true, Qt, Qu, Qv, Qw, Qx, Qy, Qz, QA, QB, QC, QD, QE, QF, QG, QH, QI, QJ, QK, QL, QM, QN, QO, QP, QQ]
  exact ⟨[some 0, some 1, some 2, some 3], rfl, by simp, by simp [HWeak, BWeak, SWeak, AWeak], .inl (by simp [AWeak, SWeak])⟩
theorem posF_sorted : ∀ (n : Nat) (l : List UInt8) (p : Nat), l.length - p = n → (posF l p).Pairwise (· ≤ ·) := by
  intro n
  induction n using Nat.strongRecOn with
  | _ n ih =>
    intro l p hn
    by_cases h : p < l.length
    · have hd := dec_end l p h
      rw [posF_more h]
      refine List.pairwise_cons.2 ⟨fun c hc => ?_, ih _ (by omega) l _ rfl⟩
      have := posF_bound _ l _ rfl c hc
      omega
    · rw [posF_end h]; exact .nil
theorem offL_sorted (l : List UInt8) : (offL l).Pairwise (· ≤ ·) := by
  refine List.pairwise_append.2 ⟨posF_sorted _ l 0 rfl, by simp, fun a ha b hb => ?_⟩
  have := posF_bound _ l 0 rfl a ha
  simp at hb
  omega
theorem offA_mono (l : List UInt8) {a b : Nat} (h : a ≤ b) : offA l a ≤ offA l b := by
  obtain ⟨e1, _⟩ := offA_eq l a
  obtain ⟨e2, _⟩ := offA_eq l b
  have ol := offL_len l
  have hs := offL_sorted l
  have h1 : min a (posF l 0).length < (offL l).length := by omega
  have h2 : min b (posF l 0).length < (offL l).length := by omega
  rw [List.getD_eq_getElem?_getD, List.getElem?_eq_getElem h1] at e1
  rw [List.getD_eq_getElem?_getD, List.getElem?_eq_getElem h2] at e2
  simp only [Option.getD_some] at e1 e2
  rcases Nat.lt_or_ge (min a (posF l 0).length) (min b (posF l 0).length) with h3 | h3
  · have := List.pairwise_iff_getElem.1 hs _ _ h1 h2 h3
    omega
  · have : min a (posF l 0).length = min b (posF l 0).length := by omega
    unfold offA
    rw [this]
    exact Nat.le_refl _
/-- Numbers that ascend, none of them great. -/
def Lay (lay : List Nat) : Prop := lay.length ≤ 1000000 ∧ (∀ i, i < lay.length → lay.getD i 0 ≤ 1000000000) ∧ ∀ i, i + 1 < lay.length → lay.getD i 0 ≤ lay.getD (i + 1) 0
theorem fldsL_at {lay : List Nat} {l : List UInt8} {i : Nat} (h : i < lay.length) : (strs (fldsL lay l)).drop i = S (fldAt lay l i) :: (strs (fldsL lay l)).drop (i + 1) := by
  rw [List.drop_eq_getElem_cons (by simp [strs, fldsL]; exact h)]
  simp [strs, fldsL]
set_option maxHeartbeats 8000000 in
set_option maxRecDepth 100000 in
theorem fields2_spec (lay : List Nat) (full : Bool) (l : List UInt8) (hlay : Lay lay) (hl : l.length ≤ 1000000000) :
    IterC Tryd.prog G 50 [.ptr 1 0, .ptr 2 0, .ptr 3 0] [.box [.d (Ns lay full)], .box [.d (S l)], .box [.fn (.func 49) [] [.ptr 4 0]], .box [.d (Is (offL l))]] (strs (fldsL lay l)) := by
  obtain ⟨b1, b2, b3⟩ := hlay
  refine IterC.body (M := MY) hmix Tryd.func50 rfl go50 ?_
  intro lp J todo hJ hT
  simp (config := { maxSteps := 1000000 }) (disch := ((try simp only [awL]); omega)) only [QR, QS, QT, QU, QV, QW, QX, QY, QZ, Q0, Q1, Q2, Ns, MY_n, Tryd.f50, ↓awU, awV, awF, Qa, Qb, Qc, Qd, forall_const, ↓reduceIte, ↓reduceDIte, ↓Qe, Qf, Qg, Qh, Qi, Qj, Qk, Ql, Qm, Qn, Qo, Qp, Qq, Qr, Qs, implies_true, Qt, Qu, Qv, Qw, Qx, Qy, Qz, QA, QB, QC, QD, QE, QF, QG, QH, QI, QJ, QK, QL, QM, QN, QO, QP, QQ]
  refine LoopC.fr 783 (α := Nat × List (D × Bool)) (fun x => lay.length - x.1) (fun x => [(10, .d (.int .i64 x.1))]) (fun x => [.ext J x.2, .box [.d (Ns lay full)], .box [.d (S l)], .box [.fn (.func 49) [] [.ptr 4 0]], .box [.d (Is (offL l))]])
    (fun x => x.1 ≤ lay.length ∧ Tdo ((strs (fldsL lay l)).drop x.1) x.2) (0, todo) ⟨Nat.zero_le _, hT⟩ ?_ ?_
  · exact ⟨[some 0, some 1, some 2, some 3, some 4], rfl, by simp, by simp [setsA, keepA, SWeak, AWeak], by simp [HWeak, BWeak, SWeak, AWeak]⟩
  · rintro ⟨i, t⟩ ⟨h1, h2⟩
    simp only at h1 h2
    simp only [awK, Nat.reduceMod, Nat.reduceDiv, reduceIte]
    rcases Nat.lt_or_ge i lay.length with h | h
    · rw [fldsL_at h] at h2
      have g0 := nats_getD (k := .i64) (d := .nilp) h
      have c0 := b2 i h
      rcases Nat.lt_or_ge (i + 1) lay.length with h3 | h3
      · have g1 := nats_getD (k := .i64) (d := .nilp) h3
        have c1 := b2 _ h3
        have m1 := offA_mono l (b3 i h3)
        have m2 := (offA_eq l (lay.getD (i + 1) 0)).2
        have fe : fldAt lay l i = Lib.trimB ((l.take (offA l (lay.getD (i + 1) 0))).drop (offA l (lay.getD i 0))) 32 := by rw [fldAt, cell1, if_pos h3]
        rcases Tdo_cons h2 with ⟨t', rfl, h4⟩ | rfl
        · simp (config := { maxSteps := 1000000 }) (disch := ((try simp only [awL]); omega)) only [QR, QS, QT, QU, QV, QW, QX, QY, QZ, Q0, Q1, Q2, Ns, g0, g1, MY_n, ↓awU, awV, awF, Qa, Qb, Qc, Qd, forall_const, ↓reduceIte, ↓reduceDIte, ↓Qe, Qf, Qg, Qh, Qi, Qj, Qk, Ql, Qm, Qn, Qo, Qp, Qq, Qr, Qs, implies_true, Qt, Qu, Qv, Qw, Qx, Qy, Qz, QA, QB, QC, QD, QE, QF, QG, QH, QI, QJ, QK, QL, QM, QN, QO, QP, QQ]
          refine CallC.keep [4] (offset_spec l false (lay.getD (i + 1) 0) hl c1) (by rfl) (by rfl) (by simp) (by simp [callEff, outW, outN, frz]) (by simp [callEff, outW, outN, renB, renL, renA, frz]) ?_
          simp (config := { maxSteps := 1000000 }) (disch := ((try simp only [awL]); omega)) only [QR, QS, QT, QU, QV, QW, QX, QY, QZ, Q0, Q1, Q2, Ns, g0, g1, MY_n, ↓awU, awV, awF, Qa, Qb, Qc, Qd, forall_const, ↓reduceIte, ↓reduceDIte, ↓Qe, Qf, Qg, Qh, Qi, Qj, Qk, Ql, Qm, Qn, Qo, Qp, Qq, Qr, Qs, implies_true, Qt, Qu, Qv, Qw, Qx, Qy, Qz, QA, QB, QC, QD, QE, QF, QG, QH, QI, QJ, QK, QL, QM, QN, QO, QP, QQ]
          refine ⟨by rfl, ?_⟩
          refine CallC.keep [4] (offset_spec l false (lay.getD i 0) hl c0) (by rfl) (by rfl) (by simp) (by simp [callEff, outW, outN, frz]) (by simp [callEff, outW, outN, renB, renL, renA, frz]) ?_
          simp (config := { maxSteps := 1000000 }) (disch := ((try simp only [awL]); omega)) only [QR, QS, QT, QU, QV, QW, QX, QY, QZ, Q0, Q1, Q2, Ns, g0, g1, MY_n, ↓awU, awV, awF, Qa, Qb, Qc, Qd, forall_const, ↓reduceIte, ↓reduceDIte, ↓Qe, Qf, Qg, Qh, Qi, Qj, Qk, Ql, Qm, Qn, Qo, Qp, Qq, Qr, Qs, implies_true, Qt, Qu, Qv, Qw, Qx, Qy, Qz, QA, QB, QC, QD, QE, QF, QG, QH, QI, QJ, QK, QL, QM, QN, QO, QP, QQ]
          refine CallC.of (ttrim_spec ((l.take (offA l (lay.getD (i + 1) 0))).drop (offA l (lay.getD i 0))) (by simp; omega)) (by rfl) ?_
          simp (config := { maxSteps := 1000000 }) (disch := ((try simp only [awL]); omega)) only [QR, QS, QT, QU, QV, QW, QX, QY, QZ, Q0, Q1, Q2, Ns, g0, g1, MY_n, ↓awU, awV, awF, Qa, Qb, Qc, Qd, forall_const, ↓reduceIte, ↓reduceDIte, ↓Qe, Qf, Qg, Qh, Qi, Qj, Qk, Ql, Qm, Qn, Qo, Qp, Qq, Qr, Qs, implies_true, Qt, Qu, Qv, Qw, Qx, Qy, Qz, QA, QB, QC, QD, QE, QF, QG, QH, QI, QJ, QK, QL, QM, QN, QO, QP, QQ]
          rw [← fe]
          refine yieldK.by rfl hJ rfl rfl ?_
          simp (config := { maxSteps := 1000000 }) (disch := ((try simp only [awL]); omega)) only [QR, QS, QT, QU, QV, QW, QX, QY, QZ, Q0, Q1, Q2, Ns, g0, g1, MY_n, ↓awU, awV, awF, Qa, Qb, Qc, Qd, forall_const, ↓reduceIte, ↓reduceDIte, ↓Qe, Qf, Qg, Qh, Qi, Qj, Qk, Ql, Qm, Qn, Qo, Qp, Qq, Qr, Qs, implies_true, Qt, Qu, Qv, Qw, Qx, Qy, Qz, QA, QB, QC, QD, QE, QF, QG, QH, QI, QJ, QK, QL, QM, QN, QO, QP, QQ]
          refine ⟨by rfl, ?_⟩
          exact ⟨(i + 1, t'), ⟨h, h4⟩, by simp only; omega, ⟨[some 0, some 1, some 2, some 3, some 4], rfl, by simp, by simp [setsA, keepA, SWeak, AWeak], by simp [HWeak, BWeak, SWeak, AWeak]⟩⟩
        · simp (config := { maxSteps := 1000000 }) (disch := ((try simp only [awL]); omega)) only [QR, QS, QT, QU, QV, QW, QX, QY, QZ, Q0, Q1, Q2, Ns, g0, g1, MY_n, ↓awU, awV, awF, Qa, Qb, Qc, Qd, forall_const, ↓reduceIte, ↓reduceDIte, ↓Qe, Qf, Qg, Qh, Qi, Qj, Qk, Ql, Qm, Qn, Qo, Qp, Qq, Qr, Qs, implies_true, Qt, Qu, Qv, Qw, Qx, Qy, Qz, QA, QB, QC, QD, QE, QF, QG, QH, QI, QJ, QK, QL, QM, QN, QO, QP, QQ]
          refine CallC.keep [4] (offset_spec l false (lay.getD (i + 1) 0) hl c1) (by rfl) (by rfl) (by simp) (by simp [callEff, outW, outN, frz]) (by simp [callEff, outW, outN, renB, renL, renA, frz]) ?_
          simp (config := { maxSteps := 1000000 }) (disch := ((try simp only [awL]); omega)) only [QR, QS, QT, QU, QV, QW, QX, QY, QZ, Q0, Q1, Q2, Ns, g0, g1, MY_n, ↓awU, awV, awF, Qa, Qb, Qc, Qd, forall_const, ↓reduceIte, ↓reduceDIte, ↓Qe, Qf, Qg, Qh, Qi, Qj, Qk, Ql, Qm, Qn, Qo, Qp, Qq, Qr, Qs, implies_true, Qt, Qu, Qv, Qw, Qx, Qy, Qz, QA, QB, QC, QD, QE, QF, QG, QH, QI, QJ, QK, QL, QM, QN, QO, QP, QQ]
          refine ⟨by rfl, ?_⟩
          refine CallC.keep [4] (offset_spec l false (lay.getD i 0) hl c0) (by rfl) (by rfl) (by simp) (by simp [callEff, outW, outN, frz]) (by simp [callEff, outW, outN, renB, renL, renA, frz]) ?_
          simp (config := { maxSteps := 1000000 }) (disch := ((try simp only [awL]); omega)) only [QR, QS, QT, QU, QV, QW, QX, QY, QZ, Q0, Q1, Q2, Ns, g0, g1, MY_n, ↓awU, awV, awF, Qa, Qb, Qc, Qd, forall_const, ↓reduceIte, ↓reduceDIte, ↓Qe, Qf, Qg, Qh, Qi, Qj, Qk, Ql, Qm, Qn, Qo, Qp, Qq, Qr, Qs, implies_true, Qt, Qu, Qv, Qw, Qx, Qy, Qz, QA, QB, QC, QD, QE, QF, QG, QH, QI, QJ, QK, QL, QM, QN, QO, QP, QQ]
          refine CallC.of (ttrim_spec ((l.take (offA l (lay.getD (i + 1) 0))).drop (offA l (lay.getD i 0))) (by simp; omega)) (by rfl) ?_
          simp (config := { maxSteps := 1000000 }) (disch := ((try simp only [awL]); omega)) only [QR, QS, QT, QU, QV, QW, QX, QY, QZ, Q0, Q1, Q2, Ns, g0, g1, MY_n, ↓awU, awV, awF, Qa, Qb, Qc, Qd, forall_const, ↓reduceIte, ↓reduceDIte, ↓Qe, Qf, Qg, Qh, Qi, Qj, Qk, Ql, Qm, Qn, Qo, Qp, Qq, Qr, Qs, implies_true, Qt, Qu, Qv, Qw, Qx, Qy, Qz, QA, QB, QC, QD, QE, QF, QG, QH, QI, QJ, QK, QL, QM, QN, QO, QP, QQ]
          rw [← fe]
          refine yieldK.by rfl hJ rfl rfl ?_
          simp (config := { maxSteps := 1000000 }) (disch := ((try simp only [awL]); omega)) only [QR, QS, QT, QU, QV, QW, QX, QY, QZ, Q0, Q1, Q2, Ns, g0, g1, MY_n, ↓awU, awV, awF, Qa, Qb, Qc, Qd, forall_const, ↓reduceIte, ↓reduceDIte, ↓Qe, Qf, Qg, Qh, Qi, Qj, Qk, Ql, Qm, Qn, Qo, Qp, Qq, Qr, Qs, implies_true, Qt, Qu, Qv, Qw, Qx, Qy, Qz, QA, QB, QC, QD, QE, QF, QG, QH, QI, QJ, QK, QL, QM, QN, QO, QP, QQ]
          refine ⟨by rfl, ?_⟩
          exact ⟨[some 0], rfl, by simp, by simp [HWeak, BWeak, SWeak, AWeak], .inl (by simp [AWeak, SWeak])⟩
      · have m2 := (offA_eq l (lay.getD i 0)).2
        have fe : fldAt lay l i = Lib.trimB (l.drop (offA l (lay.getD i 0))) 32 := by rw [fldAt, cell1, if_neg (by omega), List.take_length]
        rcases Tdo_cons h2 with ⟨t', rfl, h4⟩ | rfl
        · simp (config := { maxSteps := 1000000 }) (disch := ((try simp only [awL]); omega)) only [QR, QS, QT, QU, QV, QW, QX, QY, QZ, Q0, Q1, Q2, Ns, g0, MY_n, ↓awU, awV, awF, Qa, Qb, Qc, Qd, forall_const, ↓reduceIte, ↓reduceDIte, ↓Qe, Qf, Qg, Qh, Qi, Qj, Qk, Ql, Qm, Qn, Qo, Qp, Qq, Qr, Qs, implies_true, Qt, Qu, Qv, Qw, Qx, Qy, Qz, QA, QB, QC, QD, QE, QF, QG, QH, QI, QJ, QK, QL, QM, QN, QO, QP, QQ]
          refine CallC.keep [4] (offset_spec l false (lay.getD i 0) hl c0) (by rfl) (by rfl) (by simp) (by simp [callEff, outW, outN, frz]) (by simp [callEff, outW, outN, renB, renL, renA, frz]) ?_
          simp (config := { maxSteps := 1000000 }) (disch := ((try simp only [awL]); omega)) only [QR, QS, QT, QU, QV, QW, QX, QY, QZ, Q0, Q1, Q2, Ns, g0, MY_n, ↓awU, awV, awF, Qa, Qb, Qc, Qd, forall_const, ↓reduceIte, ↓reduceDIte, ↓Qe, Qf, Qg, Qh, Qi, Qj, Qk, Ql, Qm, Qn, Qo, Qp, Qq, Qr, Qs, implies_true, Qt, Qu, Qv, Qw, Qx, Qy, Qz, QA, QB, QC, QD, QE, QF, QG, QH, QI, QJ, QK, QL, QM, QN, QO, QP, QQ]
          refine CallC.of (ttrim_spec (l.drop (offA l (lay.getD i 0))) (by simp; omega)) (by rfl) ?_
          simp (config := { maxSteps := 1000000 }) (disch := ((try simp only [awL]); omega)) only [QR, QS, QT, QU, QV, QW, QX, QY, QZ, Q0, Q1, Q2, Ns, g0, MY_n, ↓awU, awV, awF, Qa, Qb, Qc, Qd, forall_const, ↓reduceIte, ↓reduceDIte, ↓Qe, Qf, Qg, Qh, Qi, Qj, Qk, Ql, Qm, Qn, Qo, Qp, Qq, Qr, Qs, implies_true, Qt, Qu, Qv, Qw, Qx, Qy, Qz, QA, QB, QC, QD, QE, QF, QG, QH, QI, QJ, QK, QL, QM, QN, QO, QP, QQ]
          rw [← fe]
          refine yieldK.by rfl hJ rfl rfl ?_
          simp (config := { maxSteps := 1000000 }) (disch := ((try simp only [awL]); omega)) only [QR, QS, QT, QU, QV, QW, QX, QY, QZ, Q0, Q1, Q2, Ns, g0, MY_n, ↓awU, awV, awF, Qa, Qb, Qc, Qd, forall_const, ↓reduceIte, ↓reduceDIte, ↓Qe, Qf, Qg, Qh, Qi, Qj, Qk, Ql, Qm, Qn, Qo, Qp, Qq, Qr, Qs, implies_true, Qt, Qu, Qv, Qw, Qx, Qy, Qz, QA, QB, QC, QD, QE, QF, QG, QH, QI, QJ, QK, QL, QM, QN, QO, QP, QQ]
          refine ⟨by rfl, ?_⟩
          exact ⟨(i + 1, t'), ⟨h, h4⟩, by simp only; omega, ⟨[some 0, some 1, some 2, some 3, some 4], rfl, by simp, by simp [setsA, keepA, SWeak, AWeak], by simp [HWeak, BWeak, SWeak, AWeak]⟩⟩
        · simp (config := { maxSteps := 1000000 }) (disch := ((try simp only [awL]); omega)) only [QR, QS, QT, QU, QV, QW, QX, QY, QZ, Q0, Q1, Q2, Ns, g0, MY_n, ↓awU, awV, awF, Qa, Qb, Qc, Qd, forall_const, ↓reduceIte, ↓reduceDIte, ↓Qe, Qf, Qg, Qh, Qi, Qj, Qk, Ql, Qm, Qn, Qo, Qp, Qq, Qr, Qs, implies_true, Qt, Qu, Qv, Qw, Qx, Qy, Qz, QA, QB, QC, QD, QE, QF, QG, QH, QI, QJ, QK, QL, QM, QN, QO, QP, QQ]
          refine CallC.keep [4] (offset_spec l false (lay.getD i 0) hl c0) (by rfl) (by rfl) (by simp) (by simp [callEff, outW, outN, frz]) (by simp [callEff, outW, outN, renB, renL, renA, frz]) ?_
          simp (config := { maxSteps := 1000000 }) (disch := ((try simp only [awL]); omega)) only [QR, QS, QT, QU, QV, QW, QX, QY, QZ, Q0, Q1, Q2, Ns, g0, MY_n, ↓awU, awV, awF, Qa, Qb, Qc, Qd, forall_const, ↓reduceIte, ↓reduceDIte, ↓Qe, Qf, Qg, Qh, Qi, Qj, Qk, Ql, Qm, Qn, Qo, Qp, Qq, Qr, Qs, implies_true, Qt, Qu, Qv, Qw, Qx, Qy, Qz, QA, QB, QC, QD, QE, QF, QG, QH, QI, QJ, QK, QL, QM, QN, QO, QP, QQ]
          refine CallC.of (ttrim_spec (l.drop (offA l (lay.getD i 0))) (by simp; omega)) (by rfl) ?_
          simp (config := { maxSteps := 1000000 }) (disch := ((try simp only [awL]); omega)) only [QR, QS, QT, QU, QV, QW, QX, QY, QZ, Q0, Q1, Q2, Ns, g0, MY_n, ↓awU, awV, awF, Qa, Qb, Qc, Qd, forall_const, ↓reduceIte, ↓reduceDIte, ↓Qe, Qf, Qg, Qh, Qi, Qj, Qk, Ql, Qm, Qn, Qo, Qp, Qq, Qr, Qs, implies_true, Qt, Qu, Qv, Qw, Qx, Qy, Qz, QA, QB, QC, QD, QE, QF, QG, QH, QI, QJ, QK, QL, QM, QN, QO, QP, QQ]
          rw [← fe]
          refine yieldK.by rfl hJ rfl rfl ?_
          simp (config := { maxSteps := 1000000 }) (disch := ((try simp only [awL]); omega)) only [QR, QS, QT, QU, QV, QW, QX, QY, QZ, Q0, Q1, Q2, Ns, g0, MY_n, ↓awU, awV, awF, Qa, Qb, Qc, Qd, forall_const, ↓reduceIte, ↓reduceDIte, ↓Qe, Qf, Qg, Qh, Qi, Qj, Qk, Ql, Qm, Qn, Qo, Qp, Qq, Qr, Qs, implies_true, Qt, Qu, Qv, Qw, Qx, Qy, Qz, QA, QB, QC, QD, QE, QF, QG, QH, QI, QJ, QK, QL, QM, QN, QO, QP, QQ]
          refine ⟨by rfl, ?_⟩
          exact ⟨[some 0], rfl, by simp, by simp [HWeak, BWeak, SWeak, AWeak], .inl (by simp [AWeak, SWeak])⟩
    · have e : (strs (fldsL lay l)).drop i = [] := List.drop_of_length_le (by simp [strs, fldsL]; omega)
      rw [e] at h2
      rw [Tdo_nil h2]
      simp (config := { maxSteps := 1000000 }) (disch := ((try simp only [awL]); omega)) only [QR, QS, QT, QU, QV, QW, QX, QY, QZ, Q0, Q1, Q2, Ns, MY_n, ↓awU, awV, awF, Qa, Qb, Qc, Qd, forall_const, ↓reduceIte, ↓reduceDIte, ↓Qe, Qf, Qg, Qh, Qi, Qj, Qk, Ql, Qm, Qn, Qo, Qp, Qq, Qr, Qs, implies_true, Qt, Qu, Qv, Qw, Qx, Qy, Qz, QA, QB, QC, QD, QE, QF, QG, QH, QI, QJ, QK, QL, QM, QN, QO, QP, QQ]
      exact ⟨[some 0], rfl, by simp, by simp [HWeak, BWeak, SWeak, AWeak], .inl (by simp [AWeak, SWeak])⟩
end Go.Proofs.YtacepalmphbnfaaDoor
