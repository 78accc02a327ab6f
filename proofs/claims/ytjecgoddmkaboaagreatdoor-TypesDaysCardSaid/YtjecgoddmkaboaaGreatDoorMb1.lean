/-
  Facts of the program: its types, and which functions are Go text: each by the kernel.
-/
import Derived.Test.YtjecgoddmkaboaaGreatDoorLa3
import Derived.Test.YtjecgoddmkaboaaGreatDoorChecked
import Derived.KernelRfl
import Derived.Test.YtjecgoddmkaboaaGreatDoorCards
import Derived.Test.YtjecgoddmkaboaaGreatDoorTie
import Derived.Lib.LaidTab
import Derived.LaidLaws
import Derived.Shelf.Vars
import Derived.Lib.SmallJoins
set_option linter.all false
open Go.Abs renaming ofVal → Qa, ofVal0 → Qb, isShift → Qc, aggK → Qd, purePost → Qe, combine → Qf, idsA → Qg, cellsA → Qh, numsOf → Qi, srcA → Qj, calleeA → Qk, refsA → Ql, isScalar → Qm, scalarD → Qn, scalar0 → Qo, putL → Qr, unfA → Qs, sidsB → QJ, keyKD → QL, isIntK → QM, aggD → QN, aggL → QO, eqKs → QP, boxRow → QQ, nextC_more → QT, nextC_over → QU, bs_size → QV, bs_extract → QW, bs_toList → QX, bs_append → QY, byteAt_bs → QZ, bs_cells → Q0, nums_length → Q1, nums_getD → Q2
open Go.Abs.AV renaming one → Qp
open Go.Abs.D renaming one → Qq
open Go.IntKind renaming signed → Qt
open Nat renaming reduceAdd → Qu, reduceSub → Qv, reduceMul → Qw, reducePow → Qx, reduceDiv → Qy, reduceMod → Qz, reduceEqDiff → QI, reduceBEq → QK
open Int renaming reduceAdd → QA, reduceSub → QB, reduceMul → QC, reducePow → QD, reduceNeg → QE, reduceToNat → QF, reduceLT → QG, reduceLE → QH
open Option renaming toList_some → QR, toList_none → QS

namespace Go.Proofs.YtjecgoddmkaboaaGreatDoor
open Go Go.Proofs Go.Abs
theorem ti2 : tiOf Tryz.prog 2 = some ⟨.int .i64, 1, 8, [.int .i64 0]⟩ := by kernel_rfl
theorem ie2 : intE Tryz.prog 2 = some .i64 := by kernel_rfl
theorem it2 : intT Tryz.prog 2 = some .i64 := by kernel_rfl
theorem st2 : isStrT Tryz.prog 2 = false := by kernel_rfl
theorem ti3 : tiOf Tryz.prog 3 = some ⟨.int .i64, 1, 8, [.int .i64 0]⟩ := by kernel_rfl
theorem ie3 : intE Tryz.prog 3 = some .i64 := by kernel_rfl
theorem it3 : intT Tryz.prog 3 = some .i64 := by kernel_rfl
theorem st3 : isStrT Tryz.prog 3 = false := by kernel_rfl
theorem ti4 : tiOf Tryz.prog 4 = some ⟨.bool, 1, 1, [.bool false]⟩ := by kernel_rfl
theorem bt4 : isBoolT Tryz.prog 4 = true := by kernel_rfl
theorem ti5 : tiOf Tryz.prog 5 = some ⟨.int .u8, 1, 1, [.int .u8 0]⟩ := by kernel_rfl
theorem ie5 : intE Tryz.prog 5 = some .u8 := by kernel_rfl
theorem it5 : intT Tryz.prog 5 = some .u8 := by kernel_rfl
theorem st5 : isStrT Tryz.prog 5 = false := by kernel_rfl
theorem ti6 : tiOf Tryz.prog 6 = some ⟨.int .u8, 1, 1, [.int .u8 0]⟩ := by kernel_rfl
theorem ie6 : intE Tryz.prog 6 = some .u8 := by kernel_rfl
theorem it6 : intT Tryz.prog 6 = some .u8 := by kernel_rfl
theorem st6 : isStrT Tryz.prog 6 = false := by kernel_rfl
theorem ti8 : tiOf Tryz.prog 8 = some ⟨.struct [(0, 2, 1), (1, 3, 1), (2, 4, 1), (3, 6, 1)], 4, 24, [.int .i64 0, .int .i64 0, .bool false, .int .u8 0]⟩ := by kernel_rfl
theorem sf8_0 : structF Tryz.prog 8 0 = some (0, 2, 1) := by kernel_rfl
theorem sf8_1 : structF Tryz.prog 8 1 = some (1, 3, 1) := by kernel_rfl
theorem sf8_2 : structF Tryz.prog 8 2 = some (2, 4, 1) := by kernel_rfl
theorem sf8_3 : structF Tryz.prog 8 3 = some (3, 6, 1) := by kernel_rfl
theorem ti9 : tiOf Tryz.prog 9 = some ⟨.string, 1, 16, [.str .empty]⟩ := by kernel_rfl
theorem st9 : isStrT Tryz.prog 9 = true := by kernel_rfl
theorem ap9 : appendable Tryz.prog 9 = true := by kernel_rfl
theorem it9 : intT Tryz.prog 9 = none := by kernel_rfl
theorem ti10 : tiOf Tryz.prog 10 = some ⟨.string, 1, 16, [.str .empty]⟩ := by kernel_rfl
theorem st10 : isStrT Tryz.prog 10 = true := by kernel_rfl
theorem ap10 : appendable Tryz.prog 10 = true := by kernel_rfl
theorem it10 : intT Tryz.prog 10 = none := by kernel_rfl
theorem ti11 : tiOf Tryz.prog 11 = some ⟨.string, 1, 16, [.str .empty]⟩ := by kernel_rfl
theorem st11 : isStrT Tryz.prog 11 = true := by kernel_rfl
theorem ap11 : appendable Tryz.prog 11 = true := by kernel_rfl
theorem it11 : intT Tryz.prog 11 = none := by kernel_rfl
theorem ti12 : tiOf Tryz.prog 12 = some ⟨.int .u64, 1, 8, [.int .u64 0]⟩ := by kernel_rfl
theorem ie12 : intE Tryz.prog 12 = some .u64 := by kernel_rfl
theorem it12 : intT Tryz.prog 12 = some .u64 := by kernel_rfl
theorem st12 : isStrT Tryz.prog 12 = false := by kernel_rfl
theorem ti14 : tiOf Tryz.prog 14 = some ⟨.struct [(0, 9, 1), (1, 12, 1)], 2, 24, [.str .empty, .int .u64 0]⟩ := by kernel_rfl
theorem sf14_0 : structF Tryz.prog 14 0 = some (0, 9, 1) := by kernel_rfl
theorem sf14_1 : structF Tryz.prog 14 1 = some (1, 12, 1) := by kernel_rfl
theorem ti15 : tiOf Tryz.prog 15 = some ⟨.ptr 170, 1, 8, [.nilp]⟩ := by kernel_rfl
theorem ti16 : tiOf Tryz.prog 16 = some ⟨.ptr 173, 1, 8, [.nilp]⟩ := by kernel_rfl
theorem ti17 : tiOf Tryz.prog 17 = some ⟨.ptr 180, 1, 8, [.nilp]⟩ := by kernel_rfl
theorem ti19 : tiOf Tryz.prog 19 = some ⟨.struct [(0, 17, 1)], 1, 8, [.nilp]⟩ := by kernel_rfl
theorem sf19_0 : structF Tryz.prog 19 0 = some (0, 17, 1) := by kernel_rfl
theorem ti20 : tiOf Tryz.prog 20 = some ⟨.other, 1, 16, [.nili]⟩ := by kernel_rfl
theorem ti21 : tiOf Tryz.prog 21 = some ⟨.int .i32, 1, 4, [.int .i32 0]⟩ := by kernel_rfl
theorem ie21 : intE Tryz.prog 21 = some .i32 := by kernel_rfl
theorem it21 : intT Tryz.prog 21 = some .i32 := by kernel_rfl
theorem st21 : isStrT Tryz.prog 21 = false := by kernel_rfl
theorem ti23 : tiOf Tryz.prog 23 = some ⟨.array 3 3, 3, 24, [.int .i64 0, .int .i64 0, .int .i64 0]⟩ := by kernel_rfl
theorem se23 : sliceElem Tryz.prog 23 = none := by kernel_rfl
theorem ae23 : arrayE Tryz.prog 23 = some (3, 3, 1) := by kernel_rfl
theorem ti25 : tiOf Tryz.prog 25 = some ⟨.slice 23, 1, 24, [.sl 0 true []]⟩ := by kernel_rfl
theorem se25 : sliceElem Tryz.prog 25 = some (23, ⟨.array 3 3, 3, 24, [.int .i64 0, .int .i64 0, .int .i64 0]⟩) := by kernel_rfl
theorem sz25 : isSliceT Tryz.prog 25 = true := by kernel_rfl
theorem ap25 : appendable Tryz.prog 25 = true := by kernel_rfl
theorem st25 : isStrT Tryz.prog 25 = false := by kernel_rfl
theorem ti30 : tiOf Tryz.prog 30 = some ⟨.slice 3, 1, 24, [.sl 0 true []]⟩ := by kernel_rfl
theorem se30 : sliceElem Tryz.prog 30 = some (3, ⟨.int .i64, 1, 8, [.int .i64 0]⟩) := by kernel_rfl
theorem sz30 : isSliceT Tryz.prog 30 = true := by kernel_rfl
theorem ap30 : appendable Tryz.prog 30 = true := by kernel_rfl
theorem st30 : isStrT Tryz.prog 30 = false := by kernel_rfl
theorem ti36 : tiOf Tryz.prog 36 = some ⟨.func, 1, 8, [.nilf]⟩ := by kernel_rfl
theorem ti37 : tiOf Tryz.prog 37 = some ⟨.func, 1, 8, [.nilf]⟩ := by kernel_rfl
theorem ti39 : tiOf Tryz.prog 39 = some ⟨.struct [(0, 9, 1), (1, 36, 1), (2, 37, 1)], 3, 32, [.str .empty, .nilf, .nilf]⟩ := by kernel_rfl
theorem zo39 : zeroOf Tryz.prog 39 = some (.agg [.str .empty, .nilf, .nilf]) := by kernel_rfl
theorem sf39_0 : structF Tryz.prog 39 0 = some (0, 9, 1) := by kernel_rfl
theorem sf39_1 : structF Tryz.prog 39 1 = some (1, 36, 1) := by kernel_rfl
theorem sf39_2 : structF Tryz.prog 39 2 = some (2, 37, 1) := by kernel_rfl
theorem ti41 : tiOf Tryz.prog 41 = some ⟨.map 3 39, 1, 8, [.nilm]⟩ := by kernel_rfl
theorem ti45 : tiOf Tryz.prog 45 = some ⟨.slice 58, 1, 24, [.sl 0 true []]⟩ := by kernel_rfl
theorem se45 : sliceElem Tryz.prog 45 = some (58, ⟨.int .u32, 1, 4, [.int .u32 0]⟩) := by kernel_rfl
theorem sz45 : isSliceT Tryz.prog 45 = true := by kernel_rfl
theorem ap45 : appendable Tryz.prog 45 = true := by kernel_rfl
theorem st45 : isStrT Tryz.prog 45 = false := by kernel_rfl
theorem ti47 : tiOf Tryz.prog 47 = some ⟨.struct [(0, 4, 1), (1, 45, 1)], 2, 32, [.bool false, .sl 0 true []]⟩ := by kernel_rfl
theorem sf47_0 : structF Tryz.prog 47 0 = some (0, 4, 1) := by kernel_rfl
theorem sf47_1 : structF Tryz.prog 47 1 = some (1, 45, 1) := by kernel_rfl
theorem ti49 : tiOf Tryz.prog 49 = some ⟨.struct [(0, 47, 2), (2, 47, 2)], 4, 64, [.bool false, .sl 0 true [], .bool false, .sl 0 true []]⟩ := by kernel_rfl
theorem sf49_0 : structF Tryz.prog 49 0 = some (0, 47, 2) := by kernel_rfl
theorem sf49_1 : structF Tryz.prog 49 1 = some (2, 47, 2) := by kernel_rfl
theorem ti57 : tiOf Tryz.prog 57 = some ⟨.slice 58, 1, 24, [.sl 0 true []]⟩ := by kernel_rfl
theorem se57 : sliceElem Tryz.prog 57 = some (58, ⟨.int .u32, 1, 4, [.int .u32 0]⟩) := by kernel_rfl
theorem sz57 : isSliceT Tryz.prog 57 = true := by kernel_rfl
theorem ap57 : appendable Tryz.prog 57 = true := by kernel_rfl
theorem st57 : isStrT Tryz.prog 57 = false := by kernel_rfl
theorem ti58 : tiOf Tryz.prog 58 = some ⟨.int .u32, 1, 4, [.int .u32 0]⟩ := by kernel_rfl
theorem ie58 : intE Tryz.prog 58 = some .u32 := by kernel_rfl
theorem it58 : intT Tryz.prog 58 = some .u32 := by kernel_rfl
theorem st58 : isStrT Tryz.prog 58 = false := by kernel_rfl
theorem ti60 : tiOf Tryz.prog 60 = some ⟨.slice 5, 1, 24, [.sl 0 true []]⟩ := by kernel_rfl
theorem se60 : sliceElem Tryz.prog 60 = some (5, ⟨.int .u8, 1, 1, [.int .u8 0]⟩) := by kernel_rfl
theorem sz60 : isSliceT Tryz.prog 60 = true := by kernel_rfl
theorem ap60 : appendable Tryz.prog 60 = true := by kernel_rfl
theorem st60 : isStrT Tryz.prog 60 = false := by kernel_rfl
theorem ti62 : tiOf Tryz.prog 62 = some ⟨.int .u64, 1, 8, [.int .u64 0]⟩ := by kernel_rfl
theorem ie62 : intE Tryz.prog 62 = some .u64 := by kernel_rfl
theorem it62 : intT Tryz.prog 62 = some .u64 := by kernel_rfl
theorem st62 : isStrT Tryz.prog 62 = false := by kernel_rfl
theorem ti66 : tiOf Tryz.prog 66 = some ⟨.ptr 9, 1, 8, [.nilp]⟩ := by kernel_rfl
theorem ti67 : tiOf Tryz.prog 67 = some ⟨.array 3 66, 3, 24, [.nilp, .nilp, .nilp]⟩ := by kernel_rfl
theorem se67 : sliceElem Tryz.prog 67 = none := by kernel_rfl
theorem ae67 : arrayE Tryz.prog 67 = some (3, 66, 1) := by kernel_rfl
theorem ti68 : tiOf Tryz.prog 68 = some ⟨.struct [(0, 9, 1), (1, 67, 3)], 4, 40, [.str .empty, .nilp, .nilp, .nilp]⟩ := by kernel_rfl
theorem sf68_0 : structF Tryz.prog 68 0 = some (0, 9, 1) := by kernel_rfl
theorem sf68_1 : structF Tryz.prog 68 1 = some (1, 67, 3) := by kernel_rfl
theorem ti69 : tiOf Tryz.prog 69 = some ⟨.slice 68, 1, 24, [.sl 0 true []]⟩ := by kernel_rfl
theorem se69 : sliceElem Tryz.prog 69 = some (68, ⟨.struct [(0, 9, 1), (1, 67, 3)], 4, 40, [.str .empty, .nilp, .nilp, .nilp]⟩) := by kernel_rfl
theorem sz69 : isSliceT Tryz.prog 69 = true := by kernel_rfl
theorem ap69 : appendable Tryz.prog 69 = true := by kernel_rfl
theorem st69 : isStrT Tryz.prog 69 = false := by kernel_rfl
theorem ti70 : tiOf Tryz.prog 70 = some ⟨.slice 9, 1, 24, [.sl 0 true []]⟩ := by kernel_rfl
theorem se70 : sliceElem Tryz.prog 70 = some (9, ⟨.string, 1, 16, [.str .empty]⟩) := by kernel_rfl
theorem sz70 : isSliceT Tryz.prog 70 = true := by kernel_rfl
theorem ap70 : appendable Tryz.prog 70 = true := by kernel_rfl
theorem st70 : isStrT Tryz.prog 70 = false := by kernel_rfl
theorem ti75 : tiOf Tryz.prog 75 = some ⟨.other, 1, 16, [.nili]⟩ := by kernel_rfl
theorem ti80 : tiOf Tryz.prog 80 = some ⟨.array 256 4, 256, 256, [.bool false, .bool false, .bool false, .bool false, .bool false, .bool false, .bool false, .bool false, .bool false, .bool false, .bool false, .bool false, .bool false, .bool false, .bool false, .bool false, .bool false, .bool false, .bool false, .bool false, .bool false, .bool false, .bool false, .bool false, .bool false, .bool false, .bool false, .bool false, .bool false, .bool false, .bool false, .bool false, .bool false, .bool false, .bool false, .bool false, .bool false, .bool false, .bool false, .bool false, .bool false, .bool false, .bool false, .bool false, .bool false, .bool false, .bool false, .bool false, .bool false, .bool false, .bool false, .bool false, .bool false, .bool false, .bool false, .bool false, .bool false, .bool false, .bool false, .bool false, .bool false, .bool false, .bool false, .bool false, .bool false, .bool false, .bool false, .bool false, .bool false, .bool false, .bool false, .bool false, .bool false, .bool false, .bool false, .bool false, .bool false, .bool false, .bool false, .bool false, .bool false, .bool false, .bool false, .bool false, .bool false, .bool false, .bool false, .bool false, .bool false, .bool false, .bool false, .bool false, .bool false, .bool false, .bool false, .bool false, .bool false, .bool false, .bool false, .bool false, .bool false, .bool false, .bool false, .bool false, .bool false, .bool false, .bool false, .bool false, .bool false, .bool false, .bool false, .bool false, .bool false, .bool false, .bool false, .bool false, .bool false, .bool false, .bool false, .bool false, .bool false, .bool false, .bool false, .bool false, .bool false, .bool false, .bool false, .bool false, .bool false, .bool false, .bool false, .bool false, .bool false, .bool false, .bool false, .bool false, .bool false, .bool false, .bool false, .bool false, .bool false, .bool false, .bool false, .bool false, .bool false, .bool false, .bool false, .bool false, .bool false, .bool false, .bool false, .bool false, .bool false, .bool false, .bool false, .bool false, .bool false, .bool false, .bool false, .bool false, .bool false, .bool false, .bool false, .bool false, .bool false, .bool false, .bool false, .bool false, .bool false, .bool false, .bool false, .bool false, .bool false, .bool false, .bool false, .bool false, .bool false, .bool false, .bool false, .bool false, .bool false, .bool false, .bool false, .bool false, .bool false, .bool false, .bool false, .bool false, .bool false, .bool false, .bool false, .bool false, .bool false, .bool false, .bool false, .bool false, .bool false, .bool false, .bool false, .bool false, .bool false, .bool false, .bool false, .bool false, .bool false, .bool false, .bool false, .bool false, .bool false, .bool false, .bool false, .bool false, .bool false, .bool false, .bool false, .bool false, .bool false, .bool false, .bool false, .bool false, .bool false, .bool false, .bool false, .bool false, .bool false, .bool false, .bool false, .bool false, .bool false, .bool false, .bool false, .bool false, .bool false, .bool false, .bool false, .bool false, .bool false, .bool false, .bool false, .bool false, .bool false, .bool false, .bool false, .bool false, .bool false, .bool false, .bool false, .bool false, .bool false, .bool false, .bool false, .bool false, .bool false, .bool false, .bool false, .bool false]⟩ := by kernel_rfl
theorem se80 : sliceElem Tryz.prog 80 = none := by kernel_rfl
theorem ae80 : arrayE Tryz.prog 80 = some (256, 4, 1) := by kernel_rfl
theorem ti84 : tiOf Tryz.prog 84 = some ⟨.ptr 80, 1, 8, [.nilp]⟩ := by kernel_rfl
theorem ti85 : tiOf Tryz.prog 85 = some ⟨.int .i64, 1, 8, [.int .i64 0]⟩ := by kernel_rfl
theorem ie85 : intE Tryz.prog 85 = some .i64 := by kernel_rfl
theorem it85 : intT Tryz.prog 85 = some .i64 := by kernel_rfl
theorem st85 : isStrT Tryz.prog 85 = false := by kernel_rfl
theorem ti89 : tiOf Tryz.prog 89 = some ⟨.int .u64, 1, 8, [.int .u64 0]⟩ := by kernel_rfl
theorem ie89 : intE Tryz.prog 89 = some .u64 := by kernel_rfl
theorem it89 : intT Tryz.prog 89 = some .u64 := by kernel_rfl
theorem st89 : isStrT Tryz.prog 89 = false := by kernel_rfl
theorem ti114 : tiOf Tryz.prog 114 = some ⟨.ptr 116, 1, 8, [.nilp]⟩ := by kernel_rfl
theorem ti116 : tiOf Tryz.prog 116 = some ⟨.struct [(0, 114, 1), (1, 60, 1)], 2, 32, [.nilp, .sl 0 true []]⟩ := by kernel_rfl
theorem sf116_0 : structF Tryz.prog 116 0 = some (0, 114, 1) := by kernel_rfl
theorem sf116_1 : structF Tryz.prog 116 1 = some (1, 60, 1) := by kernel_rfl
theorem ti120 : tiOf Tryz.prog 120 = some ⟨.int .i64, 1, 8, [.int .i64 0]⟩ := by kernel_rfl
theorem ie120 : intE Tryz.prog 120 = some .i64 := by kernel_rfl
theorem it120 : intT Tryz.prog 120 = some .i64 := by kernel_rfl
theorem st120 : isStrT Tryz.prog 120 = false := by kernel_rfl
theorem ti123 : tiOf Tryz.prog 123 = some ⟨.ptr 139, 1, 8, [.nilp]⟩ := by kernel_rfl
theorem ti135 : tiOf Tryz.prog 135 = some ⟨.ptr 5, 1, 8, [.nilp]⟩ := by kernel_rfl
theorem ti139 : tiOf Tryz.prog 139 = some ⟨.struct [(0, 9, 1), (1, 9, 1), (2, 75, 1)], 3, 48, [.str .empty, .str .empty, .nili]⟩ := by kernel_rfl
theorem sf139_0 : structF Tryz.prog 139 0 = some (0, 9, 1) := by kernel_rfl
theorem sf139_1 : structF Tryz.prog 139 1 = some (1, 9, 1) := by kernel_rfl
theorem sf139_2 : structF Tryz.prog 139 2 = some (2, 75, 1) := by kernel_rfl
theorem ti141 : tiOf Tryz.prog 141 = some ⟨.array 256 5, 256, 256, [.int .u8 0, .int .u8 0, .int .u8 0, .int .u8 0, .int .u8 0, .int .u8 0, .int .u8 0, .int .u8 0, .int .u8 0, .int .u8 0, .int .u8 0, .int .u8 0, .int .u8 0, .int .u8 0, .int .u8 0, .int .u8 0, .int .u8 0, .int .u8 0, .int .u8 0, .int .u8 0, .int .u8 0, .int .u8 0, .int .u8 0, .int .u8 0, .int .u8 0, .int .u8 0, .int .u8 0, .int .u8 0, .int .u8 0, .int .u8 0, .int .u8 0, .int .u8 0, .int .u8 0, .int .u8 0, .int .u8 0, .int .u8 0, .int .u8 0, .int .u8 0, .int .u8 0, .int .u8 0, .int .u8 0, .int .u8 0, .int .u8 0, .int .u8 0, .int .u8 0, .int .u8 0, .int .u8 0, .int .u8 0, .int .u8 0, .int .u8 0, .int .u8 0, .int .u8 0, .int .u8 0, .int .u8 0, .int .u8 0, .int .u8 0, .int .u8 0, .int .u8 0, .int .u8 0, .int .u8 0, .int .u8 0, .int .u8 0, .int .u8 0, .int .u8 0, .int .u8 0, .int .u8 0, .int .u8 0, .int .u8 0, .int .u8 0, .int .u8 0, .int .u8 0, .int .u8 0, .int .u8 0, .int .u8 0, .int .u8 0, .int .u8 0, .int .u8 0, .int .u8 0, .int .u8 0, .int .u8 0, .int .u8 0, .int .u8 0, .int .u8 0, .int .u8 0, .int .u8 0, .int .u8 0, .int .u8 0, .int .u8 0, .int .u8 0, .int .u8 0, .int .u8 0, .int .u8 0, .int .u8 0, .int .u8 0, .int .u8 0, .int .u8 0, .int .u8 0, .int .u8 0, .int .u8 0, .int .u8 0, .int .u8 0, .int .u8 0, .int .u8 0, .int .u8 0, .int .u8 0, .int .u8 0, .int .u8 0, .int .u8 0, .int .u8 0, .int .u8 0, .int .u8 0, .int .u8 0, .int .u8 0, .int .u8 0, .int .u8 0, .int .u8 0, .int .u8 0, .int .u8 0, .int .u8 0, .int .u8 0, .int .u8 0, .int .u8 0, .int .u8 0, .int .u8 0, .int .u8 0, .int .u8 0, .int .u8 0, .int .u8 0, .int .u8 0, .int .u8 0, .int .u8 0, .int .u8 0, .int .u8 0, .int .u8 0, .int .u8 0, .int .u8 0, .int .u8 0, .int .u8 0, .int .u8 0, .int .u8 0, .int .u8 0, .int .u8 0, .int .u8 0, .int .u8 0, .int .u8 0, .int .u8 0, .int .u8 0, .int .u8 0, .int .u8 0, .int .u8 0, .int .u8 0, .int .u8 0, .int .u8 0, .int .u8 0, .int .u8 0, .int .u8 0, .int .u8 0, .int .u8 0, .int .u8 0, .int .u8 0, .int .u8 0, .int .u8 0, .int .u8 0, .int .u8 0, .int .u8 0, .int .u8 0, .int .u8 0, .int .u8 0, .int .u8 0, .int .u8 0, .int .u8 0, .int .u8 0, .int .u8 0, .int .u8 0, .int .u8 0, .int .u8 0, .int .u8 0, .int .u8 0, .int .u8 0, .int .u8 0, .int .u8 0, .int .u8 0, .int .u8 0, .int .u8 0, .int .u8 0, .int .u8 0, .int .u8 0, .int .u8 0, .int .u8 0, .int .u8 0, .int .u8 0, .int .u8 0, .int .u8 0, .int .u8 0, .int .u8 0, .int .u8 0, .int .u8 0, .int .u8 0, .int .u8 0, .int .u8 0, .int .u8 0, .int .u8 0, .int .u8 0, .int .u8 0, .int .u8 0, .int .u8 0, .int .u8 0, .int .u8 0, .int .u8 0, .int .u8 0, .int .u8 0, .int .u8 0, .int .u8 0, .int .u8 0, .int .u8 0, .int .u8 0, .int .u8 0, .int .u8 0, .int .u8 0, .int .u8 0, .int .u8 0, .int .u8 0, .int .u8 0, .int .u8 0, .int .u8 0, .int .u8 0, .int .u8 0, .int .u8 0, .int .u8 0, .int .u8 0, .int .u8 0, .int .u8 0, .int .u8 0, .int .u8 0, .int .u8 0, .int .u8 0, .int .u8 0, .int .u8 0, .int .u8 0, .int .u8 0, .int .u8 0, .int .u8 0, .int .u8 0, .int .u8 0, .int .u8 0, .int .u8 0, .int .u8 0, .int .u8 0, .int .u8 0, .int .u8 0, .int .u8 0, .int .u8 0, .int .u8 0, .int .u8 0, .int .u8 0, .int .u8 0]⟩ := by kernel_rfl
theorem se141 : sliceElem Tryz.prog 141 = none := by kernel_rfl
theorem ae141 : arrayE Tryz.prog 141 = some (256, 5, 1) := by kernel_rfl
theorem ti143 : tiOf Tryz.prog 143 = some ⟨.struct [(0, 5, 1), (1, 5, 1)], 2, 2, [.int .u8 0, .int .u8 0]⟩ := by kernel_rfl
theorem sf143_0 : structF Tryz.prog 143 0 = some (0, 5, 1) := by kernel_rfl
theorem sf143_1 : structF Tryz.prog 143 1 = some (1, 5, 1) := by kernel_rfl
theorem ti144 : tiOf Tryz.prog 144 = some ⟨.array 16 143, 32, 32, [.int .u8 0, .int .u8 0, .int .u8 0, .int .u8 0, .int .u8 0, .int .u8 0, .int .u8 0, .int .u8 0, .int .u8 0, .int .u8 0, .int .u8 0, .int .u8 0, .int .u8 0, .int .u8 0, .int .u8 0, .int .u8 0, .int .u8 0, .int .u8 0, .int .u8 0, .int .u8 0, .int .u8 0, .int .u8 0, .int .u8 0, .int .u8 0, .int .u8 0, .int .u8 0, .int .u8 0, .int .u8 0, .int .u8 0, .int .u8 0, .int .u8 0, .int .u8 0]⟩ := by kernel_rfl
theorem se144 : sliceElem Tryz.prog 144 = none := by kernel_rfl
theorem ae144 : arrayE Tryz.prog 144 = some (16, 143, 2) := by kernel_rfl
theorem ti146 : tiOf Tryz.prog 146 = some ⟨.slice 47, 1, 24, [.sl 0 true []]⟩ := by kernel_rfl
theorem se146 : sliceElem Tryz.prog 146 = some (47, ⟨.struct [(0, 4, 1), (1, 45, 1)], 2, 32, [.bool false, .sl 0 true []]⟩) := by kernel_rfl
theorem sz146 : isSliceT Tryz.prog 146 = true := by kernel_rfl
theorem ap146 : appendable Tryz.prog 146 = true := by kernel_rfl
theorem st146 : isStrT Tryz.prog 146 = false := by kernel_rfl
theorem ti150 : tiOf Tryz.prog 150 = some ⟨.array 24 5, 24, 24, [.int .u8 0, .int .u8 0, .int .u8 0, .int .u8 0, .int .u8 0, .int .u8 0, .int .u8 0, .int .u8 0, .int .u8 0, .int .u8 0, .int .u8 0, .int .u8 0, .int .u8 0, .int .u8 0, .int .u8 0, .int .u8 0, .int .u8 0, .int .u8 0, .int .u8 0, .int .u8 0, .int .u8 0, .int .u8 0, .int .u8 0, .int .u8 0]⟩ := by kernel_rfl
theorem se150 : sliceElem Tryz.prog 150 = none := by kernel_rfl
theorem ae150 : arrayE Tryz.prog 150 = some (24, 5, 1) := by kernel_rfl
theorem ti160 : tiOf Tryz.prog 160 = some ⟨.ptr 162, 1, 8, [.nilp]⟩ := by kernel_rfl
theorem ti162 : tiOf Tryz.prog 162 = some ⟨.struct [(0, 9, 1)], 1, 16, [.str .empty]⟩ := by kernel_rfl
theorem sf162_0 : structF Tryz.prog 162 0 = some (0, 9, 1) := by kernel_rfl
theorem ti164 : tiOf Tryz.prog 164 = some ⟨.array 20 62, 20, 160, [.int .u64 0, .int .u64 0, .int .u64 0, .int .u64 0, .int .u64 0, .int .u64 0, .int .u64 0, .int .u64 0, .int .u64 0, .int .u64 0, .int .u64 0, .int .u64 0, .int .u64 0, .int .u64 0, .int .u64 0, .int .u64 0, .int .u64 0, .int .u64 0, .int .u64 0, .int .u64 0]⟩ := by kernel_rfl
theorem se164 : sliceElem Tryz.prog 164 = none := by kernel_rfl
theorem ae164 : arrayE Tryz.prog 164 = some (20, 62, 1) := by kernel_rfl
theorem ti165 : tiOf Tryz.prog 165 = some ⟨.array 65 5, 65, 65, [.int .u8 0, .int .u8 0, .int .u8 0, .int .u8 0, .int .u8 0, .int .u8 0, .int .u8 0, .int .u8 0, .int .u8 0, .int .u8 0, .int .u8 0, .int .u8 0, .int .u8 0, .int .u8 0, .int .u8 0, .int .u8 0, .int .u8 0, .int .u8 0, .int .u8 0, .int .u8 0, .int .u8 0, .int .u8 0, .int .u8 0, .int .u8 0, .int .u8 0, .int .u8 0, .int .u8 0, .int .u8 0, .int .u8 0, .int .u8 0, .int .u8 0, .int .u8 0, .int .u8 0, .int .u8 0, .int .u8 0, .int .u8 0, .int .u8 0, .int .u8 0, .int .u8 0, .int .u8 0, .int .u8 0, .int .u8 0, .int .u8 0, .int .u8 0, .int .u8 0, .int .u8 0, .int .u8 0, .int .u8 0, .int .u8 0, .int .u8 0, .int .u8 0, .int .u8 0, .int .u8 0, .int .u8 0, .int .u8 0, .int .u8 0, .int .u8 0, .int .u8 0, .int .u8 0, .int .u8 0, .int .u8 0, .int .u8 0, .int .u8 0, .int .u8 0, .int .u8 0]⟩ := by kernel_rfl
theorem se165 : sliceElem Tryz.prog 165 = none := by kernel_rfl
theorem ae165 : arrayE Tryz.prog 165 = some (65, 5, 1) := by kernel_rfl
theorem ti167 : tiOf Tryz.prog 167 = some ⟨.array 32 5, 32, 32, [.int .u8 0, .int .u8 0, .int .u8 0, .int .u8 0, .int .u8 0, .int .u8 0, .int .u8 0, .int .u8 0, .int .u8 0, .int .u8 0, .int .u8 0, .int .u8 0, .int .u8 0, .int .u8 0, .int .u8 0, .int .u8 0, .int .u8 0, .int .u8 0, .int .u8 0, .int .u8 0, .int .u8 0, .int .u8 0, .int .u8 0, .int .u8 0, .int .u8 0, .int .u8 0, .int .u8 0, .int .u8 0, .int .u8 0, .int .u8 0, .int .u8 0, .int .u8 0]⟩ := by kernel_rfl
theorem se167 : sliceElem Tryz.prog 167 = none := by kernel_rfl
theorem ae167 : arrayE Tryz.prog 167 = some (32, 5, 1) := by kernel_rfl
theorem ti168 : tiOf Tryz.prog 168 = some ⟨.array 64 5, 64, 64, [.int .u8 0, .int .u8 0, .int .u8 0, .int .u8 0, .int .u8 0, .int .u8 0, .int .u8 0, .int .u8 0, .int .u8 0, .int .u8 0, .int .u8 0, .int .u8 0, .int .u8 0, .int .u8 0, .int .u8 0, .int .u8 0, .int .u8 0, .int .u8 0, .int .u8 0, .int .u8 0, .int .u8 0, .int .u8 0, .int .u8 0, .int .u8 0, .int .u8 0, .int .u8 0, .int .u8 0, .int .u8 0, .int .u8 0, .int .u8 0, .int .u8 0, .int .u8 0, .int .u8 0, .int .u8 0, .int .u8 0, .int .u8 0, .int .u8 0, .int .u8 0, .int .u8 0, .int .u8 0, .int .u8 0, .int .u8 0, .int .u8 0, .int .u8 0, .int .u8 0, .int .u8 0, .int .u8 0, .int .u8 0, .int .u8 0, .int .u8 0, .int .u8 0, .int .u8 0, .int .u8 0, .int .u8 0, .int .u8 0, .int .u8 0, .int .u8 0, .int .u8 0, .int .u8 0, .int .u8 0, .int .u8 0, .int .u8 0, .int .u8 0, .int .u8 0]⟩ := by kernel_rfl
theorem se168 : sliceElem Tryz.prog 168 = none := by kernel_rfl
theorem ae168 : arrayE Tryz.prog 168 = some (64, 5, 1) := by kernel_rfl
theorem ti170 : tiOf Tryz.prog 170 = some ⟨.struct [(0, 17, 1), (1, 17, 1), (2, 17, 1), (3, 9, 1)], 4, 40, [.nilp, .nilp, .nilp, .str .empty]⟩ := by kernel_rfl
theorem sf170_0 : structF Tryz.prog 170 0 = some (0, 17, 1) := by kernel_rfl
theorem sf170_1 : structF Tryz.prog 170 1 = some (1, 17, 1) := by kernel_rfl
theorem sf170_2 : structF Tryz.prog 170 2 = some (2, 17, 1) := by kernel_rfl
theorem sf170_3 : structF Tryz.prog 170 3 = some (3, 9, 1) := by kernel_rfl
theorem ti171 : tiOf Tryz.prog 171 = some ⟨.array 0 16, 0, 0, []⟩ := by kernel_rfl
theorem se171 : sliceElem Tryz.prog 171 = none := by kernel_rfl
theorem ae171 : arrayE Tryz.prog 171 = some (0, 16, 1) := by kernel_rfl
theorem ti173 : tiOf Tryz.prog 173 = some ⟨.struct [(0, 171, 0)], 0, 0, []⟩ := by kernel_rfl
theorem sf173_0 : structF Tryz.prog 173 0 = some (0, 171, 0) := by kernel_rfl
theorem ti174 : tiOf Tryz.prog 174 = some ⟨.int .u8, 1, 1, [.int .u8 0]⟩ := by kernel_rfl
theorem ie174 : intE Tryz.prog 174 = some .u8 := by kernel_rfl
theorem it174 : intT Tryz.prog 174 = some .u8 := by kernel_rfl
theorem st174 : isStrT Tryz.prog 174 = false := by kernel_rfl
theorem ti175 : tiOf Tryz.prog 175 = some ⟨.int .u8, 1, 1, [.int .u8 0]⟩ := by kernel_rfl
theorem ie175 : intE Tryz.prog 175 = some .u8 := by kernel_rfl
theorem it175 : intT Tryz.prog 175 = some .u8 := by kernel_rfl
theorem st175 : isStrT Tryz.prog 175 = false := by kernel_rfl
theorem ti176 : tiOf Tryz.prog 176 = some ⟨.func, 1, 8, [.nilf]⟩ := by kernel_rfl
theorem ti177 : tiOf Tryz.prog 177 = some ⟨.int .i32, 1, 4, [.int .i32 0]⟩ := by kernel_rfl
theorem ie177 : intE Tryz.prog 177 = some .i32 := by kernel_rfl
theorem it177 : intT Tryz.prog 177 = some .i32 := by kernel_rfl
theorem st177 : isStrT Tryz.prog 177 = false := by kernel_rfl
theorem ti178 : tiOf Tryz.prog 178 = some ⟨.int .i32, 1, 4, [.int .i32 0]⟩ := by kernel_rfl
theorem ie178 : intE Tryz.prog 178 = some .i32 := by kernel_rfl
theorem it178 : intT Tryz.prog 178 = some .i32 := by kernel_rfl
theorem st178 : isStrT Tryz.prog 178 = false := by kernel_rfl
theorem ti180 : tiOf Tryz.prog 180 = some ⟨.struct [(0, 12, 1), (1, 12, 1), (2, 58, 1), (3, 174, 1), (4, 5, 1), (5, 5, 1), (6, 175, 1), (7, 176, 1), (8, 135, 1), (9, 177, 1), (10, 178, 1)], 11, 48, [.int .u64 0, .int .u64 0, .int .u32 0, .int .u8 0, .int .u8 0, .int .u8 0, .int .u8 0, .nilf, .nilp, .int .i32 0, .int .i32 0]⟩ := by kernel_rfl
theorem sf180_0 : structF Tryz.prog 180 0 = some (0, 12, 1) := by kernel_rfl
theorem sf180_1 : structF Tryz.prog 180 1 = some (1, 12, 1) := by kernel_rfl
theorem sf180_2 : structF Tryz.prog 180 2 = some (2, 58, 1) := by kernel_rfl
theorem sf180_3 : structF Tryz.prog 180 3 = some (3, 174, 1) := by kernel_rfl
theorem sf180_4 : structF Tryz.prog 180 4 = some (4, 5, 1) := by kernel_rfl
theorem sf180_5 : structF Tryz.prog 180 5 = some (5, 5, 1) := by kernel_rfl
theorem sf180_6 : structF Tryz.prog 180 6 = some (6, 175, 1) := by kernel_rfl
theorem sf180_7 : structF Tryz.prog 180 7 = some (7, 176, 1) := by kernel_rfl
theorem sf180_8 : structF Tryz.prog 180 8 = some (8, 135, 1) := by kernel_rfl
theorem sf180_9 : structF Tryz.prog 180 9 = some (9, 177, 1) := by kernel_rfl
theorem sf180_10 : structF Tryz.prog 180 10 = some (10, 178, 1) := by kernel_rfl
theorem gf36 : funT Tryz.prog 36 = true := by kernel_rfl
theorem if75 : ifcT Tryz.prog 75 = true := by kernel_rfl
theorem go3 : goFn Tryz.prog 3 = true := by kernel_rfl
theorem go4 : goFn Tryz.prog 4 = true := by kernel_rfl
theorem go5 : goFn Tryz.prog 5 = true := by kernel_rfl
theorem go6 : goFn Tryz.prog 6 = true := by kernel_rfl
theorem go7 : goFn Tryz.prog 7 = true := by kernel_rfl
theorem go8 : goFn Tryz.prog 8 = true := by kernel_rfl
theorem go9 : goFn Tryz.prog 9 = true := by kernel_rfl
theorem go10 : goFn Tryz.prog 10 = true := by kernel_rfl
theorem go11 : goFn Tryz.prog 11 = true := by kernel_rfl
theorem go12 : goFn Tryz.prog 12 = true := by kernel_rfl
theorem go13 : goFn Tryz.prog 13 = true := by kernel_rfl
theorem go14 : goFn Tryz.prog 14 = true := by kernel_rfl
theorem go15 : goFn Tryz.prog 15 = true := by kernel_rfl
theorem go16 : goFn Tryz.prog 16 = true := by kernel_rfl
theorem go17 : goFn Tryz.prog 17 = true := by kernel_rfl
theorem go22 : goFn Tryz.prog 22 = true := by kernel_rfl
theorem go23 : goFn Tryz.prog 23 = true := by kernel_rfl
theorem go26 : goFn Tryz.prog 26 = true := by kernel_rfl
theorem go30 : goFn Tryz.prog 30 = true := by kernel_rfl
theorem go31 : goFn Tryz.prog 31 = true := by kernel_rfl
theorem go32 : goFn Tryz.prog 32 = true := by kernel_rfl
theorem go33 : goFn Tryz.prog 33 = true := by kernel_rfl
theorem go34 : goFn Tryz.prog 34 = true := by kernel_rfl
theorem go35 : goFn Tryz.prog 35 = true := by kernel_rfl
theorem go36 : goFn Tryz.prog 36 = true := by kernel_rfl
theorem go37 : goFn Tryz.prog 37 = true := by kernel_rfl
theorem go38 : goFn Tryz.prog 38 = true := by kernel_rfl
theorem go39 : goFn Tryz.prog 39 = true := by kernel_rfl
theorem go40 : goFn Tryz.prog 40 = true := by kernel_rfl
theorem go41 : goFn Tryz.prog 41 = true := by kernel_rfl
theorem go42 : goFn Tryz.prog 42 = true := by kernel_rfl
theorem go49 : goFn Tryz.prog 49 = true := by kernel_rfl
theorem go50 : goFn Tryz.prog 50 = true := by kernel_rfl
theorem go51 : goFn Tryz.prog 51 = true := by kernel_rfl
theorem go56 : goFn Tryz.prog 56 = true := by kernel_rfl
theorem go57 : goFn Tryz.prog 57 = true := by kernel_rfl
theorem go58 : goFn Tryz.prog 58 = true := by kernel_rfl
theorem go59 : goFn Tryz.prog 59 = true := by kernel_rfl
theorem go60 : goFn Tryz.prog 60 = true := by kernel_rfl
theorem go61 : goFn Tryz.prog 61 = true := by kernel_rfl
theorem go62 : goFn Tryz.prog 62 = true := by kernel_rfl
theorem go63 : goFn Tryz.prog 63 = true := by kernel_rfl
theorem go69 : goFn Tryz.prog 69 = true := by kernel_rfl
theorem go75 : goFn Tryz.prog 75 = true := by kernel_rfl
theorem go76 : goFn Tryz.prog 76 = true := by kernel_rfl
theorem go77 : goFn Tryz.prog 77 = true := by kernel_rfl
theorem go78 : goFn Tryz.prog 78 = true := by kernel_rfl
theorem go79 : goFn Tryz.prog 79 = true := by kernel_rfl
theorem go80 : goFn Tryz.prog 80 = true := by kernel_rfl
theorem go81 : goFn Tryz.prog 81 = true := by kernel_rfl
theorem go100 : goFn Tryz.prog 100 = true := by kernel_rfl
theorem go104 : goFn Tryz.prog 104 = true := by kernel_rfl
theorem go105 : goFn Tryz.prog 105 = true := by kernel_rfl
theorem go106 : goFn Tryz.prog 106 = true := by kernel_rfl
theorem go107 : goFn Tryz.prog 107 = true := by kernel_rfl
theorem go108 : goFn Tryz.prog 108 = true := by kernel_rfl
theorem go124 : goFn Tryz.prog 124 = true := by kernel_rfl
theorem go125 : goFn Tryz.prog 125 = true := by kernel_rfl
set_option linter.defProp false in
def awF :=
 (And.intro (And.intro (And.intro (And.intro (And.intro (And.intro (And.intro ti2
 (And.intro ie2
 it2))
 (And.intro st2
 (And.intro ti3
 ie3)))
 (And.intro (And.intro it3
 (And.intro st3
 ti4))
 (And.intro (And.intro bt4
 ti5)
 (And.intro ie5
 it5))))
 (And.intro (And.intro (And.intro st5
 (And.intro ti6
 ie6))
 (And.intro (And.intro it6
 st6)
 (And.intro ti8
 sf8_0)))
 (And.intro (And.intro sf8_1
 (And.intro sf8_2
 sf8_3))
 (And.intro (And.intro ti9
 st9)
 (And.intro ap9
 it9)))))
 (And.intro (And.intro (And.intro (And.intro ti10
 (And.intro st10
 ap10))
 (And.intro it10
 (And.intro ti11
 st11)))
 (And.intro (And.intro ap11
 (And.intro it11
 ti12))
 (And.intro (And.intro ie12
 it12)
 (And.intro st12
 ti14))))
 (And.intro (And.intro (And.intro sf14_0
 (And.intro sf14_1
 ti15))
 (And.intro (And.intro ti16
 ti17)
 (And.intro ti19
 sf19_0)))
 (And.intro (And.intro ti20
 (And.intro ti21
 ie21))
 (And.intro (And.intro it21
 st21)
 (And.intro ti23
 se23))))))
 (And.intro (And.intro (And.intro (And.intro (And.intro ae23
 (And.intro ti25
 se25))
 (And.intro sz25
 (And.intro ap25
 st25)))
 (And.intro (And.intro ti30
 (And.intro se30
 sz30))
 (And.intro (And.intro ap30
 st30)
 (And.intro ti36
 ti37))))
 (And.intro (And.intro (And.intro ti39
 (And.intro zo39
 sf39_0))
 (And.intro (And.intro sf39_1
 sf39_2)
 (And.intro ti41
 ti45)))
 (And.intro (And.intro se45
 (And.intro sz45
 ap45))
 (And.intro (And.intro st45
 ti47)
 (And.intro sf47_0
 sf47_1)))))
 (And.intro (And.intro (And.intro (And.intro ti49
 (And.intro sf49_0
 sf49_1))
 (And.intro (And.intro ti57
 se57)
 (And.intro sz57
 ap57)))
 (And.intro (And.intro st57
 (And.intro ti58
 ie58))
 (And.intro (And.intro it58
 st58)
 (And.intro ti60
 se60))))
 (And.intro (And.intro (And.intro sz60
 (And.intro ap60
 st60))
 (And.intro (And.intro ti62
 ie62)
 (And.intro it62
 st62)))
 (And.intro (And.intro ti66
 (And.intro ti67
 se67))
 (And.intro (And.intro ae67
 ti68)
 (And.intro sf68_0
 sf68_1)))))))
 (And.intro (And.intro (And.intro (And.intro (And.intro (And.intro ti69
 (And.intro se69
 sz69))
 (And.intro ap69
 (And.intro st69
 ti70)))
 (And.intro (And.intro se70
 (And.intro sz70
 ap70))
 (And.intro (And.intro st70
 ti75)
 (And.intro ti80
 se80))))
 (And.intro (And.intro (And.intro ae80
 (And.intro ti84
 ti85))
 (And.intro (And.intro ie85
 it85)
 (And.intro st85
 ti89)))
 (And.intro (And.intro ie89
 (And.intro it89
 st89))
 (And.intro (And.intro ti114
 ti116)
 (And.intro sf116_0
 sf116_1)))))
 (And.intro (And.intro (And.intro (And.intro ti120
 (And.intro ie120
 it120))
 (And.intro (And.intro st120
 ti123)
 (And.intro ti135
 ti139)))
 (And.intro (And.intro sf139_0
 (And.intro sf139_1
 sf139_2))
 (And.intro (And.intro ti141
 se141)
 (And.intro ae141
 ti143))))
 (And.intro (And.intro (And.intro sf143_0
 (And.intro sf143_1
 ti144))
 (And.intro (And.intro se144
 ae144)
 (And.intro ti146
 se146)))
 (And.intro (And.intro sz146
 (And.intro ap146
 st146))
 (And.intro (And.intro ti150
 se150)
 (And.intro ae150
 ti160))))))
 (And.intro (And.intro (And.intro (And.intro (And.intro ti162
 (And.intro sf162_0
 ti164))
 (And.intro se164
 (And.intro ae164
 ti165)))
 (And.intro (And.intro se165
 (And.intro ae165
 ti167))
 (And.intro (And.intro se167
 ae167)
 (And.intro ti168
 se168))))
 (And.intro (And.intro (And.intro ae168
 (And.intro ti170
 sf170_0))
 (And.intro (And.intro sf170_1
 sf170_2)
 (And.intro sf170_3
 ti171)))
 (And.intro (And.intro se171
 (And.intro ae171
 ti173))
 (And.intro (And.intro sf173_0
 ti174)
 (And.intro ie174
 it174)))))
 (And.intro (And.intro (And.intro (And.intro st174
 (And.intro ti175
 ie175))
 (And.intro (And.intro it175
 st175)
 (And.intro ti176
 ti177)))
 (And.intro (And.intro ie177
 (And.intro it177
 st177))
 (And.intro (And.intro ti178
 ie178)
 (And.intro it178
 st178))))
 (And.intro (And.intro (And.intro ti180
 (And.intro sf180_0
 sf180_1))
 (And.intro (And.intro sf180_2
 sf180_3)
 (And.intro sf180_4
 sf180_5)))
 (And.intro (And.intro sf180_6
 (And.intro sf180_7
 sf180_8))
 (And.intro (And.intro sf180_9
 sf180_10)
 (And.intro gf36
 if75))))))))
theorem hmix : Tryz.prog.follows .mixedOrders = true := by kernel_rfl
end Go.Proofs.YtjecgoddmkaboaaGreatDoor

/-
  Digits in base 2^32: plain.
-/
namespace Go.Proofs.YtjecgoddmkaboaaGreatDoor.Num
open Go Go.Proofs Go.Abs

/-- A fact, out of omega's sight. -/
structure Hid (p : Prop) : Prop where
  out : p
def B : Nat := 4294967296
def val : List Nat → Nat
  | [] => 0
  | d :: l => d + B * val l
def toW (n : Nat) : List Nat := if h : n = 0 then [] else n % B :: toW (n / B)
termination_by n
decreasing_by exact Nat.div_lt_self (by omega) (by decide)
def Dig (l : List Nat) : Prop := ∀ d, d ∈ l → d < B

theorem toW_zero : toW 0 = [] := by rw [toW]; simp
theorem toW_pos {n : Nat} (h : n ≠ 0) : toW n = n % B :: toW (n / B) := by rw [toW]; simp [h]
theorem val_toW (n : Nat) : val (toW n) = n := by
  induction n using Nat.strongRecOn with
  | _ n ih =>
    by_cases h : n = 0
    · subst h; rw [toW_zero]; rfl
    · rw [toW_pos h, val, ih (n / B) (Nat.div_lt_self (by omega) (by decide))]
      exact Nat.mod_add_div n B
theorem dig_toW (n : Nat) : Dig (toW n) := by
  induction n using Nat.strongRecOn with
  | _ n ih =>
    by_cases h : n = 0
    · subst h; rw [toW_zero]; intro d hd; cases hd
    · rw [toW_pos h]
      intro d hd
      rcases List.mem_cons.1 hd with rfl | hd
      · exact Nat.mod_lt _ (by decide)
      · exact ih (n / B) (Nat.div_lt_self (by omega) (by decide)) d hd
theorem val_append (l m : List Nat) : val (l ++ m) = val l + B ^ l.length * val m := by
  induction l with
  | nil => simp [val]
  | cons d l ih => simp only [List.cons_append, val, ih, List.length_cons, Nat.pow_succ, Nat.mul_add]; rw [Nat.add_assoc]; congr 2; rw [← Nat.mul_assoc, Nat.mul_comm B]
theorem val_lt {l : List Nat} (h : Dig l) : val l < B ^ l.length := by
  induction l with
  | nil => simp [val]
  | cons d l ih =>
    have h1 := h d (by simp)
    have h2 := ih fun x hx => h x (by simp [hx])
    simp only [val, List.length_cons, Nat.pow_succ]
    have : B * (val l + 1) ≤ B * B ^ l.length := Nat.mul_le_mul_left _ h2
    rw [Nat.mul_comm (B ^ l.length)]
    rw [Nat.mul_add] at this
    omega
theorem Dig.append {l m : List Nat} (h1 : Dig l) (h2 : Dig m) : Dig (l ++ m) := fun d hd => by
  rcases List.mem_append.1 hd with h | h
  · exact h1 d h
  · exact h2 d h
theorem Dig.take {l : List Nat} (h : Dig l) (n : Nat) : Dig (l.take n) := fun d hd => h d (List.mem_of_mem_take hd)
theorem Dig.drop {l : List Nat} (h : Dig l) (n : Nat) : Dig (l.drop n) := fun d hd => h d (List.mem_of_mem_drop hd)
theorem Dig.getD {l : List Nat} (h : Dig l) (i : Nat) : l.getD i 0 < B := by
  rw [List.getD_eq_getElem?_getD]
  cases e : l[i]? with
  | none => decide
  | some x => exact h x (List.mem_of_getElem? e)
theorem take_succ' {l : List Nat} {k : Nat} (h : k < l.length) : l.take (k + 1) = l.take k ++ [l.getD k 0] := by
  rw [List.take_add_one, List.getD_eq_getElem?_getD, List.getElem?_eq_getElem h]; rfl
theorem val_take_succ {l : List Nat} {k : Nat} (h : k < l.length) : val (l.take (k + 1)) = val (l.take k) + B ^ k * l.getD k 0 := by
  rw [take_succ' h, val_append]
  simp [val, Nat.min_eq_left (Nat.le_of_lt h)]
theorem toW_of {l : List Nat} (h : Dig l) (hl : l = [] ∨ l.getD (l.length - 1) 0 ≠ 0) : toW (val l) = l := by
  induction l with
  | nil => exact toW_zero
  | cons d l ih =>
    have h1 := h d (by simp)
    have hB : (0 : Nat) < B := by decide
    have hv : val (d :: l) ≠ 0 := by
      simp only [val]
      by_cases hn : l = []
      · subst hn; simp at hl; simp [val]; omega
      · have h3 := ih (fun x hx => h x (by simp [hx])) (.inr (by
          rcases hl with h0 | h0
          · cases h0
          · have : l.length ≠ 0 := by simpa using hn
            have e : (d :: l).length - 1 = (l.length - 1) + 1 := by simp; omega
            rw [e] at h0; simpa using h0))
        intro h0
        have : val l = 0 := by
          have := Nat.eq_zero_of_add_eq_zero_left h0
          rcases Nat.mul_eq_zero.1 this with h | h
          · omega
          · exact h
        rw [this, toW_zero] at h3
        exact hn h3.symm
    rw [toW_pos hv]
    have e1 : val (d :: l) % B = d := by simp only [val]; rw [Nat.add_mul_mod_self_left]; exact Nat.mod_eq_of_lt h1
    have e2 : val (d :: l) / B = val l := by simp only [val]; rw [Nat.add_mul_div_left _ _ hB, Nat.div_eq_of_lt h1, Nat.zero_add]
    rw [e1, e2]
    by_cases hn : l = []
    · subst hn; simp [val, toW_zero]
    · rw [ih (fun x hx => h x (by simp [hx])) (.inr (by
          rcases hl with h0 | h0
          · cases h0
          · have : l.length ≠ 0 := by simpa using hn
            have e : (d :: l).length - 1 = (l.length - 1) + 1 := by simp; omega
            rw [e] at h0; simpa using h0))]
theorem toW_last {n : Nat} (h : n ≠ 0) : (toW n).getD ((toW n).length - 1) 0 ≠ 0 := by
  induction n using Nat.strongRecOn with
  | _ n ih =>
    rw [toW_pos h]
    by_cases h2 : n / B = 0
    · rw [h2, toW_zero]
      simp
      have : n < B := by
        rcases Nat.div_eq_zero_iff.1 h2 with h | h
        · exact absurd h (by decide)
        · exact h
      rw [Nat.mod_eq_of_lt this]; exact h
    · have := ih _ (Nat.div_lt_self (by omega) (by decide)) h2
      have hl : (toW (n / B)).length ≠ 0 := by rw [toW_pos h2]; simp
      have e : (n % B :: toW (n / B)).length - 1 = ((toW (n / B)).length - 1) + 1 := by simp; omega
      rw [e]
      simpa using this
theorem toW_nil {n : Nat} : toW n = [] ↔ n = 0 := by
  constructor
  · intro h
    have := val_toW n
    rw [h] at this
    exact this.symm
  · rintro rfl; exact toW_zero
theorem toW_length_le {n k : Nat} (h : n < B ^ k) : (toW n).length ≤ k := by
  induction k generalizing n with
  | zero => have : n = 0 := by simpa using h
            subst this; simp [toW_zero]
  | succ k ih =>
    by_cases h0 : n = 0
    · subst h0; simp [toW_zero]
    · rw [toW_pos h0]
      simp only [List.length_cons]
      have : n / B < B ^ k := by
        rw [Nat.div_lt_iff_lt_mul (by decide)]
        rw [← Nat.pow_succ]; exact h
      have := ih this
      omega
theorem le_of_toW_length {n k : Nat} (h : k < (toW n).length) : B ^ k ≤ n := by
  by_cases hn : B ^ k ≤ n
  · exact hn
  · have := toW_length_le (n := n) (k := k) (by omega)
    omega
theorem lt_of_toW (n : Nat) : n < B ^ (toW n).length := by
  have := val_lt (dig_toW n)
  rwa [val_toW] at this

theorem bit31 {n : Nat} (h : n < 4294967296) : n / 2147483648 = (n.testBit 31).toNat := by
  rw [Nat.testBit_eq_decide_div_mod_eq, show (2 : Nat) ^ 31 = 2147483648 from rfl]
  by_cases h1 : n / 2147483648 = 1
  · simp [h1]
  · have : n / 2147483648 = 0 := by omega
    simp [this]
theorem bit31' {n : Nat} (h : n < 4294967296) : n.testBit 31 = decide (2147483648 ≤ n) := by
  rw [Nat.testBit_eq_decide_div_mod_eq, show (2 : Nat) ^ 31 = 2147483648 from rfl]
  apply decide_eq_decide.2
  omega
theorem borrow {x y c d : Nat} (hx : x < 4294967296) (hy : y < 4294967296) (hc : c ≤ 1) (hd : d = (x + 4294967296 - y - c) % 4294967296) :
    (((4294967295 - x) &&& y) ||| ((4294967295 - (x ^^^ y)) &&& d)) / 2147483648 = if x < y + c then 1 else 0 := by
  have hxy : x ^^^ y < 2 ^ 32 := Nat.xor_lt_two_pow (by omega) (by omega)
  have hd' : d < 4294967296 := by omega
  have h1 : ((4294967295 - x) &&& y) < 2 ^ 32 := Nat.and_lt_two_pow _ (by omega)
  have h2 : ((4294967295 - (x ^^^ y)) &&& d) < 2 ^ 32 := Nat.and_lt_two_pow _ (by omega)
  have h3 := Nat.or_lt_two_pow h1 h2
  rw [bit31 (by omega), Nat.testBit_or, Nat.testBit_and, Nat.testBit_and]
  rw [show 4294967295 - x = 2 ^ 32 - (x + 1) by omega, show 4294967295 - (x ^^^ y) = 2 ^ 32 - ((x ^^^ y) + 1) by omega, Nat.testBit_two_pow_sub_succ (by omega), Nat.testBit_two_pow_sub_succ hxy, Nat.testBit_xor,
    bit31' hx, bit31' hy, bit31' hd']
  by_cases a : 2147483648 ≤ x <;> by_cases b : 2147483648 ≤ y <;> by_cases e : 2147483648 ≤ d <;> by_cases f : x < y + c <;> simp [a, b, e, f] <;> omega
theorem flip32 {n : Nat} (h : n < 4294967296) : 4294967295 ^^^ n = 4294967295 - n := by
  apply Nat.eq_of_testBit_eq
  intro i
  rw [show 4294967295 - n = 2 ^ 32 - (n + 1) by omega, Nat.testBit_two_pow_sub_succ (by omega), Nat.testBit_xor, show (4294967295 : Nat) = 2 ^ 32 - 1 from rfl, Nat.testBit_two_pow_sub_one]
  by_cases hi : i < 32
  · simp [hi]
  · have : n.testBit i = false := Nat.testBit_lt_two_pow (Nat.lt_of_lt_of_le h (by
      calc 4294967296 = 2 ^ 32 := rfl
        _ ≤ 2 ^ i := Nat.pow_le_pow_right (by decide) (by omega)))
    simp [hi, this]
theorem xorMax {n : Nat} (h : n < 4294967296) : bitsI .xor .u32 4294967295 (n : Int) = ((4294967295 - n : Nat) : Int) := by
  have := bi_u32_xor_nat (a := 4294967295) (b := n) (by omega) h
  rw [flip32 h] at this
  exact this
theorem val_split {l : List Nat} {k : Nat} (h : k < l.length) : val l = val (l.take k) + B ^ k * (l.getD k 0 + B * val (l.drop (k + 1))) := by
  have e : l = l.take k ++ l.getD k 0 :: l.drop (k + 1) := by
    rw [List.getD_eq_getElem?_getD, List.getElem?_eq_getElem h]
    simp
  conv => lhs; rw [e]
  rw [val_append]
  simp [val, Nat.min_eq_left (Nat.le_of_lt h)]
theorem val_lt_of {l m : List Nat} {k : Nat} (hl : Dig l) (h1 : k < l.length) (h2 : k < m.length) (h3 : l.drop (k + 1) = m.drop (k + 1)) (h4 : l.getD k 0 < m.getD k 0) : val l < val m := by
  rw [val_split h1, val_split h2, h3]
  have h5 := val_lt (hl.take k)
  rw [List.length_take, Nat.min_eq_left (Nat.le_of_lt h1)] at h5
  have h6 : B ^ k * (l.getD k 0 + 1 + B * val (m.drop (k + 1))) ≤ B ^ k * (m.getD k 0 + B * val (m.drop (k + 1))) := Nat.mul_le_mul_left _ (by omega)
  rw [show l.getD k 0 + 1 + B * val (m.drop (k + 1)) = (l.getD k 0 + B * val (m.drop (k + 1))) + 1 by omega, Nat.mul_add, Nat.mul_one] at h6
  omega
theorem drop_eq {l m : List Nat} {k : Nat} (h1 : k < l.length) (h2 : k < m.length) (h3 : l.drop (k + 1) = m.drop (k + 1)) (h4 : l.getD k 0 = m.getD k 0) : l.drop k = m.drop k := by
  rw [List.drop_eq_getElem_cons h1, List.drop_eq_getElem_cons h2, h3]
  simp [List.getD_eq_getElem?_getD, List.getElem?_eq_getElem h1, List.getElem?_eq_getElem h2] at h4
  rw [h4]
theorem toW_len_lt {a b : Nat} (h : (toW a).length < (toW b).length) : a < b := Nat.lt_of_lt_of_le (lt_of_toW a) (le_of_toW_length h)
theorem sub_digit {x y c : Nat} (hx : x < B) (hy : y < B) (hc : c ≤ 1) : (x + B - y - c) % B + y + c = x + B * (if x < y + c then 1 else 0) := by
  simp only [B] at *; split <;> omega
def cmpI (a b : Int) : Int := if a < b then -1 else if b < a then 1 else 0
theorem cmpI_lt {a b : Int} (h : a < b) : cmpI a b = -1 := by simp [cmpI, h]
theorem cmpI_gt {a b : Int} (h : b < a) : cmpI a b = 1 := by simp [cmpI, h, show ¬ a < b by omega]
theorem cmpI_eq {a b : Int} (h : a = b) : cmpI a b = 0 := by simp [cmpI, h]
theorem cmpI_zero {a b : Int} : cmpI a b = 0 ↔ a = b := by
  refine ⟨fun h => ?_, cmpI_eq⟩
  by_cases h1 : a < b
  · rw [cmpI_lt h1] at h; omega
  · by_cases h2 : b < a
    · rw [cmpI_gt h2] at h; omega
    · omega
theorem cmpI_of {a b c d : Int} (h1 : a < b → c < d) (h2 : b < a → d < c) (h3 : a = b → c = d) : cmpI a b = cmpI c d := by
  by_cases h : a < b
  · rw [cmpI_lt h, cmpI_lt (h1 h)]
  · by_cases h' : b < a
    · rw [cmpI_gt h', cmpI_gt (h2 h')]
    · have : a = b := by omega
      rw [cmpI_eq this, cmpI_eq (h3 this)]
theorem take_val (l : List Nat) (k : Nat) : val (l.take (k + 1)) = val (l.take k) + B ^ k * l.getD k 0 := by
  by_cases h : k < l.length
  · exact val_take_succ h
  · rw [List.take_of_length_le (by omega), List.take_of_length_le (by omega), List.getD_eq_getElem?_getD, List.getElem?_eq_none (by omega)]
    simp
theorem val_set {l : List Nat} {p d : Nat} (h : p < l.length) : val (l.set p d) + B ^ p * l.getD p 0 = val l + B ^ p * d := by
  have h1 := val_split (l := l.set p d) (k := p) (by simpa using h)
  have h2 := val_split h
  rw [List.take_set_of_le (Nat.le_refl _), List.drop_set_of_lt (Nat.lt_succ_self p), List.getD_eq_getElem?_getD, List.getElem?_set_self h] at h1
  simp only [Option.getD_some, Nat.mul_add, Nat.succ_eq_add_one] at h1 h2
  omega
theorem Dig.set {l : List Nat} (h : Dig l) {p d : Nat} (hd : d < B) : Dig (l.set p d) := fun x hx => by
  rcases List.mem_or_eq_of_mem_set hx with h1 | h1
  · exact h x h1
  · omega
theorem Dig.zeros (n : Nat) : Dig (List.replicate n 0) := fun d hd => by
  have := List.eq_of_mem_replicate hd
  subst this; decide
theorem val_zeros (n : Nat) : val (List.replicate n 0) = 0 := by
  induction n with
  | zero => rfl
  | succ n ih => simp [List.replicate_succ, val, ih]
theorem mul_digit {x y : Nat} (hx : x < B) (hy : y < B) : x * y ≤ 18446744065119617025 := by
  simp only [B] at *
  exact Nat.mul_le_mul (Nat.le_pred_of_lt hx) (Nat.le_pred_of_lt hy)
theorem times_step {q o m : List Nat} {i j c x s : Nat} (hp : i + j < q.length) (hs : s = c + (x * m.getD j 0 + q.getD (i + j) 0)) (hv : val q + B ^ (i + j) * c = val o + B ^ i * (x * val (m.take j))) :
    val (q.set (i + j) (s % B)) + B ^ (i + (j + 1)) * (s / B) = val o + B ^ i * (x * val (m.take (j + 1))) := by
  have h1 := val_set (l := q) (p := i + j) (d := s % B) hp
  have h2 := Nat.mod_add_div s B
  have h3 : B ^ (i + j) * (s % B) + B ^ (i + (j + 1)) * (s / B) = B ^ (i + j) * s := by
    rw [← Nat.add_assoc i j 1, Nat.pow_succ, Nat.mul_assoc, ← Nat.mul_add, h2]
  have h4 : B ^ (i + j) * s = B ^ (i + j) * c + (B ^ i * (x * (B ^ j * m.getD j 0)) + B ^ (i + j) * q.getD (i + j) 0) := by
    rw [hs, Nat.mul_add, Nat.mul_add]
    congr 2
    rw [Nat.pow_add, Nat.mul_assoc, Nat.mul_left_comm (B ^ j)]
  have h5 : B ^ i * (x * val (m.take (j + 1))) = B ^ i * (x * val (m.take j)) + B ^ i * (x * (B ^ j * m.getD j 0)) := by
    rw [take_val, Nat.mul_add, Nat.mul_add]
  omega
theorem times_row {q o l : List Nat} {i k c b : Nat} (hp : i + k < q.length) (hz : q.getD (i + k) 0 = 0) (hv : val q + B ^ (i + k) * c = val o + B ^ i * (l.getD i 0 * b)) (ho : val o = val (l.take i) * b) :
    val (q.set (i + k) c) = val (l.take (i + 1)) * b := by
  have h1 := val_set (l := q) (p := i + k) (d := c) hp
  rw [hz] at h1
  have h2 : val (l.take (i + 1)) * b = val (l.take i) * b + B ^ i * (l.getD i 0 * b) := by rw [take_val, Nat.add_mul, Nat.mul_assoc]
  omega
theorem w_u32 {n : Nat} : IntKind.u32.wrap (n : Int) = ((n % 4294967296 : Nat) : Int) := by simp [IntKind.wrap, IntKind.bits, IntKind.signed]
theorem w_u64 {n : Nat} : IntKind.u64.wrap (n : Int) = ((n % 18446744073709551616 : Nat) : Int) := by simp [IntKind.wrap, IntKind.bits, IntKind.signed]
theorem getD_set_ne {l : List Nat} {p r d : Nat} (h : p ≠ r) : (l.set p d).getD r 0 = l.getD r 0 := by
  simp [List.getD_eq_getElem?_getD, List.getElem?_set_ne h]
theorem or_add {h x : Nat} (hx : x < 4294967296) : h * 4294967296 ||| x = h * 4294967296 + x := by
  have := Nat.shiftLeft_add_eq_or_of_lt (i := 32) (a := h) (b := x) hx
  rw [Nat.shiftLeft_eq] at this
  exact this.symm
theorem or64 {h x : Nat} (hh : h < 4294967296) (hx : x < 4294967296) : bitsI .or .u64 ((h : Int) * 4294967296) (x : Int) = ((h * 4294967296 + x : Nat) : Int) := by
  have := bi_u64_or (a := ((h * 4294967296 : Nat) : Int)) (b := (x : Int)) (by omega) (by omega) (by omega) (by omega)
  rw [Int.toNat_natCast, Int.toNat_natCast, or_add hx] at this
  exact this
theorem log2_shift {n k : Nat} (h : n / 2 ^ k ≠ 0) : n.log2 = k + (n / 2 ^ k).log2 := by
  have hp : 0 < 2 ^ k := Nat.two_pow_pos k
  have hn : n ≠ 0 := by intro h0; subst h0; simp at h
  have h1 := (Nat.log2_eq_iff h).1 rfl
  refine (Nat.log2_eq_iff hn).2 ⟨?_, ?_⟩
  · rw [Nat.pow_add, Nat.mul_comm]
    exact (Nat.le_div_iff_mul_le hp).1 h1.1
  · rw [Nat.add_assoc, Nat.pow_add, Nat.mul_comm]
    exact (Nat.div_lt_iff_lt_mul hp).1 h1.2
theorem divmod_step {r x d : Nat} (hr : r < d) (hx : x < B) : (r * B + x) / d < B := by
  rw [Nat.div_lt_iff_lt_mul (by omega)]
  have : (r + 1) * B ≤ d * B := Nat.mul_le_mul_right _ hr
  rw [Nat.add_mul, Nat.one_mul] at this
  rw [Nat.mul_comm B]
  omega
theorem short_step {q l : List Nat} {k r d : Nat} (h : k < l.length) (hv : val (l.drop (k + 1)) = val q * d + r) :
    val (l.drop k) = val ((r * B + l.getD k 0) / d :: q) * d + (r * B + l.getD k 0) % d := by
  have e : l.drop k = l.getD k 0 :: l.drop (k + 1) := by
    rw [List.drop_eq_getElem_cons h, List.getD_eq_getElem?_getD, List.getElem?_eq_getElem h]; rfl
  rw [e, val, hv, val]
  have h1 := Nat.mod_add_div (r * B + l.getD k 0) d
  generalize (r * B + l.getD k 0) / d = a at *
  generalize (r * B + l.getD k 0) % d = b at *
  rw [Nat.mul_comm d a] at h1
  rw [Nat.add_mul, Nat.mul_add, Nat.mul_assoc, Nat.mul_comm B r]
  omega
theorem set_rep {q : List Nat} {k v : Nat} : (0 :: (List.replicate k 0 ++ q)).set k v = List.replicate k 0 ++ v :: q := by
  have e : 0 :: (List.replicate k 0 ++ q) = List.replicate k 0 ++ 0 :: q := by
    rw [← List.cons_append, ← List.replicate_succ, List.replicate_succ', List.append_assoc]; rfl
  rw [e, List.set_append_right _ _ (by simp)]
  simp
/-- The k lowest digits. -/
def digs : Nat → Nat → List Nat
  | 0, _ => []
  | k + 1, n => n % B :: digs k (n / B)
theorem digs_length (k n : Nat) : (digs k n).length = k := by
  induction k generalizing n with
  | zero => rfl
  | succ k ih => simp [digs, ih]
theorem dig_digs (k n : Nat) : Dig (digs k n) := by
  induction k generalizing n with
  | zero => intro d h; cases h
  | succ k ih =>
    intro d h
    rcases List.mem_cons.1 h with rfl | h
    · exact Nat.mod_lt _ (by decide)
    · exact ih _ d h
theorem digs_val {l : List Nat} (h : Dig l) : digs l.length (val l) = l := by
  induction l with
  | nil => rfl
  | cons d l ih =>
    have h1 := h d (by simp)
    have hB : (0 : Nat) < B := by decide
    simp only [List.length_cons, digs, val]
    rw [Nat.add_mul_mod_self_left, Nat.mod_eq_of_lt h1, Nat.add_mul_div_left _ _ hB, Nat.div_eq_of_lt h1, Nat.zero_add, ih fun x hx => h x (by simp [hx])]
theorem val_digs {k n : Nat} (h : n < B ^ k) : val (digs k n) = n := by
  induction k generalizing n with
  | zero => have : n = 0 := by simpa using h
            subst this; rfl
  | succ k ih =>
    simp only [digs, val]
    rw [ih]
    · exact Nat.mod_add_div n B
    · rw [Nat.div_lt_iff_lt_mul (by decide), ← Nat.pow_succ]; exact h
theorem digs_eq {l : List Nat} {k n : Nat} (h : Dig l) (hk : l.length = k) (hv : val l = n) : l = digs k n := by
  subst hk; subst hv; exact (digs_val h).symm
end Go.Proofs.YtjecgoddmkaboaaGreatDoor.Num

namespace Go.Proofs.YtjecgoddmkaboaaGreatDoor.Num
open Go Go.Proofs Go.Abs
abbrev W (l : List Nat) : D := .sl l.length false (nats .u32 l)
variable {G : Globals}
abbrev M0 : Muts := fun _ => false
theorem at_spec (l : List Nat) (i : Nat) :
    Ctr Tryz.prog G 61 [.d (W l), .d (.int .i64 i)] [] (.d (.int .u32 (l.getD i 0 : Nat))) [] := by
  refine Ctr.pure (M := M0) hmix Tryz.func61 rfl go61 ?_
  simp (config := { maxSteps := 1000000 }) (disch := ((try simp only [awL]); omega)) only [Tryz.f61, ↓awU, awV, awF, Qa, Qb, Qc, Qd, forall_const, ↓reduceIte, ↓reduceDIte, ↓Qe, Qf, Qg, Qh, Qi, Qj, Qk, Ql, Qm, Qn, Qo, Qp, Qq, Qr, Qs, implies_true, Qt, Qu, Qv, Qw, Qx, Qy, Qz, QA, QB, QC, QD, QE, QF, QG, QH, QI, QJ, QK, QL, QM, QN, QO, QP, QQ]
  intro h
  rw [List.getD_eq_getElem?_getD, List.getElem?_eq_none (by omega)]; rfl
theorem trimmed_spec (l : List Nat) (hd : Dig l) (hl : l.length < 2 ^ 60) : Ctr Tryz.prog G 59 [.d (W l)] [] (.d (W (toW (val l)))) [] := by
  refine Ctr.pure (M := M0) hmix Tryz.func59 rfl go59 ?_
  simp only [Tryz.f59, ↓awU, awV, awF, Qa, Qb, Qc, Qd, forall_const, ↓reduceIte, ↓reduceDIte, ↓Qe, Qf, Qg, Qh, Qi, Qj, Qk, Ql, Qm, Qn, Qo, Qp, Qq, Qr, Qs, implies_true, Qt, Qu, Qv, Qw, Qx, Qy, Qz, QA, QB, QC, QD, QE, QF, QG, QH, QI, QJ, QK, QL, QM, QN, QO, QP, QQ]
  refine LoopC.inv (α := Nat) (fun k => k) (fun k => mkS 21 [(0, .d (.sl k false (nats .u32 (l.take k))))]) (fun _ => []) (fun k => k ≤ l.length ∧ val (l.take k) = val l) l.length ⟨Nat.le_refl _, by simp⟩ (.pure ?_) ?_
  · simp [mkS, SWeak, AWeak]
  · rintro k ⟨hk, hv⟩
    simp only [mkS, List.foldl, List.replicate, List.set_cons_zero, List.set_cons_succ]
    simp (config := { maxSteps := 1000000 }) (disch := ((try simp only [awL]); omega)) only [↓awU, awV, awF, Qa, Qb, Qc, Qd, forall_const, ↓reduceIte, ↓reduceDIte, ↓Qe, Qf, Qg, Qh, Qi, Qj, Qk, Ql, Qm, Qn, Qo, Qp, Qq, Qr, Qs, implies_true, Qt, Qu, Qv, Qw, Qx, Qy, Qz, QA, QB, QC, QD, QE, QF, QG, QH, QI, QJ, QK, QL, QM, QN, QO, QP, QQ]
    refine ⟨fun h => ⟨fun h0 => ⟨k - 1, ⟨by omega, ?_⟩, Nat.sub_lt (by omega) (by decide), .pure ?_⟩, fun h0 => ?_⟩, fun h => ?_⟩
    · have e : ((k : Int) - 1).toNat = k - 1 := by omega
      rw [e, List.getD_eq_getElem?_getD, List.getElem?_take, if_pos (by omega), ← List.getD_eq_getElem?_getD] at h0
      have := val_take_succ (l := l) (k := k - 1) (by omega)
      rw [show k - 1 + 1 = k by omega, hv] at this
      rw [this, show l.getD (k - 1) 0 = 0 by omega]; simp
    · have e : ((k : Int) - 1).toNat = k - 1 := by omega
      simp [SWeak, AWeak, e, List.take_take]
    · have e : ((k : Int) - 1).toNat = k - 1 := by omega
      rw [e] at h0
      have := toW_of (hd.take k) (.inr (by rw [show (l.take k).length - 1 = k - 1 by simp; omega]; omega))
      rw [hv] at this
      rw [this]; simp [W, hk, Nat.min_eq_left]
    · have : k = 0 := by omega
      subst this
      have : val l = 0 := by rw [← hv]; rfl
      rw [this, toW_zero]; rfl
theorem isNaN_int (a : Int) : Ctr Tryz.prog G 124 [.d (.int .i64 a)] [] (.d (.bool false)) [] := by
  refine Ctr.pure (M := M0) hmix Tryz.func124 rfl go124 ?_
  simp (config := { maxSteps := 1000000 }) (disch := ((try simp only [awL]); omega)) only [Tryz.f124, ↓awU, awV, awF, Qa, Qb, Qc, Qd, forall_const, ↓reduceIte, ↓reduceDIte, ↓Qe, Qf, Qg, Qh, Qi, Qj, Qk, Ql, Qm, Qn, Qo, Qp, Qq, Qr, Qs, implies_true, Qt, Qu, Qv, Qw, Qx, Qy, Qz, QA, QB, QC, QD, QE, QF, QG, QH, QI, QJ, QK, QL, QM, QN, QO, QP, QQ]
theorem isNaN_u32 (a : Int) : Ctr Tryz.prog G 125 [.d (.int .u32 a)] [] (.d (.bool false)) [] := by
  refine Ctr.pure (M := M0) hmix Tryz.func125 rfl go125 ?_
  simp (config := { maxSteps := 1000000 }) (disch := ((try simp only [awL]); omega)) only [Tryz.f125, ↓awU, awV, awF, Qa, Qb, Qc, Qd, forall_const, ↓reduceIte, ↓reduceDIte, ↓Qe, Qf, Qg, Qh, Qi, Qj, Qk, Ql, Qm, Qn, Qo, Qp, Qq, Qr, Qs, implies_true, Qt, Qu, Qv, Qw, Qx, Qy, Qz, QA, QB, QC, QD, QE, QF, QG, QH, QI, QJ, QK, QL, QM, QN, QO, QP, QQ]
theorem cmp_int (a b : Int) : Ctr Tryz.prog G 104 [.d (.int .i64 a), .d (.int .i64 b)] [] (.d (.int .i64 (cmpI a b))) [] := by
  refine Ctr.pure (M := M0) hmix Tryz.func104 rfl go104 ?_
  simp (config := { maxSteps := 1000000 }) (disch := ((try simp only [awL]); omega)) only [Tryz.f104, ↓awU, awV, awF, Qa, Qb, Qc, Qd, forall_const, ↓reduceIte, ↓reduceDIte, ↓Qe, Qf, Qg, Qh, Qi, Qj, Qk, Ql, Qm, Qn, Qo, Qp, Qq, Qr, Qs, implies_true, Qt, Qu, Qv, Qw, Qx, Qy, Qz, QA, QB, QC, QD, QE, QF, QG, QH, QI, QJ, QK, QL, QM, QN, QO, QP, QQ]
  refine CallC.pure (isNaN_int _) ?_
  simp (config := { maxSteps := 1000000 }) (disch := ((try simp only [awL]); omega)) only [↓awU, awV, awF, Qa, Qb, Qc, Qd, forall_const, ↓reduceIte, ↓reduceDIte, ↓Qe, Qf, Qg, Qh, Qi, Qj, Qk, Ql, Qm, Qn, Qo, Qp, Qq, Qr, Qs, implies_true, Qt, Qu, Qv, Qw, Qx, Qy, Qz, QA, QB, QC, QD, QE, QF, QG, QH, QI, QJ, QK, QL, QM, QN, QO, QP, QQ]
  refine CallC.pure (isNaN_int _) ?_
  simp (config := { maxSteps := 1000000 }) (disch := ((try simp only [awL]); omega)) only [↓awU, awV, awF, Qa, Qb, Qc, Qd, forall_const, ↓reduceIte, ↓reduceDIte, ↓Qe, Qf, Qg, Qh, Qi, Qj, Qk, Ql, Qm, Qn, Qo, Qp, Qq, Qr, Qs, implies_true, Qt, Qu, Qv, Qw, Qx, Qy, Qz, QA, QB, QC, QD, QE, QF, QG, QH, QI, QJ, QK, QL, QM, QN, QO, QP, QQ]
  refine ⟨fun h => (cmpI_lt h).symm, fun h => ⟨fun h' => (cmpI_gt h').symm, fun h' => (cmpI_eq (by omega)).symm⟩⟩
theorem cmp_u32 (a b : Int) : Ctr Tryz.prog G 105 [.d (.int .u32 a), .d (.int .u32 b)] [] (.d (.int .i64 (cmpI a b))) [] := by
  refine Ctr.pure (M := M0) hmix Tryz.func105 rfl go105 ?_
  simp (config := { maxSteps := 1000000 }) (disch := ((try simp only [awL]); omega)) only [Tryz.f105, ↓awU, awV, awF, Qa, Qb, Qc, Qd, forall_const, ↓reduceIte, ↓reduceDIte, ↓Qe, Qf, Qg, Qh, Qi, Qj, Qk, Ql, Qm, Qn, Qo, Qp, Qq, Qr, Qs, implies_true, Qt, Qu, Qv, Qw, Qx, Qy, Qz, QA, QB, QC, QD, QE, QF, QG, QH, QI, QJ, QK, QL, QM, QN, QO, QP, QQ]
  refine CallC.pure (isNaN_u32 _) ?_
  simp (config := { maxSteps := 1000000 }) (disch := ((try simp only [awL]); omega)) only [↓awU, awV, awF, Qa, Qb, Qc, Qd, forall_const, ↓reduceIte, ↓reduceDIte, ↓Qe, Qf, Qg, Qh, Qi, Qj, Qk, Ql, Qm, Qn, Qo, Qp, Qq, Qr, Qs, implies_true, Qt, Qu, Qv, Qw, Qx, Qy, Qz, QA, QB, QC, QD, QE, QF, QG, QH, QI, QJ, QK, QL, QM, QN, QO, QP, QQ]
  refine CallC.pure (isNaN_u32 _) ?_
  simp (config := { maxSteps := 1000000 }) (disch := ((try simp only [awL]); omega)) only [↓awU, awV, awF, Qa, Qb, Qc, Qd, forall_const, ↓reduceIte, ↓reduceDIte, ↓Qe, Qf, Qg, Qh, Qi, Qj, Qk, Ql, Qm, Qn, Qo, Qp, Qq, Qr, Qs, implies_true, Qt, Qu, Qv, Qw, Qx, Qy, Qz, QA, QB, QC, QD, QE, QF, QG, QH, QI, QJ, QK, QL, QM, QN, QO, QP, QQ]
  refine ⟨fun h => (cmpI_lt h).symm, fun h => ⟨fun h' => (cmpI_gt h').symm, fun h' => (cmpI_eq (by omega)).symm⟩⟩
theorem add32 (x y c : Nat) (hx : x < B) (hy : y < B) (hc : c ≤ 1) : Ctr Tryz.prog G 60 [.d (.int .u32 x), .d (.int .u32 y), .d (.int .u32 c)] []
    (.d (.tup [.int .u32 ((x + y + c) % B : Nat), .int .u32 ((x + y + c) / B : Nat)])) [] := by
  refine Ctr.pure (M := M0) hmix Tryz.func60 rfl go60 ?_
  simp only [B] at *
  simp (config := { maxSteps := 1000000 }) (disch := ((try simp only [awL]); omega)) only [Tryz.f60, ↓awU, awV, awF, Qa, Qb, Qc, Qd, forall_const, ↓reduceIte, ↓reduceDIte, ↓Qe, Qf, Qg, Qh, Qi, Qj, Qk, Ql, Qm, Qn, Qo, Qp, Qq, Qr, Qs, implies_true, Qt, Qu, Qv, Qw, Qx, Qy, Qz, QA, QB, QC, QD, QE, QF, QG, QH, QI, QJ, QK, QL, QM, QN, QO, QP, QQ]
  rw [show IntKind.u32.wrap ((x + y + c : Nat) : Int) = (((x + y + c) % 4294967296 : Nat) : Int) by simp [IntKind.wrap, IntKind.bits, IntKind.signed]]
  simp
theorem sub32 (x y c : Nat) (hx : x < B) (hy : y < B) (hc : c ≤ 1) : Ctr Tryz.prog G 108 [.d (.int .u32 x), .d (.int .u32 y), .d (.int .u32 c)] []
    (.d (.tup [.int .u32 ((x + B - y - c) % B : Nat), .int .u32 ((if x < y + c then 1 else 0 : Nat) : Int)])) [] := by
  refine Ctr.pure (M := M0) hmix Tryz.func108 rfl go108 ?_
  simp only [B] at *
  simp (config := { maxSteps := 1000000 }) (disch := ((try simp only [awL]); omega)) only [Tryz.f108, ↓awU, awV, awF, Qa, Qb, Qc, Qd, forall_const, ↓reduceIte, ↓reduceDIte, ↓Qe, Qf, Qg, Qh, Qi, Qj, Qk, Ql, Qm, Qn, Qo, Qp, Qq, Qr, Qs, implies_true, Qt, Qu, Qv, Qw, Qx, Qy, Qz, QA, QB, QC, QD, QE, QF, QG, QH, QI, QJ, QK, QL, QM, QN, QO, QP, QQ]
  have e1 : IntKind.u32.wrap (IntKind.u32.wrap ((x : Int) - (y : Int)) - (c : Int)) = (((x + 4294967296 - y - c) % 4294967296 : Nat) : Int) := by
    simp [IntKind.wrap, IntKind.bits, IntKind.signed]; omega
  have hxy : x ^^^ y < 2 ^ 32 := Nat.xor_lt_two_pow (by omega) (by omega)
  have h1 : ((4294967295 - x) &&& y) < 2 ^ 32 := Nat.and_lt_two_pow _ (by omega)
  have h2 : ((4294967295 - (x ^^^ y)) &&& ((x + 4294967296 - y - c) % 4294967296)) < 2 ^ 32 := Nat.and_lt_two_pow _ (by omega)
  rw [e1, bi_u32_xor_nat hx hy, xorMax hx, xorMax hxy, bi_u32_and_nat (by omega) hy, bi_u32_and_nat (by omega) (by omega), bi_u32_or_nat h1 h2]
  have := borrow hx hy hc rfl
  rw [← this]
  rfl
end Go.Proofs.YtjecgoddmkaboaaGreatDoor.Num

namespace Go.Proofs.YtjecgoddmkaboaaGreatDoor.Num
open Go Go.Proofs Go.Abs
variable {G : Globals}
theorem compare_spec (a b : Nat) (ha : (toW a).length < 2 ^ 40) (hb : (toW b).length < 2 ^ 40) :
    Ctr Tryz.prog G 77 [.d (W (toW a)), .d (W (toW b))] [] (.d (.int .i64 (cmpI a b))) [] := by
  have da := dig_toW a
  have db := dig_toW b
  have va := val_toW a
  have vb := val_toW b
  have la := @toW_len_lt a b
  have lb := @toW_len_lt b a
  generalize toW a = l at *
  generalize toW b = m at *
  refine Ctr.pure (M := M0) hmix Tryz.func77 rfl go77 ?_
  simp (config := { maxSteps := 1000000 }) (disch := ((try simp only [awL]); omega)) only [Tryz.f77, ↓awU, awV, awF, Qa, Qb, Qc, Qd, forall_const, ↓reduceIte, ↓reduceDIte, ↓Qe, Qf, Qg, Qh, Qi, Qj, Qk, Ql, Qm, Qn, Qo, Qp, Qq, Qr, Qs, implies_true, Qt, Qu, Qv, Qw, Qx, Qy, Qz, QA, QB, QC, QD, QE, QF, QG, QH, QI, QJ, QK, QL, QM, QN, QO, QP, QQ]
  refine CallC.pure (cmp_int _ _) ?_
  simp (config := { maxSteps := 1000000 }) (disch := ((try simp only [awL]); omega)) only [↓awU, awV, awF, Qa, Qb, Qc, Qd, forall_const, ↓reduceIte, ↓reduceDIte, ↓Qe, Qf, Qg, Qh, Qi, Qj, Qk, Ql, Qm, Qn, Qo, Qp, Qq, Qr, Qs, implies_true, Qt, Qu, Qv, Qw, Qx, Qy, Qz, QA, QB, QC, QD, QE, QF, QG, QH, QI, QJ, QK, QL, QM, QN, QO, QP, QQ]
  refine ⟨fun h => ?_, fun h => ?_⟩
  · refine cmpI_of (fun h => ?_) (fun h => ?_) (fun h' => absurd (cmpI_eq h') h)
    · have := la (by omega); omega
    · have := lb (by omega); omega
  · have e : l.length = m.length := by have := cmpI_zero.1 h; omega
    refine LoopC.inv (α := Nat) (fun k => k) (fun k => mkS 35 [(0, .d (W l)), (1, .d (W m)), (6, .d (.int .i64 ((k : Int) - 1)))]) (fun _ => []) (fun k => k ≤ l.length ∧ l.drop k = m.drop k) l.length ⟨Nat.le_refl _, by rw [List.drop_length, e, List.drop_length]⟩ (.pure ?_) ?_
    · simp [mkS, SWeak, AWeak]
    · rintro k ⟨hk, hv⟩
      simp only [mkS, List.foldl, List.replicate, List.set_cons_zero, List.set_cons_succ]
      simp (config := { maxSteps := 1000000 }) (disch := ((try simp only [awL]); omega)) only [↓awU, awV, awF, Qa, Qb, Qc, Qd, forall_const, ↓reduceIte, ↓reduceDIte, ↓Qe, Qf, Qg, Qh, Qi, Qj, Qk, Ql, Qm, Qn, Qo, Qp, Qq, Qr, Qs, implies_true, Qt, Qu, Qv, Qw, Qx, Qy, Qz, QA, QB, QC, QD, QE, QF, QG, QH, QI, QJ, QK, QL, QM, QN, QO, QP, QQ]
      refine ⟨fun h => ?_, fun h => ?_⟩
      · have e1 : ((k : Int) - 1).toNat = k - 1 := by omega
        refine CallC.pure (cmp_u32 _ _) ?_
        simp (config := { maxSteps := 1000000 }) (disch := ((try simp only [awL]); omega)) only [↓awU, awV, awF, Qa, Qb, Qc, Qd, forall_const, ↓reduceIte, ↓reduceDIte, ↓Qe, Qf, Qg, Qh, Qi, Qj, Qk, Ql, Qm, Qn, Qo, Qp, Qq, Qr, Qs, implies_true, Qt, Qu, Qv, Qw, Qx, Qy, Qz, QA, QB, QC, QD, QE, QF, QG, QH, QI, QJ, QK, QL, QM, QN, QO, QP, QQ]
        refine ⟨by rfl, fun h1 => ?_, fun h1 => ?_⟩
        · rw [e1, ← va, ← vb]
          rw [e1] at h1
          refine cmpI_of (fun h2 => ?_) (fun h2 => ?_) (fun h' => absurd (cmpI_eq h') h1)
          · have := val_lt_of (k := k - 1) da (by omega) (by omega) (by rw [show k - 1 + 1 = k by omega]; exact hv) (by omega : l.getD (k - 1) 0 < m.getD (k - 1) 0)
            omega
          · have := val_lt_of (k := k - 1) db (by omega) (by omega) (by rw [show k - 1 + 1 = k by omega]; exact hv.symm) (by omega : m.getD (k - 1) 0 < l.getD (k - 1) 0)
            omega
        · rw [e1] at h1
          have h2 := cmpI_zero.1 h1
          refine ⟨k - 1, ⟨by omega, drop_eq (by omega) (by omega) (by rw [show k - 1 + 1 = k by omega]; exact hv) (by omega)⟩, Nat.sub_lt (by omega) (by decide), .pure ?_⟩
          simp [SWeak, AWeak]
          omega
      · have : k = 0 := by omega
        subst this
        simp only [List.drop_zero] at hv
        rw [← va, ← vb, hv]
        exact (cmpI_eq rfl).symm
end Go.Proofs.YtjecgoddmkaboaaGreatDoor.Num

namespace Go.Proofs.YtjecgoddmkaboaaGreatDoor.Num
open Go Go.Proofs Go.Abs
variable {G : Globals}
theorem plus_spec (a b : Nat) (ha : (toW a).length < 2 ^ 40) (hb : (toW b).length < 2 ^ 40) :
    Ctr Tryz.prog G 36 [.d (W (toW a)), .d (W (toW b))] [] (.d (W (toW (a + b)))) [] := by
  have da := dig_toW a
  have db := dig_toW b
  have va := val_toW a
  have vb := val_toW b
  generalize toW a = l at *
  generalize toW b = m at *
  refine Ctr.pure (M := M0) hmix Tryz.func36 rfl go36 ?_
  simp (config := { maxSteps := 1000000 }) (disch := ((try simp only [awL]); omega)) only [Tryz.f36, ↓awU, awV, awF, Qa, Qb, Qc, Qd, forall_const, ↓reduceIte, ↓reduceDIte, ↓Qe, Qf, Qg, Qh, Qi, Qj, Qk, Ql, Qm, Qn, Qo, Qp, Qq, Qr, Qs, implies_true, Qt, Qu, Qv, Qw, Qx, Qy, Qz, QA, QB, QC, QD, QE, QF, QG, QH, QI, QJ, QK, QL, QM, QN, QO, QP, QQ]
  refine LoopC.inv (α := Nat × List Nat × Nat) (fun x => max l.length m.length - x.1) (fun x => mkS 45 [(0, .d (W l)), (1, .d (W m)), (5, .lsl 0 1 0 x.1), (6, .d (.int .u32 x.2.2)), (20, .d (.int .i64 (max l.length m.length : Nat))), (21, .d (.int .i64 x.1))])
    (fun x => [.row false (nats .u32 x.2.1)]) (fun x => x.1 ≤ max l.length m.length ∧ x.2.1.length = x.1 ∧ Dig x.2.1 ∧ x.2.2 ≤ 1 ∧ val x.2.1 + B ^ x.1 * x.2.2 = val (l.take x.1) + val (m.take x.1)) (0, [], 0) ⟨by simp, rfl, by simp [Dig], by simp, by simp [val]⟩ ?_ ?_
  · refine ⟨[some 0], rfl, by simp, by simp [mkS, SWeak, AWeak], by simp [HWeak, BWeak]⟩
  · rintro ⟨k, out, c⟩ ⟨hk, ho, hd, hc, hv⟩
    simp only at hk ho hd hc hv
    simp only [mkS, List.foldl, List.replicate, List.set_cons_zero, List.set_cons_succ]
    simp (config := { maxSteps := 1000000 }) (disch := ((try simp only [awL]); omega)) only [↓awU, awV, awF, Qa, Qb, Qc, Qd, forall_const, ↓reduceIte, ↓reduceDIte, ↓Qe, Qf, Qg, Qh, Qi, Qj, Qk, Ql, Qm, Qn, Qo, Qp, Qq, Qr, Qs, implies_true, Qt, Qu, Qv, Qw, Qx, Qy, Qz, QA, QB, QC, QD, QE, QF, QG, QH, QI, QJ, QK, QL, QM, QN, QO, QP, QQ]
    refine ⟨fun h => ?_, fun h => ?_⟩
    · refine CallC.pure (at_spec l k) ?_
      simp (config := { maxSteps := 1000000 }) (disch := ((try simp only [awL]); omega)) only [↓awU, awV, awF, Qa, Qb, Qc, Qd, forall_const, ↓reduceIte, ↓reduceDIte, ↓Qe, Qf, Qg, Qh, Qi, Qj, Qk, Ql, Qm, Qn, Qo, Qp, Qq, Qr, Qs, implies_true, Qt, Qu, Qv, Qw, Qx, Qy, Qz, QA, QB, QC, QD, QE, QF, QG, QH, QI, QJ, QK, QL, QM, QN, QO, QP, QQ]
      refine CallC.pure (at_spec m k) ?_
      simp (config := { maxSteps := 1000000 }) (disch := ((try simp only [awL]); omega)) only [↓awU, awV, awF, Qa, Qb, Qc, Qd, forall_const, ↓reduceIte, ↓reduceDIte, ↓Qe, Qf, Qg, Qh, Qi, Qj, Qk, Ql, Qm, Qn, Qo, Qp, Qq, Qr, Qs, implies_true, Qt, Qu, Qv, Qw, Qx, Qy, Qz, QA, QB, QC, QD, QE, QF, QG, QH, QI, QJ, QK, QL, QM, QN, QO, QP, QQ]
      refine CallC.pure (add32 _ _ _ (da.getD k) (db.getD k) hc) ?_
      simp (config := { maxSteps := 1000000 }) (disch := ((try simp only [awL]); omega)) only [↓awU, awV, awF, Qa, Qb, Qc, Qd, forall_const, ↓reduceIte, ↓reduceDIte, ↓Qe, Qf, Qg, Qh, Qi, Qj, Qk, Ql, Qm, Qn, Qo, Qp, Qq, Qr, Qs, implies_true, Qt, Qu, Qv, Qw, Qx, Qy, Qz, QA, QB, QC, QD, QE, QF, QG, QH, QI, QJ, QK, QL, QM, QN, QO, QP, QQ]
      refine ⟨(k + 1, out ++ [(l.getD k 0 + m.getD k 0 + c) % B], (l.getD k 0 + m.getD k 0 + c) / B), ⟨by omega, by simp [ho], hd.append ?_, ?_, ?_⟩, by simp only; omega, [some 2], rfl, by simp, ?_, ?_⟩
      · intro x hx; simp at hx; subst hx; exact Nat.mod_lt _ (by decide)
      · have h1 := da.getD k
        have h2 := db.getD k
        simp only [B] at *; omega
      · have e1 : val (l.take (k + 1)) = val (l.take k) + B ^ k * l.getD k 0 := take_val l k
        have e2 : val (m.take (k + 1)) = val (m.take k) + B ^ k * m.getD k 0 := take_val m k
        simp only [e1, e2, val_append, ho, val, Nat.mul_zero, Nat.add_zero]
        have e3 := Nat.mod_add_div (l.getD k 0 + m.getD k 0 + c) B
        have e4 : B ^ (k + 1) = B ^ k * B := Nat.pow_succ ..
        rw [e4, Nat.mul_assoc, Nat.add_assoc, ← Nat.mul_add, e3]
        simp only [Nat.mul_add]
        omega
      · simp [SWeak, AWeak]
      · simp [HWeak, BWeak, nats_push]
    · have ek : k = max l.length m.length := by omega
      have e : (D.sl (k + 1) false (nats .u32 (out ++ [c]))) = W (out ++ [c]) := by simp [W, ho]
      have hv' : val (out ++ [c]) = a + b := by
        rw [List.take_of_length_le (by omega), List.take_of_length_le (by omega)] at hv
        rw [val_append, ho]
        simp [val, hv, va, vb]
      rw [e]
      refine CallC.frozen (trimmed_spec _ (hd.append ?_) ?_) ?_
      · intro x hx; simp at hx; subst hx; simp only [B]; omega
      · simp [ho]; omega
      · rw [hv']
        simp (config := { maxSteps := 1000000 }) (disch := ((try simp only [awL]); omega)) only [↓awU, awV, awF, Qa, Qb, Qc, Qd, forall_const, ↓reduceIte, ↓reduceDIte, ↓Qe, Qf, Qg, Qh, Qi, Qj, Qk, Ql, Qm, Qn, Qo, Qp, Qq, Qr, Qs, implies_true, Qt, Qu, Qv, Qw, Qx, Qy, Qz, QA, QB, QC, QD, QE, QF, QG, QH, QI, QJ, QK, QL, QM, QN, QO, QP, QQ]
end Go.Proofs.YtjecgoddmkaboaaGreatDoor.Num

namespace Go.Proofs.YtjecgoddmkaboaaGreatDoor.Num
open Go Go.Proofs Go.Abs
variable {G : Globals}
set_option maxHeartbeats 4000000 in
set_option maxRecDepth 1000000 in
theorem times_spec (a b : Nat) (ha : (toW a).length < 2 ^ 40) (hb : (toW b).length < 2 ^ 40) :
    Ctr Tryz.prog G 35 [.d (W (toW a)), .d (W (toW b))] [] (.d (W (toW (a * b)))) [] := by
  have da := dig_toW a
  have db := dig_toW b
  have va := val_toW a
  have vb := val_toW b
  generalize toW a = l at *
  generalize toW b = m at *
  refine Ctr.pure (M := M0) hmix Tryz.func35 rfl go35 ?_
  simp (config := { maxSteps := 1000000 }) (disch := ((try simp only [awL]); omega)) only [Tryz.f35, ↓awU, awV, awF, Qa, Qb, Qc, Qd, forall_const, ↓reduceIte, ↓reduceDIte, ↓Qe, Qf, Qg, Qh, Qi, Qj, Qk, Ql, Qm, Qn, Qo, Qp, Qq, Qr, Qs, implies_true, Qt, Qu, Qv, Qw, Qx, Qy, Qz, QA, QB, QC, QD, QE, QF, QG, QH, QI, QJ, QK, QL, QM, QN, QO, QP, QQ]
  refine LoopC.inv (α := Nat × List Nat) (fun x => l.length - x.1) (fun x => mkS 67 [(0, .d (W l)), (1, .d (W m)), (5, .lsl 0 1 0 (l.length + m.length)), (17, .d (W l)), (18, .d (.int .i64 l.length)), (19, .d (.int .i64 x.1))])
    (fun x => [.row false (nats .u32 x.2)]) (fun x => x.1 ≤ l.length ∧ x.2.length = l.length + m.length ∧ Dig x.2 ∧ val x.2 = val (l.take x.1) * b ∧ ∀ p, x.1 + m.length ≤ p → x.2.getD p 0 = 0) (0, List.replicate (l.length + m.length) 0)
    ⟨by simp, by simp, Dig.zeros _, by simp [val_zeros, val], fun p _ => by simp only [List.getD_eq_getElem?_getD, List.getElem?_replicate]; split <;> rfl⟩ ?_ ?_
  · refine ⟨[some 0], rfl, by simp, by simp [mkS, SWeak, AWeak], by simp [HWeak, BWeak]⟩
  · rintro ⟨i, o⟩ ⟨hi, ho, hd, hv, hz⟩
    simp only at hi ho hd hv hz
    simp only [mkS, List.foldl, List.replicate, List.set_cons_zero, List.set_cons_succ]
    simp (config := { maxSteps := 1000000 }) (disch := ((try simp only [awL]); omega)) only [↓awU, awV, awF, Qa, Qb, Qc, Qd, forall_const, ↓reduceIte, ↓reduceDIte, ↓Qe, Qf, Qg, Qh, Qi, Qj, Qk, Ql, Qm, Qn, Qo, Qp, Qq, Qr, Qs, implies_true, Qt, Qu, Qv, Qw, Qx, Qy, Qz, QA, QB, QC, QD, QE, QF, QG, QH, QI, QJ, QK, QL, QM, QN, QO, QP, QQ]
    refine ⟨fun h => ?_, fun h => ?_⟩
    · refine LoopC.inv (α := Nat × List Nat × Nat) (fun x => m.length - x.1) (fun x => mkS 67 [(0, .d (W l)), (1, .d (W m)), (5, .lsl 0 1 0 (l.length + m.length)), (17, .d (W l)), (18, .d (.int .i64 l.length)), (19, .d (.int .i64 i)),
          (6, .d (.int .i64 i)), (7, .d (.int .u32 (l.getD i 0 : Nat))), (8, .d (.int .u64 x.2.2)), (24, .d (W m)), (25, .d (.int .i64 m.length)), (26, .d (.int .i64 x.1))])
        (fun x => [.row false (nats .u32 x.2.1)]) (fun x => x.1 ≤ m.length ∧ x.2.1.length = l.length + m.length ∧ Dig x.2.1 ∧ x.2.2 < B ∧ val x.2.1 + B ^ (i + x.1) * x.2.2 = val o + B ^ i * (l.getD i 0 * val (m.take x.1)) ∧ ∀ p, i + m.length ≤ p → x.2.1.getD p 0 = 0) (0, o, 0)
        ⟨by simp, ho, hd, by simp [B], by simp [val], hz⟩ ?_ ?_
      · refine ⟨[some 0], rfl, by simp, by simp [mkS, SWeak, AWeak], by simp [HWeak, BWeak]⟩
      · rintro ⟨j, q, c⟩ ⟨hj, hq, hdq, hc, hvq, hzq⟩
        simp only at hj hq hdq hc hvq hzq
        replace hv := Hid.mk hv
        replace hvq := Hid.mk hvq
        have p1 := mul_digit (da.getD i) (db.getD j)
        have p2 := hdq.getD (i + j)
        have p3 : c < 4294967296 := hc
        have p4 : q.getD (i + j) 0 < 4294967296 := p2
        have p5 : l.getD i 0 < 4294967296 := da.getD i
        have p6 : m.getD j 0 < 4294967296 := db.getD j
        simp only [mkS, List.foldl, List.replicate, List.set_cons_zero, List.set_cons_succ]
        simp (config := { maxSteps := 1000000 }) (disch := ((try simp only [awL]); omega)) only [↓awU, awV, awF, Qa, Qb, Qc, Qd, forall_const, ↓reduceIte, ↓reduceDIte, ↓Qe, Qf, Qg, Qh, Qi, Qj, Qk, Ql, Qm, Qn, Qo, Qp, Qq, Qr, Qs, implies_true, Qt, Qu, Qv, Qw, Qx, Qy, Qz, QA, QB, QC, QD, QE, QF, QG, QH, QI, QJ, QK, QL, QM, QN, QO, QP, QQ]
        refine ⟨fun h1 => ?_, fun h1 => ?_⟩
        · simp only [w_u32, nats_set]
          have hsl : c + (l.getD i 0 * m.getD j 0 + q.getD (i + j) 0) < B * B := by simp only [B]; omega
          generalize hg : c + (l.getD i 0 * m.getD j 0 + q.getD (i + j) 0) = s at hsl ⊢
          refine ⟨(j + 1, q.set (i + j) (s % B), s / B), ⟨by simp only; omega, by simp [hq], hdq.set (Nat.mod_lt _ (by decide)), (Nat.div_lt_iff_lt_mul (by decide)).2 hsl, times_step (by omega) hg.symm hvq.out, fun p hp => ?_⟩,
            by simp only; omega, [some 0], rfl, by simp, by simp [SWeak, AWeak, B], by simp [HWeak, BWeak, w_u32, nats_set, B]⟩
          rw [getD_set_ne (by omega)]; exact hzq p hp
        · have ej : j = m.length := by omega
          have hvq := hvq.out
          rw [ej, List.take_of_length_le (Nat.le_refl _), vb] at hvq
          refine ⟨(i + 1, q.set (i + m.length) c), ⟨by simp only; omega, by simp [hq], hdq.set hc, times_row (by omega) (hzq _ (Nat.le_refl _)) hvq hv.out, fun p hp => ?_⟩,
            by simp only; omega, [some 0], rfl, by simp, by simp [SWeak, AWeak], by simp [HWeak, BWeak]⟩
          rw [getD_set_ne (by omega)]; exact hzq p (by omega)
    · have e : (D.sl (l.length + m.length) false (nats .u32 o)) = W o := by simp [W, ho]
      have ei : i = l.length := by omega
      rw [e]
      refine CallC.frozen (trimmed_spec _ hd ?_) ?_
      · omega
      · rw [hv, ei, List.take_of_length_le (Nat.le_refl _), va]
        simp (config := { maxSteps := 1000000 }) (disch := ((try simp only [awL]); omega)) only [↓awU, awV, awF, Qa, Qb, Qc, Qd, forall_const, ↓reduceIte, ↓reduceDIte, ↓Qe, Qf, Qg, Qh, Qi, Qj, Qk, Ql, Qm, Qn, Qo, Qp, Qq, Qr, Qs, implies_true, Qt, Qu, Qv, Qw, Qx, Qy, Qz, QA, QB, QC, QD, QE, QF, QG, QH, QI, QJ, QK, QL, QM, QN, QO, QP, QQ]
end Go.Proofs.YtjecgoddmkaboaaGreatDoor.Num

namespace Go.Proofs.YtjecgoddmkaboaaGreatDoor.Num
open Go Go.Proofs Go.Abs
variable {G : Globals}
theorem div32 (h x d : Nat) (hh : h < d) (hd : d < B) (hx : x < B) : Ctr Tryz.prog G 106 [.d (.int .u32 h), .d (.int .u32 x), .d (.int .u32 d)] []
    (.d (.tup [.int .u32 ((h * B + x) / d : Nat), .int .u32 ((h * B + x) % d : Nat)])) [] := by
  refine Ctr.pure (M := M0) hmix Tryz.func106 rfl go106 ?_
  have hq := divmod_step hh hx
  simp only [B] at *
  simp (config := { maxSteps := 1000000 }) (disch := ((try simp only [awL]); omega)) only [Tryz.f106, ↓awU, awV, awF, Qa, Qb, Qc, Qd, forall_const, ↓reduceIte, ↓reduceDIte, ↓Qe, Qf, Qg, Qh, Qi, Qj, Qk, Ql, Qm, Qn, Qo, Qp, Qq, Qr, Qs, implies_true, Qt, Qu, Qv, Qw, Qx, Qy, Qz, QA, QB, QC, QD, QE, QF, QG, QH, QI, QJ, QK, QL, QM, QN, QO, QP, QQ]
  refine ⟨by rfl, ?_⟩
  have hm : (h * 4294967296 + x) % d < d := Nat.mod_lt _ (by omega)
  rw [or64 (by omega) hx, ← Int.ofNat_tdiv, ← Int.ofNat_tmod, w_u64, w_u32, w_u32, Nat.mod_eq_of_lt (a := (h * 4294967296 + x) / d) (by omega), Nat.mod_eq_of_lt hq, Nat.mod_eq_of_lt (by omega)]
theorem natural_spec (n : Nat) (hn : n < 18446744073709551616) : Ctr Tryz.prog G 37 [.d (.int .u64 n)] [] (.d (W (toW n))) [] := by
  refine Ctr.pure (M := M0) hmix Tryz.func37 rfl go37 ?_
  simp (config := { maxSteps := 1000000 }) (disch := ((try simp only [awL]); omega)) only [Tryz.f37, ↓awU, awV, awF, Qa, Qb, Qc, Qd, forall_const, ↓reduceIte, ↓reduceDIte, ↓Qe, Qf, Qg, Qh, Qi, Qj, Qk, Ql, Qm, Qn, Qo, Qp, Qq, Qr, Qs, implies_true, Qt, Qu, Qv, Qw, Qx, Qy, Qz, QA, QB, QC, QD, QE, QF, QG, QH, QI, QJ, QK, QL, QM, QN, QO, QP, QQ]
  refine CallC.frozenE (trimmed_spec [n % B, n / B] ?_ (by simp)) ?_ ?_
  · intro x hx
    simp only [List.mem_cons, List.not_mem_nil, or_false] at hx
    rcases hx with rfl | rfl
    · exact Nat.mod_lt _ (by decide)
    · simp only [B]; omega
  · rw [w_u32]; rfl
  · have : val [n % B, n / B] = n := by simp only [val, Nat.mul_zero, Nat.add_zero]; exact Nat.mod_add_div n B
    rw [this]
    simp (config := { maxSteps := 1000000 }) (disch := ((try simp only [awL]); omega)) only [↓awU, awV, awF, Qa, Qb, Qc, Qd, forall_const, ↓reduceIte, ↓reduceDIte, ↓Qe, Qf, Qg, Qh, Qi, Qj, Qk, Ql, Qm, Qn, Qo, Qp, Qq, Qr, Qs, implies_true, Qt, Qu, Qv, Qw, Qx, Qy, Qz, QA, QB, QC, QD, QE, QF, QG, QH, QI, QJ, QK, QL, QM, QN, QO, QP, QQ]
def len8 : List UInt8 := [0, 1, 2, 2, 3, 3, 3, 3, 4, 4, 4, 4, 4, 4, 4, 4, 5, 5, 5, 5, 5, 5, 5, 5, 5, 5, 5, 5, 5, 5, 5, 5, 6, 6, 6, 6, 6, 6, 6, 6, 6, 6, 6, 6, 6, 6, 6, 6, 6, 6, 6, 6, 6, 6, 6, 6, 6, 6, 6, 6, 6, 6, 6, 6, 7, 7, 7, 7, 7, 7, 7, 7, 7, 7, 7, 7, 7, 7, 7, 7, 7, 7, 7, 7, 7, 7, 7, 7, 7, 7, 7, 7, 7, 7, 7, 7, 7, 7, 7, 7, 7, 7, 7, 7, 7, 7, 7, 7, 7, 7, 7, 7, 7, 7, 7, 7, 7, 7, 7, 7, 7, 7, 7, 7, 7, 7, 7, 7, 8, 8, 8, 8, 8, 8, 8, 8, 8, 8, 8, 8, 8, 8, 8, 8, 8, 8, 8, 8, 8, 8, 8, 8, 8, 8, 8, 8, 8, 8, 8, 8, 8, 8, 8, 8, 8, 8, 8, 8, 8, 8, 8, 8, 8, 8, 8, 8, 8, 8, 8, 8, 8, 8, 8, 8, 8, 8, 8, 8, 8, 8, 8, 8, 8, 8, 8, 8, 8, 8, 8, 8, 8, 8, 8, 8, 8, 8, 8, 8, 8, 8, 8, 8, 8, 8, 8, 8, 8, 8, 8, 8, 8, 8, 8, 8, 8, 8, 8, 8, 8, 8, 8, 8, 8, 8, 8, 8, 8, 8, 8, 8, 8, 8, 8, 8, 8, 8, 8, 8, 8, 8, 8, 8, 8, 8, 8, 8]
theorem len8_tab (s : ByteArray) (hs : s.data.toList = len8) : s.size = 256 ∧ ∀ i, i < 256 → byteAt s i = ((if i = 0 then 0 else i.log2 + 1 : Nat) : Int) := by
  refine ⟨by rw [ByteArray.size, ← Array.length_toList, hs]; decide +kernel, fun i hi => ?_⟩
  have : ∀ i : Fin 256, ((len8.getD i.val 0).toNat : Int) = ((if i.val = 0 then 0 else i.val.log2 + 1 : Nat) : Int) := by decide +kernel
  unfold byteAt
  rw [hs]
  exact this ⟨i, hi⟩
theorem size_len8 {s : ByteArray} (h : s.data.toList = len8) : s.size = 256 := (len8_tab s h).1
theorem byte_len8 {s : ByteArray} {i : Int} (h : s.data.toList = len8) (h0 : 0 ≤ i) (h1 : i < 256) : byteAt s i.toNat = ((if i.toNat = 0 then 0 else i.toNat.log2 + 1 : Nat) : Int) := (len8_tab s h).2 _ (by omega)
theorem len32 (n : Nat) (hn : n < B) : Ctr Tryz.prog G 107 [.d (.int .u32 n)] [] (.d (.int .i64 (if n = 0 then 0 else n.log2 + 1 : Nat))) [] := by
  refine Ctr.pure (M := M0) hmix Tryz.func107 rfl go107 ?_
  simp only [B] at *
  have l24 : (256 : Int) ≤ n / 65536 → n ≠ 0 ∧ (n / 65536 / 256) ≠ 0 ∧ n.log2 = 24 + (n / 65536 / 256).log2 := fun h => by
    have h1 : n / 2 ^ 24 ≠ 0 := by omega
    have := log2_shift h1
    rw [show (2 : Nat) ^ 24 = 65536 * 256 from rfl, ← Nat.div_div_eq_div_mul] at this
    exact ⟨by omega, by omega, this⟩
  have l16 : (65536 : Int) ≤ n → n ≠ 0 ∧ (n / 65536) ≠ 0 ∧ n.log2 = 16 + (n / 65536).log2 := fun h => by
    have h1 : n / 2 ^ 16 ≠ 0 := by omega
    exact ⟨by omega, by omega, log2_shift h1⟩
  have l8 : (256 : Int) ≤ n → n ≠ 0 ∧ (n / 256) ≠ 0 ∧ n.log2 = 8 + (n / 256).log2 := fun h => by
    have h1 : n / 2 ^ 8 ≠ 0 := by omega
    exact ⟨by omega, by omega, log2_shift h1⟩
  simp (config := { maxSteps := 1000000 }) (disch := ((try simp only [awL]); omega)) only [Tryz.f107, ↓awU, awV, awF, Qa, Qb, Qc, Qd, forall_const, ↓reduceIte, ↓reduceDIte, ↓Qe, Qf, Qg, Qh, Qi, Qj, Qk, Ql, Qm, Qn, Qo, Qp, Qq, Qr, Qs, implies_true, Qt, Qu, Qv, Qw, Qx, Qy, Qz, QA, QB, QC, QD, QE, QF, QG, QH, QI, QJ, QK, QL, QM, QN, QO, QP, QQ]
  refine ⟨fun h1 => ⟨fun h2 => ?_, fun h2 => ?_⟩, fun h1 => ⟨fun h2 => ?_, fun h2 => ?_⟩⟩
  · obtain ⟨a, b, c⟩ := l24 h2
    have h8 := (Nat.log2_lt (k := 8) b).2 (by omega)
    rw [size_len8 (by decide +kernel), byte_len8 (by decide +kernel) (by omega) (by omega), show ((n : Int) / 65536 / 256).toNat = n / 65536 / 256 by omega, if_neg b]
    generalize hz : (n / 65536 / 256).log2 + 1 = z
    rw [wr_i64 (x := (z : Int)) (by omega) (by omega), wr_i64 (by omega) (by omega)]
    omega
  · obtain ⟨a, b, c⟩ := l16 h1
    have h8 := (Nat.log2_lt (k := 8) b).2 (by omega)
    rw [size_len8 (by decide +kernel), byte_len8 (by decide +kernel) (by omega) (by omega), show ((n : Int) / 65536).toNat = n / 65536 by omega, if_neg b]
    generalize hz : (n / 65536).log2 + 1 = z
    rw [wr_i64 (x := (z : Int)) (by omega) (by omega), wr_i64 (by omega) (by omega)]
    omega
  · obtain ⟨a, b, c⟩ := l8 h2
    have h8 := (Nat.log2_lt (k := 8) b).2 (by omega)
    rw [size_len8 (by decide +kernel), byte_len8 (by decide +kernel) (by omega) (by omega), show ((n : Int) / 256).toNat = n / 256 by omega, if_neg b]
    generalize hz : (n / 256).log2 + 1 = z
    rw [wr_i64 (x := (z : Int)) (by omega) (by omega), wr_i64 (by omega) (by omega)]
    omega
  · rw [size_len8 (by decide +kernel), (len8_tab _ (by decide +kernel)).2 n (by omega)]
    have h8 : (if n = 0 then 0 else n.log2 + 1 : Nat) ≤ 8 := by
      split
      · omega
      · rename_i h; have := (Nat.log2_lt (k := 8) h).2 (by omega); omega
    generalize (if n = 0 then 0 else n.log2 + 1 : Nat) = z at *
    rw [wr_i64 (x := (z : Int)) (by omega) (by omega), wr_i64 (by omega) (by omega)]
    omega
theorem lz32 (n : Nat) (h0 : n ≠ 0) (hn : n < B) : Ctr Tryz.prog G 79 [.d (.int .u32 n)] [] (.d (.int .i64 (31 - n.log2 : Nat))) [] := by
  refine Ctr.pure (M := M0) hmix Tryz.func79 rfl go79 ?_
  have h8 := (Nat.log2_lt (k := 32) h0).2 hn
  simp (config := { maxSteps := 1000000 }) (disch := ((try simp only [awL]); omega)) only [Tryz.f79, ↓awU, awV, awF, Qa, Qb, Qc, Qd, forall_const, ↓reduceIte, ↓reduceDIte, ↓Qe, Qf, Qg, Qh, Qi, Qj, Qk, Ql, Qm, Qn, Qo, Qp, Qq, Qr, Qs, implies_true, Qt, Qu, Qv, Qw, Qx, Qy, Qz, QA, QB, QC, QD, QE, QF, QG, QH, QI, QJ, QK, QL, QM, QN, QO, QP, QQ]
  refine CallC.pure (len32 n hn) ?_
  rw [if_neg h0]
  simp (config := { maxSteps := 1000000 }) (disch := ((try simp only [awL]); omega)) only [↓awU, awV, awF, Qa, Qb, Qc, Qd, forall_const, ↓reduceIte, ↓reduceDIte, ↓Qe, Qf, Qg, Qh, Qi, Qj, Qk, Ql, Qm, Qn, Qo, Qp, Qq, Qr, Qs, implies_true, Qt, Qu, Qv, Qw, Qx, Qy, Qz, QA, QB, QC, QD, QE, QF, QG, QH, QI, QJ, QK, QL, QM, QN, QO, QP, QQ]
theorem short_spec (a d : Nat) (hd : 0 < d) (hdB : d < B) (ha : (toW a).length < 2 ^ 40) :
    Ctr Tryz.prog G 78 [.d (W (toW a)), .d (.int .u32 d)] [] (.d (.tup [W (toW (a / d)), .int .u32 (a % d : Nat)])) [] := by
  have da := dig_toW a
  have va := val_toW a
  generalize toW a = l at *
  refine Ctr.pure (M := M0) hmix Tryz.func78 rfl go78 ?_
  simp (config := { maxSteps := 1000000 }) (disch := ((try simp only [awL]); omega)) only [Tryz.f78, ↓awU, awV, awF, Qa, Qb, Qc, Qd, forall_const, ↓reduceIte, ↓reduceDIte, ↓Qe, Qf, Qg, Qh, Qi, Qj, Qk, Ql, Qm, Qn, Qo, Qp, Qq, Qr, Qs, implies_true, Qt, Qu, Qv, Qw, Qx, Qy, Qz, QA, QB, QC, QD, QE, QF, QG, QH, QI, QJ, QK, QL, QM, QN, QO, QP, QQ]
  refine LoopC.fr 67 (α := Nat × List Nat × Nat) (fun x => x.1) (fun x => [(7, .d (.int .u32 x.2.2)), (8, .d (.int .i64 ((x.1 : Int) - 1)))])
    (fun x => [.row false (nats .u32 (List.replicate x.1 0 ++ x.2.1))]) (fun x => x.1 ≤ l.length ∧ x.2.1.length + x.1 = l.length ∧ Dig x.2.1 ∧ x.2.2 < d ∧ val (l.drop x.1) = val x.2.1 * d + x.2.2) (l.length, [], 0) ⟨by simp, by simp, by simp [Dig], hd, by simp [val]⟩ ?_ ?_
  · exact ⟨[some 0], rfl, by simp, by simp [setsA, keepA, SWeak, AWeak], by simp [HWeak, BWeak, SWeak, AWeak]⟩
  · rintro ⟨k, q, r⟩ ⟨hk, hq, hdq, hr, hv⟩
    simp only at hk hq hdq hr hv
    rcases k with _ | k
    · simp (config := { maxSteps := 1000000 }) (disch := ((try simp only [awL]); omega)) only [↓awU, awV, awF, Qa, Qb, Qc, Qd, forall_const, ↓reduceIte, ↓reduceDIte, ↓Qe, Qf, Qg, Qh, Qi, Qj, Qk, Ql, Qm, Qn, Qo, Qp, Qq, Qr, Qs, implies_true, Qt, Qu, Qv, Qw, Qx, Qy, Qz, QA, QB, QC, QD, QE, QF, QG, QH, QI, QJ, QK, QL, QM, QN, QO, QP, QQ]
      simp only [Nat.add_zero] at hq
      rw [List.drop_zero, va] at hv
      have e : D.sl l.length false (nats .u32 ([] ++ q)) = W q := by simp [W, hq]
      refine CallC.frozenE (trimmed_spec q hdq (by omega)) (by rw [← e]; simp [List.replicate]) ?_
      have e1 : a / d = val q := by rw [hv, Nat.mul_comm]; rw [Nat.mul_add_div hd, Nat.div_eq_of_lt hr]; rfl
      have e2 : a % d = r := by rw [hv, Nat.mul_comm, Nat.mul_add_mod, Nat.mod_eq_of_lt hr]
      rw [e1, e2]
      simp (config := { maxSteps := 1000000 }) (disch := ((try simp only [awL]); omega)) only [↓awU, awV, awF, Qa, Qb, Qc, Qd, forall_const, ↓reduceIte, ↓reduceDIte, ↓Qe, Qf, Qg, Qh, Qi, Qj, Qk, Ql, Qm, Qn, Qo, Qp, Qq, Qr, Qs, implies_true, Qt, Qu, Qv, Qw, Qx, Qy, Qz, QA, QB, QC, QD, QE, QF, QG, QH, QI, QJ, QK, QL, QM, QN, QO, QP, QQ]
    · simp (config := { maxSteps := 1000000 }) (disch := ((try simp only [awL]); omega)) only [↓awU, awV, awF, Qa, Qb, Qc, Qd, forall_const, ↓reduceIte, ↓reduceDIte, ↓Qe, Qf, Qg, Qh, Qi, Qj, Qk, Ql, Qm, Qn, Qo, Qp, Qq, Qr, Qs, implies_true, Qt, Qu, Qv, Qw, Qx, Qy, Qz, QA, QB, QC, QD, QE, QF, QG, QH, QI, QJ, QK, QL, QM, QN, QO, QP, QQ]
      refine CallC.pure (div32 r _ d hr hdB (da.getD k)) ?_
      simp (config := { maxSteps := 1000000 }) (disch := ((try simp only [awL]); omega)) only [↓awU, awV, awF, Qa, Qb, Qc, Qd, forall_const, ↓reduceIte, ↓reduceDIte, ↓Qe, Qf, Qg, Qh, Qi, Qj, Qk, Ql, Qm, Qn, Qo, Qp, Qq, Qr, Qs, implies_true, Qt, Qu, Qv, Qw, Qx, Qy, Qz, QA, QB, QC, QD, QE, QF, QG, QH, QI, QJ, QK, QL, QM, QN, QO, QP, QQ]
      refine ⟨(k, (r * B + l.getD k 0) / d :: q, (r * B + l.getD k 0) % d), ⟨by simp only; omega, by simp; omega, fun x hx => ?_, Nat.mod_lt _ hd, short_step (by omega) hv⟩, by simp only; omega,
        [some 0], rfl, by simp, by simp [SWeak, AWeak], by simp [HWeak, BWeak, set_rep]⟩
      rcases List.mem_cons.1 hx with rfl | hx
      · exact divmod_step hr (da.getD k)
      · exact hdq x hx
end Go.Proofs.YtjecgoddmkaboaaGreatDoor.Num

/-
  One digit of a quotient (Knuth, algorithm D): plain.
-/
namespace Go.Proofs.YtjecgoddmkaboaaGreatDoor.Num
open Go Go.Proofs Go.Abs
theorem kn_first {U V P top u3 lu d1 d2 lv g : Nat} (hU : U = (top * B + u3) * P + lu) (hlu : lu < P) (hV : V = (d1 * B + d2) * P + lv) (hu3 : u3 < B) (hUV : U < V * B)
    (hg : top < (g + 1) * d1 ∨ g + 1 = B) : U < (g + 1) * V := by
  rcases hg with hg | hg
  · have h1 : (top + 1) * (B * P) ≤ ((g + 1) * d1) * (B * P) := Nat.mul_le_mul_right _ hg
    have h2 : U < (top + 1) * (B * P) := by
      have h3 : (u3 + 1) * P ≤ B * P := Nat.mul_le_mul_right _ hu3
      rw [hU, Nat.add_mul, Nat.add_mul, Nat.one_mul, Nat.mul_assoc]
      rw [Nat.add_mul, Nat.one_mul] at h3
      omega
    have h4 : ((g + 1) * d1) * (B * P) ≤ (g + 1) * V := by
      rw [Nat.mul_assoc]
      refine Nat.mul_le_mul_left _ ?_
      rw [hV, Nat.add_mul, ← Nat.mul_assoc]
      omega
    omega
  · rw [hg, Nat.mul_comm]; exact hUV
theorem kn_down {U V P top u3 lu d1 d2 lv g rest : Nat} (hU : U = (top * B + u3) * P + lu) (hlu : lu < P) (hV : V = (d1 * B + d2) * P + lv)
    (hr : g * d1 + rest = top) (hgt : rest * B + u3 < g * d2) : U < g * V := by
  have h1 : U < (top * B + u3 + 1) * P := by rw [hU, Nat.add_mul (top * B + u3), Nat.one_mul]; omega
  have h2 : (top * B + u3 + 1) * P ≤ (g * (d1 * B + d2)) * P := by
    refine Nat.mul_le_mul_right _ ?_
    rw [← hr, Nat.mul_add, Nat.add_mul, Nat.mul_assoc]
    omega
  have h3 : (g * (d1 * B + d2)) * P ≤ g * V := by
    rw [Nat.mul_assoc]
    refine Nat.mul_le_mul_left _ ?_
    omega
  omega
theorem kn_exit {U V P top u3 lu d1 d2 lv g rest : Nat} (hU : U = (top * B + u3) * P + lu) (hV : V = (d1 * B + d2) * P + lv) (hlv : lv < P) (hd1 : 1 ≤ d1) (hd2 : d2 < B) (hg : g < B)
    (hr : g * d1 + rest = top) (hle : B ≤ rest ∨ g * d2 ≤ rest * B + u3) : g * V < U + V := by
  have hle : g * d2 ≤ rest * B + u3 := by
    rcases hle with h | h
    · have h1 : g * d2 ≤ B * B := Nat.mul_le_mul (Nat.le_of_lt hg) (Nat.le_of_lt hd2)
      have h2 : B * B ≤ rest * B := Nat.mul_le_mul_right _ h
      omega
    · exact h
  have h1 : (g * (d1 * B + d2)) * P ≤ (top * B + u3) * P := by
    refine Nat.mul_le_mul_right _ ?_
    rw [← hr, Nat.mul_add, Nat.add_mul, Nat.mul_assoc]
    omega
  have h2 : g * V = (g * (d1 * B + d2)) * P + g * lv := by rw [hV, Nat.mul_add, Nat.mul_assoc]
  have h3 : B * P ≤ V := by
    rw [hV, Nat.add_mul, Nat.mul_assoc]
    have : 1 * (B * P) ≤ d1 * (B * P) := Nat.mul_le_mul_right _ hd1
    omega
  have h4 : g * lv < B * P := by
    have h5 : g * lv ≤ g * P := Nat.mul_le_mul_left _ (Nat.le_of_lt hlv)
    have h6 : (g + 1) * P ≤ B * P := Nat.mul_le_mul_right _ hg
    rw [Nat.add_mul, Nat.one_mul] at h6
    omega
  omega
theorem val_top2 {d : List Nat} {n : Nat} (h : d.length = n + 2) : val d = (d.getD (n + 1) 0 * B + d.getD n 0) * B ^ n + val (d.take n) := by
  have e : d = d.take (n + 2) := by rw [← h, List.take_length]
  rw [e, take_val d (n + 1), take_val d n, ← e]
  rw [Nat.pow_succ, Nat.add_mul, Nat.mul_assoc (B ^ n), Nat.mul_comm (B ^ n) (d.getD n 0), Nat.mul_comm (B ^ n), Nat.mul_comm B (d.getD _ 0)]
  omega
theorem val_top3 {u : List Nat} {n : Nat} (h : u.length = n + 3) : val u = ((u.getD (n + 2) 0 * B + u.getD (n + 1) 0) * B + u.getD n 0) * B ^ n + val (u.take n) := by
  have e : u = u.take (n + 3) := by rw [← h, List.take_length]
  rw [e, take_val u (n + 2), take_val u (n + 1), take_val u n, ← e]
  generalize u.getD n 0 = a
  generalize u.getD (n + 1) 0 = b
  generalize u.getD (n + 2) 0 = c
  have e1 : B ^ (n + 1) * b = b * B * B ^ n := by rw [Nat.pow_succ, Nat.mul_assoc, Nat.mul_comm (B ^ n), Nat.mul_comm B b]
  have e2 : B ^ (n + 2) * c = c * B * B * B ^ n := by rw [Nat.pow_succ, Nat.pow_succ]; generalize B ^ n = p; ac_rfl
  rw [e1, e2, Nat.add_mul, Nat.add_mul, Nat.add_mul, Nat.mul_comm (B ^ n) a]
  omega
theorem take_lt {l : List Nat} (h : Dig l) (n : Nat) : val (l.take n) < B ^ n := by
  have h1 := val_lt (h.take n)
  have h2 : (l.take n).length ≤ n := by simp; omega
  exact Nat.lt_of_lt_of_le h1 (Nat.pow_le_pow_right (by decide) h2)
theorem dg_step {done u d : List Nat} {i g c b dig low c' b' : Nat} (hi : done.length = i) (h1 : dig + low + b = u.getD i 0 + B * b') (h2 : low + B * c' = c + g * d.getD i 0)
    (hv : val done + g * val (d.take i) = val (u.take i) + B ^ i * (c + b)) : val (done ++ [dig]) + g * val (d.take (i + 1)) = val (u.take (i + 1)) + B ^ (i + 1) * (c' + b') := by
  rw [val_append, hi, take_val d i, take_val u i]
  simp only [val, Nat.mul_zero, Nat.add_zero]
  have e1 : g * (val (d.take i) + B ^ i * d.getD i 0) = g * val (d.take i) + B ^ i * (g * d.getD i 0) := by rw [Nat.mul_add, Nat.mul_left_comm g]
  have e2 : B ^ (i + 1) * (c' + b') = B ^ i * (B * c' + B * b') := by rw [Nat.pow_succ, Nat.mul_assoc, Nat.mul_add]
  have e3 : B ^ i * (dig + g * d.getD i 0 + c + b) = B ^ i * (u.getD i 0 + (B * c' + B * b')) := by congr 1; omega
  rw [e1, e2]
  simp only [Nat.mul_add] at e3 hv ⊢
  omega
theorem ab_step {done u d : List Nat} {i a s : Nat} (hi : done.length = i) (hs : s = u.getD i 0 + d.getD i 0 + a) (hv : val done + B ^ i * a = val (u.take i) + val (d.take i)) :
    val (done ++ [s % B]) + B ^ (i + 1) * (s / B) = val (u.take (i + 1)) + val (d.take (i + 1)) := by
  rw [val_append, hi, take_val d i, take_val u i]
  simp only [val, Nat.mul_zero, Nat.add_zero]
  have e2 : B ^ (i + 1) * (s / B) = B ^ i * (B * (s / B)) := by rw [Nat.pow_succ, Nat.mul_assoc]
  have e3 : B ^ i * (s % B + B * (s / B)) = B ^ i * (u.getD i 0 + d.getD i 0 + a) := by rw [Nat.mod_add_div, hs]
  rw [e2]
  simp only [Nat.mul_add] at e3 ⊢
  omega
theorem dg_fit {U V g r P : Nat} (h1 : U < (g + 1) * V) (hv : r + g * V = U + P * 0) : U / V = g ∧ U % V = r := by
  rw [Nat.mul_zero, Nat.add_zero] at hv
  rw [Nat.add_mul, Nat.one_mul] at h1
  have hr : r < V := by omega
  subst hv
  refine ⟨?_, ?_⟩
  · rw [Nat.mul_comm g, Nat.add_mul_div_left _ _ (by omega), Nat.div_eq_of_lt hr, Nat.zero_add]
  · rw [Nat.mul_comm g, Nat.add_mul_mod_self_left, Nat.mod_eq_of_lt hr]
theorem dg_back {U V g r P r3 x3 dn a : Nat} (h2 : g * V < U + V) (hV : V < P) (hr : r < P) (hv : r + g * V = U + P * 1) (hb : dn + x3 = r + V - 0) (h3 : r3 = dn + x3 ∨ r3 + P = dn + x3) (hr3 : r3 < P) (ha : a = g) : U / V = g - 1 ∧ U % V = r3 := by
  subst ha
  rw [Nat.mul_one] at hv
  rcases Nat.eq_zero_or_pos a with h0 | h0
  · subst h0; omega
  obtain ⟨m, rfl⟩ : ∃ m, a = m + 1 := ⟨a - 1, by omega⟩
  rw [Nat.add_mul, Nat.one_mul] at hv h2
  have e : r3 + m * V = U := by omega
  have hlt : r3 < V := by omega
  rw [Nat.add_sub_cancel]
  subst e
  refine ⟨?_, ?_⟩
  · rw [Nat.mul_comm m, Nat.add_mul_div_left _ _ (by omega), Nat.div_eq_of_lt hlt, Nat.zero_add]
  · rw [Nat.mul_comm m, Nat.add_mul_mod_self_left, Nat.mod_eq_of_lt hlt]
theorem or_low {a c sh : Nat} (ha : a < 2 ^ sh) : a ||| c * 2 ^ sh = a + c * 2 ^ sh := by
  have := Nat.shiftLeft_add_eq_or_of_lt (i := sh) (a := c) (b := a) ha
  rw [Nat.shiftLeft_eq] at this
  rw [Nat.or_comm, ← this, Nat.add_comm]
theorem low_mul {x sh : Nat} (h : sh < 32) : x * 2 ^ sh % 4294967296 = x % 2 ^ (32 - sh) * 2 ^ sh := by
  have : (4294967296 : Nat) = 2 ^ (32 - sh) * 2 ^ sh := by rw [← Nat.pow_add, show 32 - sh + sh = 32 by omega]
  rw [this, Nat.mul_mod_mul_right]
theorem sh_step {q l : List Nat} {k c x sh : Nat} (hq : q.length = k) (hx : l.getD k 0 = x) (hv : val q + B ^ k * c = val (l.take k) * 2 ^ sh) :
    val (q ++ [c + x * 2 ^ sh % B]) + B ^ (k + 1) * (x * 2 ^ sh / B) = val (l.take (k + 1)) * 2 ^ sh := by
  rw [val_append, hq, take_val l k, hx]
  simp only [val, Nat.mul_zero, Nat.add_zero]
  have h1 := Nat.mod_add_div (x * 2 ^ sh) B
  have e1 : B ^ (k + 1) * (x * 2 ^ sh / B) = B ^ k * (B * (x * 2 ^ sh / B)) := by rw [Nat.pow_succ, Nat.mul_assoc]
  have e2 : (val (l.take k) + B ^ k * x) * 2 ^ sh = val (l.take k) * 2 ^ sh + B ^ k * (x * 2 ^ sh) := by rw [Nat.add_mul, Nat.mul_assoc]
  rw [e1, e2, ← hv]
  have e3 : B ^ k * (x * 2 ^ sh % B + B * (x * 2 ^ sh / B)) = B ^ k * (x * 2 ^ sh) := by rw [h1]
  simp only [Nat.mul_add] at e3 ⊢
  omega
end Go.Proofs.YtjecgoddmkaboaaGreatDoor.Num

namespace Go.Proofs.YtjecgoddmkaboaaGreatDoor.Num
open Go Go.Proofs Go.Abs
variable {G : Globals}
theorem app_getD {pre u post : List Nat} {i j : Nat} (hj : pre.length = j) (hi : i < u.length) : (pre ++ (u ++ post)).getD (j + i) 0 = u.getD i 0 := by
  subst hj
  simp only [List.getD_eq_getElem?_getD]
  rw [List.getElem?_append_right (by omega), List.getElem?_append_left (by omega), Nat.add_sub_cancel_left]
/-- The state of a window that is worked off from below. -/
def win (pre done u post : List Nat) : List Nat := pre ++ (done ++ (u.drop done.length ++ post))
theorem win_nil {pre u post : List Nat} : win pre [] u post = pre ++ (u ++ post) := rfl
theorem win_length {pre done u post : List Nat} (h : done.length ≤ u.length) : (win pre done u post).length = pre.length + u.length + post.length := by simp [win]; omega
theorem win_getD {pre done u post : List Nat} (h : done.length < u.length) : (win pre done u post).getD (pre.length + done.length) 0 = u.getD done.length 0 := by
  unfold win
  simp only [List.getD_eq_getElem?_getD]
  rw [List.getElem?_append_right (by omega), Nat.add_sub_cancel_left, List.getElem?_append_right (by omega), Nat.sub_self, List.getElem?_append_left (by simp; omega), List.getElem?_drop, Nat.add_zero]
theorem win_set {pre done u post : List Nat} {v : Nat} (h : done.length < u.length) : (win pre done u post).set (pre.length + done.length) v = win pre (done ++ [v]) u post := by
  unfold win
  rw [List.set_append_right _ _ (by omega), Nat.add_sub_cancel_left, List.set_append_right _ _ (by omega), Nat.sub_self, List.drop_eq_getElem_cons h, List.cons_append, List.set_cons_zero, List.length_append, List.length_singleton, List.append_assoc]
  rfl
set_option maxHeartbeats 4000000 in
set_option maxRecDepth 100000 in
theorem digit_spec (pre u post d ex : List Nat) (n : Nat) (hd : d.length = n + 2) (hu : u.length = n + 3) (dd : Dig d) (du : Dig u) (hUV : val u < val d * B) (hn : 2147483648 ≤ d.getD (n + 1) 0) (hl : pre.length + u.length + post.length < 2 ^ 40) :
    Ctr Tryz.prog G 81 [.lsl 0 1 pre.length (n + 3), .lsl 1 1 0 (n + 2)] [.row false (nats .u32 (pre ++ (u ++ post))), .row false (nats .u32 (d ++ ex))] (.d (.int .u32 (val u / val d : Nat)))
      [.row false (nats .u32 (pre ++ (digs (n + 3) (val u % val d) ++ post))), .row false (nats .u32 (d ++ ex))] := by
  refine Ctr.body (M := M0) hmix Tryz.func81 rfl go81 ?_
  have de : ∀ i, i < n + 2 → (d ++ ex).getD i 0 = d.getD i 0 := fun i hi => by simp only [List.getD_eq_getElem?_getD]; rw [List.getElem?_append_left (by omega)]
  have dl : (d ++ ex).length = n + 2 + ex.length := by simp; omega
  generalize hrow : d ++ ex = dr at *
  have g1 : (pre ++ (u ++ post)).getD (pre.length + (n + 2)) 0 = u.getD (n + 2) 0 := app_getD rfl (by omega)
  have g2 : (pre ++ (u ++ post)).getD (pre.length + (n + 1)) 0 = u.getD (n + 1) 0 := app_getD rfl (by omega)
  have g3 : (pre ++ (u ++ post)).getD (pre.length + n) 0 = u.getD n 0 := app_getD rfl (by omega)
  have p1 : u.getD (n + 2) 0 < 4294967296 := du.getD _
  have p2 : u.getD (n + 1) 0 < 4294967296 := du.getD _
  have p3 : u.getD n 0 < 4294967296 := du.getD _
  have q1 : d.getD (n + 1) 0 < 4294967296 := dd.getD _
  have q2 : d.getD n 0 < 4294967296 := dd.getD _
  have hpl : (pre ++ (u ++ post)).length = pre.length + u.length + post.length := by simp; omega
  generalize ho : pre ++ (u ++ post) = o at *
  have hU := val_top3 hu
  have hV := val_top2 hd
  have hlu := take_lt du n
  have hlv := take_lt dd n
  rw [show n + 3 = (n + 2) + 1 from rfl]
  generalize ht : u.getD (n + 2) 0 * B + u.getD (n + 1) 0 = top at hU
  have ht' : u.getD (n + 2) 0 * 4294967296 + u.getD (n + 1) 0 = top := by simpa only [B] using ht
  have htl : top < 18446744073709551616 := by omega
  have hqt := Nat.div_le_self top (d.getD (n + 1) 0)
  have eg : (if (4294967295 : Int) < ((top / d.getD (n + 1) 0 : Nat) : Int) then (4294967295 : Int) else ((top / d.getD (n + 1) 0 : Nat) : Int)) = ((min (top / d.getD (n + 1) 0) 4294967295 : Nat) : Int) := by
    split <;> omega
  have hg0 : min (top / d.getD (n + 1) 0) 4294967295 * d.getD (n + 1) 0 ≤ top := Nat.le_trans (Nat.mul_le_mul_right _ (Nat.min_le_left _ _)) (Nat.div_mul_le_self _ _)
  have hg1 : top < (min (top / d.getD (n + 1) 0) 4294967295 + 1) * d.getD (n + 1) 0 ∨ min (top / d.getD (n + 1) 0) 4294967295 + 1 = B := by
    by_cases h : top / d.getD (n + 1) 0 ≤ 4294967295
    · rw [Nat.min_eq_left h]; left
      rw [Nat.mul_comm]; exact Nat.lt_mul_div_succ top (by omega)
    · right; rw [Nat.min_eq_right (by omega)]; rfl
  have hg2 : min (top / d.getD (n + 1) 0) 4294967295 < B := by simp only [B]; omega
  have hK := kn_first (g := min (top / d.getD (n + 1) 0) 4294967295) hU hlu hV p3 hUV hg1
  generalize hg : min (top / d.getD (n + 1) 0) 4294967295 = g0 at *
  have hr0 : ((top : Nat) : Int) - ((g0 * d.getD (n + 1) 0 : Nat) : Int) = ((top - g0 * d.getD (n + 1) 0 : Nat) : Int) := by omega
  simp (config := { maxSteps := 1000000 }) (disch := ((try simp only [awL]); omega)) only [Tryz.f81, hd, dl, de, or64, g1, g2, g3, ht', ← Int.ofNat_tdiv, eg, hr0, ↓awU, awV, awF, Qa, Qb, Qc, Qd, forall_const, ↓reduceIte, ↓reduceDIte, ↓Qe, Qf, Qg, Qh, Qi, Qj, Qk, Ql, Qm, Qn, Qo, Qp, Qq, Qr, Qs, implies_true, Qt, Qu, Qv, Qw, Qx, Qy, Qz, QA, QB, QC, QD, QE, QF, QG, QH, QI, QJ, QK, QL, QM, QN, QO, QP, QQ]
  refine ⟨by rfl, ?_⟩
  refine LoopC.fx 35 (α := Nat × Nat) (β := Nat) (fun x => x.1) (fun x => [(7, .d (.int .u64 x.1)), (8, .d (.int .u64 x.2))])
    (fun _ => [.row false (nats .u32 o), .row false (nats .u32 dr)]) (fun x => x.1 < B ∧ val u < (x.1 + 1) * val d ∧ x.1 * d.getD (n + 1) 0 + x.2 = top)
    35 (fun g => [(7, .d (.int .u64 g))]) (fun _ => [.row false (nats .u32 o), .row false (nats .u32 dr)]) (fun g => g < B ∧ val u < (g + 1) * val d ∧ g * val d < val u + val d) (g0, top - g0 * d.getD (n + 1) 0) ⟨hg2, hK, by simp only; omega⟩ ?_ ?_ ?_
  · exact ⟨[some 0, some 1], rfl, by simp, by simp [setsA, keepA, SWeak, AWeak], by simp [HWeak, BWeak, SWeak, AWeak]⟩
  · rintro ⟨g, r⟩ ⟨hgB, hgU, hgr⟩
    simp only at hgB hgU hgr
    simp only [awK, Nat.reduceMod, Nat.reduceDiv, reduceIte]
    have hE : ∀ {g r}, g < B → g * d.getD (n + 1) 0 + r = top → (B ≤ r ∨ g * d.getD n 0 ≤ r * B + u.getD n 0) → g * val d < val u + val d :=
      fun a b c => kn_exit hU hV hlv (by omega) q2 a b c
    have hD : ∀ {g r}, g * d.getD (n + 1) 0 + r = top → r * B + u.getD n 0 < g * d.getD n 0 → val u < g * val d := fun a b => kn_down hU hlu hV a b
    clear hU hV hlu hlv hUV hK hg1 eg hr0 hg0 hg2 hqt hg
    replace hgU := Hid.mk hgU
    rcases g with _ | g
    · simp (config := { maxSteps := 1000000 }) (disch := ((try simp only [awL]); omega)) only [dl, de, or64, g1, g2, g3, ht', Int.zero_mul, ↓awU, awV, awF, Qa, Qb, Qc, Qd, forall_const, ↓reduceIte, ↓reduceDIte, ↓Qe, Qf, Qg, Qh, Qi, Qj, Qk, Ql, Qm, Qn, Qo, Qp, Qq, Qr, Qs, implies_true, Qt, Qu, Qv, Qw, Qx, Qy, Qz, QA, QB, QC, QD, QE, QF, QG, QH, QI, QJ, QK, QL, QM, QN, QO, QP, QQ]
      have e0 : 0 * val d < val u + val d := hE hgB hgr (.inr (by simp))
      exact ⟨fun h => ⟨by rfl, 0, ⟨by decide, hgU.out, e0⟩, ⟨[some 0, some 1], rfl, by simp, by simp [setsA, keepA, SWeak, AWeak], by simp [HWeak, BWeak, SWeak, AWeak]⟩⟩, fun h => ⟨by rfl, 0, ⟨by decide, hgU.out, e0⟩, ⟨[some 0, some 1], rfl, by simp, by simp [setsA, keepA, SWeak, AWeak], by simp [HWeak, BWeak, SWeak, AWeak]⟩⟩⟩
    · have hgd : (g + 1) * d.getD n 0 ≤ 18446744065119617025 := mul_digit hgB (dd.getD n)
      have hgB' : g + 1 < 4294967296 := by simpa only [B] using hgB
      simp (config := { maxSteps := 1000000 }) (disch := ((try simp only [awL]); omega)) only [dl, de, or64, g1, g2, g3, ht', ↓awU, awV, awF, Qa, Qb, Qc, Qd, forall_const, ↓reduceIte, ↓reduceDIte, ↓Qe, Qf, Qg, Qh, Qi, Qj, Qk, Ql, Qm, Qn, Qo, Qp, Qq, Qr, Qs, implies_true, Qt, Qu, Qv, Qw, Qx, Qy, Qz, QA, QB, QC, QD, QE, QF, QG, QH, QI, QJ, QK, QL, QM, QN, QO, QP, QQ]
      refine ⟨fun h => ⟨by rfl, fun h2 => ⟨(g, r + d.getD (n + 1) 0), ⟨?_, hD hgr (by simp only [B]; omega), ?_⟩, by simp only; omega, ⟨[some 0, some 1], rfl, by simp, by simp [setsA, keepA, SWeak, AWeak], by simp [HWeak, BWeak, SWeak, AWeak]⟩⟩,
        fun h2 => ⟨g + 1, ⟨hgB, hgU.out, hE hgB hgr (.inr (by simp only [B]; omega))⟩, ⟨[some 0, some 1], rfl, by simp, by simp [setsA, keepA, SWeak, AWeak], by simp [HWeak, BWeak, SWeak, AWeak]⟩⟩⟩, fun h => ⟨by rfl, g + 1, ⟨hgB, hgU.out, hE hgB hgr (.inl (by simp only [B]; omega))⟩, ⟨[some 0, some 1], rfl, by simp, by simp [setsA, keepA, SWeak, AWeak], by simp [HWeak, BWeak, SWeak, AWeak]⟩⟩⟩
      · simp only; omega
      · simp only
        rw [Nat.add_mul, Nat.one_mul] at hgr
        omega
  · rintro g ⟨hgB, hgU, hgV⟩
    simp only [awK, Nat.reduceMod, Nat.reduceDiv, reduceIte]
    clear eg hr0 hg0 hg2 hqt hg hK hg1
    replace hU := Hid.mk hU
    replace hV := Hid.mk hV
    replace hlu := Hid.mk hlu
    replace hlv := Hid.mk hlv
    replace hgU := Hid.mk hgU
    replace hgV := Hid.mk hgV
    replace hUV := Hid.mk hUV
    replace ht := Hid.mk ht
    have hgB' : g < 4294967296 := by simpa only [B] using hgB
    simp (config := { maxSteps := 1000000 }) (disch := ((try simp only [awL]); omega)) only [dl, de, ↓awU, awV, awF, Qa, Qb, Qc, Qd, forall_const, ↓reduceIte, ↓reduceDIte, ↓Qe, Qf, Qg, Qh, Qi, Qj, Qk, Ql, Qm, Qn, Qo, Qp, Qq, Qr, Qs, implies_true, Qt, Qu, Qv, Qw, Qx, Qy, Qz, QA, QB, QC, QD, QE, QF, QG, QH, QI, QJ, QK, QL, QM, QN, QO, QP, QQ]
    refine LoopC.fx 14507109835375550096474275 (α := List Nat × Nat × Nat) (β := List Nat × Nat × Nat) (fun x => n + 2 - x.1.length) (fun x => [(9, .d (.int .u32 x.2.1)), (10, .d (.int .u64 x.2.2)), (84, .d (.int .i64 x.1.length))])
      (fun x => [.row false (nats .u32 (win pre x.1 u post)), .row false (nats .u32 dr)]) (fun x => x.1.length ≤ n + 2 ∧ Dig x.1 ∧ x.2.1 ≤ 1 ∧ x.2.2 < B ∧ val x.1 + g * val (d.take x.1.length) = val (u.take x.1.length) + B ^ x.1.length * (x.2.2 + x.2.1))
      163 (fun x => [(9, .d (.int .u32 x.2.1)), (10, .d (.int .u64 x.2.2))]) (fun x => [.row false (nats .u32 (win pre x.1 u post)), .row false (nats .u32 dr)]) (fun x => x.1.length = n + 2 ∧ Dig x.1 ∧ x.2.1 ≤ 1 ∧ x.2.2 < B ∧ val x.1 + g * val d = val (u.take (n + 2)) + B ^ (n + 2) * (x.2.2 + x.2.1))
      ([], 0, 0) ⟨by simp, by simp [Dig], by simp, by simp [B], by simp [val]⟩ ?_ ?_ ?_
    · exact ⟨[some 0, some 1], rfl, by simp, by simp [setsA, keepA, SWeak, AWeak], by simp [HWeak, BWeak, win_nil, ho]⟩
    · rintro ⟨done, b, c⟩ ⟨hi, hdd, hb, hc, hv⟩
      simp only at hi hdd hb hc hv
      simp only [awK, Nat.reduceMod, Nat.reduceDiv, reduceIte]
      replace hv := Hid.mk hv
      have w1 : (win pre done u post).getD (pre.length + done.length) 0 = u.getD done.length 0 := win_getD (by omega)
      have w3 : (win pre done u post).length = pre.length + u.length + post.length := win_length (by omega)
      have hcB : c < 4294967296 := by simpa only [B] using hc
      have m1 : g * d.getD done.length 0 ≤ 18446744065119617025 := mul_digit hgB (dd.getD _)
      have m2 : u.getD done.length 0 < 4294967296 := du.getD _
      have m3 : d.getD done.length 0 < 4294967296 := dd.getD _
      simp (config := { maxSteps := 1000000 }) (disch := ((try simp only [awL]); omega)) only [w1, w3, hd, dl, de, w_u32, ↓awU, awV, awF, Qa, Qb, Qc, Qd, forall_const, ↓reduceIte, ↓reduceDIte, ↓Qe, Qf, Qg, Qh, Qi, Qj, Qk, Ql, Qm, Qn, Qo, Qp, Qq, Qr, Qs, implies_true, Qt, Qu, Qv, Qw, Qx, Qy, Qz, QA, QB, QC, QD, QE, QF, QG, QH, QI, QJ, QK, QL, QM, QN, QO, QP, QQ]
      refine ⟨fun h => ?_, fun h => ?_⟩
      · refine CallC.pure (sub32 _ _ _ (du.getD _) (Nat.mod_lt _ (by decide)) hb) ?_
        have w2 : ∀ v, (win pre done u post).set (pre.length + done.length) v = win pre (done ++ [v]) u post := fun v => win_set (by omega)
        simp (config := { maxSteps := 1000000 }) (disch := ((try simp only [awL]); omega)) only [w1, w2, w3, hd, dl, de, ↓awU, awV, awF, Qa, Qb, Qc, Qd, forall_const, ↓reduceIte, ↓reduceDIte, ↓Qe, Qf, Qg, Qh, Qi, Qj, Qk, Ql, Qm, Qn, Qo, Qp, Qq, Qr, Qs, implies_true, Qt, Qu, Qv, Qw, Qx, Qy, Qz, QA, QB, QC, QD, QE, QF, QG, QH, QI, QJ, QK, QL, QM, QN, QO, QP, QQ]
        have hsl : c + g * d.getD done.length 0 < B * B := by simp only [B]; omega
        rw [show (4294967296 : Nat) = B from rfl]
        refine ⟨(done ++ [(u.getD done.length 0 + B - (c + g * d.getD done.length 0) % B - b) % B], if u.getD done.length 0 < (c + g * d.getD done.length 0) % B + b then 1 else 0, (c + g * d.getD done.length 0) / B),
          ⟨by simp; omega, hdd.append ?_, by simp only; split <;> omega, (Nat.div_lt_iff_lt_mul (by decide)).2 hsl, ?_⟩, by simp; omega, [some 0, some 1], rfl, by simp, by simp [SWeak, AWeak, B], by simp [HWeak, BWeak]⟩
        · intro x hx; simp at hx; subst hx; exact Nat.mod_lt _ (by decide)
        · have := dg_step (d := d) (g := g) rfl (sub_digit (du.getD done.length) (Nat.mod_lt (c + g * d.getD done.length 0) (show 0 < B by decide)) hb) (Nat.mod_add_div (c + g * d.getD done.length 0) B) hv.out
          simpa using this
      · have hi' : done.length = n + 2 := by omega
        have hv := hv.out
        rw [hi', List.take_of_length_le (l := d) (by omega)] at hv
        exact ⟨(done, b, c), ⟨hi', hdd, hb, hc, hv⟩, ⟨[some 0, some 1], rfl, by simp, by simp [setsA, keepA, SWeak, AWeak], by simp [HWeak, BWeak, SWeak, AWeak]⟩⟩
    · rintro ⟨done, b, c⟩ ⟨hi, hdd, hb, hc, hv⟩
      simp only at hi hdd hb hc hv
      simp only [awK, Nat.reduceMod, Nat.reduceDiv, reduceIte]
      replace hv := Hid.mk hv
      have w1 : (win pre done u post).getD (pre.length + (n + 2)) 0 = u.getD (n + 2) 0 := by rw [← hi]; exact win_getD (by omega)
      have w3 : (win pre done u post).length = pre.length + u.length + post.length := win_length (by omega)
      have w2 : ∀ v, (win pre done u post).set (pre.length + (n + 2)) v = win pre (done ++ [v]) u post := fun v => by rw [← hi]; exact win_set (by omega)
      have hcB : c < 4294967296 := by simpa only [B] using hc
      simp (config := { maxSteps := 1000000 }) (disch := ((try simp only [awL]); omega)) only [w1, w2, w3, hd, dl, de, ↓awU, awV, awF, Qa, Qb, Qc, Qd, forall_const, ↓reduceIte, ↓reduceDIte, ↓Qe, Qf, Qg, Qh, Qi, Qj, Qk, Ql, Qm, Qn, Qo, Qp, Qq, Qr, Qs, implies_true, Qt, Qu, Qv, Qw, Qx, Qy, Qz, QA, QB, QC, QD, QE, QF, QG, QH, QI, QJ, QK, QL, QM, QN, QO, QP, QQ]
      refine CallC.pure (sub32 _ _ _ (du.getD _) hc hb) ?_
      by_cases hbb : u.getD (n + 2) 0 < c + b
      · rw [if_pos hbb]
        simp (config := { maxSteps := 1000000 }) (disch := ((try simp only [awL]); omega)) only [w1, w2, w3, hd, dl, de, ↓awU, awV, awF, Qa, Qb, Qc, Qd, forall_const, ↓reduceIte, ↓reduceDIte, ↓Qe, Qf, Qg, Qh, Qi, Qj, Qk, Ql, Qm, Qn, Qo, Qp, Qq, Qr, Qs, implies_true, Qt, Qu, Qv, Qw, Qx, Qy, Qz, QA, QB, QC, QD, QE, QF, QG, QH, QI, QJ, QK, QL, QM, QN, QO, QP, QQ]
        have h1 := sub_digit (du.getD (n + 2)) hc hb
        rw [if_pos hbb] at h1
        have dz : d.getD (n + 2) 0 = 0 := by rw [List.getD_eq_getElem?_getD, List.getElem?_eq_none (by omega)]; rfl
        have h2 := dg_step (d := d) (g := g) (c := c) (c' := 0) hi h1 (by rw [dz]; simp) (by rw [List.take_of_length_le (l := d) (by omega)]; exact hv.out)
        generalize hdig : (u.getD (n + 2) 0 + B - c - b) % B = dig at h1 h2 ⊢
        have hdB : dig < B := by rw [← hdig]; exact Nat.mod_lt _ (by decide)
        rw [List.take_of_length_le (l := d) (by omega), List.take_of_length_le (l := u) (by omega), Nat.zero_add] at h2
        generalize hu' : done ++ [dig] = u' at h2 ⊢
        have lu' : u'.length = n + 3 := by rw [← hu']; simp; omega
        have du' : Dig u' := by rw [← hu']; exact hdd.append (by intro x hx; simp at hx; omega)
        have vu' := val_lt du'
        rw [lu'] at vu'
        obtain ⟨m, rfl⟩ : ∃ m, g = m + 1 := by
          rcases g with _ | m
          · rw [Nat.zero_mul, Nat.mul_one] at h2
            have : B ^ (n + 2 + 1) = B ^ (n + 3) := rfl
            omega
          · exact ⟨m, rfl⟩
        have ew : win pre u' u post = win pre [] u' post := by
          simp [win, lu', List.drop_of_length_le (l := u) (i := n + 3) (by omega)]
        rw [ew]
        clear w1 w2 w3 hv hb hc hcB hbb h1
        replace h2 := Hid.mk h2
        replace vu' := Hid.mk vu'
        refine LoopC.fx 4083388403051261561560495289181218537633 (α := List Nat × Nat) (β := List Nat × Nat) (fun x => n + 2 - x.1.length) (fun x => [(13, .d (.int .u32 x.2)), (132, .d (.int .i64 x.1.length))])
          (fun x => [.row false (nats .u32 (win pre x.1 u' post)), .row false (nats .u32 dr)]) (fun x => x.1.length ≤ n + 2 ∧ Dig x.1 ∧ x.2 ≤ 1 ∧ val x.1 + B ^ x.1.length * x.2 = val (u'.take x.1.length) + val (d.take x.1.length))
          161 (fun x => [(13, .d (.int .u32 x.2))]) (fun x => [.row false (nats .u32 (win pre x.1 u' post)), .row false (nats .u32 dr)]) (fun x => x.1.length = n + 2 ∧ Dig x.1 ∧ x.2 ≤ 1 ∧ val x.1 + B ^ (n + 2) * x.2 = val (u'.take (n + 2)) + val d)
          ([], 0) ⟨by simp, by simp [Dig], by simp, by simp [val]⟩ ?_ ?_ ?_
        · exact ⟨[some 0, some 1], rfl, by simp, by simp [setsA, keepA, SWeak, AWeak], by simp [HWeak, BWeak, SWeak, AWeak]⟩
        · rintro ⟨done2, a⟩ ⟨hi2, hd2, ha, hv2⟩
          simp only at hi2 hd2 ha hv2
          simp only [awK, Nat.reduceMod, Nat.reduceDiv, reduceIte]
          replace hv2 := Hid.mk hv2
          have w1 : (win pre done2 u' post).getD (pre.length + done2.length) 0 = u'.getD done2.length 0 := win_getD (by omega)
          have w3 : (win pre done2 u' post).length = pre.length + u'.length + post.length := win_length (by omega)
          simp (config := { maxSteps := 1000000 }) (disch := ((try simp only [awL]); omega)) only [w1, w3, hd, dl, de, ↓awU, awV, awF, Qa, Qb, Qc, Qd, forall_const, ↓reduceIte, ↓reduceDIte, ↓Qe, Qf, Qg, Qh, Qi, Qj, Qk, Ql, Qm, Qn, Qo, Qp, Qq, Qr, Qs, implies_true, Qt, Qu, Qv, Qw, Qx, Qy, Qz, QA, QB, QC, QD, QE, QF, QG, QH, QI, QJ, QK, QL, QM, QN, QO, QP, QQ]
          refine ⟨fun h => ?_, fun h => ?_⟩
          · refine CallC.pure (add32 _ _ _ (du'.getD _) (dd.getD _) ha) ?_
            have w2 : ∀ v, (win pre done2 u' post).set (pre.length + done2.length) v = win pre (done2 ++ [v]) u' post := fun v => win_set (by omega)
            have a1 := du'.getD done2.length
            have a2 := dd.getD done2.length
            simp (config := { maxSteps := 1000000 }) (disch := ((try simp only [awL]); omega)) only [w1, w2, w3, hd, dl, de, ↓awU, awV, awF, Qa, Qb, Qc, Qd, forall_const, ↓reduceIte, ↓reduceDIte, ↓Qe, Qf, Qg, Qh, Qi, Qj, Qk, Ql, Qm, Qn, Qo, Qp, Qq, Qr, Qs, implies_true, Qt, Qu, Qv, Qw, Qx, Qy, Qz, QA, QB, QC, QD, QE, QF, QG, QH, QI, QJ, QK, QL, QM, QN, QO, QP, QQ]
            refine ⟨(done2 ++ [(u'.getD done2.length 0 + d.getD done2.length 0 + a) % B], (u'.getD done2.length 0 + d.getD done2.length 0 + a) / B),
              ⟨by simp; omega, hd2.append ?_, by simp only [B] at *; omega, ?_⟩, by simp; omega, [some 0, some 1], rfl, by simp, by simp [SWeak, AWeak], by simp [HWeak, BWeak]⟩
            · intro x hx; simp at hx; subst hx; exact Nat.mod_lt _ (by decide)
            · have := ab_step (u := u') (d := d) rfl rfl hv2.out
              simpa using this
          · have hi' : done2.length = n + 2 := by omega
            have hv2 := hv2.out
            rw [hi', List.take_of_length_le (l := d) (by omega)] at hv2
            exact ⟨(done2, a), ⟨hi', hd2, ha, hv2⟩, ⟨[some 0, some 1], rfl, by simp, by simp [setsA, keepA, SWeak, AWeak], by simp [HWeak, BWeak, SWeak, AWeak]⟩⟩
        · rintro ⟨done2, a⟩ ⟨hi2, hd2, ha, hv2⟩
          simp only at hi2 hd2 ha hv2
          simp only [awK, Nat.reduceMod, Nat.reduceDiv, reduceIte]
          replace hv2 := Hid.mk hv2
          have w1 : (win pre done2 u' post).getD (pre.length + (n + 2)) 0 = u'.getD (n + 2) 0 := by rw [← hi2]; exact win_getD (by omega)
          have w3 : (win pre done2 u' post).length = pre.length + u'.length + post.length := win_length (by omega)
          have w2 : ∀ v, (win pre done2 u' post).set (pre.length + (n + 2)) v = win pre (done2 ++ [v]) u' post := fun v => by rw [← hi2]; exact win_set (by omega)
          have a1 := du'.getD (n + 2)
          simp (config := { maxSteps := 1000000 }) (disch := ((try simp only [awL]); omega)) only [w1, w2, w3, hd, dl, de, w_u32, cast_add, nats_set, ↓awU, awV, awF, Qa, Qb, Qc, Qd, forall_const, ↓reduceIte, ↓reduceDIte, ↓Qe, Qf, Qg, Qh, Qi, Qj, Qk, Ql, Qm, Qn, Qo, Qp, Qq, Qr, Qs, implies_true, Qt, Qu, Qv, Qw, Qx, Qy, Qz, QA, QB, QC, QD, QE, QF, QG, QH, QI, QJ, QK, QL, QM, QN, QO, QP, QQ]
          rw [show (4294967296 : Nat) = B from rfl]
          have hB0 : 0 < B := by decide
          have h3 := Nat.mod_add_div (u'.getD (n + 2) 0 + a) B
          have hq : (u'.getD (n + 2) 0 + a) / B = 0 ∨ (u'.getD (n + 2) 0 + a) / B = 1 := by simp only [B] at *; omega
          have du3 : Dig (done2 ++ [(u'.getD (n + 2) 0 + a) % B]) := hd2.append (by intro x hx; simp at hx; subst hx; exact Nat.mod_lt _ hB0)
          have l3 : (done2 ++ [(u'.getD (n + 2) 0 + a) % B]).length = n + 3 := by simp; omega
          have v3 := val_lt du3
          rw [l3] at v3
          have hu3 : val u' = val (u'.take (n + 2)) + B ^ (n + 2) * u'.getD (n + 2) 0 := by
            have := take_val u' (n + 2)
            rwa [List.take_of_length_le (l := u') (by omega)] at this
          have e3 : val (done2 ++ [(u'.getD (n + 2) 0 + a) % B]) + B ^ (n + 3) * ((u'.getD (n + 2) 0 + a) / B) = val u' + val d := by
            rw [val_append, hi2, hu3]
            simp only [val, Nat.mul_zero, Nat.add_zero]
            have e4 : B ^ (n + 3) * ((u'.getD (n + 2) 0 + a) / B) = B ^ (n + 2) * (B * ((u'.getD (n + 2) 0 + a) / B)) := by rw [Nat.pow_succ, Nat.mul_assoc]
            have e5 : B ^ (n + 2) * ((u'.getD (n + 2) 0 + a) % B) + B ^ (n + 2) * (B * ((u'.getD (n + 2) 0 + a) / B)) = B ^ (n + 2) * u'.getD (n + 2) 0 + B ^ (n + 2) * a := by rw [← Nat.mul_add, h3, Nat.mul_add]
            have e6 := hv2.out
            omega
          generalize hr3 : done2 ++ [(u'.getD (n + 2) 0 + a) % B] = r3 at *
          generalize (u'.getD (n + 2) 0 + a) / B = z at *
          have hV := val_lt dd
          have hVP : val d < B ^ (n + 3) := Nat.lt_of_lt_of_le hV (Nat.pow_le_pow_right hB0 (by omega))
          have hb := dg_back (U := val u) (V := val d) (g := m + 1) (r := val u') (P := B ^ (n + 3)) (r3 := val r3) (x3 := 0) (dn := val u' + val d) hgV.out hVP vu'.out h2.out (by omega)
            (by rcases hq with rfl | rfl
                · left; rw [Nat.mul_zero] at e3; omega
                · right; rw [Nat.mul_one] at e3; omega) v3 rfl
          rw [hb.1, hb.2, Nat.add_sub_cancel, ← digs_eq du3 l3 rfl]
          have ew3 : win pre r3 u' post = pre ++ (r3 ++ post) := by simp [win, l3, List.drop_of_length_le (l := u') (i := n + 3) (by omega)]
          rw [ew3]
          exact ⟨[some 0, some 1], rfl, by simp, by simp [HWeak, BWeak, SWeak, AWeak], .inl (by simp [AWeak, SWeak])⟩
      · rw [if_neg hbb]
        simp (config := { maxSteps := 1000000 }) (disch := ((try simp only [awL]); omega)) only [w1, w2, w3, hd, dl, de, ↓awU, awV, awF, Qa, Qb, Qc, Qd, forall_const, ↓reduceIte, ↓reduceDIte, ↓Qe, Qf, Qg, Qh, Qi, Qj, Qk, Ql, Qm, Qn, Qo, Qp, Qq, Qr, Qs, implies_true, Qt, Qu, Qv, Qw, Qx, Qy, Qz, QA, QB, QC, QD, QE, QF, QG, QH, QI, QJ, QK, QL, QM, QN, QO, QP, QQ]
        have h1 := sub_digit (du.getD (n + 2)) hc hb
        rw [if_neg hbb] at h1
        have dz : d.getD (n + 2) 0 = 0 := by rw [List.getD_eq_getElem?_getD, List.getElem?_eq_none (by omega)]; rfl
        have h2 := dg_step (d := d) (g := g) (c := c) (c' := 0) hi h1 (by rw [dz]; simp) (by rw [List.take_of_length_le (l := d) (by omega)]; exact hv.out)
        generalize hdig : (u.getD (n + 2) 0 + B - c - b) % B = dig at h1 h2 ⊢
        have hdB : dig < B := by rw [← hdig]; exact Nat.mod_lt _ (by decide)
        rw [List.take_of_length_le (l := d) (by omega), List.take_of_length_le (l := u) (by omega), Nat.zero_add] at h2
        generalize hu' : done ++ [dig] = u' at h2 ⊢
        have lu' : u'.length = n + 3 := by rw [← hu']; simp; omega
        have du' : Dig u' := by rw [← hu']; exact hdd.append (by intro x hx; simp at hx; omega)
        have hb := dg_fit hgU.out h2
        rw [hb.1, hb.2, ← digs_eq du' lu' rfl]
        have ew3 : win pre u' u post = pre ++ (u' ++ post) := by simp [win, lu', List.drop_of_length_le (l := u) (i := n + 3) (by omega)]
        rw [ew3]
        exact ⟨[some 0, some 1], rfl, by simp, by simp [HWeak, BWeak, SWeak, AWeak], .inl (by simp [AWeak, SWeak])⟩
end Go.Proofs.YtjecgoddmkaboaaGreatDoor.Num

namespace Go.Proofs.YtjecgoddmkaboaaGreatDoor.Num
open Go Go.Proofs Go.Abs
variable {G : Globals}
theorem mid_getD {q r : List Nat} {c k : Nat} (h : q.length = k) : (q ++ c :: r).getD k 0 = c := by subst h; simp [List.getD_eq_getElem?_getD]
theorem mid_set {q r : List Nat} {c k v : Nat} (h : q.length = k) : (q ++ c :: r).set k v = q ++ v :: r := by subst h; simp
theorem mid_set1 {q r : List Nat} {c d k v : Nat} (h : q.length = k) : (q ++ c :: d :: r).set (k + 1) v = q ++ c :: v :: r := by
  subst h; rw [List.set_append_right _ _ (by omega), Nat.add_sub_cancel_left]; rfl
set_option maxHeartbeats 4000000 in
set_option maxRecDepth 100000 in
theorem shifted_spec (l : List Nat) (sh : Nat) (hl : Dig l) (hs : sh < 32) (hll : l.length < 2 ^ 40) :
    Ctr Tryz.prog G 80 [.d (W l), .d (.int .i64 sh)] [] (.lsl 0 1 0 (l.length + 1)) [.row false (nats .u32 (digs (l.length + 1) (val l * 2 ^ sh)))] := by
  refine Ctr.body (M := M0) hmix Tryz.func80 rfl go80 ?_
  simp (config := { maxSteps := 1000000 }) (disch := ((try simp only [awL]); omega)) only [Tryz.f80, ↓awU, awV, awF, Qa, Qb, Qc, Qd, forall_const, ↓reduceIte, ↓reduceDIte, ↓Qe, Qf, Qg, Qh, Qi, Qj, Qk, Ql, Qm, Qn, Qo, Qp, Qq, Qr, Qs, implies_true, Qt, Qu, Qv, Qw, Qx, Qy, Qz, QA, QB, QC, QD, QE, QF, QG, QH, QI, QJ, QK, QL, QM, QN, QO, QP, QQ]
  have hm : (2 : Int) ^ sh = ((2 ^ sh : Nat) : Int) := by simp
  have hmb : 2 ^ sh ≤ 2147483648 := Nat.pow_le_pow_right (by decide) (show sh ≤ 31 by omega)
  have hmp : 0 < 2 ^ sh := Nat.two_pow_pos sh
  refine LoopC.fr 24610 (α := Nat × List Nat × Nat) (fun x => l.length - x.1) (fun x => [(15, .d (.int .i64 x.1))])
    (fun x => [.row false (nats .u32 (x.2.1 ++ x.2.2 :: List.replicate (l.length - x.1) 0))]) (fun x => x.1 ≤ l.length ∧ x.2.1.length = x.1 ∧ Dig x.2.1 ∧ x.2.2 < 2 ^ sh ∧ val x.2.1 + B ^ x.1 * x.2.2 = val (l.take x.1) * 2 ^ sh) (0, [], 0) ⟨Nat.zero_le _, rfl, (fun x hx => by cases hx), hmp, (Nat.zero_mul _).symm ▸ rfl⟩ ?_ ?_
  · exact ⟨[some 0], rfl, by simp, by simp [setsA, keepA, SWeak, AWeak], by simp [HWeak, BWeak, List.replicate_succ]⟩
  · rintro ⟨k, q, c⟩ ⟨hk, hq, hd, hc, hv⟩
    simp only at hk hq hd hc hv
    simp only [awK, Nat.reduceMod, Nat.reduceDiv, reduceIte]
    replace hv := Hid.mk hv
    have hx : l.getD k 0 < 4294967296 := hl.getD k
    have hxm : l.getD k 0 * 2 ^ sh ≤ 4294967295 * 2147483648 := Nat.mul_le_mul (by omega) hmb
    have c1 : ∀ r, (q ++ c :: r).getD k 0 = c := fun r => mid_getD hq
    have c2 : ∀ r v, (q ++ c :: r).set k v = q ++ v :: r := fun r v => mid_set hq
    have c3 : ∀ a d r v, (q ++ a :: d :: r).set (k + 1) v = q ++ a :: v :: r := fun a d r v => mid_set1 hq
    have hor : c ||| (l.getD k 0 * 2 ^ sh % 4294967296) = c + l.getD k 0 * 2 ^ sh % 4294967296 := by rw [low_mul hs, or_low hc]
    have hlow : l.getD k 0 * 2 ^ sh % 4294967296 < 4294967296 := Nat.mod_lt _ (by decide)
    have hmin : min sh 64 = sh := by omega
    simp (config := { maxSteps := 1000000 }) (disch := ((try simp only [awL]); omega)) only [hm, hmin, c1, c2, hor, bi_u32_or_nat, w_u32, Nat.zero_lt_succ, ↓awU, awV, awF, Qa, Qb, Qc, Qd, forall_const, ↓reduceIte, ↓reduceDIte, ↓Qe, Qf, Qg, Qh, Qi, Qj, Qk, Ql, Qm, Qn, Qo, Qp, Qq, Qr, Qs, implies_true, Qt, Qu, Qv, Qw, Qx, Qy, Qz, QA, QB, QC, QD, QE, QF, QG, QH, QI, QJ, QK, QL, QM, QN, QO, QP, QQ]
    refine ⟨fun h => ?_, fun h => ?_⟩
    · have er : List.replicate (l.length - k) 0 = 0 :: List.replicate (l.length - (k + 1)) 0 := by rw [← List.replicate_succ]; congr 1; omega
      rw [er]
      have ei : ((l.getD k 0 * 2 ^ sh : Nat) : Int) / 4294967296 = ((l.getD k 0 * 2 ^ sh / B : Nat) : Int) := by simp only [B]; omega
      rw [ei, nats_set, c3]
      refine ⟨(k + 1, q ++ [c + l.getD k 0 * 2 ^ sh % B], l.getD k 0 * 2 ^ sh / B), ⟨by simp only; omega, by simp [hq], hd.append ?_, ?_, sh_step hq rfl hv.out⟩, by simp only; omega, [some 0], rfl, by simp, by simp [SWeak, AWeak], ?_⟩
      · intro x hx
        simp only [List.mem_cons, List.not_mem_nil, or_false] at hx
        subst hx
        show c + l.getD k 0 * 2 ^ sh % 4294967296 < 2 ^ 32
        rw [← hor]
        exact Nat.or_lt_two_pow (by omega) hlow
      · simp only
        rw [Nat.div_lt_iff_lt_mul (by decide), Nat.mul_comm (2 ^ sh)]
        exact Nat.mul_lt_mul_of_pos_right hx hmp
      · have e2 : (q ++ [c + l.getD k 0 * 2 ^ sh % B]) ++ l.getD k 0 * 2 ^ sh / B :: List.replicate (l.length - (k + 1)) 0 = q ++ (c + l.getD k 0 * 2 ^ sh % 4294967296) :: l.getD k 0 * 2 ^ sh / B :: List.replicate (l.length - (k + 1)) 0 := by
          rw [List.append_assoc]; rfl
        simp only [e2]
        simp [HWeak, BWeak]
    · have ek : k = l.length := by omega
      have hv := hv.out
      subst ek
      rw [List.take_of_length_le (Nat.le_refl _)] at hv
      have hcB : c < B := Nat.lt_of_lt_of_le hc (by simp only [B]; omega)
      rw [Nat.sub_self, List.replicate_zero, ← digs_eq (l := q ++ [c]) (hd.append (by intro x hx; simp only [List.mem_cons, List.not_mem_nil, or_false] at hx; subst hx; exact hcB)) (by simp [hq]) (by rw [val_append, hq]; simpa [val] using hv)]
      exact ⟨[some 0], rfl, by simp, by simp [HWeak, BWeak, SWeak, AWeak], .inl (by simp [AWeak, SWeak])⟩
theorem clone_spec (l : List Nat) (hl : l.length < 2 ^ 40) : Ctr Tryz.prog G 34 [.d (W l)] [] (.d (W l)) [] := by
  refine Ctr.of_body Tryz.func34 rfl go34 rfl ?_
  refine Tri.seq (Tri.of_awp (M := M0) hmix _ _ _ _ ?_)
  simp (config := { maxSteps := 1000000 }) (disch := ((try simp only [awL]); omega)) only [aseq_normal, Tryz.f34, ↓awU, awV, awF, Qa, Qb, Qc, Qd, forall_const, ↓reduceIte, ↓reduceDIte, ↓Qe, Qf, Qg, Qh, Qi, Qj, Qk, Ql, Qm, Qn, Qo, Qp, Qq, Qr, Qs, implies_true, Qt, Qu, Qv, Qw, Qx, Qy, Qz, QA, QB, QC, QD, QE, QF, QG, QH, QI, QJ, QK, QL, QM, QN, QO, QP, QQ]
  refine Tri.seq (Tri.seq (Tri.nilRegion (e := 58) (by kernel_rfl) rfl ?_ ?_))
  · simp
  intro b hb
  simp only [aseq_normal]
  refine Tri.of_awp (M := M0) hmix _ _ _ _ ?_
  cases b
  · simp (config := { maxSteps := 1000000 }) (disch := ((try simp only [awL]); omega)) only [aseq_normal, Tryz.f34, aseq_ret, ↓awU, awV, awF, Qa, Qb, Qc, Qd, forall_const, ↓reduceIte, ↓reduceDIte, ↓Qe, Qf, Qg, Qh, Qi, Qj, Qk, Ql, Qm, Qn, Qo, Qp, Qq, Qr, Qs, implies_true, Qt, Qu, Qv, Qw, Qx, Qy, Qz, QA, QB, QC, QD, QE, QF, QG, QH, QI, QJ, QK, QL, QM, QN, QO, QP, QQ]
    refine Tri.of_awp (M := M0) hmix _ _ _ _ ?_
    simp (config := { maxSteps := 1000000 }) (disch := ((try simp only [awL]); omega)) only [aseq_normal, Tryz.f34, aseq_ret, ↓awU, awV, awF, Qa, Qb, Qc, Qd, forall_const, ↓reduceIte, ↓reduceDIte, ↓Qe, Qf, Qg, Qh, Qi, Qj, Qk, Ql, Qm, Qn, Qo, Qp, Qq, Qr, Qs, implies_true, Qt, Qu, Qv, Qw, Qx, Qy, Qz, QA, QB, QC, QD, QE, QF, QG, QH, QI, QJ, QK, QL, QM, QN, QO, QP, QQ]
    refine ⟨[], rfl, List.nodup_nil, trivial, .inr ⟨W l, ?_, by simp [W, unf_sl], rfl⟩⟩
    simp [sealA, W, cut_nats]
  · simp (config := { maxSteps := 1000000 }) (disch := ((try simp only [awL]); omega)) only [aseq_normal, Tryz.f34, aseq_ret, ↓awU, awV, awF, Qa, Qb, Qc, Qd, forall_const, ↓reduceIte, ↓reduceDIte, ↓Qe, Qf, Qg, Qh, Qi, Qj, Qk, Ql, Qm, Qn, Qo, Qp, Qq, Qr, Qs, implies_true, Qt, Qu, Qv, Qw, Qx, Qy, Qz, QA, QB, QC, QD, QE, QF, QG, QH, QI, QJ, QK, QL, QM, QN, QO, QP, QQ]
    have h0 : l = [] := List.length_eq_zero_iff.1 (hb rfl)
    subst h0
    exact ⟨[], rfl, List.nodup_nil, trivial, .inr ⟨.sl 0 true [], rfl, rfl, rfl⟩⟩
theorem toW_take {o : List Nat} (hd : Dig o) {k : Nat} (hk : k ≤ o.length) (h : k = 0 ∨ o.getD (k - 1) 0 ≠ 0) : toW (val (o.take k)) = o.take k := by
  refine toW_of (hd.take k) ?_
  rcases h with rfl | h
  · left; simp
  · rcases Nat.eq_zero_or_pos k with rfl | hp
    · left; simp
    · right
      have e : (o.take k).length - 1 = k - 1 := by simp; omega
      rw [e, List.getD_eq_getElem?_getD, List.getElem?_take, if_pos (by omega), ← List.getD_eq_getElem?_getD]
      exact h
theorem trimmed_ref (o : List Nat) (n : Nat) (hd : Dig o) (hn : n ≤ o.length) (hl : o.length < 2 ^ 60) :
    Ctr Tryz.prog G 59 [.lsl 0 1 0 n] [.row false (nats .u32 o)] (.lsl 0 1 0 (toW (val (o.take n))).length) [.row false (nats .u32 o)] := by
  refine Ctr.body (M := M0) hmix Tryz.func59 rfl go59 ?_
  simp (config := { maxSteps := 1000000 }) (disch := ((try simp only [awL]); omega)) only [Tryz.f59, ↓awU, awV, awF, Qa, Qb, Qc, Qd, forall_const, ↓reduceIte, ↓reduceDIte, ↓Qe, Qf, Qg, Qh, Qi, Qj, Qk, Ql, Qm, Qn, Qo, Qp, Qq, Qr, Qs, implies_true, Qt, Qu, Qv, Qw, Qx, Qy, Qz, QA, QB, QC, QD, QE, QF, QG, QH, QI, QJ, QK, QL, QM, QN, QO, QP, QQ]
  refine LoopC.fr 0 (α := Nat) (fun k => k) (fun k => [(0, .lsl 0 1 0 k)]) (fun _ => [.row false (nats .u32 o)]) (fun k => k ≤ n ∧ val (o.take k) = val (o.take n)) n ⟨Nat.le_refl _, rfl⟩ ?_ ?_
  · exact ⟨[some 0], rfl, by simp, by simp [setsA, keepA, SWeak, AWeak], by simp [HWeak, BWeak, SWeak, AWeak]⟩
  · rintro k ⟨hk, hv⟩
    simp only [awK, Nat.reduceMod, Nat.reduceDiv, reduceIte]
    rcases k with _ | k
    · simp (config := { maxSteps := 1000000 }) (disch := ((try simp only [awL]); omega)) only [↓awU, awV, awF, Qa, Qb, Qc, Qd, forall_const, ↓reduceIte, ↓reduceDIte, ↓Qe, Qf, Qg, Qh, Qi, Qj, Qk, Ql, Qm, Qn, Qo, Qp, Qq, Qr, Qs, implies_true, Qt, Qu, Qv, Qw, Qx, Qy, Qz, QA, QB, QC, QD, QE, QF, QG, QH, QI, QJ, QK, QL, QM, QN, QO, QP, QQ]
      have : toW (val (o.take n)) = [] := by rw [← hv]; exact toW_zero
      rw [this]
      exact ⟨[some 0], rfl, by simp, by simp [HWeak, BWeak, SWeak, AWeak], .inl (by simp [AWeak, SWeak])⟩
    · simp (config := { maxSteps := 1000000 }) (disch := ((try simp only [awL]); omega)) only [↓awU, awV, awF, Qa, Qb, Qc, Qd, forall_const, ↓reduceIte, ↓reduceDIte, ↓Qe, Qf, Qg, Qh, Qi, Qj, Qk, Ql, Qm, Qn, Qo, Qp, Qq, Qr, Qs, implies_true, Qt, Qu, Qv, Qw, Qx, Qy, Qz, QA, QB, QC, QD, QE, QF, QG, QH, QI, QJ, QK, QL, QM, QN, QO, QP, QQ]
      refine ⟨fun h => ⟨k, ⟨by omega, ?_⟩, Nat.lt_succ_self _, ⟨[some 0], rfl, by simp, by simp [setsA, keepA, SWeak, AWeak], by simp [HWeak, BWeak, SWeak, AWeak]⟩⟩, fun h => ?_⟩
      · rw [← hv, take_val o k, show o.getD k 0 = 0 by omega]; simp
      · have := toW_take hd (k := k + 1) (by omega) (.inr (by simpa using h))
        rw [hv] at this
        rw [this]
        have e : (o.take (k + 1)).length = k + 1 := by simp; omega
        rw [e]
        exact ⟨[some 0], rfl, by simp, by simp [HWeak, BWeak, SWeak, AWeak], .inl (by simp [AWeak, SWeak])⟩
end Go.Proofs.YtjecgoddmkaboaaGreatDoor.Num

/-
  Division of digits: plain.
-/
namespace Go.Proofs.YtjecgoddmkaboaaGreatDoor.Num
open Go Go.Proofs Go.Abs
theorem digs_split (i k n : Nat) : digs (i + k) n = digs i n ++ digs k (n / B ^ i) := by
  induction i generalizing n with
  | zero => simp [digs]
  | succ i ih =>
    rw [Nat.add_right_comm i 1 k]
    simp only [digs, List.cons_append]
    rw [ih, Nat.div_div_eq_div_mul, Nat.pow_succ, Nat.mul_comm B]
theorem digs_zero (k : Nat) : digs k 0 = List.replicate k 0 := by
  induction k with
  | zero => rfl
  | succ k ih => simp [digs, List.replicate_succ, ih]
theorem digs_zeros {k z n : Nat} (h : n < B ^ k) : digs (k + z) n = digs k n ++ List.replicate z 0 := by
  rw [digs_split, Nat.div_eq_of_lt h, digs_zero]
theorem digs_take {i k n : Nat} (h : i ≤ k) : (digs k n).take i = digs i n := by
  obtain ⟨z, rfl⟩ : ∃ z, k = i + z := ⟨k - i, by omega⟩
  rw [digs_split, List.take_left' (digs_length i n)]
theorem digs_getD {i k n : Nat} (h : i < k) : (digs k n).getD i 0 = n / B ^ i % B := by
  obtain ⟨z, rfl⟩ : ∃ z, k = i + (z + 1) := ⟨k - i - 1, by omega⟩
  rw [digs_split, digs]
  have := digs_length i n
  rw [List.getD_eq_getElem?_getD, List.getElem?_append_right (by omega), this, Nat.sub_self]
  rfl
theorem digs_succ (i n : Nat) : digs (i + 1) n = digs i n ++ [n / B ^ i % B] := by rw [digs_split]; rfl
theorem toW_digs (n : Nat) : toW n = digs (toW n).length n := digs_eq (dig_toW n) rfl (val_toW n)
theorem norm_facts {m : List Nat} {k s : Nat} (hm : Dig m) (hl : m.length = k + 2) (ht : m.getD (k + 1) 0 ≠ 0) (hs : s = 31 - (m.getD (k + 1) 0).log2) :
    s < 32 ∧ val m * 2 ^ s < B ^ (k + 2) ∧ 2147483648 ≤ (digs (k + 2) (val m * 2 ^ s)).getD (k + 1) 0 := by
  have htB := hm.getD (k + 1)
  have hv : val m = val (m.take (k + 1)) + B ^ (k + 1) * m.getD (k + 1) 0 := by
    have := take_val m (k + 1)
    rwa [List.take_of_length_le (by omega)] at this
  have hlo := take_lt hm (k + 1)
  generalize m.getD (k + 1) 0 = t at *
  have he := (Nat.log2_eq_iff ht).1 rfl
  have he32 := (Nat.log2_lt (k := 32) ht).2 htB
  have hp : 2 ^ (t.log2 + 1) * 2 ^ s = B := by
    rw [← Nat.pow_add, hs, show t.log2 + 1 + (31 - t.log2) = 32 by omega]; rfl
  have hp' : 2 ^ t.log2 * 2 ^ s = 2147483648 := by
    rw [← Nat.pow_add, hs, show t.log2 + (31 - t.log2) = 31 by omega]
  have h1 : 2147483648 ≤ t * 2 ^ s := by rw [← hp']; exact Nat.mul_le_mul_right _ he.1
  have h2 : (t + 1) * 2 ^ s ≤ B := by rw [← hp]; exact Nat.mul_le_mul_right _ he.2
  have h3 : val m * 2 ^ s < B ^ (k + 2) := by
    have e1 : val m + 1 ≤ B ^ (k + 1) * (t + 1) := by have := Nat.mul_add (B ^ (k + 1)) t 1; omega
    have e2 : (val m + 1) * 2 ^ s ≤ B ^ (k + 1) * (t + 1) * 2 ^ s := Nat.mul_le_mul_right _ e1
    have e3 : B ^ (k + 1) * (t + 1) * 2 ^ s ≤ B ^ (k + 1) * B := by rw [Nat.mul_assoc]; exact Nat.mul_le_mul_left _ h2
    rw [Nat.add_mul, Nat.one_mul] at e2
    have : 0 < 2 ^ s := Nat.two_pow_pos s
    rw [Nat.pow_succ]
    omega
  refine ⟨by omega, h3, ?_⟩
  rw [digs_getD (by omega)]
  have hB : 0 < B ^ (k + 1) := Nat.pow_pos (by decide)
  have e4 : val m * 2 ^ s / B ^ (k + 1) < B := by
    rw [Nat.div_lt_iff_lt_mul hB, Nat.mul_comm B, ← Nat.pow_succ]; exact h3
  rw [Nat.mod_eq_of_lt e4]
  refine Nat.le_trans h1 ((Nat.le_div_iff_mul_le hB).2 ?_)
  rw [Nat.mul_right_comm]
  refine Nat.mul_le_mul_right _ ?_
  rw [hv, Nat.mul_comm]; omega
theorem ov_step {U V j Q r : Nat} (h : U / B ^ (j + 1) = Q * V + r) (hr : r < V) :
    U / B ^ j % B + B * r < V * B ∧ U / B ^ j = (B * Q + (U / B ^ j % B + B * r) / V) * V + (U / B ^ j % B + B * r) % V := by
  have hx : U / B ^ j % B < B := Nat.mod_lt _ (by decide)
  refine ⟨?_, ?_⟩
  · have : B * (r + 1) ≤ B * V := Nat.mul_le_mul_left _ hr
    rw [Nat.mul_add, Nat.mul_one] at this
    rw [Nat.mul_comm V]
    omega
  · have h1 := Nat.mod_add_div (U / B ^ j) B
    rw [Nat.div_div_eq_div_mul, ← Nat.pow_succ, h, Nat.mul_add] at h1
    have h2 := Nat.mod_add_div (U / B ^ j % B + B * r) V
    rw [Nat.add_mul, Nat.mul_assoc]
    rw [Nat.mul_comm V] at h2
    omega
theorem unshift {r s i : Nat} (hs : s < 32) : ((r / B ^ (i + 1) % B) * B + r / B ^ i % B) / 2 ^ s % B = r / 2 ^ s / B ^ i % B := by
  have hB : B = 2 ^ (32 - s) * 2 ^ s := by rw [← Nat.pow_add, show 32 - s + s = 32 by omega]; rfl
  have e1 : r / 2 ^ s / B ^ i = r / B ^ i / 2 ^ s := by rw [Nat.div_div_eq_div_mul, Nat.mul_comm, ← Nat.div_div_eq_div_mul]
  have e2 : r / B ^ (i + 1) = r / B ^ i / B := by rw [Nat.div_div_eq_div_mul, Nat.pow_succ]
  rw [e1, e2]
  generalize r / B ^ i = y
  have h1 := Nat.mod_add_div y B
  have h2 := Nat.mod_add_div (y / B) B
  generalize hc : y / B / B = c at *
  generalize hh : y / B % B = h at *
  generalize hl : y % B = l at *
  have hp : 0 < 2 ^ s := Nat.two_pow_pos s
  have e3 : y = (h * B + l) + 2 ^ s * (c * B * 2 ^ (32 - s)) := by
    have : 2 ^ s * (c * B * 2 ^ (32 - s)) = B * (B * c) := by
      conv => rhs; arg 1; rw [hB]
      ac_rfl
    rw [this, ← h1, ← h2, Nat.mul_add, Nat.mul_comm B h]
    omega
  rw [e3, Nat.add_mul_div_left _ _ hp, Nat.mul_right_comm, Nat.add_mul_mod_self_right]
theorem trim_len {l : List Nat} (h : Dig l) : (toW (val l)).length ≤ l.length := toW_length_le (val_lt h)
theorem take_trim {l : List Nat} (h : Dig l) : l.take (toW (val l)).length = toW (val l) := by
  conv => lhs; arg 2; rw [← digs_val h]
  rw [digs_take (trim_len h), ← toW_digs]
/-- A remainder that is shifted back, digit by digit. -/
def backRow (N s r i : Nat) : List Nat := digs i (r / 2 ^ s) ++ (digs N r).drop i
theorem backRow_length {N s r i : Nat} (h : i ≤ N) : (backRow N s r i).length = N := by simp [backRow, digs_length]; omega
theorem backRow_zero {N s r : Nat} : backRow N s r 0 = digs N r := rfl
theorem backRow_getD {N s r i : Nat} (h : i < N) : (backRow N s r i).getD i 0 = r / B ^ i % B := by
  have hl := digs_length i (r / 2 ^ s)
  rw [backRow, List.getD_eq_getElem?_getD, List.getElem?_append_right (by omega), hl, Nat.sub_self, List.getElem?_drop, Nat.add_zero, ← List.getD_eq_getElem?_getD, digs_getD h]
theorem backRow_next {N s r i kk : Nat} (hk : kk ≤ N) (hr : r < B ^ kk) : ((backRow N s r i).take kk).getD (i + 1) 0 = r / B ^ (i + 1) % B := by
  have hl := digs_length i (r / 2 ^ s)
  rw [List.getD_eq_getElem?_getD, List.getElem?_take]
  split
  · rename_i h
    rw [backRow, List.getElem?_append_right (by omega), hl, List.getElem?_drop, show i + (i + 1 - i) = i + 1 by omega, ← List.getD_eq_getElem?_getD, digs_getD (by omega)]
  · rename_i h
    have : r < B ^ (i + 1) := Nat.lt_of_lt_of_le hr (Nat.pow_le_pow_right (by decide) (by omega))
    rw [Nat.div_eq_of_lt this]; rfl
theorem backRow_set {N s r i : Nat} (h : i < N) : (backRow N s r i).set i (r / 2 ^ s / B ^ i % B) = backRow N s r (i + 1) := by
  have hl := digs_length i (r / 2 ^ s)
  have hl2 := digs_length N r
  rw [backRow, List.set_append_right _ _ (by omega), hl, Nat.sub_self, List.drop_eq_getElem_cons (by omega), List.set_cons_zero, backRow, digs_succ, List.append_assoc]
  rfl
theorem dig_backRow {N s r i : Nat} : Dig (backRow N s r i) := (dig_digs _ _).append ((dig_digs _ _).drop _)
theorem backRow_take {N s r i : Nat} : (backRow N s r i).take i = digs i (r / 2 ^ s) := by
  rw [backRow, List.take_left' (digs_length _ _)]
theorem unscale {a b p q r : Nat} (hp : 0 < p) (h : a * p = q * (b * p) + r) (hr : r < b * p) : a / b = q ∧ a % b = r / p ∧ r / p ≤ r := by
  have h1 : r % p = 0 := by
    have := congrArg (· % p) h
    simp only [Nat.mul_mod_left] at this
    rw [← Nat.mul_assoc, Nat.mul_add_mod_self_right] at this
    exact this.symm
  obtain ⟨c, rfl⟩ := Nat.dvd_of_mod_eq_zero h1
  rw [Nat.mul_comm p c] at h hr
  have hc : c < b := Nat.lt_of_mul_lt_mul_right hr
  have ha : a = q * b + c := by
    rw [← Nat.mul_assoc, ← Nat.add_mul] at h
    exact Nat.eq_of_mul_eq_mul_right hp h
  rw [Nat.mul_div_cancel_left _ hp]
  refine ⟨?_, ?_, Nat.le_mul_of_pos_left _ hp⟩
  · rw [ha, Nat.mul_comm q, Nat.mul_add_div (by omega), Nat.div_eq_of_lt hc, Nat.add_zero]
  · rw [ha, Nat.mul_comm q, Nat.mul_add_mod_self_left, Nat.mod_eq_of_lt hc]
theorem ov_start {l : List Nat} {k z s V : Nat} (hl : Dig l) (hz : l.length = k + 2 + z) (hs : s < 32) (n3 : 2147483648 ≤ (digs (k + 2) V).getD (k + 1) 0) : val l * 2 ^ s / B ^ (z + 1) < V := by
  have hB : ∀ i, 0 < B ^ i := fun i => Nat.pow_pos (by decide)
  rw [digs_getD (by omega)] at n3
  have h1 : 2147483648 ≤ V / B ^ (k + 1) := Nat.le_trans n3 (Nat.mod_le _ _)
  have h2 : 2147483648 * B ^ (k + 1) ≤ V := (Nat.le_div_iff_mul_le (hB _)).1 h1
  have h3 := val_lt hl
  rw [hz] at h3
  have h4 : 2 ^ s ≤ 2147483648 := Nat.pow_le_pow_right (by decide) (show s ≤ 31 by omega)
  rw [Nat.div_lt_iff_lt_mul (hB _)]
  have h5 : val l * 2 ^ s < B ^ (k + 2 + z) * 2 ^ s := Nat.mul_lt_mul_of_pos_right h3 (Nat.two_pow_pos s)
  have h6 : B ^ (k + 2 + z) * 2 ^ s ≤ B ^ (k + 2 + z) * 2147483648 := Nat.mul_le_mul_left _ h4
  have h7 : B ^ (k + 2 + z) * 2147483648 = 2147483648 * B ^ (k + 1) * B ^ (z + 1) := by rw [Nat.mul_comm, Nat.mul_assoc, ← Nat.pow_add]; congr 2; omega
  have h8 : 2147483648 * B ^ (k + 1) * B ^ (z + 1) ≤ V * B ^ (z + 1) := Nat.mul_le_mul_right _ h2
  omega
end Go.Proofs.YtjecgoddmkaboaaGreatDoor.Num

namespace Go.Proofs.YtjecgoddmkaboaaGreatDoor.Num
open Go Go.Proofs Go.Abs
variable {G : Globals}
def M1 : Muts := fun f => f == 81 || f == 59
theorem M1_a : M1 77 = false := rfl
theorem M1_b : M1 34 = false := rfl
theorem M1_c : M1 78 = false := rfl
theorem M1_d : M1 79 = false := rfl
theorem M1_e : M1 80 = false := rfl
theorem M1_f : M1 61 = false := rfl
theorem M1_g : M1 81 = true := rfl
theorem M1_h : M1 59 = true := rfl
set_option maxHeartbeats 4000000 in
set_option maxRecDepth 100000 in
theorem over_spec (a b : Nat) (hb : b ≠ 0) (ha : (toW a).length < 2 ^ 38) (hb' : (toW b).length < 2 ^ 38) :
    Ctr Tryz.prog G 63 [.d (W (toW a)), .d (W (toW b))] [] (.d (.tup [W (toW (a / b)), W (toW (a % b))])) [] := by
  have da := dig_toW a
  have db := dig_toW b
  have va := val_toW a
  have vb := val_toW b
  have tb := toW_last hb
  have hcmp : cmpI (a : Int) b < 0 ↔ a < b := by
    unfold cmpI; split
    · omega
    · split <;> omega
  refine Ctr.pure (M := M1) hmix Tryz.func63 rfl go63 ?_
  simp (config := { maxSteps := 1000000 }) (disch := ((try simp only [awL]); omega)) only [Tryz.f63, M1_a, M1_b, M1_c, M1_d, M1_e, M1_f, M1_g, M1_h, ↓awU, awV, awF, Qa, Qb, Qc, Qd, forall_const, ↓reduceIte, ↓reduceDIte, ↓Qe, Qf, Qg, Qh, Qi, Qj, Qk, Ql, Qm, Qn, Qo, Qp, Qq, Qr, Qs, implies_true, Qt, Qu, Qv, Qw, Qx, Qy, Qz, QA, QB, QC, QD, QE, QF, QG, QH, QI, QJ, QK, QL, QM, QN, QO, QP, QQ]
  refine CallC.pure (compare_spec a b (by omega) (by omega)) ?_
  simp (config := { maxSteps := 1000000 }) (disch := ((try simp only [awL]); omega)) only [M1_a, M1_b, M1_c, M1_d, M1_e, M1_f, M1_g, M1_h, hcmp, ↓awU, awV, awF, Qa, Qb, Qc, Qd, forall_const, ↓reduceIte, ↓reduceDIte, ↓Qe, Qf, Qg, Qh, Qi, Qj, Qk, Ql, Qm, Qn, Qo, Qp, Qq, Qr, Qs, implies_true, Qt, Qu, Qv, Qw, Qx, Qy, Qz, QA, QB, QC, QD, QE, QF, QG, QH, QI, QJ, QK, QL, QM, QN, QO, QP, QQ]
  refine ⟨fun h => ?_, fun h => ⟨fun h1 => ?_, fun h1 => ?_⟩⟩
  · rw [Nat.div_eq_of_lt h, Nat.mod_eq_of_lt h, toW_zero]
    refine CallC.pure (clone_spec (toW a) (by omega)) ?_
    simp (config := { maxSteps := 1000000 }) (disch := ((try simp only [awL]); omega)) only [↓awU, awV, awF, Qa, Qb, Qc, Qd, forall_const, ↓reduceIte, ↓reduceDIte, ↓Qe, Qf, Qg, Qh, Qi, Qj, Qk, Ql, Qm, Qn, Qo, Qp, Qq, Qr, Qs, implies_true, Qt, Qu, Qv, Qw, Qx, Qy, Qz, QA, QB, QC, QD, QE, QF, QG, QH, QI, QJ, QK, QL, QM, QN, QO, QP, QQ]
    rfl
  · have h1 : (toW b).length = 1 := by omega
    have hb1 : (toW b).getD 0 0 = b := by
      have := take_val (toW b) 0
      rw [List.take_of_length_le (by omega), vb] at this
      simpa [val] using this.symm
    have hbB : b < B := by rw [← hb1]; exact db.getD 0
    rw [hb1]
    refine CallC.pure (short_spec a b (by omega) hbB (by omega)) ?_
    simp (config := { maxSteps := 1000000 }) (disch := ((try simp only [awL]); omega)) only [M1_a, M1_b, M1_c, M1_d, M1_e, M1_f, M1_g, M1_h, ↓awU, awV, awF, Qa, Qb, Qc, Qd, forall_const, ↓reduceIte, ↓reduceDIte, ↓Qe, Qf, Qg, Qh, Qi, Qj, Qk, Ql, Qm, Qn, Qo, Qp, Qq, Qr, Qs, implies_true, Qt, Qu, Qv, Qw, Qx, Qy, Qz, QA, QB, QC, QD, QE, QF, QG, QH, QI, QJ, QK, QL, QM, QN, QO, QP, QQ]
    have dr : Dig [a % b] := by intro x hx; simp at hx; subst hx; exact Nat.lt_trans (Nat.mod_lt _ (by omega)) hbB
    refine CallC.by (trimmed_ref [a % b] 1 dr (by simp) (by simp)) rfl rfl (Nat.le_refl _) ?_
    simp (config := { maxSteps := 1000000 }) (disch := ((try simp only [awL]); omega)) only [M1_a, M1_b, M1_c, M1_d, M1_e, M1_f, M1_g, M1_h, ↓awU, awV, awF, Qa, Qb, Qc, Qd, forall_const, ↓reduceIte, ↓reduceDIte, ↓Qe, Qf, Qg, Qh, Qi, Qj, Qk, Ql, Qm, Qn, Qo, Qp, Qq, Qr, Qs, implies_true, Qt, Qu, Qv, Qw, Qx, Qy, Qz, QA, QB, QC, QD, QE, QF, QG, QH, QI, QJ, QK, QL, QM, QN, QO, QP, QQ]
    have vr : val [a % b] = a % b := by simp [val]
    have tr := take_trim dr
    rw [vr] at tr
    rw [vr, tr]
  · generalize hl : toW a = l at *
    generalize hm : toW b = m at *
    obtain ⟨k, hk⟩ : ∃ k, m.length = k + 2 := ⟨m.length - 2, by
      have : m.length ≠ 0 := by
        intro h0
        have := List.length_eq_zero_iff.1 h0
        subst this
        exact hb vb.symm
      omega⟩
    rw [hk, show k + 2 - 1 = k + 1 from rfl] at tb
    have mB := db.getD (k + 1)
    obtain ⟨z, hz⟩ : ∃ z, l.length = k + 2 + z := ⟨l.length - (k + 2), by
      have h2 : ¬ l.length < m.length := by
        intro h3; rw [← hl, ← hm] at h3
        exact h (toW_len_lt h3)
      omega⟩
    have e1 : (l.length : Int) - ((k + 2 : Nat) : Int) + 1 = ((z + 1 : Nat) : Int) := by omega
    simp (config := { maxSteps := 1000000 }) (disch := ((try simp only [awL]); omega)) only [M1_a, M1_b, M1_c, M1_d, M1_e, M1_f, M1_g, M1_h, hk, ↓awU, awV, awF, Qa, Qb, Qc, Qd, forall_const, ↓reduceIte, ↓reduceDIte, ↓Qe, Qf, Qg, Qh, Qi, Qj, Qk, Ql, Qm, Qn, Qo, Qp, Qq, Qr, Qs, implies_true, Qt, Qu, Qv, Qw, Qx, Qy, Qz, QA, QB, QC, QD, QE, QF, QG, QH, QI, QJ, QK, QL, QM, QN, QO, QP, QQ]
    refine CallC.pure (lz32 _ tb mB) ?_
    obtain ⟨n1, n2, n3⟩ := norm_facts db hk tb rfl
    generalize hs : 31 - (m.getD (k + 1) 0).log2 = s at *
    simp (config := { maxSteps := 1000000 }) (disch := ((try simp only [awL]); omega)) only [M1_a, M1_b, M1_c, M1_d, M1_e, M1_f, M1_g, M1_h, hk, ↓awU, awV, awF, Qa, Qb, Qc, Qd, forall_const, ↓reduceIte, ↓reduceDIte, ↓Qe, Qf, Qg, Qh, Qi, Qj, Qk, Ql, Qm, Qn, Qo, Qp, Qq, Qr, Qs, implies_true, Qt, Qu, Qv, Qw, Qx, Qy, Qz, QA, QB, QC, QD, QE, QF, QG, QH, QI, QJ, QK, QL, QM, QN, QO, QP, QQ]
    refine CallC.by (shifted_spec l s da n1 (by omega)) rfl rfl (by simp) ?_
    simp (config := { maxSteps := 1000000 }) (disch := ((try simp only [awL]); omega)) only [M1_a, M1_b, M1_c, M1_d, M1_e, M1_f, M1_g, M1_h, hk, ↓awU, awV, awF, Qa, Qb, Qc, Qd, forall_const, ↓reduceIte, ↓reduceDIte, ↓Qe, Qf, Qg, Qh, Qi, Qj, Qk, Ql, Qm, Qn, Qo, Qp, Qq, Qr, Qs, implies_true, Qt, Qu, Qv, Qw, Qx, Qy, Qz, QA, QB, QC, QD, QE, QF, QG, QH, QI, QJ, QK, QL, QM, QN, QO, QP, QQ]
    refine CallC.by (shifted_spec m s db n1 (by omega)) (by rw [W, hk]) rfl (by simp) ?_
    simp (config := { maxSteps := 1000000 }) (disch := ((try simp only [awL]); omega)) only [e1, M1_a, M1_b, M1_c, M1_d, M1_e, M1_f, M1_g, M1_h, hk, ↓awU, awV, awF, Qa, Qb, Qc, Qd, forall_const, ↓reduceIte, ↓reduceDIte, ↓Qe, Qf, Qg, Qh, Qi, Qj, Qk, Ql, Qm, Qn, Qo, Qp, Qq, Qr, Qs, implies_true, Qt, Qu, Qv, Qw, Qx, Qy, Qz, QA, QB, QC, QD, QE, QF, QG, QH, QI, QJ, QK, QL, QM, QN, QO, QP, QQ]
    refine ⟨by rfl, ?_⟩
    have hVz : val m * 2 ^ s < B ^ (k + 2 + 1) := Nat.lt_of_lt_of_le n2 (Nat.pow_le_pow_right (by decide) (by omega))
    generalize hU : val l * 2 ^ s = U at *
    generalize hV : val m * 2 ^ s = V at *
    refine LoopC.fx 7936 (α := Nat × Nat × List Nat) (β := Nat × List Nat) (fun x => x.1) (fun x => [(13, .d (.int .i64 ((x.1 : Int) - 1)))])
      (fun x => [.row false (nats .u32 (digs x.1 U ++ digs (l.length + 1 - x.1) x.2.1)), .row false (nats .u32 (digs (k + 2 + 1) V)), .row false (nats .u32 (List.replicate x.1 0 ++ x.2.2))])
      (fun x => x.1 ≤ z + 1 ∧ x.2.2.length + x.1 = z + 1 ∧ Dig x.2.2 ∧ x.2.1 < V ∧ U / B ^ x.1 = val x.2.2 * V + x.2.1)
      5888 (fun _ => []) (fun x => [.row false (nats .u32 (digs (l.length + 1) x.1)), .row false (nats .u32 (digs (k + 2 + 1) V)), .row false (nats .u32 x.2)])
      (fun x => x.2.length = z + 1 ∧ Dig x.2 ∧ x.1 < V ∧ U = val x.2 * V + x.1) (z + 1, U / B ^ (z + 1), []) ⟨Nat.le_refl _, by simp, (fun x hx => by cases hx), ?_, by simp [val]⟩ ?_ ?_ ?_
    · rw [← hU]; exact ov_start da hz n1 n3
    · refine ⟨[some 0, some 1, some 2], rfl, by simp, by simp [setsA, keepA, SWeak, AWeak], ?_⟩
      have : digs (l.length + 1) U = digs (z + 1) U ++ digs (l.length + 1 - (z + 1)) (U / B ^ (z + 1)) := by rw [← digs_split]; congr 1; omega
      simp [HWeak, BWeak, this, List.replicate_succ]
    · rintro ⟨i, r, qd⟩ ⟨hi, hq, hdq, hr, hv⟩
      simp only at hi hq hdq hr hv
      simp only [awK, Nat.reduceMod, Nat.reduceDiv, reduceIte]
      rcases i with _ | j
      · simp (config := { maxSteps := 1000000 }) (disch := ((try simp only [awL]); omega)) only [M1_a, M1_b, M1_c, M1_d, M1_e, M1_f, M1_g, M1_h, hk, ↓awU, awV, awF, Qa, Qb, Qc, Qd, forall_const, ↓reduceIte, ↓reduceDIte, ↓Qe, Qf, Qg, Qh, Qi, Qj, Qk, Ql, Qm, Qn, Qo, Qp, Qq, Qr, Qs, implies_true, Qt, Qu, Qv, Qw, Qx, Qy, Qz, QA, QB, QC, QD, QE, QF, QG, QH, QI, QJ, QK, QL, QM, QN, QO, QP, QQ]
        rw [Nat.pow_zero, Nat.div_one] at hv
        exact ⟨(r, qd), ⟨by simpa using hq, hdq, hr, hv⟩, [some 0, some 1, some 2], rfl, by simp, by simp [SWeak, AWeak], by simp [HWeak, BWeak, digs]⟩
      · have e2 : j + (k + 2) + 1 - j = k + 3 := by omega
        simp (config := { maxSteps := 1000000 }) (disch := ((try simp only [awL]); omega)) only [M1_a, M1_b, M1_c, M1_d, M1_e, M1_f, M1_g, M1_h, hk, e2, ↓awU, awV, awF, Qa, Qb, Qc, Qd, forall_const, ↓reduceIte, ↓reduceDIte, ↓Qe, Qf, Qg, Qh, Qi, Qj, Qk, Ql, Qm, Qn, Qo, Qp, Qq, Qr, Qs, implies_true, Qt, Qu, Qv, Qw, Qx, Qy, Qz, QA, QB, QC, QD, QE, QF, QG, QH, QI, QJ, QK, QL, QM, QN, QO, QP, QQ]
        obtain ⟨hw, hq2⟩ := ov_step hv hr
        have hrB : r < B ^ (k + 2) := Nat.lt_trans hr n2
        have eu : digs (j + 1) U ++ digs (l.length + 1 - (j + 1)) r = digs j U ++ ((U / B ^ j % B :: digs (k + 2) r) ++ List.replicate (z - j) 0) := by
          rw [digs_succ, List.append_assoc, show l.length + 1 - (j + 1) = (k + 2) + (z - j) by omega, digs_zeros hrB]; rfl
        have ed : digs (k + 2 + 1) V = digs (k + 2) V ++ [0] := digs_zeros (z := 1) n2
        have du : Dig (U / B ^ j % B :: digs (k + 2) r) := fun x hx => by
          rcases List.mem_cons.1 hx with rfl | hx
          · exact Nat.mod_lt _ (by decide)
          · exact dig_digs _ _ x hx
        have vu : val (U / B ^ j % B :: digs (k + 2) r) = U / B ^ j % B + B * r := by rw [val, val_digs hrB]
        have vd : val (digs (k + 2) V) = V := val_digs n2
        have hds := digit_spec (G := G) (digs j U) (U / B ^ j % B :: digs (k + 2) r) (List.replicate (z - j) 0) (digs (k + 2) V) [0] k (digs_length _ _) (by simp [digs_length]) (dig_digs _ _) du (by rw [vu, vd]; exact hw) n3 (by simp [digs_length]; omega)
        rw [digs_length, vu, vd] at hds
        refine CallC.by hds rfl (by rw [eu, ed]) (Nat.le_refl _) ?_
        have hr' : (U / B ^ j % B + B * r) % V < V := Nat.mod_lt _ (by omega)
        have hqB : (U / B ^ j % B + B * r) / V < B := (Nat.div_lt_iff_lt_mul (by omega)).2 (by have := hw; rw [Nat.mul_comm V] at this; exact this)
        generalize hgq : (U / B ^ j % B + B * r) / V = q1 at *
        generalize hgr : (U / B ^ j % B + B * r) % V = r1 at *
        have er : digs (l.length + 1 - j) r1 = digs (k + 3) r1 ++ List.replicate (z - j) 0 := by
          rw [show l.length + 1 - j = (k + 3) + (z - j) by omega, digs_zeros]
          exact Nat.lt_of_lt_of_le (Nat.lt_trans hr' n2) (Nat.pow_le_pow_right (by decide) (by omega))
        simp (config := { maxSteps := 1000000 }) (disch := ((try simp only [awL]); omega)) only [M1_a, M1_b, M1_c, M1_d, M1_e, M1_f, M1_g, M1_h, hk, e2, ↓awU, awV, awF, Qa, Qb, Qc, Qd, forall_const, ↓reduceIte, ↓reduceDIte, ↓Qe, Qf, Qg, Qh, Qi, Qj, Qk, Ql, Qm, Qn, Qo, Qp, Qq, Qr, Qs, implies_true, Qt, Qu, Qv, Qw, Qx, Qy, Qz, QA, QB, QC, QD, QE, QF, QG, QH, QI, QJ, QK, QL, QM, QN, QO, QP, QQ]
        refine ⟨(j, r1, q1 :: qd), ⟨by simp only; omega, by simp; omega, ?_, hr', by rw [val]; rw [Nat.add_comm q1]; exact hq2⟩, by simp, [some 0, some 1, some 2], rfl, by simp, by simp [SWeak, AWeak], ?_⟩
        · intro x hx
          rcases List.mem_cons.1 hx with rfl | hx
          · exact hqB
          · exact hdq x hx
        · simp [HWeak, BWeak, er, ed, set_rep]
    · rintro ⟨r, qd⟩ ⟨hq, hdq, hr, hv⟩
      simp only at hq hdq hr hv
      simp only [awK, Nat.reduceMod, Nat.reduceDiv, reduceIte]
      simp (config := { maxSteps := 1000000 }) (disch := ((try simp only [awL]); omega)) only [M1_a, M1_b, M1_c, M1_d, M1_e, M1_f, M1_g, M1_h, hk, ↓awU, awV, awF, Qa, Qb, Qc, Qd, forall_const, ↓reduceIte, ↓reduceDIte, ↓Qe, Qf, Qg, Qh, Qi, Qj, Qk, Ql, Qm, Qn, Qo, Qp, Qq, Qr, Qs, implies_true, Qt, Qu, Qv, Qw, Qx, Qy, Qz, QA, QB, QC, QD, QE, QF, QG, QH, QI, QJ, QK, QL, QM, QN, QO, QP, QQ]
      have hrB : r < B ^ (k + 2) := Nat.lt_trans hr n2
      have vt : val ((digs (l.length + 1) r).take (k + 2)) = r := by rw [digs_take (by omega), val_digs hrB]
      have ht := trimmed_ref (G := G) (digs (l.length + 1) r) (k + 2) (dig_digs _ _) (by rw [digs_length]; omega) (by rw [digs_length]; omega)
      rw [vt] at ht
      refine CallC.by ht rfl rfl (Nat.le_refl _) ?_
      have hkk : (toW r).length ≤ k + 2 := toW_length_le hrB
      have hrk := lt_of_toW r
      generalize (toW r).length = kk at *
      simp (config := { maxSteps := 1000000 }) (disch := ((try simp only [awL]); omega)) only [M1_a, M1_b, M1_c, M1_d, M1_e, M1_f, M1_g, M1_h, hk, ↓awU, awV, awF, Qa, Qb, Qc, Qd, forall_const, ↓reduceIte, ↓reduceDIte, ↓Qe, Qf, Qg, Qh, Qi, Qj, Qk, Ql, Qm, Qn, Qo, Qp, Qq, Qr, Qs, implies_true, Qt, Qu, Qv, Qw, Qx, Qy, Qz, QA, QB, QC, QD, QE, QF, QG, QH, QI, QJ, QK, QL, QM, QN, QO, QP, QQ]
      have hm2 : (2 : Int) ^ s = ((2 ^ s : Nat) : Int) := by simp
      have hmin : min s 64 = s := by omega
      refine LoopC.fx 77371252455336267181216256 (α := Nat) (β := Unit) (fun i => kk - i) (fun i => [(87, .d (.int .i64 i))])
        (fun i => [.row false (nats .u32 (backRow (l.length + 1) s r i)), .row false (nats .u32 (digs (k + 2 + 1) V)), .row false (nats .u32 qd)]) (fun i => i ≤ kk)
        20480 (fun _ => []) (fun _ => [.row false (nats .u32 (backRow (l.length + 1) s r kk)), .row false (nats .u32 (digs (k + 2 + 1) V)), .row false (nats .u32 qd)]) (fun _ => True) 0 (Nat.zero_le _) ?_ ?_ ?_
      · exact ⟨[some 0, some 1, some 2], rfl, by simp, by simp [setsA, keepA, SWeak, AWeak], by simp [HWeak, BWeak, backRow_zero]⟩
      · intro i hi
        simp only [awK, Nat.reduceMod, Nat.reduceDiv, reduceIte]
        have b1 := backRow_length (s := s) (r := r) (show i ≤ l.length + 1 by omega)
        simp (config := { maxSteps := 1000000 }) (disch := ((try simp only [awL]); omega)) only [M1_a, M1_b, M1_c, M1_d, M1_e, M1_f, M1_g, M1_h, hk, b1, ↓awU, awV, awF, Qa, Qb, Qc, Qd, forall_const, ↓reduceIte, ↓reduceDIte, ↓Qe, Qf, Qg, Qh, Qi, Qj, Qk, Ql, Qm, Qn, Qo, Qp, Qq, Qr, Qs, implies_true, Qt, Qu, Qv, Qw, Qx, Qy, Qz, QA, QB, QC, QD, QE, QF, QG, QH, QI, QJ, QK, QL, QM, QN, QO, QP, QQ]
        refine ⟨fun h5 => ?_, fun h5 => ?_⟩
        · refine CallC.frozenE (at_spec ((backRow (l.length + 1) s r i).take kk) (i + 1)) (by simp [W, b1]; omega) ?_
          rw [backRow_next (by omega) hrk]
          have b3 := backRow_getD (N := l.length + 1) (s := s) (r := r) (i := i) (by omega)
          have hun := unshift (r := r) (i := i) n1
          have bs := backRow_set (N := l.length + 1) (s := s) (r := r) (i := i) (by omega)
          have g1 : r / B ^ (i + 1) % B < 4294967296 := Nat.mod_lt _ (by decide)
          have g2 : r / B ^ i % B < 4294967296 := Nat.mod_lt _ (by decide)
          generalize r / B ^ (i + 1) % B = hi' at *
          generalize r / B ^ i % B = lo at *
          simp (config := { maxSteps := 1000000 }) (disch := ((try simp only [awL]); omega)) only [M1_a, M1_b, M1_c, M1_d, M1_e, M1_f, M1_g, M1_h, hk, b1, b3, or64, hmin, hm2, fdiv_nat, w_u32, ↓awU, awV, awF, Qa, Qb, Qc, Qd, forall_const, ↓reduceIte, ↓reduceDIte, ↓Qe, Qf, Qg, Qh, Qi, Qj, Qk, Ql, Qm, Qn, Qo, Qp, Qq, Qr, Qs, implies_true, Qt, Qu, Qv, Qw, Qx, Qy, Qz, QA, QB, QC, QD, QE, QF, QG, QH, QI, QJ, QK, QL, QM, QN, QO, QP, QQ]
          have hun' : (hi' * 4294967296 + lo) / 2 ^ s % 4294967296 = r / 2 ^ s / B ^ i % B := hun
          rw [hun', bs]
          exact ⟨i + 1, by omega, by simp only; omega, [some 0, some 1, some 2], rfl, by simp, by simp [SWeak, AWeak], by simp [HWeak, BWeak]⟩
        · have : i = kk := by omega
          subst this
          exact ⟨(), trivial, [some 0, some 1, some 2], rfl, by simp, by simp [SWeak, AWeak], by simp [HWeak, BWeak]⟩
      · rintro ⟨⟩ -
        simp only [awK, Nat.reduceMod, Nat.reduceDiv, reduceIte]
        simp (config := { maxSteps := 1000000 }) (disch := ((try simp only [awL]); omega)) only [M1_a, M1_b, M1_c, M1_d, M1_e, M1_f, M1_g, M1_h, hk, ↓awU, awV, awF, Qa, Qb, Qc, Qd, forall_const, ↓reduceIte, ↓reduceDIte, ↓Qe, Qf, Qg, Qh, Qi, Qj, Qk, Ql, Qm, Qn, Qo, Qp, Qq, Qr, Qs, implies_true, Qt, Qu, Qv, Qw, Qx, Qy, Qz, QA, QB, QC, QD, QE, QF, QG, QH, QI, QJ, QK, QL, QM, QN, QO, QP, QQ]
        have hq1 := trimmed_ref (G := G) qd (z + 1) hdq (by omega) (by omega)
        rw [List.take_of_length_le (by omega)] at hq1
        refine CallC.by hq1 rfl rfl (Nat.le_refl _) ?_
        simp (config := { maxSteps := 1000000 }) (disch := ((try simp only [awL]); omega)) only [M1_a, M1_b, M1_c, M1_d, M1_e, M1_f, M1_g, M1_h, hk, ↓awU, awV, awF, Qa, Qb, Qc, Qd, forall_const, ↓reduceIte, ↓reduceDIte, ↓Qe, Qf, Qg, Qh, Qi, Qj, Qk, Ql, Qm, Qn, Qo, Qp, Qq, Qr, Qs, implies_true, Qt, Qu, Qv, Qw, Qx, Qy, Qz, QA, QB, QC, QD, QE, QF, QG, QH, QI, QJ, QK, QL, QM, QN, QO, QP, QQ]
        have hus := unscale (a := a) (b := b) (Nat.two_pow_pos s) (by rw [← va, ← vb, hU, hV]; exact hv) (by rw [← vb, hV]; exact hr)
        have vt2 : val ((backRow (l.length + 1) s r kk).take kk) = r / 2 ^ s := by rw [backRow_take, val_digs (Nat.lt_of_le_of_lt hus.2.2 hrk)]
        have hr1 := trimmed_ref (G := G) (backRow (l.length + 1) s r kk) kk dig_backRow (by rw [backRow_length (by omega)]; omega) (by rw [backRow_length (by omega)]; omega)
        have htr := take_trim (dig_digs kk (r / 2 ^ s))
        have htl := trim_len (dig_digs kk (r / 2 ^ s))
        rw [val_digs (Nat.lt_of_le_of_lt hus.2.2 hrk)] at htr htl
        rw [digs_length] at htl
        rw [vt2] at hr1
        refine CallC.by hr1 rfl rfl (Nat.le_refl _) ?_
        have htq := take_trim hdq
        have b1 := backRow_length (s := s) (r := r) (show kk ≤ l.length + 1 by omega)
        have hlq := trim_len hdq
        simp (config := { maxSteps := 1000000 }) (disch := ((try simp only [awL]); omega)) only [M1_a, M1_b, M1_c, M1_d, M1_e, M1_f, M1_g, M1_h, hk, b1, ↓awU, awV, awF, Qa, Qb, Qc, Qd, forall_const, ↓reduceIte, ↓reduceDIte, ↓Qe, Qf, Qg, Qh, Qi, Qj, Qk, Ql, Qm, Qn, Qo, Qp, Qq, Qr, Qs, implies_true, Qt, Qu, Qv, Qw, Qx, Qy, Qz, QA, QB, QC, QD, QE, QF, QG, QH, QI, QJ, QK, QL, QM, QN, QO, QP, QQ]
        have e5 : (backRow (l.length + 1) s r kk).take (toW (r / 2 ^ s)).length = toW (r / 2 ^ s) := by
          have := congrArg (List.take (toW (r / 2 ^ s)).length) (backRow_take (N := l.length + 1) (s := s) (r := r) (i := kk))
          rw [List.take_take, Nat.min_eq_left htl, htr] at this
          exact this
        rw [e5, htq, hus.1, hus.2.1]
end Go.Proofs.YtjecgoddmkaboaaGreatDoor.Num

namespace Go.Proofs.YtjecgoddmkaboaaGreatDoor.Num
open Go Go.Proofs Go.Abs
variable {G : Globals}
theorem toW_len_mono {a b : Nat} (h : a ≤ b) : (toW a).length ≤ (toW b).length := by
  by_cases h2 : (toW b).length < (toW a).length
  · have := toW_len_lt h2; omega
  · omega
theorem common_spec (a b : Nat) (ha : (toW a).length < 2 ^ 38) (hb : (toW b).length < 2 ^ 38) :
    Ctr Tryz.prog G 62 [.d (W (toW a)), .d (W (toW b))] [] (.d (W (toW (Nat.gcd a b)))) [] := by
  refine Ctr.pure (M := M0) hmix Tryz.func62 rfl go62 ?_
  simp (config := { maxSteps := 1000000 }) (disch := ((try simp only [awL]); omega)) only [Tryz.f62, ↓awU, awV, awF, Qa, Qb, Qc, Qd, forall_const, ↓reduceIte, ↓reduceDIte, ↓Qe, Qf, Qg, Qh, Qi, Qj, Qk, Ql, Qm, Qn, Qo, Qp, Qq, Qr, Qs, implies_true, Qt, Qu, Qv, Qw, Qx, Qy, Qz, QA, QB, QC, QD, QE, QF, QG, QH, QI, QJ, QK, QL, QM, QN, QO, QP, QQ]
  refine LoopC.fr 0 (α := Nat × Nat) (fun x => x.2) (fun x => [(0, .d (W (toW x.1))), (1, .d (W (toW x.2)))]) (fun _ => []) (fun x => Nat.gcd x.1 x.2 = Nat.gcd a b ∧ (toW x.1).length < 2 ^ 38 ∧ (toW x.2).length < 2 ^ 38) (a, b) ⟨rfl, ha, hb⟩ ?_ ?_
  · exact ⟨[], rfl, by simp, by simp [setsA, keepA, SWeak, AWeak], by simp [HWeak, BWeak, SWeak, AWeak]⟩
  · rintro ⟨x, y⟩ ⟨hg, hx, hy⟩
    simp only at hg hx hy
    simp only [awK, Nat.reduceMod, Nat.reduceDiv, reduceIte]
    by_cases h0 : y = 0
    · subst h0
      rw [Nat.gcd_zero_right] at hg
      subst hg
      have e : toW 0 = [] := toW_zero
      rw [e]
      simp (config := { maxSteps := 1000000 }) (disch := ((try simp only [awL]); omega)) only [↓awU, awV, awF, Qa, Qb, Qc, Qd, forall_const, ↓reduceIte, ↓reduceDIte, ↓Qe, Qf, Qg, Qh, Qi, Qj, Qk, Ql, Qm, Qn, Qo, Qp, Qq, Qr, Qs, implies_true, Qt, Qu, Qv, Qw, Qx, Qy, Qz, QA, QB, QC, QD, QE, QF, QG, QH, QI, QJ, QK, QL, QM, QN, QO, QP, QQ]
    · have hp : 0 < (toW y).length := by
        rcases Nat.eq_zero_or_pos (toW y).length with h | h
        · exact absurd (toW_nil.1 (List.length_eq_zero_iff.1 h)) h0
        · exact h
      simp (config := { maxSteps := 1000000 }) (disch := ((try simp only [awL]); omega)) only [↓awU, awV, awF, Qa, Qb, Qc, Qd, forall_const, ↓reduceIte, ↓reduceDIte, ↓Qe, Qf, Qg, Qh, Qi, Qj, Qk, Ql, Qm, Qn, Qo, Qp, Qq, Qr, Qs, implies_true, Qt, Qu, Qv, Qw, Qx, Qy, Qz, QA, QB, QC, QD, QE, QF, QG, QH, QI, QJ, QK, QL, QM, QN, QO, QP, QQ]
      refine CallC.pure (over_spec x y h0 hx hy) ?_
      simp (config := { maxSteps := 1000000 }) (disch := ((try simp only [awL]); omega)) only [↓awU, awV, awF, Qa, Qb, Qc, Qd, forall_const, ↓reduceIte, ↓reduceDIte, ↓Qe, Qf, Qg, Qh, Qi, Qj, Qk, Ql, Qm, Qn, Qo, Qp, Qq, Qr, Qs, implies_true, Qt, Qu, Qv, Qw, Qx, Qy, Qz, QA, QB, QC, QD, QE, QF, QG, QH, QI, QJ, QK, QL, QM, QN, QO, QP, QQ]
      have hlt := Nat.mod_lt x (Nat.pos_of_ne_zero h0)
      refine ⟨(y, x % y), ⟨by rw [← hg, Nat.gcd_comm x y]; rw [Nat.gcd_comm y (x % y)]; exact (Nat.gcd_rec y x).symm, hy, ?_⟩, hlt, ⟨[], rfl, by simp, by simp [setsA, keepA, SWeak, AWeak], by simp [HWeak, BWeak, SWeak, AWeak]⟩⟩
      have := toW_len_mono (Nat.le_of_lt hlt)
      simp only; omega
/-- A big integer. -/
abbrev bigL (n : Int) : List D := [.bool (decide (n < 0)), W (toW n.natAbs)]
abbrev Big (n : Int) : D := .agg (bigL n)
/-- A fraction. -/
abbrev Frac (x : Rat) : D := .agg [.bool (decide (x.num < 0)), W (toW x.num.natAbs), .bool false, W (toW x.den)]
abbrev sz (n : Int) : Nat := (toW n.natAbs).length
theorem sz_pos {n : Nat} : 0 < (toW n).length ↔ n ≠ 0 := by
  rw [Nat.pos_iff_ne_zero, ne_eq, List.length_eq_zero_iff, toW_nil]
theorem signed_spec (neg : Bool) (n : Nat) (hn : (toW n).length < 2 ^ 38) : Ctr Tryz.prog G 39 [.d (.bool neg), .d (W (toW n))] [] (.d (Big (if neg then -(n : Int) else n))) [] := by
  refine Ctr.pure (M := M0) hmix Tryz.func39 rfl go39 ?_
  cases neg
  · simp (config := { maxSteps := 1000000 }) (disch := ((try simp only [awL]); omega)) only [Tryz.f39, ↓awU, awV, awF, Qa, Qb, Qc, Qd, forall_const, ↓reduceIte, ↓reduceDIte, ↓Qe, Qf, Qg, Qh, Qi, Qj, Qk, Ql, Qm, Qn, Qo, Qp, Qq, Qr, Qs, implies_true, Qt, Qu, Qv, Qw, Qx, Qy, Qz, QA, QB, QC, QD, QE, QF, QG, QH, QI, QJ, QK, QL, QM, QN, QO, QP, QQ]
    simp [Big, bigL, W]
  · simp (config := { maxSteps := 1000000 }) (disch := ((try simp only [awL]); omega)) only [Tryz.f39, ↓awU, awV, awF, Qa, Qb, Qc, Qd, forall_const, ↓reduceIte, ↓reduceDIte, ↓Qe, Qf, Qg, Qh, Qi, Qj, Qk, Ql, Qm, Qn, Qo, Qp, Qq, Qr, Qs, implies_true, Qt, Qu, Qv, Qw, Qx, Qy, Qz, QA, QB, QC, QD, QE, QF, QG, QH, QI, QJ, QK, QL, QM, QN, QO, QP, QQ]
    have := @sz_pos n
    simp [Big, bigL, W]
    omega
end Go.Proofs.YtjecgoddmkaboaaGreatDoor.Num

namespace Go.Proofs.YtjecgoddmkaboaaGreatDoor.Num
open Go Go.Proofs Go.Abs
variable {G : Globals}
theorem sign_mul {n d : Int} (hd : d ≠ 0) : d.sign * n = if ¬ decide (n < 0) = decide (d < 0) then -((n.natAbs : Nat) : Int) else ((n.natAbs : Nat) : Int) := by
  rcases Int.lt_or_gt_of_ne hd with h | h
  · rw [Int.sign_eq_neg_one_of_neg h]
    by_cases hn : n < 0 <;> simp [hn, h] <;> omega
  · rw [Int.sign_eq_one_of_pos h]
    by_cases hn : n < 0 <;> simp [hn, show ¬ d < 0 by omega] <;> omega
theorem neg_div {m g : Nat} (h : g ∣ m) : (-((m : Nat) : Int)) / (g : Int) = -((m / g : Nat) : Int) := by
  rw [Int.neg_ediv_of_dvd (Int.natCast_dvd_natCast.2 h)]; rfl
theorem div_len {a b : Nat} : (toW (a / b)).length ≤ (toW a).length := toW_len_mono (Nat.div_le_self _ _)
set_option maxHeartbeats 4000000 in
set_option maxRecDepth 100000 in
theorem reduced_spec (n d : Int) (hd : d ≠ 0) (hn : sz n < 2 ^ 36) (hds : sz d < 2 ^ 36) : Ctr Tryz.prog G 38 [.d (Big n), .d (Big d)] [] (.d (Frac (Rat.divInt n d))) [] := by
  simp only [sz] at hn hds
  have hg0 : Nat.gcd n.natAbs d.natAbs ≠ 0 := by
    intro h; exact hd (Int.natAbs_eq_zero.1 (Nat.gcd_eq_zero_iff.1 h).2)
  have hgl : (toW (Nat.gcd n.natAbs d.natAbs)).length ≤ (toW d.natAbs).length := toW_len_mono (Nat.gcd_le_right _ (by omega))
  have hx := @div_len n.natAbs (Nat.gcd n.natAbs d.natAbs)
  have hy := @div_len d.natAbs (Nat.gcd n.natAbs d.natAbs)
  have e1 : (Rat.divInt n d).num = if ¬ decide (n < 0) = decide (d < 0) then -((n.natAbs / Nat.gcd n.natAbs d.natAbs : Nat) : Int) else ((n.natAbs / Nat.gcd n.natAbs d.natAbs : Nat) : Int) := by
    rw [Rat.num_divInt, sign_mul hd, Int.gcd, Nat.gcd_comm d.natAbs]
    split
    · exact neg_div (Nat.gcd_dvd_left _ _)
    · rfl
  have e2 : (Rat.divInt n d).den = d.natAbs / Nat.gcd n.natAbs d.natAbs := by
    rw [Rat.den_divInt, if_neg hd, Int.gcd, Nat.gcd_comm d.natAbs]
  refine Ctr.pure (M := M0) hmix Tryz.func38 rfl go38 ?_
  simp (config := { maxSteps := 1000000 }) (disch := ((try simp only [awL]); omega)) only [Tryz.f38, ↓awU, awV, awF, Qa, Qb, Qc, Qd, forall_const, ↓reduceIte, ↓reduceDIte, ↓Qe, Qf, Qg, Qh, Qi, Qj, Qk, Ql, Qm, Qn, Qo, Qp, Qq, Qr, Qs, implies_true, Qt, Qu, Qv, Qw, Qx, Qy, Qz, QA, QB, QC, QD, QE, QF, QG, QH, QI, QJ, QK, QL, QM, QN, QO, QP, QQ]
  refine CallC.pure (common_spec _ _ (by omega) (by omega)) ?_
  generalize Nat.gcd n.natAbs d.natAbs = g at *
  simp (config := { maxSteps := 1000000 }) (disch := ((try simp only [awL]); omega)) only [↓awU, awV, awF, Qa, Qb, Qc, Qd, forall_const, ↓reduceIte, ↓reduceDIte, ↓Qe, Qf, Qg, Qh, Qi, Qj, Qk, Ql, Qm, Qn, Qo, Qp, Qq, Qr, Qs, implies_true, Qt, Qu, Qv, Qw, Qx, Qy, Qz, QA, QB, QC, QD, QE, QF, QG, QH, QI, QJ, QK, QL, QM, QN, QO, QP, QQ]
  refine CallC.pure (over_spec _ g hg0 (by omega) (by omega)) ?_
  simp (config := { maxSteps := 1000000 }) (disch := ((try simp only [awL]); omega)) only [↓awU, awV, awF, Qa, Qb, Qc, Qd, forall_const, ↓reduceIte, ↓reduceDIte, ↓Qe, Qf, Qg, Qh, Qi, Qj, Qk, Ql, Qm, Qn, Qo, Qp, Qq, Qr, Qs, implies_true, Qt, Qu, Qv, Qw, Qx, Qy, Qz, QA, QB, QC, QD, QE, QF, QG, QH, QI, QJ, QK, QL, QM, QN, QO, QP, QQ]
  refine CallC.pure (over_spec _ g hg0 (by omega) (by omega)) ?_
  simp (config := { maxSteps := 1000000 }) (disch := ((try simp only [awL]); omega)) only [↓awU, awV, awF, Qa, Qb, Qc, Qd, forall_const, ↓reduceIte, ↓reduceDIte, ↓Qe, Qf, Qg, Qh, Qi, Qj, Qk, Ql, Qm, Qn, Qo, Qp, Qq, Qr, Qs, implies_true, Qt, Qu, Qv, Qw, Qx, Qy, Qz, QA, QB, QC, QD, QE, QF, QG, QH, QI, QJ, QK, QL, QM, QN, QO, QP, QQ]
  refine CallC.pure (signed_spec _ _ (by omega)) ?_
  simp (config := { maxSteps := 1000000 }) (disch := ((try simp only [awL]); omega)) only [↓awU, awV, awF, Qa, Qb, Qc, Qd, forall_const, ↓reduceIte, ↓reduceDIte, ↓Qe, Qf, Qg, Qh, Qi, Qj, Qk, Ql, Qm, Qn, Qo, Qp, Qq, Qr, Qs, implies_true, Qt, Qu, Qv, Qw, Qx, Qy, Qz, QA, QB, QC, QD, QE, QF, QG, QH, QI, QJ, QK, QL, QM, QN, QO, QP, QQ]
  refine CallC.pure (signed_spec false _ (by omega)) ?_
  simp only [Frac]
  rw [e1, e2]
  simp (config := { maxSteps := 1000000 }) (disch := ((try simp only [awL]); omega)) only [↓awU, awV, awF, Qa, Qb, Qc, Qd, forall_const, ↓reduceIte, ↓reduceDIte, ↓Qe, Qf, Qg, Qh, Qi, Qj, Qk, Ql, Qm, Qn, Qo, Qp, Qq, Qr, Qs, implies_true, Qt, Qu, Qv, Qw, Qx, Qy, Qz, QA, QB, QC, QD, QE, QF, QG, QH, QI, QJ, QK, QL, QM, QN, QO, QP, QQ]
/-- A fraction that has few enough words. -/
def FV (x : Rat) : Prop := sz x.num ≤ 256 ∧ (toW x.den).length ≤ 256
instance (x : Rat) : Decidable (FV x) := inferInstanceAs (Decidable (_ ∧ _))
/-- The program's variables: the number 1. -/
def HG (G : Globals) : Prop := G 0 = some [W [1]]
theorem toW_one : toW 1 = [1] := by rw [toW_pos (by decide), show 1 / B = 0 from rfl, toW_zero]; rfl
abbrev Zf : D := .agg [.bool false, .sl 0 false [], .bool false, .sl 0 false []]
end Go.Proofs.YtjecgoddmkaboaaGreatDoor.Num

/-
  What the laws of days need: what the listed variable of the fractions holds, and what the contracts are told of it.
-/
namespace Go.Proofs.YtjecgoddmkaboaaGreatDoor
open Go Go.Proofs Go.Abs Go.RowKit Go.ChangeShapes Go.WideShapes Go.ChangeAt Go.Shelf Go.Joins Go.Deep
theorem own : ownKnob Tryz.prog.godebug = none := by kernel_rfl
theorem gOne : Tryz.prog.globalNamed "tablefinder/fraction.one" = some 0 := by kernel_rfl
theorem tOne : (Tryz.prog.globals[0]?).map (·.type) = some 57 := by kernel_rfl
theorem cU32 : Tryz.prog.cellsOf 58 = 1 := by kernel_rfl
/-- What the contracts are told of the variables; b: of the errors too. -/
def G4 : Globals := fun g => if g = 0 then some [Num.W [1]] else none
theorem hG4 : Num.HG G4 := by simp [Num.HG, G4]
theorem globOK4 {X : World} (h : Lib.VarReads Tryz.prog X "tablefinder/fraction.one" Rows.laid_tablefinder_fraction_one) : GlobOK G4 X := by
  obtain ⟨g, t, cs, fuel, p, hg, ht, hv, hd⟩ := h
  obtain rfl := Option.some.inj (gOne.symm.trans hg)
  obtain rfl := Option.some.inj (tOne.symm.trans ht)
  rcases open_ints Tryz.underlying57 Tryz.underlying58 cU32 hd with ⟨_, hx⟩ | ⟨a, len, cap, zs, hcs, _, hl, hm, hz, hx, hcell, _⟩
  · simp [Rows.laid_tablefinder_fraction_one] at hx
  · have hz : zs.length = cap := by simpa using hz
    simp only [Rows.laid_tablefinder_fraction_one, Prod.mk.injEq, DataW.slice.injEq] at hx
    obtain ⟨⟨h1, h2⟩, _⟩ := hx
    have e1 : (zs.take len).length = 1 := by
      have := congrArg List.length h1; simpa [lits] using this.symm
    have e2 : (zs.drop len).length = 0 := by
      have := congrArg List.length h2; simpa [lits] using this.symm
    have e3 : len = 1 ∧ cap = 1 := by simp at e1 e2; omega
    obtain ⟨rfl, rfl⟩ := e3
    obtain ⟨z, rfl⟩ : ∃ z, zs = [z] := by
      match zs, hz with
      | [z], _ => exact ⟨z, rfl⟩
    have ez : z = 1 := by
      have := h1; simp [lits] at this; exact this.symm
    subst ez
    have hz0 := World.var?_cell hg hv 0
    have e4 : cs[0]? = some (.slice (some a) 1 1) := by
      have : cs = #[.slice (some a) 1 1] := by rw [← Array.toArray_toList (xs := cs), hcs]
      rw [this]; rfl
    rw [e4] at hz0
    rcases RD_ints (W := X) (k := .u32) hl (by simp) hcell with hr | hr
    · intro g ds hgd
      simp only [G4] at hgd
      split at hgd
      · rename_i hgg
        subst hgg
        cases hgd
        refine ⟨fun _ => .slice (some a) 1 1, fun i x hx => ?_, fun i x hx => ?_⟩
        · rcases i with _ | i
          · exact hz0
          · simp at hx
        · rcases i with _ | i
          · simp at hx; subst hx; exact hr
          · simp at hx
      · cases hgd
    · cases hr
end Go.Proofs.YtjecgoddmkaboaaGreatDoor
