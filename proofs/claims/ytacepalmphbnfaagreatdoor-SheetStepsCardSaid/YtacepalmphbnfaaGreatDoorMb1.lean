/-
  Contracts of the functions, one after another.
-/
import Derived.Test.YtacepalmphbnfaaGreatDoorLa3
import Derived.Lib.ValidLaws
import Derived.Test.YtacepalmphbnfaaGreatDoorChecked
import Derived.KernelRfl
import Derived.Shelf.Unicode.ValidAny
import Derived.Ground.NamesProg
import Derived.Lib.DecodeN
import Derived.Lib.Strings
import Derived.Lib.Slices
import Derived.Lib.Walk
import Derived.Lib.Bytealg
import Derived.Shelf.Strings.Trim
import Derived.Shelf.Strings.Replace
import Derived.Shelf.Strings.Repeat
import Derived.Shelf.Strings.Builder1
import Derived.Shelf.Utf8.RuneCount
import Derived.Shelf.Strings.Prefix
import Derived.Shelf.Small.Wraps
import Derived.Lib.OthersKept
import Derived.Lib.MapLaws
import Derived.Lib.RuneBytes
import Derived.Shelf.Strings.OnBuilder
import Derived.Lib.ItoaNum
import Derived.Lib.ItoaMem
import Derived.Lib.ItoaLen
import Derived.Shelf.Strconv.AtoiAll
import Derived.Lib.AtoiErrMem
import Derived.Shelf.Strconv.Itoa0
import Derived.Test.YtacepalmphbnfaaGreatDoorCards
import Derived.Test.YtacepalmphbnfaaGreatDoorTie
import Derived.Lib.LaidU8T
import Derived.Lib.LaidTab
import Derived.LaidLaws
import Derived.Shelf.Vars
import Derived.Lib.SmallJoins
set_option linter.all false
open Go.Abs renaming ofVal → Qa, ofVal0 → Qb, isShift → Qc, aggK → Qd, purePost → Qe, combine → Qf, idsA → Qg, cellsA → Qh, numsOf → Qi, srcA → Qj, calleeA → Qk, refsA → Ql, isScalar → Qm, scalarD → Qn, scalar0 → Qo, putL → Qr, unfA → Qs, sidsB → QJ, keyKD → QL, isIntK → QM, aggD → QN, aggL → QO, eqKs → QP, boxRow → QQ, nextC_more → QT, nextC_over → QU, bs_size → QV, bs_extract → QW, bs_toList → QX, bs_append → QY, byteAt_bs → QZ, bs_cells → Q0, nums_length → Q1, nums_getD → Q2
open Go.Abs.AV renaming one → Qp
open Go.Abs.D renaming one → Qq
open Go.IntKind renaming signed → Qt
open Nat renaming reduceAdd → Qu, reduceSub → Qv, reduceMul → Qw, reducePow → Qx, reduceDiv → Qy, reduceMod → Qz, reduceEqDiff → QI, reduceBEq → QK
open Int renaming reduceAdd → QA, reduceSub → QB, reduceMul → QC, reducePow → QD, reduceNeg → QE, reduceToNat → QF, reduceLT → QG, reduceLE → QH
open Option renaming toList_some → QR, toList_none → QS
namespace Go.Proofs.YtacepalmphbnfaaGreatDoor
/-! Files with a delimiter: what is read. -/
end Go.Proofs.YtacepalmphbnfaaGreatDoor

namespace Go.Proofs.YtacepalmphbnfaaGreatDoor
open Go.Lib
/-! Valid texts: what they are made of. -/
end Go.Proofs.YtacepalmphbnfaaGreatDoor

/-
  Facts of the program: its types, and which functions are Go text: each by the kernel.
-/
namespace Go.Proofs.YtacepalmphbnfaaGreatDoor
open Go Go.Proofs Go.Abs
theorem ti2 : tiOf Tryz.prog 2 = some ⟨.int .i64, 1, 8, [.int .i64 0]⟩ := by kernel_rfl
theorem ie2 : intE Tryz.prog 2 = some .i64 := by kernel_rfl
theorem it2 : intT Tryz.prog 2 = some .i64 := by kernel_rfl
theorem st2 : isStrT Tryz.prog 2 = false := by kernel_rfl
theorem ti3 : tiOf Tryz.prog 3 = some ⟨.int .i64, 1, 8, [.int .i64 0]⟩ := by kernel_rfl
theorem zo3 : zeroOf Tryz.prog 3 = some (.int .i64 0) := by kernel_rfl
theorem ie3 : intE Tryz.prog 3 = some .i64 := by kernel_rfl
theorem it3 : intT Tryz.prog 3 = some .i64 := by kernel_rfl
theorem st3 : isStrT Tryz.prog 3 = false := by kernel_rfl
theorem ti4 : tiOf Tryz.prog 4 = some ⟨.bool, 1, 1, [.bool false]⟩ := by kernel_rfl
theorem bt4 : isBoolT Tryz.prog 4 = true := by kernel_rfl
theorem ti5 : tiOf Tryz.prog 5 = some ⟨.int .u8, 1, 1, [.int .u8 0]⟩ := by kernel_rfl
theorem ie5 : intE Tryz.prog 5 = some .u8 := by kernel_rfl
theorem it5 : intT Tryz.prog 5 = some .u8 := by kernel_rfl
theorem st5 : isStrT Tryz.prog 5 = false := by kernel_rfl
theorem ti6 : tiOf Tryz.prog 6 = some ⟨.int .u8, 1, 1, [.int .u8 0]⟩ := by kernel_rfl
theorem ie6 : intE Tryz.prog 6 = some .u8 := by kernel_rfl
theorem it6 : intT Tryz.prog 6 = some .u8 := by kernel_rfl
theorem st6 : isStrT Tryz.prog 6 = false := by kernel_rfl
theorem ti7 : tiOf Tryz.prog 7 = some ⟨.struct [(0, 2, 1), (1, 3, 1), (2, 4, 1), (3, 6, 1)], 4, 24, [.int .i64 0, .int .i64 0, .bool false, .int .u8 0]⟩ := by kernel_rfl
theorem sf7_0 : structF Tryz.prog 7 0 = some (0, 2, 1) := by kernel_rfl
theorem sf7_1 : structF Tryz.prog 7 1 = some (1, 3, 1) := by kernel_rfl
theorem sf7_2 : structF Tryz.prog 7 2 = some (2, 4, 1) := by kernel_rfl
theorem sf7_3 : structF Tryz.prog 7 3 = some (3, 6, 1) := by kernel_rfl
theorem ti8 : tiOf Tryz.prog 8 = some ⟨.struct [(0, 2, 1), (1, 3, 1), (2, 4, 1), (3, 6, 1)], 4, 24, [.int .i64 0, .int .i64 0, .bool false, .int .u8 0]⟩ := by kernel_rfl
theorem sf8_0 : structF Tryz.prog 8 0 = some (0, 2, 1) := by kernel_rfl
theorem sf8_1 : structF Tryz.prog 8 1 = some (1, 3, 1) := by kernel_rfl
theorem sf8_2 : structF Tryz.prog 8 2 = some (2, 4, 1) := by kernel_rfl
theorem sf8_3 : structF Tryz.prog 8 3 = some (3, 6, 1) := by kernel_rfl
theorem ti9 : tiOf Tryz.prog 9 = some ⟨.string, 1, 16, [.str .empty]⟩ := by kernel_rfl
theorem st9 : isStrT Tryz.prog 9 = true := by kernel_rfl
theorem ap9 : appendable Tryz.prog 9 = true := by kernel_rfl
theorem it9 : intT Tryz.prog 9 = none := by kernel_rfl
theorem ti10 : tiOf Tryz.prog 10 = some ⟨.string, 1, 16, [.str .empty]⟩ := by kernel_rfl
theorem st10 : isStrT Tryz.prog 10 = true := by kernel_rfl
theorem ap10 : appendable Tryz.prog 10 = true := by kernel_rfl
theorem it10 : intT Tryz.prog 10 = none := by kernel_rfl
theorem ti11 : tiOf Tryz.prog 11 = some ⟨.string, 1, 16, [.str .empty]⟩ := by kernel_rfl
theorem st11 : isStrT Tryz.prog 11 = true := by kernel_rfl
theorem ap11 : appendable Tryz.prog 11 = true := by kernel_rfl
theorem it11 : intT Tryz.prog 11 = none := by kernel_rfl
theorem ti12 : tiOf Tryz.prog 12 = some ⟨.int .u64, 1, 8, [.int .u64 0]⟩ := by kernel_rfl
theorem ie12 : intE Tryz.prog 12 = some .u64 := by kernel_rfl
theorem it12 : intT Tryz.prog 12 = some .u64 := by kernel_rfl
theorem st12 : isStrT Tryz.prog 12 = false := by kernel_rfl
theorem ti14 : tiOf Tryz.prog 14 = some ⟨.struct [(0, 9, 1), (1, 12, 1)], 2, 24, [.str .empty, .int .u64 0]⟩ := by kernel_rfl
theorem sf14_0 : structF Tryz.prog 14 0 = some (0, 9, 1) := by kernel_rfl
theorem sf14_1 : structF Tryz.prog 14 1 = some (1, 12, 1) := by kernel_rfl
theorem ti15 : tiOf Tryz.prog 15 = some ⟨.ptr 231, 1, 8, [.nilp]⟩ := by kernel_rfl
theorem ti16 : tiOf Tryz.prog 16 = some ⟨.ptr 234, 1, 8, [.nilp]⟩ := by kernel_rfl
theorem ti17 : tiOf Tryz.prog 17 = some ⟨.ptr 241, 1, 8, [.nilp]⟩ := by kernel_rfl
theorem ti19 : tiOf Tryz.prog 19 = some ⟨.struct [(0, 17, 1)], 1, 8, [.nilp]⟩ := by kernel_rfl
theorem sf19_0 : structF Tryz.prog 19 0 = some (0, 17, 1) := by kernel_rfl
theorem ti20 : tiOf Tryz.prog 20 = some ⟨.other, 1, 16, [.nili]⟩ := by kernel_rfl
theorem ti21 : tiOf Tryz.prog 21 = some ⟨.int .i32, 1, 4, [.int .i32 0]⟩ := by kernel_rfl
theorem ie21 : intE Tryz.prog 21 = some .i32 := by kernel_rfl
theorem it21 : intT Tryz.prog 21 = some .i32 := by kernel_rfl
theorem st21 : isStrT Tryz.prog 21 = false := by kernel_rfl
theorem ti22 : tiOf Tryz.prog 22 = some ⟨.slice 5, 1, 24, [.sl 0 true []]⟩ := by kernel_rfl
theorem se22 : sliceElem Tryz.prog 22 = some (5, ⟨.int .u8, 1, 1, [.int .u8 0]⟩) := by kernel_rfl
theorem sz22 : isSliceT Tryz.prog 22 = true := by kernel_rfl
theorem ap22 : appendable Tryz.prog 22 = true := by kernel_rfl
theorem st22 : isStrT Tryz.prog 22 = false := by kernel_rfl
theorem ti24 : tiOf Tryz.prog 24 = some ⟨.ptr 77, 1, 8, [.nilp]⟩ := by kernel_rfl
theorem ti26 : tiOf Tryz.prog 26 = some ⟨.slice 3, 1, 24, [.sl 0 true []]⟩ := by kernel_rfl
theorem se26 : sliceElem Tryz.prog 26 = some (3, ⟨.int .i64, 1, 8, [.int .i64 0]⟩) := by kernel_rfl
theorem sz26 : isSliceT Tryz.prog 26 = true := by kernel_rfl
theorem ap26 : appendable Tryz.prog 26 = true := by kernel_rfl
theorem st26 : isStrT Tryz.prog 26 = false := by kernel_rfl
theorem ti28 : tiOf Tryz.prog 28 = some ⟨.int .i64, 1, 8, [.int .i64 0]⟩ := by kernel_rfl
theorem ie28 : intE Tryz.prog 28 = some .i64 := by kernel_rfl
theorem it28 : intT Tryz.prog 28 = some .i64 := by kernel_rfl
theorem st28 : isStrT Tryz.prog 28 = false := by kernel_rfl
theorem ti31 : tiOf Tryz.prog 31 = some ⟨.slice 35, 1, 24, [.sl 0 true []]⟩ := by kernel_rfl
theorem se31 : sliceElem Tryz.prog 31 = some (35, ⟨.slice 9, 1, 24, [.sl 0 true []]⟩) := by kernel_rfl
theorem sz31 : isSliceT Tryz.prog 31 = true := by kernel_rfl
theorem ap31 : appendable Tryz.prog 31 = true := by kernel_rfl
theorem st31 : isStrT Tryz.prog 31 = false := by kernel_rfl
theorem ti33 : tiOf Tryz.prog 33 = some ⟨.struct [(0, 31, 1)], 1, 24, [.sl 0 true []]⟩ := by kernel_rfl
theorem sf33_0 : structF Tryz.prog 33 0 = some (0, 31, 1) := by kernel_rfl
theorem ti35 : tiOf Tryz.prog 35 = some ⟨.slice 9, 1, 24, [.sl 0 true []]⟩ := by kernel_rfl
theorem se35 : sliceElem Tryz.prog 35 = some (9, ⟨.string, 1, 16, [.str .empty]⟩) := by kernel_rfl
theorem sz35 : isSliceT Tryz.prog 35 = true := by kernel_rfl
theorem ap35 : appendable Tryz.prog 35 = true := by kernel_rfl
theorem st35 : isStrT Tryz.prog 35 = false := by kernel_rfl
theorem ti40 : tiOf Tryz.prog 40 = some ⟨.slice 49, 1, 24, [.sl 0 true []]⟩ := by kernel_rfl
theorem se40 : sliceElem Tryz.prog 40 = some (49, ⟨.struct [(0, 9, 1), (1, 3, 1), (2, 3, 1)], 3, 32, [.str .empty, .int .i64 0, .int .i64 0]⟩) := by kernel_rfl
theorem sz40 : isSliceT Tryz.prog 40 = true := by kernel_rfl
theorem ap40 : appendable Tryz.prog 40 = true := by kernel_rfl
theorem st40 : isStrT Tryz.prog 40 = false := by kernel_rfl
theorem ti43 : tiOf Tryz.prog 43 = some ⟨.func, 1, 8, [.nilf]⟩ := by kernel_rfl
theorem ti44 : tiOf Tryz.prog 44 = some ⟨.slice 21, 1, 24, [.sl 0 true []]⟩ := by kernel_rfl
theorem se44 : sliceElem Tryz.prog 44 = some (21, ⟨.int .i32, 1, 4, [.int .i32 0]⟩) := by kernel_rfl
theorem sz44 : isSliceT Tryz.prog 44 = true := by kernel_rfl
theorem ap44 : appendable Tryz.prog 44 = true := by kernel_rfl
theorem st44 : isStrT Tryz.prog 44 = false := by kernel_rfl
theorem ti49 : tiOf Tryz.prog 49 = some ⟨.struct [(0, 9, 1), (1, 3, 1), (2, 3, 1)], 3, 32, [.str .empty, .int .i64 0, .int .i64 0]⟩ := by kernel_rfl
theorem eq49 : eqT Tryz.prog 49 = some [1, 0, 0] := by kernel_rfl
theorem sf49_0 : structF Tryz.prog 49 0 = some (0, 9, 1) := by kernel_rfl
theorem sf49_1 : structF Tryz.prog 49 1 = some (1, 3, 1) := by kernel_rfl
theorem sf49_2 : structF Tryz.prog 49 2 = some (2, 3, 1) := by kernel_rfl
theorem ti51 : tiOf Tryz.prog 51 = some ⟨.slice 26, 1, 24, [.sl 0 true []]⟩ := by kernel_rfl
theorem se51 : sliceElem Tryz.prog 51 = some (26, ⟨.slice 3, 1, 24, [.sl 0 true []]⟩) := by kernel_rfl
theorem sz51 : isSliceT Tryz.prog 51 = true := by kernel_rfl
theorem ap51 : appendable Tryz.prog 51 = true := by kernel_rfl
theorem st51 : isStrT Tryz.prog 51 = false := by kernel_rfl
theorem ti56 : tiOf Tryz.prog 56 = some ⟨.slice 33, 1, 24, [.sl 0 true []]⟩ := by kernel_rfl
theorem se56 : sliceElem Tryz.prog 56 = some (33, ⟨.struct [(0, 31, 1)], 1, 24, [.sl 0 true []]⟩) := by kernel_rfl
theorem sz56 : isSliceT Tryz.prog 56 = true := by kernel_rfl
theorem ap56 : appendable Tryz.prog 56 = true := by kernel_rfl
theorem st56 : isStrT Tryz.prog 56 = false := by kernel_rfl
theorem ti61 : tiOf Tryz.prog 61 = some ⟨.slice 64, 1, 24, [.sl 0 true []]⟩ := by kernel_rfl
theorem se61 : sliceElem Tryz.prog 61 = some (64, ⟨.struct [(0, 3, 1), (1, 3, 1), (2, 3, 1), (3, 3, 1)], 4, 32, [.int .i64 0, .int .i64 0, .int .i64 0, .int .i64 0]⟩) := by kernel_rfl
theorem sz61 : isSliceT Tryz.prog 61 = true := by kernel_rfl
theorem ap61 : appendable Tryz.prog 61 = true := by kernel_rfl
theorem st61 : isStrT Tryz.prog 61 = false := by kernel_rfl
theorem ti64 : tiOf Tryz.prog 64 = some ⟨.struct [(0, 3, 1), (1, 3, 1), (2, 3, 1), (3, 3, 1)], 4, 32, [.int .i64 0, .int .i64 0, .int .i64 0, .int .i64 0]⟩ := by kernel_rfl
theorem eq64 : eqT Tryz.prog 64 = some [0, 0, 0, 0] := by kernel_rfl
theorem sf64_0 : structF Tryz.prog 64 0 = some (0, 3, 1) := by kernel_rfl
theorem sf64_1 : structF Tryz.prog 64 1 = some (1, 3, 1) := by kernel_rfl
theorem sf64_2 : structF Tryz.prog 64 2 = some (2, 3, 1) := by kernel_rfl
theorem sf64_3 : structF Tryz.prog 64 3 = some (3, 3, 1) := by kernel_rfl
theorem ti70 : tiOf Tryz.prog 70 = some ⟨.slice 61, 1, 24, [.sl 0 true []]⟩ := by kernel_rfl
theorem se70 : sliceElem Tryz.prog 70 = some (61, ⟨.slice 64, 1, 24, [.sl 0 true []]⟩) := by kernel_rfl
theorem sz70 : isSliceT Tryz.prog 70 = true := by kernel_rfl
theorem ap70 : appendable Tryz.prog 70 = true := by kernel_rfl
theorem st70 : isStrT Tryz.prog 70 = false := by kernel_rfl
theorem ti77 : tiOf Tryz.prog 77 = some ⟨.struct [(0, 22, 1), (1, 3, 1)], 2, 32, [.sl 0 true [], .int .i64 0]⟩ := by kernel_rfl
theorem sf77_0 : structF Tryz.prog 77 0 = some (0, 22, 1) := by kernel_rfl
theorem sf77_1 : structF Tryz.prog 77 1 = some (1, 3, 1) := by kernel_rfl
theorem ti78 : tiOf Tryz.prog 78 = some ⟨.func, 1, 8, [.nilf]⟩ := by kernel_rfl
theorem ti82 : tiOf Tryz.prog 82 = some ⟨.slice 4, 1, 24, [.sl 0 true []]⟩ := by kernel_rfl
theorem se82 : sliceElem Tryz.prog 82 = some (4, ⟨.bool, 1, 1, [.bool false]⟩) := by kernel_rfl
theorem sz82 : isSliceT Tryz.prog 82 = true := by kernel_rfl
theorem ap82 : appendable Tryz.prog 82 = true := by kernel_rfl
theorem st82 : isStrT Tryz.prog 82 = false := by kernel_rfl
theorem ti84 : tiOf Tryz.prog 84 = some ⟨.map 9 3, 1, 8, [.nilm]⟩ := by kernel_rfl
theorem ti87 : tiOf Tryz.prog 87 = some ⟨.func, 1, 8, [.nilf]⟩ := by kernel_rfl
theorem ti88 : tiOf Tryz.prog 88 = some ⟨.func, 1, 8, [.nilf]⟩ := by kernel_rfl
theorem ti92 : tiOf Tryz.prog 92 = some ⟨.func, 1, 8, [.nilf]⟩ := by kernel_rfl
theorem ti96 : tiOf Tryz.prog 96 = some ⟨.ptr 98, 1, 8, [.nilp]⟩ := by kernel_rfl
theorem ti98 : tiOf Tryz.prog 98 = some ⟨.struct [(0, 96, 1), (1, 22, 1)], 2, 32, [.nilp, .sl 0 true []]⟩ := by kernel_rfl
theorem sf98_0 : structF Tryz.prog 98 0 = some (0, 96, 1) := by kernel_rfl
theorem sf98_1 : structF Tryz.prog 98 1 = some (1, 22, 1) := by kernel_rfl
theorem ti100 : tiOf Tryz.prog 100 = some ⟨.other, 1, 16, [.nili]⟩ := by kernel_rfl
theorem ti116 : tiOf Tryz.prog 116 = some ⟨.func, 1, 8, [.nilf]⟩ := by kernel_rfl
theorem ti119 : tiOf Tryz.prog 119 = some ⟨.array 4 3, 4, 32, [.int .i64 0, .int .i64 0, .int .i64 0, .int .i64 0]⟩ := by kernel_rfl
theorem se119 : sliceElem Tryz.prog 119 = none := by kernel_rfl
theorem ae119 : arrayE Tryz.prog 119 = some (4, 3, 1) := by kernel_rfl
theorem ti129 : tiOf Tryz.prog 129 = some ⟨.int .u64, 1, 8, [.int .u64 0]⟩ := by kernel_rfl
theorem ie129 : intE Tryz.prog 129 = some .u64 := by kernel_rfl
theorem it129 : intT Tryz.prog 129 = some .u64 := by kernel_rfl
theorem st129 : isStrT Tryz.prog 129 = false := by kernel_rfl
theorem ti137 : tiOf Tryz.prog 137 = some ⟨.ptr 5, 1, 8, [.nilp]⟩ := by kernel_rfl
theorem ti141 : tiOf Tryz.prog 141 = some ⟨.slice 144, 1, 24, [.sl 0 true []]⟩ := by kernel_rfl
theorem se141 : sliceElem Tryz.prog 141 = some (144, ⟨.array 2 3, 2, 16, [.int .i64 0, .int .i64 0]⟩) := by kernel_rfl
theorem sz141 : isSliceT Tryz.prog 141 = true := by kernel_rfl
theorem ap141 : appendable Tryz.prog 141 = true := by kernel_rfl
theorem st141 : isStrT Tryz.prog 141 = false := by kernel_rfl
theorem ti144 : tiOf Tryz.prog 144 = some ⟨.array 2 3, 2, 16, [.int .i64 0, .int .i64 0]⟩ := by kernel_rfl
theorem se144 : sliceElem Tryz.prog 144 = none := by kernel_rfl
theorem ae144 : arrayE Tryz.prog 144 = some (2, 3, 1) := by kernel_rfl
theorem ti150 : tiOf Tryz.prog 150 = some ⟨.array 256 5, 256, 256, [.int .u8 0, .int .u8 0, .int .u8 0, .int .u8 0, .int .u8 0, .int .u8 0, .int .u8 0, .int .u8 0, .int .u8 0, .int .u8 0, .int .u8 0, .int .u8 0, .int .u8 0, .int .u8 0, .int .u8 0, .int .u8 0, .int .u8 0, .int .u8 0, .int .u8 0, .int .u8 0, .int .u8 0, .int .u8 0, .int .u8 0, .int .u8 0, .int .u8 0, .int .u8 0, .int .u8 0, .int .u8 0, .int .u8 0, .int .u8 0, .int .u8 0, .int .u8 0, .int .u8 0, .int .u8 0, .int .u8 0, .int .u8 0, .int .u8 0, .int .u8 0, .int .u8 0, .int .u8 0, .int .u8 0, .int .u8 0, .int .u8 0, .int .u8 0, .int .u8 0, .int .u8 0, .int .u8 0, .int .u8 0, .int .u8 0, .int .u8 0, .int .u8 0, .int .u8 0, .int .u8 0, .int .u8 0, .int .u8 0, .int .u8 0, .int .u8 0, .int .u8 0, .int .u8 0, .int .u8 0, .int .u8 0, .int .u8 0, .int .u8 0, .int .u8 0, .int .u8 0, .int .u8 0, .int .u8 0, .int .u8 0, .int .u8 0, .int .u8 0, .int .u8 0, .int .u8 0, .int .u8 0, .int .u8 0, .int .u8 0, .int .u8 0, .int .u8 0, .int .u8 0, .int .u8 0, .int .u8 0, .int .u8 0, .int .u8 0, .int .u8 0, .int .u8 0, .int .u8 0, .int .u8 0, .int .u8 0, .int .u8 0, .int .u8 0, .int .u8 0, .int .u8 0, .int .u8 0, .int .u8 0, .int .u8 0, .int .u8 0, .int .u8 0, .int .u8 0, .int .u8 0, .int .u8 0, .int .u8 0, .int .u8 0, .int .u8 0, .int .u8 0, .int .u8 0, .int .u8 0, .int .u8 0, .int .u8 0, .int .u8 0, .int .u8 0, .int .u8 0, .int .u8 0, .int .u8 0, .int .u8 0, .int .u8 0, .int .u8 0, .int .u8 0, .int .u8 0, .int .u8 0, .int .u8 0, .int .u8 0, .int .u8 0, .int .u8 0, .int .u8 0, .int .u8 0, .int .u8 0, .int .u8 0, .int .u8 0, .int .u8 0, .int .u8 0, .int .u8 0, .int .u8 0, .int .u8 0, .int .u8 0, .int .u8 0, .int .u8 0, .int .u8 0, .int .u8 0, .int .u8 0, .int .u8 0, .int .u8 0, .int .u8 0, .int .u8 0, .int .u8 0, .int .u8 0, .int .u8 0, .int .u8 0, .int .u8 0, .int .u8 0, .int .u8 0, .int .u8 0, .int .u8 0, .int .u8 0, .int .u8 0, .int .u8 0, .int .u8 0, .int .u8 0, .int .u8 0, .int .u8 0, .int .u8 0, .int .u8 0, .int .u8 0, .int .u8 0, .int .u8 0, .int .u8 0, .int .u8 0, .int .u8 0, .int .u8 0, .int .u8 0, .int .u8 0, .int .u8 0, .int .u8 0, .int .u8 0, .int .u8 0, .int .u8 0, .int .u8 0, .int .u8 0, .int .u8 0, .int .u8 0, .int .u8 0, .int .u8 0, .int .u8 0, .int .u8 0, .int .u8 0, .int .u8 0, .int .u8 0, .int .u8 0, .int .u8 0, .int .u8 0, .int .u8 0, .int .u8 0, .int .u8 0, .int .u8 0, .int .u8 0, .int .u8 0, .int .u8 0, .int .u8 0, .int .u8 0, .int .u8 0, .int .u8 0, .int .u8 0, .int .u8 0, .int .u8 0, .int .u8 0, .int .u8 0, .int .u8 0, .int .u8 0, .int .u8 0, .int .u8 0, .int .u8 0, .int .u8 0, .int .u8 0, .int .u8 0, .int .u8 0, .int .u8 0, .int .u8 0, .int .u8 0, .int .u8 0, .int .u8 0, .int .u8 0, .int .u8 0, .int .u8 0, .int .u8 0, .int .u8 0, .int .u8 0, .int .u8 0, .int .u8 0, .int .u8 0, .int .u8 0, .int .u8 0, .int .u8 0, .int .u8 0, .int .u8 0, .int .u8 0, .int .u8 0, .int .u8 0, .int .u8 0, .int .u8 0, .int .u8 0, .int .u8 0, .int .u8 0, .int .u8 0, .int .u8 0, .int .u8 0, .int .u8 0, .int .u8 0, .int .u8 0, .int .u8 0, .int .u8 0, .int .u8 0, .int .u8 0, .int .u8 0, .int .u8 0, .int .u8 0, .int .u8 0, .int .u8 0, .int .u8 0]⟩ := by kernel_rfl
theorem se150 : sliceElem Tryz.prog 150 = none := by kernel_rfl
theorem ae150 : arrayE Tryz.prog 150 = some (256, 5, 1) := by kernel_rfl
theorem ti152 : tiOf Tryz.prog 152 = some ⟨.struct [(0, 5, 1), (1, 5, 1)], 2, 2, [.int .u8 0, .int .u8 0]⟩ := by kernel_rfl
theorem sf152_0 : structF Tryz.prog 152 0 = some (0, 5, 1) := by kernel_rfl
theorem sf152_1 : structF Tryz.prog 152 1 = some (1, 5, 1) := by kernel_rfl
theorem ti153 : tiOf Tryz.prog 153 = some ⟨.array 16 152, 32, 32, [.int .u8 0, .int .u8 0, .int .u8 0, .int .u8 0, .int .u8 0, .int .u8 0, .int .u8 0, .int .u8 0, .int .u8 0, .int .u8 0, .int .u8 0, .int .u8 0, .int .u8 0, .int .u8 0, .int .u8 0, .int .u8 0, .int .u8 0, .int .u8 0, .int .u8 0, .int .u8 0, .int .u8 0, .int .u8 0, .int .u8 0, .int .u8 0, .int .u8 0, .int .u8 0, .int .u8 0, .int .u8 0, .int .u8 0, .int .u8 0, .int .u8 0, .int .u8 0]⟩ := by kernel_rfl
theorem se153 : sliceElem Tryz.prog 153 = none := by kernel_rfl
theorem ae153 : arrayE Tryz.prog 153 = some (16, 152, 2) := by kernel_rfl
theorem ti156 : tiOf Tryz.prog 156 = some ⟨.int .i64, 1, 8, [.int .i64 0]⟩ := by kernel_rfl
theorem ie156 : intE Tryz.prog 156 = some .i64 := by kernel_rfl
theorem it156 : intT Tryz.prog 156 = some .i64 := by kernel_rfl
theorem st156 : isStrT Tryz.prog 156 = false := by kernel_rfl
theorem ti163 : tiOf Tryz.prog 163 = some ⟨.int .u32, 1, 4, [.int .u32 0]⟩ := by kernel_rfl
theorem ie163 : intE Tryz.prog 163 = some .u32 := by kernel_rfl
theorem it163 : intT Tryz.prog 163 = some .u32 := by kernel_rfl
theorem st163 : isStrT Tryz.prog 163 = false := by kernel_rfl
theorem ti165 : tiOf Tryz.prog 165 = some ⟨.int .u64, 1, 8, [.int .u64 0]⟩ := by kernel_rfl
theorem ie165 : intE Tryz.prog 165 = some .u64 := by kernel_rfl
theorem it165 : intT Tryz.prog 165 = some .u64 := by kernel_rfl
theorem st165 : isStrT Tryz.prog 165 = false := by kernel_rfl
theorem ti176 : tiOf Tryz.prog 176 = some ⟨.int .i64, 1, 8, [.int .i64 0]⟩ := by kernel_rfl
theorem ie176 : intE Tryz.prog 176 = some .i64 := by kernel_rfl
theorem it176 : intT Tryz.prog 176 = some .i64 := by kernel_rfl
theorem st176 : isStrT Tryz.prog 176 = false := by kernel_rfl
theorem ti179 : tiOf Tryz.prog 179 = some ⟨.ptr 210, 1, 8, [.nilp]⟩ := by kernel_rfl
theorem ti189 : tiOf Tryz.prog 189 = some ⟨.array 256 4, 256, 256, [.bool false, .bool false, .bool false, .bool false, .bool false, .bool false, .bool false, .bool false, .bool false, .bool false, .bool false, .bool false, .bool false, .bool false, .bool false, .bool false, .bool false, .bool false, .bool false, .bool false, .bool false, .bool false, .bool false, .bool false, .bool false, .bool false, .bool false, .bool false, .bool false, .bool false, .bool false, .bool false, .bool false, .bool false, .bool false, .bool false, .bool false, .bool false, .bool false, .bool false, .bool false, .bool false, .bool false, .bool false, .bool false, .bool false, .bool false, .bool false, .bool false, .bool false, .bool false, .bool false, .bool false, .bool false, .bool false, .bool false, .bool false, .bool false, .bool false, .bool false, .bool false, .bool false, .bool false, .bool false, .bool false, .bool false, .bool false, .bool false, .bool false, .bool false, .bool false, .bool false, .bool false, .bool false, .bool false, .bool false, .bool false, .bool false, .bool false, .bool false, .bool false, .bool false, .bool false, .bool false, .bool false, .bool false, .bool false, .bool false, .bool false, .bool false, .bool false, .bool false, .bool false, .bool false, .bool false, .bool false, .bool false, .bool false, .bool false, .bool false, .bool false, .bool false, .bool false, .bool false, .bool false, .bool false, .bool false, .bool false, .bool false, .bool false, .bool false, .bool false, .bool false, .bool false, .bool false, .bool false, .bool false, .bool false, .bool false, .bool false, .bool false, .bool false, .bool false, .bool false, .bool false, .bool false, .bool false, .bool false, .bool false, .bool false, .bool false, .bool false, .bool false, .bool false, .bool false, .bool false, .bool false, .bool false, .bool false, .bool false, .bool false, .bool false, .bool false, .bool false, .bool false, .bool false, .bool false, .bool false, .bool false, .bool false, .bool false, .bool false, .bool false, .bool false, .bool false, .bool false, .bool false, .bool false, .bool false, .bool false, .bool false, .bool false, .bool false, .bool false, .bool false, .bool false, .bool false, .bool false, .bool false, .bool false, .bool false, .bool false, .bool false, .bool false, .bool false, .bool false, .bool false, .bool false, .bool false, .bool false, .bool false, .bool false, .bool false, .bool false, .bool false, .bool false, .bool false, .bool false, .bool false, .bool false, .bool false, .bool false, .bool false, .bool false, .bool false, .bool false, .bool false, .bool false, .bool false, .bool false, .bool false, .bool false, .bool false, .bool false, .bool false, .bool false, .bool false, .bool false, .bool false, .bool false, .bool false, .bool false, .bool false, .bool false, .bool false, .bool false, .bool false, .bool false, .bool false, .bool false, .bool false, .bool false, .bool false, .bool false, .bool false, .bool false, .bool false, .bool false, .bool false, .bool false, .bool false, .bool false, .bool false, .bool false, .bool false, .bool false, .bool false, .bool false, .bool false, .bool false, .bool false, .bool false, .bool false, .bool false, .bool false, .bool false, .bool false, .bool false, .bool false, .bool false, .bool false, .bool false, .bool false, .bool false, .bool false, .bool false]⟩ := by kernel_rfl
theorem se189 : sliceElem Tryz.prog 189 = none := by kernel_rfl
theorem ae189 : arrayE Tryz.prog 189 = some (256, 4, 1) := by kernel_rfl
theorem ti193 : tiOf Tryz.prog 193 = some ⟨.ptr 189, 1, 8, [.nilp]⟩ := by kernel_rfl
theorem ti194 : tiOf Tryz.prog 194 = some ⟨.int .u64, 1, 8, [.int .u64 0]⟩ := by kernel_rfl
theorem ie194 : intE Tryz.prog 194 = some .u64 := by kernel_rfl
theorem it194 : intT Tryz.prog 194 = some .u64 := by kernel_rfl
theorem st194 : isStrT Tryz.prog 194 = false := by kernel_rfl
theorem ti198 : tiOf Tryz.prog 198 = some ⟨.ptr 3, 1, 8, [.nilp]⟩ := by kernel_rfl
theorem ti203 : tiOf Tryz.prog 203 = some ⟨.array 24 5, 24, 24, [.int .u8 0, .int .u8 0, .int .u8 0, .int .u8 0, .int .u8 0, .int .u8 0, .int .u8 0, .int .u8 0, .int .u8 0, .int .u8 0, .int .u8 0, .int .u8 0, .int .u8 0, .int .u8 0, .int .u8 0, .int .u8 0, .int .u8 0, .int .u8 0, .int .u8 0, .int .u8 0, .int .u8 0, .int .u8 0, .int .u8 0, .int .u8 0]⟩ := by kernel_rfl
theorem se203 : sliceElem Tryz.prog 203 = none := by kernel_rfl
theorem ae203 : arrayE Tryz.prog 203 = some (24, 5, 1) := by kernel_rfl
theorem ti210 : tiOf Tryz.prog 210 = some ⟨.struct [(0, 9, 1), (1, 9, 1), (2, 100, 1)], 3, 48, [.str .empty, .str .empty, .nili]⟩ := by kernel_rfl
theorem sf210_0 : structF Tryz.prog 210 0 = some (0, 9, 1) := by kernel_rfl
theorem sf210_1 : structF Tryz.prog 210 1 = some (1, 9, 1) := by kernel_rfl
theorem sf210_2 : structF Tryz.prog 210 2 = some (2, 100, 1) := by kernel_rfl
theorem ti215 : tiOf Tryz.prog 215 = some ⟨.ptr 194, 1, 8, [.nilp]⟩ := by kernel_rfl
theorem ti220 : tiOf Tryz.prog 220 = some ⟨.array 20 165, 20, 160, [.int .u64 0, .int .u64 0, .int .u64 0, .int .u64 0, .int .u64 0, .int .u64 0, .int .u64 0, .int .u64 0, .int .u64 0, .int .u64 0, .int .u64 0, .int .u64 0, .int .u64 0, .int .u64 0, .int .u64 0, .int .u64 0, .int .u64 0, .int .u64 0, .int .u64 0, .int .u64 0]⟩ := by kernel_rfl
theorem se220 : sliceElem Tryz.prog 220 = none := by kernel_rfl
theorem ae220 : arrayE Tryz.prog 220 = some (20, 165, 1) := by kernel_rfl
theorem ti221 : tiOf Tryz.prog 221 = some ⟨.array 65 5, 65, 65, [.int .u8 0, .int .u8 0, .int .u8 0, .int .u8 0, .int .u8 0, .int .u8 0, .int .u8 0, .int .u8 0, .int .u8 0, .int .u8 0, .int .u8 0, .int .u8 0, .int .u8 0, .int .u8 0, .int .u8 0, .int .u8 0, .int .u8 0, .int .u8 0, .int .u8 0, .int .u8 0, .int .u8 0, .int .u8 0, .int .u8 0, .int .u8 0, .int .u8 0, .int .u8 0, .int .u8 0, .int .u8 0, .int .u8 0, .int .u8 0, .int .u8 0, .int .u8 0, .int .u8 0, .int .u8 0, .int .u8 0, .int .u8 0, .int .u8 0, .int .u8 0, .int .u8 0, .int .u8 0, .int .u8 0, .int .u8 0, .int .u8 0, .int .u8 0, .int .u8 0, .int .u8 0, .int .u8 0, .int .u8 0, .int .u8 0, .int .u8 0, .int .u8 0, .int .u8 0, .int .u8 0, .int .u8 0, .int .u8 0, .int .u8 0, .int .u8 0, .int .u8 0, .int .u8 0, .int .u8 0, .int .u8 0, .int .u8 0, .int .u8 0, .int .u8 0, .int .u8 0]⟩ := by kernel_rfl
theorem se221 : sliceElem Tryz.prog 221 = none := by kernel_rfl
theorem ae221 : arrayE Tryz.prog 221 = some (65, 5, 1) := by kernel_rfl
theorem ti223 : tiOf Tryz.prog 223 = some ⟨.ptr 225, 1, 8, [.nilp]⟩ := by kernel_rfl
theorem ti225 : tiOf Tryz.prog 225 = some ⟨.struct [(0, 9, 1)], 1, 16, [.str .empty]⟩ := by kernel_rfl
theorem sf225_0 : structF Tryz.prog 225 0 = some (0, 9, 1) := by kernel_rfl
theorem ti228 : tiOf Tryz.prog 228 = some ⟨.array 32 5, 32, 32, [.int .u8 0, .int .u8 0, .int .u8 0, .int .u8 0, .int .u8 0, .int .u8 0, .int .u8 0, .int .u8 0, .int .u8 0, .int .u8 0, .int .u8 0, .int .u8 0, .int .u8 0, .int .u8 0, .int .u8 0, .int .u8 0, .int .u8 0, .int .u8 0, .int .u8 0, .int .u8 0, .int .u8 0, .int .u8 0, .int .u8 0, .int .u8 0, .int .u8 0, .int .u8 0, .int .u8 0, .int .u8 0, .int .u8 0, .int .u8 0, .int .u8 0, .int .u8 0]⟩ := by kernel_rfl
theorem se228 : sliceElem Tryz.prog 228 = none := by kernel_rfl
theorem ae228 : arrayE Tryz.prog 228 = some (32, 5, 1) := by kernel_rfl
theorem ti229 : tiOf Tryz.prog 229 = some ⟨.array 64 5, 64, 64, [.int .u8 0, .int .u8 0, .int .u8 0, .int .u8 0, .int .u8 0, .int .u8 0, .int .u8 0, .int .u8 0, .int .u8 0, .int .u8 0, .int .u8 0, .int .u8 0, .int .u8 0, .int .u8 0, .int .u8 0, .int .u8 0, .int .u8 0, .int .u8 0, .int .u8 0, .int .u8 0, .int .u8 0, .int .u8 0, .int .u8 0, .int .u8 0, .int .u8 0, .int .u8 0, .int .u8 0, .int .u8 0, .int .u8 0, .int .u8 0, .int .u8 0, .int .u8 0, .int .u8 0, .int .u8 0, .int .u8 0, .int .u8 0, .int .u8 0, .int .u8 0, .int .u8 0, .int .u8 0, .int .u8 0, .int .u8 0, .int .u8 0, .int .u8 0, .int .u8 0, .int .u8 0, .int .u8 0, .int .u8 0, .int .u8 0, .int .u8 0, .int .u8 0, .int .u8 0, .int .u8 0, .int .u8 0, .int .u8 0, .int .u8 0, .int .u8 0, .int .u8 0, .int .u8 0, .int .u8 0, .int .u8 0, .int .u8 0, .int .u8 0, .int .u8 0]⟩ := by kernel_rfl
theorem se229 : sliceElem Tryz.prog 229 = none := by kernel_rfl
theorem ae229 : arrayE Tryz.prog 229 = some (64, 5, 1) := by kernel_rfl
theorem ti231 : tiOf Tryz.prog 231 = some ⟨.struct [(0, 17, 1), (1, 17, 1), (2, 17, 1), (3, 9, 1)], 4, 40, [.nilp, .nilp, .nilp, .str .empty]⟩ := by kernel_rfl
theorem sf231_0 : structF Tryz.prog 231 0 = some (0, 17, 1) := by kernel_rfl
theorem sf231_1 : structF Tryz.prog 231 1 = some (1, 17, 1) := by kernel_rfl
theorem sf231_2 : structF Tryz.prog 231 2 = some (2, 17, 1) := by kernel_rfl
theorem sf231_3 : structF Tryz.prog 231 3 = some (3, 9, 1) := by kernel_rfl
theorem ti232 : tiOf Tryz.prog 232 = some ⟨.array 0 16, 0, 0, []⟩ := by kernel_rfl
theorem se232 : sliceElem Tryz.prog 232 = none := by kernel_rfl
theorem ae232 : arrayE Tryz.prog 232 = some (0, 16, 1) := by kernel_rfl
theorem ti234 : tiOf Tryz.prog 234 = some ⟨.struct [(0, 232, 0)], 0, 0, []⟩ := by kernel_rfl
theorem sf234_0 : structF Tryz.prog 234 0 = some (0, 232, 0) := by kernel_rfl
theorem ti235 : tiOf Tryz.prog 235 = some ⟨.int .u8, 1, 1, [.int .u8 0]⟩ := by kernel_rfl
theorem ie235 : intE Tryz.prog 235 = some .u8 := by kernel_rfl
theorem it235 : intT Tryz.prog 235 = some .u8 := by kernel_rfl
theorem st235 : isStrT Tryz.prog 235 = false := by kernel_rfl
theorem ti236 : tiOf Tryz.prog 236 = some ⟨.int .u8, 1, 1, [.int .u8 0]⟩ := by kernel_rfl
theorem ie236 : intE Tryz.prog 236 = some .u8 := by kernel_rfl
theorem it236 : intT Tryz.prog 236 = some .u8 := by kernel_rfl
theorem st236 : isStrT Tryz.prog 236 = false := by kernel_rfl
theorem ti237 : tiOf Tryz.prog 237 = some ⟨.func, 1, 8, [.nilf]⟩ := by kernel_rfl
theorem ti238 : tiOf Tryz.prog 238 = some ⟨.int .i32, 1, 4, [.int .i32 0]⟩ := by kernel_rfl
theorem ie238 : intE Tryz.prog 238 = some .i32 := by kernel_rfl
theorem it238 : intT Tryz.prog 238 = some .i32 := by kernel_rfl
theorem st238 : isStrT Tryz.prog 238 = false := by kernel_rfl
theorem ti239 : tiOf Tryz.prog 239 = some ⟨.int .i32, 1, 4, [.int .i32 0]⟩ := by kernel_rfl
theorem ie239 : intE Tryz.prog 239 = some .i32 := by kernel_rfl
theorem it239 : intT Tryz.prog 239 = some .i32 := by kernel_rfl
theorem st239 : isStrT Tryz.prog 239 = false := by kernel_rfl
theorem ti241 : tiOf Tryz.prog 241 = some ⟨.struct [(0, 12, 1), (1, 12, 1), (2, 163, 1), (3, 235, 1), (4, 5, 1), (5, 5, 1), (6, 236, 1), (7, 237, 1), (8, 137, 1), (9, 238, 1), (10, 239, 1)], 11, 48, [.int .u64 0, .int .u64 0, .int .u32 0, .int .u8 0, .int .u8 0, .int .u8 0, .int .u8 0, .nilf, .nilp, .int .i32 0, .int .i32 0]⟩ := by kernel_rfl
theorem sf241_0 : structF Tryz.prog 241 0 = some (0, 12, 1) := by kernel_rfl
theorem sf241_1 : structF Tryz.prog 241 1 = some (1, 12, 1) := by kernel_rfl
theorem sf241_2 : structF Tryz.prog 241 2 = some (2, 163, 1) := by kernel_rfl
theorem sf241_3 : structF Tryz.prog 241 3 = some (3, 235, 1) := by kernel_rfl
theorem sf241_4 : structF Tryz.prog 241 4 = some (4, 5, 1) := by kernel_rfl
theorem sf241_5 : structF Tryz.prog 241 5 = some (5, 5, 1) := by kernel_rfl
theorem sf241_6 : structF Tryz.prog 241 6 = some (6, 236, 1) := by kernel_rfl
theorem sf241_7 : structF Tryz.prog 241 7 = some (7, 237, 1) := by kernel_rfl
theorem sf241_8 : structF Tryz.prog 241 8 = some (8, 137, 1) := by kernel_rfl
theorem sf241_9 : structF Tryz.prog 241 9 = some (9, 238, 1) := by kernel_rfl
theorem sf241_10 : structF Tryz.prog 241 10 = some (10, 239, 1) := by kernel_rfl
theorem if100 : ifcT Tryz.prog 100 = true := by kernel_rfl
theorem go9 : goFn Tryz.prog 9 = true := by kernel_rfl
theorem go12 : goFn Tryz.prog 12 = true := by kernel_rfl
theorem go22 : goFn Tryz.prog 22 = true := by kernel_rfl
theorem go25 : goFn Tryz.prog 25 = true := by kernel_rfl
theorem go32 : goFn Tryz.prog 32 = true := by kernel_rfl
theorem go35 : goFn Tryz.prog 35 = true := by kernel_rfl
theorem go36 : goFn Tryz.prog 36 = true := by kernel_rfl
theorem go37 : goFn Tryz.prog 37 = true := by kernel_rfl
theorem go38 : goFn Tryz.prog 38 = true := by kernel_rfl
theorem go39 : goFn Tryz.prog 39 = true := by kernel_rfl
theorem go40 : goFn Tryz.prog 40 = true := by kernel_rfl
theorem go41 : goFn Tryz.prog 41 = true := by kernel_rfl
theorem go42 : goFn Tryz.prog 42 = true := by kernel_rfl
theorem go43 : goFn Tryz.prog 43 = true := by kernel_rfl
theorem go44 : goFn Tryz.prog 44 = true := by kernel_rfl
theorem go45 : goFn Tryz.prog 45 = true := by kernel_rfl
theorem go46 : goFn Tryz.prog 46 = true := by kernel_rfl
theorem go47 : goFn Tryz.prog 47 = true := by kernel_rfl
theorem go48 : goFn Tryz.prog 48 = true := by kernel_rfl
theorem go49 : goFn Tryz.prog 49 = true := by kernel_rfl
theorem go50 : goFn Tryz.prog 50 = true := by kernel_rfl
theorem go51 : goFn Tryz.prog 51 = true := by kernel_rfl
theorem go54 : goFn Tryz.prog 54 = true := by kernel_rfl
theorem go78 : goFn Tryz.prog 78 = true := by kernel_rfl
theorem go79 : goFn Tryz.prog 79 = true := by kernel_rfl
theorem go80 : goFn Tryz.prog 80 = true := by kernel_rfl
theorem go81 : goFn Tryz.prog 81 = true := by kernel_rfl
theorem go82 : goFn Tryz.prog 82 = true := by kernel_rfl
theorem go84 : goFn Tryz.prog 84 = true := by kernel_rfl
theorem go85 : goFn Tryz.prog 85 = true := by kernel_rfl
theorem go87 : goFn Tryz.prog 87 = true := by kernel_rfl
theorem go88 : goFn Tryz.prog 88 = true := by kernel_rfl
theorem go89 : goFn Tryz.prog 89 = true := by kernel_rfl
theorem go90 : goFn Tryz.prog 90 = true := by kernel_rfl
theorem go92 : goFn Tryz.prog 92 = true := by kernel_rfl
theorem go93 : goFn Tryz.prog 93 = true := by kernel_rfl
theorem go94 : goFn Tryz.prog 94 = true := by kernel_rfl
theorem go103 : goFn Tryz.prog 103 = true := by kernel_rfl
theorem go115 : goFn Tryz.prog 115 = true := by kernel_rfl
theorem go116 : goFn Tryz.prog 116 = true := by kernel_rfl
theorem go119 : goFn Tryz.prog 119 = true := by kernel_rfl
theorem go120 : goFn Tryz.prog 120 = true := by kernel_rfl
theorem go122 : goFn Tryz.prog 122 = true := by kernel_rfl
theorem go123 : goFn Tryz.prog 123 = true := by kernel_rfl
theorem go124 : goFn Tryz.prog 124 = true := by kernel_rfl
theorem go125 : goFn Tryz.prog 125 = true := by kernel_rfl
theorem go131 : goFn Tryz.prog 131 = true := by kernel_rfl
theorem go141 : goFn Tryz.prog 141 = true := by kernel_rfl
theorem go148 : goFn Tryz.prog 148 = true := by kernel_rfl
theorem go149 : goFn Tryz.prog 149 = true := by kernel_rfl
theorem go151 : goFn Tryz.prog 151 = true := by kernel_rfl
theorem go165 : goFn Tryz.prog 165 = true := by kernel_rfl
theorem go183 : goFn Tryz.prog 183 = true := by kernel_rfl
theorem go184 : goFn Tryz.prog 184 = true := by kernel_rfl
theorem go185 : goFn Tryz.prog 185 = true := by kernel_rfl
theorem go188 : goFn Tryz.prog 188 = true := by kernel_rfl
theorem go202 : goFn Tryz.prog 202 = true := by kernel_rfl
theorem go203 : goFn Tryz.prog 203 = true := by kernel_rfl
set_option linter.defProp false in
def awF :=
 (And.intro (And.intro (And.intro (And.intro (And.intro (And.intro (And.intro (And.intro ti2
 ie2)
 (And.intro it2
 st2))
 (And.intro (And.intro ti3
 zo3)
 (And.intro ie3
 it3)))
 (And.intro (And.intro (And.intro st3
 ti4)
 (And.intro bt4
 ti5))
 (And.intro (And.intro ie5
 it5)
 (And.intro st5
 ti6))))
 (And.intro (And.intro (And.intro (And.intro ie6
 it6)
 (And.intro st6
 ti7))
 (And.intro (And.intro sf7_0
 sf7_1)
 (And.intro sf7_2
 sf7_3)))
 (And.intro (And.intro (And.intro ti8
 sf8_0)
 (And.intro sf8_1
 sf8_2))
 (And.intro (And.intro sf8_3
 ti9)
 (And.intro st9
 ap9)))))
 (And.intro (And.intro (And.intro (And.intro (And.intro it9
 ti10)
 (And.intro st10
 ap10))
 (And.intro (And.intro it10
 ti11)
 (And.intro st11
 ap11)))
 (And.intro (And.intro (And.intro it11
 ti12)
 (And.intro ie12
 it12))
 (And.intro (And.intro st12
 ti14)
 (And.intro sf14_0
 sf14_1))))
 (And.intro (And.intro (And.intro (And.intro ti15
 ti16)
 (And.intro ti17
 ti19))
 (And.intro (And.intro sf19_0
 ti20)
 (And.intro ti21
 ie21)))
 (And.intro (And.intro (And.intro it21
 st21)
 (And.intro ti22
 se22))
 (And.intro (And.intro sz22
 ap22)
 (And.intro st22
 (And.intro ti24
 ti26)))))))
 (And.intro (And.intro (And.intro (And.intro (And.intro (And.intro se26
 sz26)
 (And.intro ap26
 st26))
 (And.intro (And.intro ti28
 ie28)
 (And.intro it28
 st28)))
 (And.intro (And.intro (And.intro ti31
 se31)
 (And.intro sz31
 ap31))
 (And.intro (And.intro st31
 ti33)
 (And.intro sf33_0
 ti35))))
 (And.intro (And.intro (And.intro (And.intro se35
 sz35)
 (And.intro ap35
 st35))
 (And.intro (And.intro ti40
 se40)
 (And.intro sz40
 ap40)))
 (And.intro (And.intro (And.intro st40
 ti43)
 (And.intro ti44
 se44))
 (And.intro (And.intro sz44
 ap44)
 (And.intro st44
 ti49)))))
 (And.intro (And.intro (And.intro (And.intro (And.intro eq49
 sf49_0)
 (And.intro sf49_1
 sf49_2))
 (And.intro (And.intro ti51
 se51)
 (And.intro sz51
 ap51)))
 (And.intro (And.intro (And.intro st51
 ti56)
 (And.intro se56
 sz56))
 (And.intro (And.intro ap56
 st56)
 (And.intro ti61
 se61))))
 (And.intro (And.intro (And.intro (And.intro sz61
 ap61)
 (And.intro st61
 ti64))
 (And.intro (And.intro eq64
 sf64_0)
 (And.intro sf64_1
 sf64_2)))
 (And.intro (And.intro (And.intro sf64_3
 ti70)
 (And.intro se70
 sz70))
 (And.intro (And.intro ap70
 st70)
 (And.intro ti77
 (And.intro sf77_0
 sf77_1))))))))
 (And.intro (And.intro (And.intro (And.intro (And.intro (And.intro (And.intro ti78
 ti82)
 (And.intro se82
 sz82))
 (And.intro (And.intro ap82
 st82)
 (And.intro ti84
 ti87)))
 (And.intro (And.intro (And.intro ti88
 ti92)
 (And.intro ti96
 ti98))
 (And.intro (And.intro sf98_0
 sf98_1)
 (And.intro ti100
 ti116))))
 (And.intro (And.intro (And.intro (And.intro ti119
 se119)
 (And.intro ae119
 ti129))
 (And.intro (And.intro ie129
 it129)
 (And.intro st129
 ti137)))
 (And.intro (And.intro (And.intro ti141
 se141)
 (And.intro sz141
 ap141))
 (And.intro (And.intro st141
 ti144)
 (And.intro se144
 ae144)))))
 (And.intro (And.intro (And.intro (And.intro (And.intro ti150
 se150)
 (And.intro ae150
 ti152))
 (And.intro (And.intro sf152_0
 sf152_1)
 (And.intro ti153
 se153)))
 (And.intro (And.intro (And.intro ae153
 ti156)
 (And.intro ie156
 it156))
 (And.intro (And.intro st156
 ti163)
 (And.intro ie163
 it163))))
 (And.intro (And.intro (And.intro (And.intro st163
 ti165)
 (And.intro ie165
 it165))
 (And.intro (And.intro st165
 ti176)
 (And.intro ie176
 it176)))
 (And.intro (And.intro (And.intro st176
 ti179)
 (And.intro ti189
 se189))
 (And.intro (And.intro ae189
 ti193)
 (And.intro ti194
 (And.intro ie194
 it194)))))))
 (And.intro (And.intro (And.intro (And.intro (And.intro (And.intro st194
 ti198)
 (And.intro ti203
 se203))
 (And.intro (And.intro ae203
 ti210)
 (And.intro sf210_0
 sf210_1)))
 (And.intro (And.intro (And.intro sf210_2
 ti215)
 (And.intro ti220
 se220))
 (And.intro (And.intro ae220
 ti221)
 (And.intro se221
 ae221))))
 (And.intro (And.intro (And.intro (And.intro ti223
 ti225)
 (And.intro sf225_0
 ti228))
 (And.intro (And.intro se228
 ae228)
 (And.intro ti229
 se229)))
 (And.intro (And.intro (And.intro ae229
 ti231)
 (And.intro sf231_0
 sf231_1))
 (And.intro (And.intro sf231_2
 sf231_3)
 (And.intro ti232
 se232)))))
 (And.intro (And.intro (And.intro (And.intro (And.intro ae232
 ti234)
 (And.intro sf234_0
 ti235))
 (And.intro (And.intro ie235
 it235)
 (And.intro st235
 ti236)))
 (And.intro (And.intro (And.intro ie236
 it236)
 (And.intro st236
 ti237))
 (And.intro (And.intro ti238
 ie238)
 (And.intro it238
 st238))))
 (And.intro (And.intro (And.intro (And.intro ti239
 ie239)
 (And.intro it239
 st239))
 (And.intro (And.intro ti241
 sf241_0)
 (And.intro sf241_1
 sf241_2)))
 (And.intro (And.intro (And.intro sf241_3
 sf241_4)
 (And.intro sf241_5
 sf241_6))
 (And.intro (And.intro sf241_7
 sf241_8)
 (And.intro sf241_9
 (And.intro sf241_10
 if100)))))))))
theorem hmix : Tryz.prog.follows .mixedOrders = true := by kernel_rfl
end Go.Proofs.YtacepalmphbnfaaGreatDoor

namespace Go.Proofs.YtacepalmphbnfaaGreatDoor
open Go Go.Proofs Go.Abs Go.RowKit Go.Shelf
variable {G : Globals}
/-! utf8.ValidString, out of the kit's contract; its tables. -/
abbrev M0 : Muts := fun _ => false
abbrev S (l : List UInt8) : D := .str (bs l)
def firstDs : List D := (List.range 256).map fun c => .int .u8 (Lib.firstT c)
def accDs : List D := (List.range 32).map fun i => .int .u8 (if i % 2 = 0 then Lib.accLo (i / 2) else Lib.accHi (i / 2) : Nat)
def Tryz.laysValid_ren : Go.Shelf.Ren := ⟨fun | 196 => 91 | 259 => 126 | n => n, fun | 9 => 9 | 4 => 4 | 3 => 3 | 5 => 5 | 12 => 12 | 119 => 150 | 0 => 0 | 46 => 129 | 139 => 153 | 138 => 152 | 53 => 165 | n => n, fun | 3 => 0 | 4 => 1 | n => n⟩
theorem Tryz.laysValid : Go.Proofs.Lays.n196 Tryz.prog Tryz.laysValid_ren where
  mixed := by kernel_rfl
  f196 := Tryz.func91.trans (congrArg some (by kernel_rfl))
  f259 := Tryz.func126.trans (congrArg some (by kernel_rfl))
  t0 := Tryz.underlying0
  a0 := Tryz.isAgg0
  z0 := Tryz.sizeOf0
  v0 := Tryz.zeroValue0
  t3 := Tryz.underlying3
  a3 := Tryz.isAgg3
  z3 := Tryz.sizeOf3
  v3 := Tryz.zeroValue3
  t4 := Tryz.underlying4
  a4 := Tryz.isAgg4
  z4 := Tryz.sizeOf4
  v4 := Tryz.zeroValue4
  t5 := Tryz.underlying5
  a5 := Tryz.isAgg5
  z5 := Tryz.sizeOf5
  v5 := Tryz.zeroValue5
  t9 := Tryz.underlying9
  a9 := Tryz.isAgg9
  z9 := Tryz.sizeOf9
  v9 := Tryz.zeroValue9
  t12 := Tryz.underlying12
  a12 := Tryz.isAgg12
  z12 := Tryz.sizeOf12
  v12 := Tryz.zeroValue12
  t46 := Tryz.underlying129
  a46 := Tryz.isAgg129
  z46 := Tryz.sizeOf129
  v46 := Tryz.zeroValue129
  t53 := Tryz.underlying165
  a53 := Tryz.isAgg165
  z53 := Tryz.sizeOf165
  v53 := Tryz.zeroValue165
  t119 := Tryz.underlying150
  a119 := Tryz.isAgg150
  z119 := Tryz.sizeOf150
  t138 := Tryz.underlying152
  a138 := Tryz.isAgg152
  z138 := Tryz.sizeOf152
  v138 := Tryz.zeroValue152
  t139 := Tryz.underlying153
  a139 := Tryz.isAgg153
  z139 := Tryz.sizeOf153
  v139 := Tryz.zeroValue153
  g3 := by kernel_rfl
  g4 := by kernel_rfl

end Go.Proofs.YtacepalmphbnfaaGreatDoor

namespace Go.Proofs.YtacepalmphbnfaaGreatDoor
open Go Go.Proofs Go.Abs Go.RowKit Go.Shelf
variable {G : Globals}
/-! Texts: prefixes, cutting, the place of a byte, trimming, replacing. -/
set_option maxHeartbeats 1000000 in
set_option maxRecDepth 100000 in
theorem indexByte_calls (s : ByteArray) (c : Int) (w : World) :
    Calls Tryz.prog 165 #[.string s, .int .u8 c] w fun e w' => e = .returned (.int .i64 (Lib.indexByte s.data.toList c.toNat.toUInt8)) ∧ w' = w := by
  go_enter Tryz.func165, Tryz.ntmps165
  go_wp2
  rw [run_callFunc_extern Tryz.func195 (by kernel_rfl) (by kernel_rfl) (by kernel_rfl) (e := Extern.BytealgIndexByte.indexByte) (by kernel_rfl), Lib.run_indexByteString]
  simp only [Result.andThen]
  rw [Oper.upon_value]
  go_wp2
  go_ret
  exact ⟨rfl, rfl⟩
theorem indexByte_spec (s : List UInt8) (c : UInt8) : Ctr Tryz.prog G 165 [.d (S s), .d (.int .u8 c.toNat)] [] (.d (.int .i64 (Lib.indexByte s c))) [] := by
  refine Ctr.of_calls go165 fun h ρ w vs q r => ?_
  obtain ⟨v, u, rfl, hv, hu⟩ := r.inv2
  rw [hv.str_inv, hu.int_inv]
  refine (indexByte_calls (bs s) c.toNat w).mono ?_
  rintro e w' ⟨rfl, rfl⟩
  refine ⟨_, rfl, ?_, .refl _ _⟩
  have : ((c.toNat : Int)).toNat.toUInt8 = c := by simp
  rw [this]
  exact .int _ _
/-- Where a text is cut: in front of the byte, behind it. -/
def cutL (c : UInt8) : List UInt8 → List UInt8
  | [] => []
  | b :: l => if b = c then [] else b :: cutL c l
def cutR (c : UInt8) : List UInt8 → List UInt8
  | [] => []
  | b :: l => if b = c then l else cutR c l
theorem cut_index (c : UInt8) : ∀ s : List UInt8, (c ∈ s → ∃ k : Nat, Lib.indexByte s c = k ∧ k < s.length ∧ s.take k = cutL c s ∧ s.drop (k + 1) = cutR c s) ∧ (c ∉ s → Lib.indexByte s c = -1 ∧ cutL c s = s ∧ cutR c s = [])
  | [] => ⟨fun h => absurd h List.not_mem_nil, fun _ => ⟨rfl, rfl, rfl⟩⟩
  | b :: l => by
    obtain ⟨i1, i2⟩ := cut_index c l
    by_cases e : b = c
    · subst e
      refine ⟨fun _ => ⟨0, ?_, by simp, by simp [cutL], by simp [cutR]⟩, fun h => absurd (List.mem_cons_self ..) h⟩
      simp [Lib.indexByte]
    · have e2 : ¬ c = b := fun h => e h.symm
      refine ⟨fun h => ?_, fun h => ?_⟩
      · obtain ⟨k, h1, h2, h3, h4⟩ := i1 ((List.mem_cons.1 h).resolve_left e2)
        refine ⟨k + 1, ?_, by simpa using h2, by simp [cutL, e, h3], by simp [cutR, e, h4]⟩
        simp only [Lib.indexByte, h1]
        rw [if_neg (by simpa using e), if_neg (by simp)]
        omega
      · obtain ⟨h1, h2, h3⟩ := i2 (fun h2 => h (List.mem_cons_of_mem _ h2))
        refine ⟨?_, by simp [cutL, e, h2], by simp [cutR, e, h3]⟩
        simp only [Lib.indexByte, h1]
        rw [if_neg (by simpa using e), if_pos (by decide)]
theorem index1_spec (s : List UInt8) (c : UInt8) (hs : s.length < 2 ^ 62) : Ctr Tryz.prog G 188 [.d (S s), .d (S [c])] [] (.d (.int .i64 (Lib.indexByte s c))) [] := by
  refine Ctr.pure (M := M0) hmix Tryz.func188 rfl go188 ?_
  simp (config := { maxSteps := 1000000 }) (disch := ((try simp only [awL]); omega)) only [QR, QS, QT, QU, QV, QW, QX, QY, QZ, Q0, Q1, Q2, Tryz.f188, ↓awU, awV, awF, Qa, Qb, Qc, Qd, forall_const, ↓reduceIte, ↓reduceDIte, ↓Qe, Qf, Qg, Qh, Qi, Qj, Qk, Ql, Qm, Qn, Qo, Qp, Qq, Qr, Qs, implies_true, Qt, Qu, Qv, Qw, Qx, Qy, Qz, QA, QB, QC, QD, QE, QF, QG, QH, QI, QJ, QK, QL, QM, QN, QO, QP, QQ]
  refine ⟨fun h => ?_, fun h => ?_⟩
  · rw [← h]; simp [Lib.indexByte]
  · refine CallC.pure (indexByte_spec s c) ?_
    simp (config := { maxSteps := 1000000 }) (disch := ((try simp only [awL]); omega)) only [QR, QS, QT, QU, QV, QW, QX, QY, QZ, Q0, Q1, Q2, ↓awU, awV, awF, Qa, Qb, Qc, Qd, forall_const, ↓reduceIte, ↓reduceDIte, ↓Qe, Qf, Qg, Qh, Qi, Qj, Qk, Ql, Qm, Qn, Qo, Qp, Qq, Qr, Qs, implies_true, Qt, Qu, Qv, Qw, Qx, Qy, Qz, QA, QB, QC, QD, QE, QF, QG, QH, QI, QJ, QK, QL, QM, QN, QO, QP, QQ]
def Tryz.laysTrim_ren : Go.Shelf.Ren := ⟨fun | 160 => 131 | 232 => 168 | 231 => 167 | 227 => 169 | 234 => 171 | 233 => 170 | 236 => 173 | 235 => 172 | 228 => 181 | 271 => 197 | 151 => 196 | 197 => 150 | 120 => 210 | 152 => 179 | 260 => 187 | 137 => 128 | 119 => 199 | 224 => 200 | 225 => 201 | 217 => 165 | 266 => 195 | n => n, fun | 9 => 9 | 4 => 4 | 3 => 3 | 5 => 5 | 117 => 190 | 116 => 189 | 0 => 0 | 124 => 193 | 21 => 21 | 105 => 174 | 46 => 129 | 119 => 150 | 139 => 153 | 138 => 152 | n => n, fun | 3 => 0 | 4 => 1 | n => n⟩
theorem Tryz.laysTrim : Go.Proofs.Lays.n160 Tryz.prog Tryz.laysTrim_ren where
  mixed := by kernel_rfl
  f119 := Tryz.func199.trans (congrArg some (by kernel_rfl))
  f120 := Tryz.func210.trans (congrArg some (by kernel_rfl))
  f137 := Tryz.func128.trans (congrArg some (by kernel_rfl))
  f151 := Tryz.func196.trans (congrArg some (by kernel_rfl))
  f152 := Tryz.func179.trans (congrArg some (by kernel_rfl))
  f160 := Tryz.func131.trans (congrArg some (by kernel_rfl))
  f197 := Tryz.func150.trans (congrArg some (by kernel_rfl))
  f217 := Tryz.func165.trans (congrArg some (by kernel_rfl))
  f224 := Tryz.func200.trans (congrArg some (by kernel_rfl))
  f225 := Tryz.func201.trans (congrArg some (by kernel_rfl))
  f227 := Tryz.func169.trans (congrArg some (by kernel_rfl))
  f228 := Tryz.func181.trans (congrArg some (by kernel_rfl))
  f231 := Tryz.func167.trans (congrArg some (by kernel_rfl))
  f232 := Tryz.func168.trans (congrArg some (by kernel_rfl))
  f233 := Tryz.func170.trans (congrArg some (by kernel_rfl))
  f234 := Tryz.func171.trans (congrArg some (by kernel_rfl))
  f235 := Tryz.func172.trans (congrArg some (by kernel_rfl))
  f236 := Tryz.func173.trans (congrArg some (by kernel_rfl))
  f260 := Tryz.func187.trans (congrArg some (by kernel_rfl))
  f266 := Tryz.func195.trans (congrArg some (by kernel_rfl))
  f271 := Tryz.func197.trans (congrArg some (by kernel_rfl))
  t0 := Tryz.underlying0
  a0 := Tryz.isAgg0
  z0 := Tryz.sizeOf0
  v0 := Tryz.zeroValue0
  t3 := Tryz.underlying3
  a3 := Tryz.isAgg3
  z3 := Tryz.sizeOf3
  v3 := Tryz.zeroValue3
  t4 := Tryz.underlying4
  a4 := Tryz.isAgg4
  z4 := Tryz.sizeOf4
  v4 := Tryz.zeroValue4
  t5 := Tryz.underlying5
  a5 := Tryz.isAgg5
  z5 := Tryz.sizeOf5
  v5 := Tryz.zeroValue5
  t9 := Tryz.underlying9
  a9 := Tryz.isAgg9
  z9 := Tryz.sizeOf9
  v9 := Tryz.zeroValue9
  t21 := Tryz.underlying21
  a21 := Tryz.isAgg21
  z21 := Tryz.sizeOf21
  v21 := Tryz.zeroValue21
  t46 := Tryz.underlying129
  a46 := Tryz.isAgg129
  z46 := Tryz.sizeOf129
  v46 := Tryz.zeroValue129
  t105 := Tryz.underlying174
  a105 := Tryz.isAgg174
  z105 := Tryz.sizeOf174
  v105 := Tryz.zeroValue174
  t116 := Tryz.underlying189
  a116 := Tryz.isAgg189
  z116 := Tryz.sizeOf189
  t117 := Tryz.underlying190
  a117 := Tryz.isAgg190
  z117 := Tryz.sizeOf190
  v117 := Tryz.zeroValue190
  t119 := Tryz.underlying150
  a119 := Tryz.isAgg150
  z119 := Tryz.sizeOf150
  t124 := Tryz.underlying193
  a124 := Tryz.isAgg193
  z124 := Tryz.sizeOf193
  v124 := Tryz.zeroValue193
  t138 := Tryz.underlying152
  a138 := Tryz.isAgg152
  z138 := Tryz.sizeOf152
  v138 := Tryz.zeroValue152
  t139 := Tryz.underlying153
  a139 := Tryz.isAgg153
  z139 := Tryz.sizeOf153
  v139 := Tryz.zeroValue153
  g3 := by kernel_rfl
  g4 := by kernel_rfl

theorem trim_spec (s : List UInt8) (hs : s.length ≤ 9223372036854775807) : Ctr Tryz.prog G 131 [.d (S s), .d (S [32])] [] (.d (S (Lib.trimB s 32))) [] :=
  Ctr.of_calls_ss go131 fun h w => (Any.strings_Trim_one Tryz.laysTrim (bs s) 32 (by decide) w (by rw [bs_size]; exact hs)).mono (by
    rintro e w' ⟨rfl, h | h⟩
    · subst h; exact ⟨_, rfl, .str _, .refl _ _⟩
    · subst h; exact ⟨_, rfl, .str _, Below.drew (.refl _ _)⟩)
theorem ttrim_spec (s : List UInt8) (hs : s.length ≤ 9223372036854775807) : Ctr Tryz.prog G 103 [.d (S s)] [] (.d (S (Lib.trimB s 32))) [] := by
  refine Ctr.pure (M := M0) hmix Tryz.func103 rfl go103 ?_
  simp (config := { maxSteps := 1000000 }) (disch := ((try simp only [awL]); omega)) only [QR, QS, QT, QU, QV, QW, QX, QY, QZ, Q0, Q1, Q2, Tryz.f103, ↓awU, awV, awF, Qa, Qb, Qc, Qd, forall_const, ↓reduceIte, ↓reduceDIte, ↓Qe, Qf, Qg, Qh, Qi, Qj, Qk, Ql, Qm, Qn, Qo, Qp, Qq, Qr, Qs, implies_true, Qt, Qu, Qv, Qw, Qx, Qy, Qz, QA, QB, QC, QD, QE, QF, QG, QH, QI, QJ, QK, QL, QM, QN, QO, QP, QQ]
  refine CallC.of (trim_spec s hs) (by rfl) ?_
  simp (config := { maxSteps := 1000000 }) (disch := ((try simp only [awL]); omega)) only [QR, QS, QT, QU, QV, QW, QX, QY, QZ, Q0, Q1, Q2, ↓awU, awV, awF, Qa, Qb, Qc, Qd, forall_const, ↓reduceIte, ↓reduceDIte, ↓Qe, Qf, Qg, Qh, Qi, Qj, Qk, Ql, Qm, Qn, Qo, Qp, Qq, Qr, Qs, implies_true, Qt, Qu, Qv, Qw, Qx, Qy, Qz, QA, QB, QC, QD, QE, QF, QG, QH, QI, QJ, QK, QL, QM, QN, QO, QP, QQ]
end Go.Proofs.YtacepalmphbnfaaGreatDoor

namespace Go.Proofs.YtacepalmphbnfaaGreatDoor
open Go Go.Proofs Go.Abs
variable {G : Globals}
/-! Trimming by a set of bytes below 128. -/
end Go.Proofs.YtacepalmphbnfaaGreatDoor

namespace Go.Proofs.YtacepalmphbnfaaGreatDoor
open Go Go.Proofs Go.Abs
variable {G : Globals}
/-! Whether a text holds a line end's byte. -/
end Go.Proofs.YtacepalmphbnfaaGreatDoor

namespace Go.Proofs.YtacepalmphbnfaaGreatDoor
open Go Go.Proofs Go.Abs Go.RowKit Go.Shelf Go.Lib
variable {G : Globals}
/-! strings.Builder: contracts over the machine's blocks. -/
/-- What a reading of a builder leaves. -/
structure BldR (v : Value) (w w' : World) : Prop where
  os : w'.os = w.os
  tape : w'.tape = w.tape
  output : w'.output = w.output
  size : w.heap.size ≤ w'.heap.size
  keep : ∀ k, k < w.heap.size → some k ≠ v.ownBlock → w'.heap[k]? = w.heap[k]?
theorem BldR.of {v : Value} {w w' : World} (h : Below w.heap.size w w') : BldR v w w' := ⟨h.os, h.tape, h.output, h.size, fun k hk _ => h.block k hk⟩
end Go.Proofs.YtacepalmphbnfaaGreatDoor

namespace Go.Proofs.YtacepalmphbnfaaGreatDoor
open Go Go.Proofs Go.Abs Go.RowKit Go.Shelf Go.Lib
variable {G : Globals}
/-! strings.Builder: the contracts. -/
theorem ptr_inv {h : Held} {ρ : Abs.Place} {u : Value} {g S : Nat} (r : R h ρ u (.ptr 0 0)) (hρ : ρ 0 = some (g, S)) : u = .pointer (some ⟨g, 0, none⟩) := by
  cases r with
  | ptr b off g' S' h1 => rw [hρ] at h1; cases h1; rfl
end Go.Proofs.YtacepalmphbnfaaGreatDoor

namespace Go.Proofs.YtacepalmphbnfaaGreatDoor
open Go Go.Proofs Go.Abs Go.RowKit Go.Shelf Go.Lib
variable {G : Globals}
/-! strings.Builder: WriteString, WriteByte, Len, String. -/
end Go.Proofs.YtacepalmphbnfaaGreatDoor

namespace Go.Proofs.YtacepalmphbnfaaGreatDoor
open Go Go.Proofs Go.Abs Go.RowKit Go.Shelf Go.Lib
variable {G : Globals}
/-! strings.Builder: WriteByte, String. -/
end Go.Proofs.YtacepalmphbnfaaGreatDoor

namespace Go.Proofs.YtacepalmphbnfaaGreatDoor
open Go Go.Proofs Go.Abs
variable {G : Globals}
/-! The dice; the words. -/
def strs (l : List (List UInt8)) : List D := l.map fun s => S s
theorem strs_length {l : List (List UInt8)} : (strs l).length = l.length := by simp [strs]
theorem strs_unf {l : List (List UInt8)} : (strs l).map unf0 = strs l := by simp [strs, unf0]
theorem strs_getD {l : List (List UInt8)} {i : Nat} (h : i < l.length) : (strs l).getD i .nilp = S (l.getD i []) := by
  simp [strs, List.getD_eq_getElem?_getD, h]
abbrev Ss (l : List (List UInt8)) (full : Bool) : D := .sl l.length full (strs l)
def wordsL : List (List UInt8) := [[97, 110, 110], [98, 111, 98], [99, 121], [66, 101, 114, 110], [85, 108, 109], [78, 101, 119, 32, 89, 111, 114, 107], [121, 111, 114, 107, 32, 110, 101, 119], [97, 45, 49], [98, 45, 50, 50], [120], [122, 195, 188, 114, 105, 99, 104], [65, 110, 110], [98, 111], [99, 97, 116], [98, 97, 116], [114, 97, 116]]
abbrev DiceM (t : List Int) (k : Nat) : ABlk := .box [.d (.sl t.length false (ints .u8 t)), .d (.int .i64 (min k t.length : Nat))]
def OkM (t : List Int) : Prop := t.length ≤ 300 ∧ ∀ i, 0 ≤ t.getD i 0 ∧ t.getD i 0 ≤ 255
theorem new_spec (t : List Int) (ht : t.length ≤ 9223372036854775807) : Ctr Tryz.prog G 12 [.d (.sl t.length false (ints .u8 t))] [] (.ptr 0 0) [DiceM (t.take 300) 0] := by
  refine Ctr.body (M := M0) hmix Tryz.func12 rfl go12 ?_
  rcases Nat.lt_or_ge 300 t.length with h | h
  · have e : (t.take 300).length = 300 := by rw [List.length_take]; omega
    simp (config := { maxSteps := 1000000 }) (disch := ((try simp only [awL]); omega)) only [Tryz.f12, e, ↓awU, awV, awF, Qa, Qb, Qc, Qd, forall_const, ↓reduceIte, ↓reduceDIte, ↓Qe, Qf, Qg, Qh, Qi, Qj, Qk, Ql, Qm, Qn, Qo, Qp, Qq, Qr, Qs, implies_true, Qt, Qu, Qv, Qw, Qx, Qy, Qz, QA, QB, QC, QD, QE, QF, QG, QH, QI, QJ, QK, QL, QM, QN, QO, QP, QQ]
    exact ⟨[some 0], rfl, by simp, by simp [HWeak, BWeak, SWeak, AWeak]; omega, .inl (by simp [AWeak])⟩
  · have e : t.take 300 = t := List.take_of_length_le h
    simp (config := { maxSteps := 1000000 }) (disch := ((try simp only [awL]); omega)) only [Tryz.f12, e, ↓awU, awV, awF, Qa, Qb, Qc, Qd, forall_const, ↓reduceIte, ↓reduceDIte, ↓Qe, Qf, Qg, Qh, Qi, Qj, Qk, Ql, Qm, Qn, Qo, Qp, Qq, Qr, Qs, implies_true, Qt, Qu, Qv, Qw, Qx, Qy, Qz, QA, QB, QC, QD, QE, QF, QG, QH, QI, QJ, QK, QL, QM, QN, QO, QP, QQ]
    exact ⟨[some 0], rfl, by simp, by simp [HWeak, BWeak, SWeak, AWeak], .inl (by simp [AWeak, SWeak])⟩
def pk (t : List Int) (k : Nat) (n : Int) : Int := t.getD k 0 % n
theorem pk_range {t : List Int} {k : Nat} {n : Int} (h : 0 < n) : 0 ≤ pk t k n ∧ pk t k n < n := ⟨Int.emod_nonneg _ (by omega), Int.emod_lt_of_pos _ h⟩
theorem pk_nat (t : List Int) (k : Nat) (n : Int) (h : 0 < n) : ∃ c : Nat, pk t k n = c ∧ (c : Int) < n := ⟨(pk t k n).toNat, by have := @pk_range t k n h; omega, by have := @pk_range t k n h; omega⟩
set_option maxHeartbeats 4000000 in
set_option maxRecDepth 100000 in
theorem pick_spec (t : List Int) (k : Nat) (n : Int) (ht : OkM t) (h0 : 0 < n) (h1 : n ≤ 1000) :
    Ctr Tryz.prog G 22 [.ptr 0 0, .d (.int .i64 n)] [DiceM t k] (.d (.int .i64 (pk t k n))) [DiceM t (k + 1)] := by
  obtain ⟨ht, htt⟩ := ht
  refine Ctr.body (M := M0) hmix Tryz.func22 rfl go22 ?_
  rcases Nat.lt_or_ge k t.length with h | h
  · have e1 : min k t.length = k := by omega
    have e2 : min (k + 1) t.length = k + 1 := by omega
    obtain ⟨b1, b2⟩ := htt k
    have e3 : (t.getD k 0).tmod n = pk t k n := Int.tmod_eq_emod_of_nonneg b1
    simp only [e1, e2, DiceM]
    simp (config := { maxSteps := 1000000 }) (disch := ((try simp only [awL]); omega)) only [Tryz.f22, e3, ↓awU, awV, awF, Qa, Qb, Qc, Qd, forall_const, ↓reduceIte, ↓reduceDIte, ↓Qe, Qf, Qg, Qh, Qi, Qj, Qk, Ql, Qm, Qn, Qo, Qp, Qq, Qr, Qs, implies_true, Qt, Qu, Qv, Qw, Qx, Qy, Qz, QA, QB, QC, QD, QE, QF, QG, QH, QI, QJ, QK, QL, QM, QN, QO, QP, QQ]
    refine ⟨by rfl, by rfl, ?_⟩
    exact ⟨[some 0], rfl, by simp, by simp [HWeak, BWeak, SWeak, AWeak], .inl (by simp [AWeak, SWeak])⟩
  · have e1 : min k t.length = t.length := by omega
    have e2 : min (k + 1) t.length = t.length := by omega
    have e3 : pk t k n = 0 := by rw [pk, List.getD_eq_getElem?_getD, List.getElem?_eq_none h]; simp
    simp only [e1, e2, e3, DiceM]
    simp (config := { maxSteps := 1000000 }) (disch := ((try simp only [awL]); omega)) only [Tryz.f22, ↓awU, awV, awF, Qa, Qb, Qc, Qd, forall_const, ↓reduceIte, ↓reduceDIte, ↓Qe, Qf, Qg, Qh, Qi, Qj, Qk, Ql, Qm, Qn, Qo, Qp, Qq, Qr, Qs, implies_true, Qt, Qu, Qv, Qw, Qx, Qy, Qz, QA, QB, QC, QD, QE, QF, QG, QH, QI, QJ, QK, QL, QM, QN, QO, QP, QQ]
    refine ⟨by rfl, ?_⟩
    exact ⟨[some 0], rfl, by simp, by simp [HWeak, BWeak, SWeak, AWeak], .inl (by simp [AWeak, SWeak])⟩
set_option maxRecDepth 100000 in
theorem words_spec : Ctr Tryz.prog G 92 [] [] (.d (Ss wordsL false)) [] := by
  refine Ctr.pure (M := M0) hmix Tryz.func92 rfl go92 ?_
  simp (config := { maxSteps := 1000000 }) (disch := ((try simp only [awL]); omega)) only [QR, QS, QT, QU, QV, QW, QX, QY, QZ, Q0, Q1, Q2, Tryz.f92, ↓awU, awV, awF, Qa, Qb, Qc, Qd, forall_const, ↓reduceIte, ↓reduceDIte, ↓Qe, Qf, Qg, Qh, Qi, Qj, Qk, Ql, Qm, Qn, Qo, Qp, Qq, Qr, Qs, implies_true, Qt, Qu, Qv, Qw, Qx, Qy, Qz, QA, QB, QC, QD, QE, QF, QG, QH, QI, QJ, QK, QL, QM, QN, QO, QP, QQ]
  try rfl
end Go.Proofs.YtacepalmphbnfaaGreatDoor

namespace Go.Proofs.YtacepalmphbnfaaGreatDoor
open Go Go.Proofs Go.Abs
variable {G : Globals}
/-! Grids; whether one of a list's elements is so. -/
abbrev Row := List (List UInt8)
def rowsD (g : List Row) : List D := g.map fun r => Ss r false
abbrev Gr (g : List Row) (full : Bool) : D := .sl g.length full (rowsD g)
theorem rowsD_length {g : List Row} : (rowsD g).length = g.length := by simp [rowsD]
theorem rowsD_getD {g : List Row} {i : Nat} (h : i < g.length) : (rowsD g).getD i .nilp = Ss (g.getD i []) false := by
  simp [rowsD, List.getD_eq_getElem?_getD, h]
theorem strs_push {a : Row} {x : List UInt8} : strs a ++ [S x] = strs (a ++ [x]) := by simp [strs]
theorem rowsD_push {a : List Row} {x : Row} : rowsD a ++ [Ss x false] = rowsD (a ++ [x]) := by simp [rowsD]
theorem rowsD_unf {l : List Row} : (rowsD l).map unf0 = rowsD l := by
  simp only [rowsD, List.map_map]
  rfl
theorem memD {α : Type} {l : List α} {i : Nat} {d : α} (h : i < l.length) : l.getD i d ∈ l := by
  rw [List.getD_eq_getElem?_getD, List.getElem?_eq_getElem h]; exact List.getElem_mem h
/-- Texts of a size that memory has. -/
def okRow (r : Row) : Prop := r.length ≤ 1000000000 ∧ ∀ s ∈ r, s.length ≤ 1000000000
def okGrid (g : List Row) : Prop := g.length ≤ 1000000000 ∧ ∀ r ∈ g, okRow r
end Go.Proofs.YtacepalmphbnfaaGreatDoor

namespace Go.Proofs.YtacepalmphbnfaaGreatDoor
open Go Go.Proofs Go.Abs
variable {G : Globals}
/-! The reference: equal grids, limits, which texts fit. -/
theorem take_eq_step {α : Type} {a b : List α} {i : Nat} {d : α} (h : i < a.length) (hl : a.length = b.length) (ht : a.take i = b.take i) (he : a.getD i d = b.getD i d) : a.take (i + 1) = b.take (i + 1) := by
  have h2 : i < b.length := by omega
  rw [List.take_add_one, List.take_add_one, ht, List.getElem?_eq_getElem h, List.getElem?_eq_getElem h2]
  rw [List.getD_eq_getElem?_getD, List.getD_eq_getElem?_getD, List.getElem?_eq_getElem h, List.getElem?_eq_getElem h2] at he
  simp only [Option.getD_some] at he
  rw [he]
set_option maxHeartbeats 4000000 in
set_option maxRecDepth 100000 in
theorem sameR_spec (a b : Row) (fa fb : Bool) (ha : a.length ≤ 10000000000) (hb : b.length ≤ 10000000000) : Ctr Tryz.prog G 78 [.d (Ss a fa), .d (Ss b fb)] [] (.d (.bool (decide (a = b)))) [] := by
  obtain ⟨r, hr⟩ : ∃ r, r = decide (a = b) := ⟨_, rfl⟩
  rw [← hr]
  refine Ctr.pure (M := M0) hmix Tryz.func78 rfl go78 ?_
  have al := @strs_length a
  have bl := @strs_length b
  by_cases hl : a.length = b.length
  · simp (config := { maxSteps := 1000000 }) (disch := ((try simp only [awL]); omega)) only [QR, QS, QT, QU, QV, QW, QX, QY, QZ, Q0, Q1, Q2, al, bl, Tryz.f78, ↓awU, awV, awF, Qa, Qb, Qc, Qd, forall_const, ↓reduceIte, ↓reduceDIte, ↓Qe, Qf, Qg, Qh, Qi, Qj, Qk, Ql, Qm, Qn, Qo, Qp, Qq, Qr, Qs, implies_true, Qt, Qu, Qv, Qw, Qx, Qy, Qz, QA, QB, QC, QD, QE, QF, QG, QH, QI, QJ, QK, QL, QM, QN, QO, QP, QQ]
    refine LoopC.fr 4099 (α := Nat) (fun i => a.length - i) (fun i => [(13, .d (.int .i64 i))]) (fun _ => []) (fun i => i ≤ a.length ∧ a.take i = b.take i) 0 ⟨Nat.zero_le _, by simp⟩ ?_ ?_
    · exact ⟨[], rfl, by simp, by simp [setsA, keepA, SWeak, AWeak], by simp [HWeak, BWeak, SWeak, AWeak]⟩
    · rintro i ⟨h1, h2⟩
      simp only [awK, Nat.reduceMod, Nat.reduceDiv, reduceIte]
      rcases Nat.lt_or_ge i a.length with h | h
      · have ga := strs_getD h
        have gb := strs_getD (show i < b.length by omega)
        by_cases he : a.getD i [] = b.getD i []
        · simp (config := { maxSteps := 1000000 }) (disch := ((try simp only [awL]); omega)) only [QR, QS, QT, QU, QV, QW, QX, QY, QZ, Q0, Q1, Q2, al, bl, ga, gb, he, ↓awU, awV, awF, Qa, Qb, Qc, Qd, forall_const, ↓reduceIte, ↓reduceDIte, ↓Qe, Qf, Qg, Qh, Qi, Qj, Qk, Ql, Qm, Qn, Qo, Qp, Qq, Qr, Qs, implies_true, Qt, Qu, Qv, Qw, Qx, Qy, Qz, QA, QB, QC, QD, QE, QF, QG, QH, QI, QJ, QK, QL, QM, QN, QO, QP, QQ]
          exact ⟨by rfl, i + 1, ⟨h, take_eq_step h hl h2 he⟩, by simp only; omega, ⟨[], rfl, by simp, by simp [setsA, keepA, SWeak, AWeak], by simp [HWeak, BWeak, SWeak, AWeak]⟩⟩
        · simp (config := { maxSteps := 1000000 }) (disch := ((try simp only [awL]); omega)) only [QR, QS, QT, QU, QV, QW, QX, QY, QZ, Q0, Q1, Q2, al, bl, ga, gb, he, ↓awU, awV, awF, Qa, Qb, Qc, Qd, forall_const, ↓reduceIte, ↓reduceDIte, ↓Qe, Qf, Qg, Qh, Qi, Qj, Qk, Ql, Qm, Qn, Qo, Qp, Qq, Qr, Qs, implies_true, Qt, Qu, Qv, Qw, Qx, Qy, Qz, QA, QB, QC, QD, QE, QF, QG, QH, QI, QJ, QK, QL, QM, QN, QO, QP, QQ]
          refine ⟨by rfl, ?_⟩
          have : ¬ a = b := fun e => he (by rw [e])
          simp [hr, this]
      · rw [List.take_of_length_le h, List.take_of_length_le (by omega)] at h2
        simp (config := { maxSteps := 1000000 }) (disch := ((try simp only [awL]); omega)) only [QR, QS, QT, QU, QV, QW, QX, QY, QZ, Q0, Q1, Q2, ↓awU, awV, awF, Qa, Qb, Qc, Qd, forall_const, ↓reduceIte, ↓reduceDIte, ↓Qe, Qf, Qg, Qh, Qi, Qj, Qk, Ql, Qm, Qn, Qo, Qp, Qq, Qr, Qs, implies_true, Qt, Qu, Qv, Qw, Qx, Qy, Qz, QA, QB, QC, QD, QE, QF, QG, QH, QI, QJ, QK, QL, QM, QN, QO, QP, QQ]
        simp [hr, h2]
  · simp (config := { maxSteps := 1000000 }) (disch := ((try simp only [awL]); omega)) only [QR, QS, QT, QU, QV, QW, QX, QY, QZ, Q0, Q1, Q2, al, bl, hl, Tryz.f78, ↓awU, awV, awF, Qa, Qb, Qc, Qd, forall_const, ↓reduceIte, ↓reduceDIte, ↓Qe, Qf, Qg, Qh, Qi, Qj, Qk, Ql, Qm, Qn, Qo, Qp, Qq, Qr, Qs, implies_true, Qt, Qu, Qv, Qw, Qx, Qy, Qz, QA, QB, QC, QD, QE, QF, QG, QH, QI, QJ, QK, QL, QM, QN, QO, QP, QQ]
    have : ¬ a = b := fun e => hl (by rw [e])
    simp [hr, this]
set_option maxHeartbeats 4000000 in
set_option maxRecDepth 100000 in
theorem sameGW_spec (a b : List Row) (fa fb : Bool) (ha : a.length ≤ 1000000000 ∧ ∀ r ∈ a, r.length ≤ 1000000000) (hb : b.length ≤ 1000000000 ∧ ∀ r ∈ b, r.length ≤ 1000000000) : Ctr Tryz.prog G 25 [.d (.agg [Gr a fa]), .d (.agg [Gr b fb])] [] (.d (.bool (decide (a = b)))) [] := by
  obtain ⟨a1, a2⟩ := ha
  obtain ⟨b1, b2⟩ := hb
  obtain ⟨r, hr⟩ : ∃ r, r = decide (a = b) := ⟨_, rfl⟩
  rw [← hr]
  refine Ctr.pure (M := M0) hmix Tryz.func25 rfl go25 ?_
  have al := @rowsD_length a
  have bl := @rowsD_length b
  by_cases hl : a.length = b.length
  · simp (config := { maxSteps := 1000000 }) (disch := ((try simp only [awL]); omega)) only [QR, QS, QT, QU, QV, QW, QX, QY, QZ, Q0, Q1, Q2, al, bl, Tryz.f25, ↓awU, awV, awF, Qa, Qb, Qc, Qd, forall_const, ↓reduceIte, ↓reduceDIte, ↓Qe, Qf, Qg, Qh, Qi, Qj, Qk, Ql, Qm, Qn, Qo, Qp, Qq, Qr, Qs, implies_true, Qt, Qu, Qv, Qw, Qx, Qy, Qz, QA, QB, QC, QD, QE, QF, QG, QH, QI, QJ, QK, QL, QM, QN, QO, QP, QQ]
    refine LoopC.fr 32780 (α := Nat) (fun i => a.length - i) (fun i => [(16, .d (.int .i64 i))]) (fun _ => [.box [.d (Gr a fa)], .box [.d (Gr b fb)]]) (fun i => i ≤ a.length ∧ a.take i = b.take i) 0 ⟨Nat.zero_le _, by simp⟩ ?_ ?_
    · exact ⟨[some 0, some 1], rfl, by simp, by simp [setsA, keepA, SWeak, AWeak], by simp [HWeak, BWeak, SWeak, AWeak]⟩
    · rintro i ⟨h1, h2⟩
      simp only [awK, Nat.reduceMod, Nat.reduceDiv, reduceIte]
      rcases Nat.lt_or_ge i a.length with h | h
      · have ga := rowsD_getD h
        have gb := rowsD_getD (show i < b.length by omega)
        have ma := a2 _ (memD (d := []) h)
        have mb := b2 _ (memD (d := []) (show i < b.length by omega))
        simp (config := { maxSteps := 1000000 }) (disch := ((try simp only [awL]); omega)) only [QR, QS, QT, QU, QV, QW, QX, QY, QZ, Q0, Q1, Q2, al, bl, ga, gb, ↓awU, awV, awF, Qa, Qb, Qc, Qd, forall_const, ↓reduceIte, ↓reduceDIte, ↓Qe, Qf, Qg, Qh, Qi, Qj, Qk, Ql, Qm, Qn, Qo, Qp, Qq, Qr, Qs, implies_true, Qt, Qu, Qv, Qw, Qx, Qy, Qz, QA, QB, QC, QD, QE, QF, QG, QH, QI, QJ, QK, QL, QM, QN, QO, QP, QQ]
        refine CallC.pure (sameR_spec _ _ false false (by omega) (by omega)) ?_
        by_cases he : a.getD i [] = b.getD i []
        · rw [decide_eq_true he]
          simp (config := { maxSteps := 1000000 }) (disch := ((try simp only [awL]); omega)) only [QR, QS, QT, QU, QV, QW, QX, QY, QZ, Q0, Q1, Q2, ↓awU, awV, awF, Qa, Qb, Qc, Qd, forall_const, ↓reduceIte, ↓reduceDIte, ↓Qe, Qf, Qg, Qh, Qi, Qj, Qk, Ql, Qm, Qn, Qo, Qp, Qq, Qr, Qs, implies_true, Qt, Qu, Qv, Qw, Qx, Qy, Qz, QA, QB, QC, QD, QE, QF, QG, QH, QI, QJ, QK, QL, QM, QN, QO, QP, QQ]
          first | exact ⟨i + 1, ⟨h, take_eq_step h hl h2 he⟩, by simp only; omega, ⟨[some 0, some 1], rfl, by simp, by simp [setsA, keepA, SWeak, AWeak], by simp [HWeak, BWeak, SWeak, AWeak]⟩⟩ | exact ⟨by rfl, i + 1, ⟨h, take_eq_step h hl h2 he⟩, by simp only; omega, ⟨[some 0, some 1], rfl, by simp, by simp [setsA, keepA, SWeak, AWeak], by simp [HWeak, BWeak, SWeak, AWeak]⟩⟩
        · rw [decide_eq_false he]
          simp (config := { maxSteps := 1000000 }) (disch := ((try simp only [awL]); omega)) only [QR, QS, QT, QU, QV, QW, QX, QY, QZ, Q0, Q1, Q2, ↓awU, awV, awF, Qa, Qb, Qc, Qd, forall_const, ↓reduceIte, ↓reduceDIte, ↓Qe, Qf, Qg, Qh, Qi, Qj, Qk, Ql, Qm, Qn, Qo, Qp, Qq, Qr, Qs, implies_true, Qt, Qu, Qv, Qw, Qx, Qy, Qz, QA, QB, QC, QD, QE, QF, QG, QH, QI, QJ, QK, QL, QM, QN, QO, QP, QQ]
          have : ¬ a = b := fun e => he (by rw [e])
          first | (refine ⟨by rfl, ?_⟩; simp [hr, this]) | simp [hr, this]
      · rw [List.take_of_length_le h, List.take_of_length_le (by omega)] at h2
        simp (config := { maxSteps := 1000000 }) (disch := ((try simp only [awL]); omega)) only [QR, QS, QT, QU, QV, QW, QX, QY, QZ, Q0, Q1, Q2, ↓awU, awV, awF, Qa, Qb, Qc, Qd, forall_const, ↓reduceIte, ↓reduceDIte, ↓Qe, Qf, Qg, Qh, Qi, Qj, Qk, Ql, Qm, Qn, Qo, Qp, Qq, Qr, Qs, implies_true, Qt, Qu, Qv, Qw, Qx, Qy, Qz, QA, QB, QC, QD, QE, QF, QG, QH, QI, QJ, QK, QL, QM, QN, QO, QP, QQ]
        simp [hr, h2]
  · simp (config := { maxSteps := 1000000 }) (disch := ((try simp only [awL]); omega)) only [QR, QS, QT, QU, QV, QW, QX, QY, QZ, Q0, Q1, Q2, al, bl, hl, Tryz.f25, ↓awU, awV, awF, Qa, Qb, Qc, Qd, forall_const, ↓reduceIte, ↓reduceDIte, ↓Qe, Qf, Qg, Qh, Qi, Qj, Qk, Ql, Qm, Qn, Qo, Qp, Qq, Qr, Qs, implies_true, Qt, Qu, Qv, Qw, Qx, Qy, Qz, QA, QB, QC, QD, QE, QF, QG, QH, QI, QJ, QK, QL, QM, QN, QO, QP, QQ]
    have : ¬ a = b := fun e => hl (by rw [e])
    simp [hr, this]
end Go.Proofs.YtacepalmphbnfaaGreatDoor

namespace Go.Proofs.YtacepalmphbnfaaGreatDoor
open Go Go.Proofs Go.Abs
variable {G : Globals}
/-! Small numbers as texts; the dice's numbers. -/
def digitsL : List UInt8 := [48, 49, 50, 51, 52, 53, 54, 55, 56, 57, 97, 98, 99, 100, 101, 102, 103, 104, 105, 106, 107, 108, 109, 110, 111, 112, 113, 114, 115, 116, 117, 118, 119, 120, 121, 122]
def smallsL : List UInt8 := (List.range 100).flatMap fun n => [UInt8.ofNat (48 + n / 10), UInt8.ofNat (48 + n % 10)]
theorem smalls_eq : (([48, 48, 48, 49, 48, 50, 48, 51, 48, 52, 48, 53, 48, 54, 48, 55, 48, 56, 48, 57, 49, 48, 49, 49, 49, 50, 49, 51, 49, 52, 49, 53, 49, 54, 49, 55, 49, 56, 49, 57, 50, 48, 50, 49, 50, 50, 50, 51, 50, 52] : List UInt8).append [50, 53, 50, 54, 50, 55, 50, 56, 50, 57, 51, 48, 51, 49, 51, 50, 51, 51, 51, 52, 51, 53, 51, 54, 51, 55, 51, 56, 51, 57, 52, 48, 52, 49, 52, 50, 52, 51, 52, 52, 52, 53, 52, 54, 52, 55, 52, 56, 52, 57]).append (List.append [53, 48, 53, 49, 53, 50, 53, 51, 53, 52, 53, 53, 53, 54, 53, 55, 53, 56, 53, 57, 54, 48, 54, 49, 54, 50, 54, 51, 54, 52, 54, 53, 54, 54, 54, 55, 54, 56, 54, 57, 55, 48, 55, 49, 55, 50, 55, 51, 55, 52] [55, 53, 55, 54, 55, 55, 55, 56, 55, 57, 56, 48, 56, 49, 56, 50, 56, 51, 56, 52, 56, 53, 56, 54, 56, 55, 56, 56, 56, 57, 57, 48, 57, 49, 57, 50, 57, 51, 57, 52, 57, 53, 57, 54, 57, 55, 57, 56, 57, 57]) = smallsL := by decide +kernel
theorem smallsL_len : smallsL.length = 200 := by decide +kernel
def itoaL (n : Nat) : List UInt8 := if n < 10 then [UInt8.ofNat (48 + n)] else [UInt8.ofNat (48 + n / 10), UInt8.ofNat (48 + n % 10)]
theorem itoa_one {n : Nat} (h : n < 10) : (digitsL.take (n + 1)).drop n = itoaL n := by
  have : ∀ n : Fin 10, (digitsL.take (n.val + 1)).drop n.val = itoaL n.val := by decide
  exact this ⟨n, h⟩
theorem itoa_two {n : Nat} (h1 : 10 ≤ n) (h : n < 100) : (smallsL.take (n * 2 + 2)).drop (n * 2) = itoaL n := by
  have : ∀ n : Fin 100, 10 ≤ n.val → (smallsL.take (n.val * 2 + 2)).drop (n.val * 2) = itoaL n.val := by decide +kernel
  exact this ⟨n, h⟩ h1
theorem itoaL_len (n : Nat) : 1 ≤ (itoaL n).length ∧ (itoaL n).length ≤ 2 := by unfold itoaL; split <;> simp
set_option maxRecDepth 100000 in
theorem small_spec (n : Nat) (h : n < 100) : Ctr Tryz.prog G 183 [.d (.int .i64 n)] [] (.d (S (itoaL n))) [] := by
  refine Ctr.pure (M := M0) hmix Tryz.func183 rfl go183 ?_
  rcases Nat.lt_or_ge n 10 with h1 | h1
  · rw [← itoa_one h1]
    simp (config := { maxSteps := 1000000 }) (disch := ((try simp only [awL]); omega)) only [QR, QS, QT, QU, QV, QW, QX, QY, QZ, Q0, Q1, Q2, Tryz.f183, ↓awU, awV, awF, Qa, Qb, Qc, Qd, forall_const, ↓reduceIte, ↓reduceDIte, ↓Qe, Qf, Qg, Qh, Qi, Qj, Qk, Ql, Qm, Qn, Qo, Qp, Qq, Qr, Qs, implies_true, Qt, Qu, Qv, Qw, Qx, Qy, Qz, QA, QB, QC, QD, QE, QF, QG, QH, QI, QJ, QK, QL, QM, QN, QO, QP, QQ]
    first | done | rfl
  · rw [← itoa_two h1 h]
    have e1 : ((n : Int) * 2).toNat = n * 2 := by omega
    have e2 : ((n : Int) * 2 + 2).toNat = n * 2 + 2 := by omega
    simp (config := { maxSteps := 1000000 }) (disch := ((try simp only [awL]); omega)) only [QR, QS, QT, QU, QV, QW, QX, QY, QZ, Q0, Q1, Q2, smalls_eq, smallsL_len, e1, e2, Tryz.f183, ↓awU, awV, awF, Qa, Qb, Qc, Qd, forall_const, ↓reduceIte, ↓reduceDIte, ↓Qe, Qf, Qg, Qh, Qi, Qj, Qk, Ql, Qm, Qn, Qo, Qp, Qq, Qr, Qs, implies_true, Qt, Qu, Qv, Qw, Qx, Qy, Qz, QA, QB, QC, QD, QE, QF, QG, QH, QI, QJ, QK, QL, QM, QN, QO, QP, QQ]
    first | done | rfl
set_option maxRecDepth 100000 in
theorem formatInt_spec (n : Nat) (h : n < 100) : Ctr Tryz.prog G 148 [.d (.int .i64 n), .d (.int .i64 10)] [] (.d (S (itoaL n))) [] := by
  refine Ctr.pure (M := M0) hmix Tryz.func148 rfl go148 ?_
  simp (config := { maxSteps := 1000000 }) (disch := ((try simp only [awL]); omega)) only [QR, QS, QT, QU, QV, QW, QX, QY, QZ, Q0, Q1, Q2, Tryz.f148, ↓awU, awV, awF, Qa, Qb, Qc, Qd, forall_const, ↓reduceIte, ↓reduceDIte, ↓Qe, Qf, Qg, Qh, Qi, Qj, Qk, Ql, Qm, Qn, Qo, Qp, Qq, Qr, Qs, implies_true, Qt, Qu, Qv, Qw, Qx, Qy, Qz, QA, QB, QC, QD, QE, QF, QG, QH, QI, QJ, QK, QL, QM, QN, QO, QP, QQ]
  refine CallC.pure (small_spec n h) ?_
  simp (config := { maxSteps := 1000000 }) (disch := ((try simp only [awL]); omega)) only [QR, QS, QT, QU, QV, QW, QX, QY, QZ, Q0, Q1, Q2, ↓awU, awV, awF, Qa, Qb, Qc, Qd, forall_const, ↓reduceIte, ↓reduceDIte, ↓Qe, Qf, Qg, Qh, Qi, Qj, Qk, Ql, Qm, Qn, Qo, Qp, Qq, Qr, Qs, implies_true, Qt, Qu, Qv, Qw, Qx, Qy, Qz, QA, QB, QC, QD, QE, QF, QG, QH, QI, QJ, QK, QL, QM, QN, QO, QP, QQ]
  first | done | rfl
set_option maxRecDepth 100000 in
theorem itoaI_spec (n : Nat) (h : n < 100) : Ctr Tryz.prog G 115 [.d (.int .i64 n)] [] (.d (S (itoaL n))) [] := by
  refine Ctr.pure (M := M0) hmix Tryz.func115 rfl go115 ?_
  simp (config := { maxSteps := 1000000 }) (disch := ((try simp only [awL]); omega)) only [QR, QS, QT, QU, QV, QW, QX, QY, QZ, Q0, Q1, Q2, Tryz.f115, ↓awU, awV, awF, Qa, Qb, Qc, Qd, forall_const, ↓reduceIte, ↓reduceDIte, ↓Qe, Qf, Qg, Qh, Qi, Qj, Qk, Ql, Qm, Qn, Qo, Qp, Qq, Qr, Qs, implies_true, Qt, Qu, Qv, Qw, Qx, Qy, Qz, QA, QB, QC, QD, QE, QF, QG, QH, QI, QJ, QK, QL, QM, QN, QO, QP, QQ]
  refine CallC.pure (formatInt_spec n h) ?_
  simp (config := { maxSteps := 1000000 }) (disch := ((try simp only [awL]); omega)) only [QR, QS, QT, QU, QV, QW, QX, QY, QZ, Q0, Q1, Q2, ↓awU, awV, awF, Qa, Qb, Qc, Qd, forall_const, ↓reduceIte, ↓reduceDIte, ↓Qe, Qf, Qg, Qh, Qi, Qj, Qk, Ql, Qm, Qn, Qo, Qp, Qq, Qr, Qs, implies_true, Qt, Qu, Qv, Qw, Qx, Qy, Qz, QA, QB, QC, QD, QE, QF, QG, QH, QI, QJ, QK, QL, QM, QN, QO, QP, QQ]
  first | done | rfl
set_option maxRecDepth 100000 in
theorem itoa_spec (n : Nat) (h : n < 100) : Ctr Tryz.prog G 79 [.d (.int .i64 n)] [] (.d (S (itoaL n))) [] := by
  refine Ctr.pure (M := M0) hmix Tryz.func79 rfl go79 ?_
  simp (config := { maxSteps := 1000000 }) (disch := ((try simp only [awL]); omega)) only [QR, QS, QT, QU, QV, QW, QX, QY, QZ, Q0, Q1, Q2, Tryz.f79, ↓awU, awV, awF, Qa, Qb, Qc, Qd, forall_const, ↓reduceIte, ↓reduceDIte, ↓Qe, Qf, Qg, Qh, Qi, Qj, Qk, Ql, Qm, Qn, Qo, Qp, Qq, Qr, Qs, implies_true, Qt, Qu, Qv, Qw, Qx, Qy, Qz, QA, QB, QC, QD, QE, QF, QG, QH, QI, QJ, QK, QL, QM, QN, QO, QP, QQ]
  refine CallC.pure (itoaI_spec n h) ?_
  simp (config := { maxSteps := 1000000 }) (disch := ((try simp only [awL]); omega)) only [QR, QS, QT, QU, QV, QW, QX, QY, QZ, Q0, Q1, Q2, ↓awU, awV, awF, Qa, Qb, Qc, Qd, forall_const, ↓reduceIte, ↓reduceDIte, ↓Qe, Qf, Qg, Qh, Qi, Qj, Qk, Ql, Qm, Qn, Qo, Qp, Qq, Qr, Qs, implies_true, Qt, Qu, Qv, Qw, Qx, Qy, Qz, QA, QB, QC, QD, QE, QF, QG, QH, QI, QJ, QK, QL, QM, QN, QO, QP, QQ]
  first | done | rfl
def signL : List (List UInt8) := [[], [], [], [45], [43]]
def fracsL : List (List UInt8) := [[53], [53, 48], [48], [49, 50, 53], [48, 48, 55], [48, 48, 48, 48, 48, 48, 48, 48, 49]]
def notDig (c : UInt8) : Bool := decide (c.toNat < 48) || decide (57 < c.toNat)
/-- The text of a number that the dice make: its sign and whole part; with a zero ahead; with a fraction. -/
def num1 (t : List Int) (k : Nat) : List UInt8 := signL.getD (pk t k 5).toNat [] ++ itoaL (pk t (k + 1) 40).toNat
def num2 (t : List Int) (k : Nat) : List UInt8 := if pk t (k + 2) 3 = 0 then (if notDig ((num1 t k).getD 0 0) = true then num1 t k else 48 :: num1 t k) else num1 t k
def numM (t : List Int) (k : Nat) : List UInt8 := if pk t (k + 3) 3 = 0 then num2 t k ++ (46 :: fracsL.getD (pk t (k + 4) 6).toNat []) else num2 t k
def numK (t : List Int) (k : Nat) : Nat := if pk t (k + 3) 3 = 0 then k + 5 else k + 4
theorem get_len {l : List (List UInt8)} {m : Nat} (h : ∀ s ∈ l, s.length ≤ m) (i : Nat) : (l.getD i []).length ≤ m := by
  rcases Nat.lt_or_ge i l.length with h1 | h1
  · rw [List.getD_eq_getElem?_getD, List.getElem?_eq_getElem h1]; exact h _ (List.getElem_mem _)
  · rw [List.getD_eq_getElem?_getD, List.getElem?_eq_none h1]; simp
theorem num1_len (t : List Int) (k : Nat) : 1 ≤ (num1 t k).length ∧ (num1 t k).length ≤ 3 := by
  have h1 := itoaL_len (pk t (k + 1) 40).toNat
  have h2 := get_len (l := signL) (m := 1) (by decide) (pk t k 5).toNat
  unfold num1
  rw [List.length_append]
  omega
theorem num2_len (t : List Int) (k : Nat) : 1 ≤ (num2 t k).length ∧ (num2 t k).length ≤ 4 := by
  have h1 := num1_len t k
  unfold num2
  split
  · split
    · omega
    · rw [List.length_cons]; omega
  · omega
theorem numM_len (t : List Int) (k : Nat) : 1 ≤ (numM t k).length ∧ (numM t k).length ≤ 20 := by
  have h1 := num2_len t k
  have h2 := get_len (l := fracsL) (m := 9) (by decide) (pk t (k + 4) 6).toNat
  unfold numM
  split
  · rw [List.length_append, List.length_cons]; omega
  · omega
theorem row_sign : [D.str (bs []), D.str (bs []), D.str (bs []), D.str (bs [45]), D.str (bs [43])] = strs signL := rfl
theorem row_fracs : [D.str (bs [53]), D.str (bs [53, 48]), D.str (bs [48]), D.str (bs [49, 50, 53]), D.str (bs [48, 48, 55]), D.str (bs [48, 48, 48, 48, 48, 48, 48, 48, 49])] = strs fracsL := rfl
set_option maxHeartbeats 4000000 in
set_option maxRecDepth 100000 in
theorem number_spec (t : List Int) (k : Nat) (ht : OkM t) : Ctr Tryz.prog G 93 [.ptr 0 0] [DiceM t k] (.d (S (numM t k))) [DiceM t (numK t k)] := by
  refine Ctr.body (M := M0) hmix Tryz.func93 rfl go93 ?_
  have ls := @strs_length signL
  have lf := @strs_length fracsL
  have ls' : signL.length = 5 := rfl
  have lf' : fracsL.length = 6 := rfl
  obtain ⟨a, ha, ha2⟩ := pk_nat t k 5 (by decide)
  obtain ⟨b, hb, hb2⟩ := pk_nat t (k + 1) 40 (by decide)
  have e1 : num1 t k = signL.getD a [] ++ itoaL b := by rw [num1, ha, hb]; rfl
  have lg := get_len (l := signL) (m := 1) (by decide) a
  have li := itoaL_len b
  have l1 := num1_len t k
  have l2 := num2_len t k
  have gs := strs_getD (l := signL) (i := a) (by omega)
  simp (config := { maxSteps := 1000000 }) (disch := ((try simp only [awL]); omega)) only [QR, QS, QT, QU, QV, QW, QX, QY, QZ, Q0, Q1, Q2, Tryz.f93, row_sign, strs_unf, ls, ls', ↓awU, awV, awF, Qa, Qb, Qc, Qd, forall_const, ↓reduceIte, ↓reduceDIte, ↓Qe, Qf, Qg, Qh, Qi, Qj, Qk, Ql, Qm, Qn, Qo, Qp, Qq, Qr, Qs, implies_true, Qt, Qu, Qv, Qw, Qx, Qy, Qz, QA, QB, QC, QD, QE, QF, QG, QH, QI, QJ, QK, QL, QM, QN, QO, QP, QQ]
  refine CallC.by (pick_spec t k 5 ht (by decide) (by decide)) (by rfl) (by rfl) (Nat.le_refl _) ?_
  rw [ha]
  simp (config := { maxSteps := 1000000 }) (disch := ((try simp only [awL]); omega)) only [QR, QS, QT, QU, QV, QW, QX, QY, QZ, Q0, Q1, Q2, row_sign, row_fracs, strs_unf, gs, ls, ls', lf, lf', ↓awU, awV, awF, Qa, Qb, Qc, Qd, forall_const, ↓reduceIte, ↓reduceDIte, ↓Qe, Qf, Qg, Qh, Qi, Qj, Qk, Ql, Qm, Qn, Qo, Qp, Qq, Qr, Qs, implies_true, Qt, Qu, Qv, Qw, Qx, Qy, Qz, QA, QB, QC, QD, QE, QF, QG, QH, QI, QJ, QK, QL, QM, QN, QO, QP, QQ]
  refine CallC.by (pick_spec t (k + 1) 40 ht (by decide) (by decide)) (by rfl) (by rfl) (Nat.le_refl _) ?_
  rw [hb]
  simp (config := { maxSteps := 1000000 }) (disch := ((try simp only [awL]); omega)) only [QR, QS, QT, QU, QV, QW, QX, QY, QZ, Q0, Q1, Q2, row_sign, row_fracs, strs_unf, gs, ls, ls', lf, lf', ↓awU, awV, awF, Qa, Qb, Qc, Qd, forall_const, ↓reduceIte, ↓reduceDIte, ↓Qe, Qf, Qg, Qh, Qi, Qj, Qk, Ql, Qm, Qn, Qo, Qp, Qq, Qr, Qs, implies_true, Qt, Qu, Qv, Qw, Qx, Qy, Qz, QA, QB, QC, QD, QE, QF, QG, QH, QI, QJ, QK, QL, QM, QN, QO, QP, QQ]
  refine CallC.of (itoa_spec b (by omega)) (by rfl) ?_
  simp (config := { maxSteps := 1000000 }) (disch := ((try simp only [awL]); omega)) only [QR, QS, QT, QU, QV, QW, QX, QY, QZ, Q0, Q1, Q2, e1.symm, row_sign, row_fracs, strs_unf, gs, ls, ls', lf, lf', ↓awU, awV, awF, Qa, Qb, Qc, Qd, forall_const, ↓reduceIte, ↓reduceDIte, ↓Qe, Qf, Qg, Qh, Qi, Qj, Qk, Ql, Qm, Qn, Qo, Qp, Qq, Qr, Qs, implies_true, Qt, Qu, Qv, Qw, Qx, Qy, Qz, QA, QB, QC, QD, QE, QF, QG, QH, QI, QJ, QK, QL, QM, QN, QO, QP, QQ]
  refine ⟨by rfl, ?_⟩
  refine CallC.by (pick_spec t (k + 1 + 1) 3 ht (by decide) (by decide)) (by rfl) (by rfl) (Nat.le_refl _) ?_
  have e2 : num2 t k = (if pk t (k + 1 + 1) 3 = 0 then (if notDig ((num1 t k).getD 0 0) = true then num1 t k else 48 :: num1 t k) else num1 t k) := rfl
  have tail : ∀ r : List UInt8, r = num2 t k → numM t k = (if pk t (k + 1 + 1 + 1) 3 = 0 then r ++ (46 :: fracsL.getD (pk t (k + 1 + 1 + 1 + 1) 6).toNat []) else r) := by rintro r rfl; rfl
  have ek : numK t k = (if pk t (k + 1 + 1 + 1) 3 = 0 then k + 1 + 1 + 1 + 1 + 1 else k + 1 + 1 + 1 + 1) := rfl
  generalize num1 t k = r1 at *
  by_cases h3 : pk t (k + 1 + 1) 3 = 0
  · rw [h3]
    rw [if_pos h3] at e2
    by_cases c1 : (r1.getD 0 0).toNat < 48
    · have c3 : notDig (r1.getD 0 0) = true := by unfold notDig; rw [decide_eq_true c1]; rfl
      have hr : r1 = num2 t k := by rw [e2, if_pos c3]
      have tl := tail (r1) hr
      have lr : (r1).length ≤ 4 := by rw [hr]; exact l2.2
      simp (config := { maxSteps := 1000000 }) (disch := ((try simp only [awL]); omega)) only [QR, QS, QT, QU, QV, QW, QX, QY, QZ, Q0, Q1, Q2, row_sign, row_fracs, strs_unf, gs, ls, ls', lf, lf', ↓awU, awV, awF, Qa, Qb, Qc, Qd, forall_const, ↓reduceIte, ↓reduceDIte, ↓Qe, Qf, Qg, Qh, Qi, Qj, Qk, Ql, Qm, Qn, Qo, Qp, Qq, Qr, Qs, implies_true, Qt, Qu, Qv, Qw, Qx, Qy, Qz, QA, QB, QC, QD, QE, QF, QG, QH, QI, QJ, QK, QL, QM, QN, QO, QP, QQ]
      refine CallC.by (pick_spec t (k + 1 + 1 + 1) 3 ht (by decide) (by decide)) (by rfl) (by rfl) (Nat.le_refl _) ?_
      by_cases h4 : pk t (k + 1 + 1 + 1) 3 = 0
      · rw [if_pos h4] at tl ek
        rw [h4, tl, ek]
        obtain ⟨d, hd, hd2⟩ := pk_nat t (k + 1 + 1 + 1 + 1) 6 (by decide)
        have gs2 := strs_getD (l := fracsL) (i := d) (by omega)
        have lg2 := get_len (l := fracsL) (m := 9) (by decide) d
        rw [hd, Int.toNat_natCast]
        simp (config := { maxSteps := 1000000 }) (disch := ((try simp only [awL]); omega)) only [QR, QS, QT, QU, QV, QW, QX, QY, QZ, Q0, Q1, Q2, row_sign, row_fracs, strs_unf, gs, ls, ls', lf, lf', ↓awU, awV, awF, Qa, Qb, Qc, Qd, forall_const, ↓reduceIte, ↓reduceDIte, ↓Qe, Qf, Qg, Qh, Qi, Qj, Qk, Ql, Qm, Qn, Qo, Qp, Qq, Qr, Qs, implies_true, Qt, Qu, Qv, Qw, Qx, Qy, Qz, QA, QB, QC, QD, QE, QF, QG, QH, QI, QJ, QK, QL, QM, QN, QO, QP, QQ]
        refine CallC.by (pick_spec t (k + 1 + 1 + 1 + 1) 6 ht (by decide) (by decide)) (by rfl) (by rfl) (Nat.le_refl _) ?_
        rw [hd]
        simp (config := { maxSteps := 1000000 }) (disch := ((try simp only [awL]); omega)) only [QR, QS, QT, QU, QV, QW, QX, QY, QZ, Q0, Q1, Q2, gs2, row_sign, row_fracs, strs_unf, gs, ls, ls', lf, lf', ↓awU, awV, awF, Qa, Qb, Qc, Qd, forall_const, ↓reduceIte, ↓reduceDIte, ↓Qe, Qf, Qg, Qh, Qi, Qj, Qk, Ql, Qm, Qn, Qo, Qp, Qq, Qr, Qs, implies_true, Qt, Qu, Qv, Qw, Qx, Qy, Qz, QA, QB, QC, QD, QE, QF, QG, QH, QI, QJ, QK, QL, QM, QN, QO, QP, QQ]
        first
        | exact ⟨[some 0], rfl, by simp, by simp [HWeak, BWeak, SWeak, AWeak], .inl (by simp [AWeak, SWeak])⟩
        | refine ⟨by rfl, ?_⟩
          exact ⟨[some 0], rfl, by simp, by simp [HWeak, BWeak, SWeak, AWeak], .inl (by simp [AWeak, SWeak])⟩
      · rw [if_neg h4] at tl ek
        rw [tl, ek]
        generalize pk t (k + 1 + 1 + 1) 3 = z at *
        simp (config := { maxSteps := 1000000 }) (disch := ((try simp only [awL]); omega)) only [QR, QS, QT, QU, QV, QW, QX, QY, QZ, Q0, Q1, Q2, row_sign, row_fracs, strs_unf, gs, ls, ls', lf, lf', ↓awU, awV, awF, Qa, Qb, Qc, Qd, forall_const, ↓reduceIte, ↓reduceDIte, ↓Qe, Qf, Qg, Qh, Qi, Qj, Qk, Ql, Qm, Qn, Qo, Qp, Qq, Qr, Qs, implies_true, Qt, Qu, Qv, Qw, Qx, Qy, Qz, QA, QB, QC, QD, QE, QF, QG, QH, QI, QJ, QK, QL, QM, QN, QO, QP, QQ]
        exact ⟨[some 0], rfl, by simp, by simp [HWeak, BWeak, SWeak, AWeak], .inl (by simp [AWeak, SWeak])⟩
    · by_cases c2 : 57 < (r1.getD 0 0).toNat
      · have c3 : notDig (r1.getD 0 0) = true := by unfold notDig; rw [decide_eq_true c2, Bool.or_true]
        have hr : r1 = num2 t k := by rw [e2, if_pos c3]
        have tl := tail (r1) hr
        have lr : (r1).length ≤ 4 := by rw [hr]; exact l2.2
        simp (config := { maxSteps := 1000000 }) (disch := ((try simp only [awL]); omega)) only [QR, QS, QT, QU, QV, QW, QX, QY, QZ, Q0, Q1, Q2, row_sign, row_fracs, strs_unf, gs, ls, ls', lf, lf', ↓awU, awV, awF, Qa, Qb, Qc, Qd, forall_const, ↓reduceIte, ↓reduceDIte, ↓Qe, Qf, Qg, Qh, Qi, Qj, Qk, Ql, Qm, Qn, Qo, Qp, Qq, Qr, Qs, implies_true, Qt, Qu, Qv, Qw, Qx, Qy, Qz, QA, QB, QC, QD, QE, QF, QG, QH, QI, QJ, QK, QL, QM, QN, QO, QP, QQ]
        refine CallC.by (pick_spec t (k + 1 + 1 + 1) 3 ht (by decide) (by decide)) (by rfl) (by rfl) (Nat.le_refl _) ?_
        by_cases h4 : pk t (k + 1 + 1 + 1) 3 = 0
        · rw [if_pos h4] at tl ek
          rw [h4, tl, ek]
          obtain ⟨d, hd, hd2⟩ := pk_nat t (k + 1 + 1 + 1 + 1) 6 (by decide)
          have gs2 := strs_getD (l := fracsL) (i := d) (by omega)
          have lg2 := get_len (l := fracsL) (m := 9) (by decide) d
          rw [hd, Int.toNat_natCast]
          simp (config := { maxSteps := 1000000 }) (disch := ((try simp only [awL]); omega)) only [QR, QS, QT, QU, QV, QW, QX, QY, QZ, Q0, Q1, Q2, row_sign, row_fracs, strs_unf, gs, ls, ls', lf, lf', ↓awU, awV, awF, Qa, Qb, Qc, Qd, forall_const, ↓reduceIte, ↓reduceDIte, ↓Qe, Qf, Qg, Qh, Qi, Qj, Qk, Ql, Qm, Qn, Qo, Qp, Qq, Qr, Qs, implies_true, Qt, Qu, Qv, Qw, Qx, Qy, Qz, QA, QB, QC, QD, QE, QF, QG, QH, QI, QJ, QK, QL, QM, QN, QO, QP, QQ]
          refine CallC.by (pick_spec t (k + 1 + 1 + 1 + 1) 6 ht (by decide) (by decide)) (by rfl) (by rfl) (Nat.le_refl _) ?_
          rw [hd]
          simp (config := { maxSteps := 1000000 }) (disch := ((try simp only [awL]); omega)) only [QR, QS, QT, QU, QV, QW, QX, QY, QZ, Q0, Q1, Q2, gs2, row_sign, row_fracs, strs_unf, gs, ls, ls', lf, lf', ↓awU, awV, awF, Qa, Qb, Qc, Qd, forall_const, ↓reduceIte, ↓reduceDIte, ↓Qe, Qf, Qg, Qh, Qi, Qj, Qk, Ql, Qm, Qn, Qo, Qp, Qq, Qr, Qs, implies_true, Qt, Qu, Qv, Qw, Qx, Qy, Qz, QA, QB, QC, QD, QE, QF, QG, QH, QI, QJ, QK, QL, QM, QN, QO, QP, QQ]
          first
          | exact ⟨[some 0], rfl, by simp, by simp [HWeak, BWeak, SWeak, AWeak], .inl (by simp [AWeak, SWeak])⟩
          | refine ⟨by rfl, ?_⟩
            exact ⟨[some 0], rfl, by simp, by simp [HWeak, BWeak, SWeak, AWeak], .inl (by simp [AWeak, SWeak])⟩
        · rw [if_neg h4] at tl ek
          rw [tl, ek]
          generalize pk t (k + 1 + 1 + 1) 3 = z at *
          simp (config := { maxSteps := 1000000 }) (disch := ((try simp only [awL]); omega)) only [QR, QS, QT, QU, QV, QW, QX, QY, QZ, Q0, Q1, Q2, row_sign, row_fracs, strs_unf, gs, ls, ls', lf, lf', ↓awU, awV, awF, Qa, Qb, Qc, Qd, forall_const, ↓reduceIte, ↓reduceDIte, ↓Qe, Qf, Qg, Qh, Qi, Qj, Qk, Ql, Qm, Qn, Qo, Qp, Qq, Qr, Qs, implies_true, Qt, Qu, Qv, Qw, Qx, Qy, Qz, QA, QB, QC, QD, QE, QF, QG, QH, QI, QJ, QK, QL, QM, QN, QO, QP, QQ]
          exact ⟨[some 0], rfl, by simp, by simp [HWeak, BWeak, SWeak, AWeak], .inl (by simp [AWeak, SWeak])⟩
      · have c3 : notDig (r1.getD 0 0) = false := by unfold notDig; rw [decide_eq_false c1, decide_eq_false c2]; rfl
        have hr : 48 :: r1 = num2 t k := by rw [e2, c3, if_neg Bool.false_ne_true]
        have tl := tail (48 :: r1) hr
        have lr : (48 :: r1).length ≤ 4 := by rw [hr]; exact l2.2
        simp (config := { maxSteps := 1000000 }) (disch := ((try simp only [awL]); omega)) only [QR, QS, QT, QU, QV, QW, QX, QY, QZ, Q0, Q1, Q2, row_sign, row_fracs, strs_unf, gs, ls, ls', lf, lf', ↓awU, awV, awF, Qa, Qb, Qc, Qd, forall_const, ↓reduceIte, ↓reduceDIte, ↓Qe, Qf, Qg, Qh, Qi, Qj, Qk, Ql, Qm, Qn, Qo, Qp, Qq, Qr, Qs, implies_true, Qt, Qu, Qv, Qw, Qx, Qy, Qz, QA, QB, QC, QD, QE, QF, QG, QH, QI, QJ, QK, QL, QM, QN, QO, QP, QQ]
        refine CallC.by (pick_spec t (k + 1 + 1 + 1) 3 ht (by decide) (by decide)) (by rfl) (by rfl) (Nat.le_refl _) ?_
        by_cases h4 : pk t (k + 1 + 1 + 1) 3 = 0
        · rw [if_pos h4] at tl ek
          rw [h4, tl, ek]
          obtain ⟨d, hd, hd2⟩ := pk_nat t (k + 1 + 1 + 1 + 1) 6 (by decide)
          have gs2 := strs_getD (l := fracsL) (i := d) (by omega)
          have lg2 := get_len (l := fracsL) (m := 9) (by decide) d
          rw [hd, Int.toNat_natCast]
          generalize hX : 48 :: r1 = X at *
          simp (config := { maxSteps := 1000000 }) (disch := ((try simp only [awL]); omega)) only [QR, QS, QT, QU, QV, QW, QX, QY, QZ, Q0, Q1, Q2, row_sign, row_fracs, strs_unf, gs, ls, ls', lf, lf', ↓awU, awV, awF, Qa, Qb, Qc, Qd, forall_const, ↓reduceIte, ↓reduceDIte, ↓Qe, Qf, Qg, Qh, Qi, Qj, Qk, Ql, Qm, Qn, Qo, Qp, Qq, Qr, Qs, implies_true, Qt, Qu, Qv, Qw, Qx, Qy, Qz, QA, QB, QC, QD, QE, QF, QG, QH, QI, QJ, QK, QL, QM, QN, QO, QP, QQ]
          refine CallC.by (pick_spec t (k + 1 + 1 + 1 + 1) 6 ht (by decide) (by decide)) (by rfl) (by rfl) (Nat.le_refl _) ?_
          rw [hd]
          simp (config := { maxSteps := 1000000 }) (disch := ((try simp only [awL]); omega)) only [QR, QS, QT, QU, QV, QW, QX, QY, QZ, Q0, Q1, Q2, gs2, row_sign, row_fracs, strs_unf, gs, ls, ls', lf, lf', ↓awU, awV, awF, Qa, Qb, Qc, Qd, forall_const, ↓reduceIte, ↓reduceDIte, ↓Qe, Qf, Qg, Qh, Qi, Qj, Qk, Ql, Qm, Qn, Qo, Qp, Qq, Qr, Qs, implies_true, Qt, Qu, Qv, Qw, Qx, Qy, Qz, QA, QB, QC, QD, QE, QF, QG, QH, QI, QJ, QK, QL, QM, QN, QO, QP, QQ]
          first
          | exact ⟨[some 0], rfl, by simp, by simp [HWeak, BWeak, SWeak, AWeak], .inl (by simp [AWeak, SWeak])⟩
          | refine ⟨by rfl, ?_⟩
            exact ⟨[some 0], rfl, by simp, by simp [HWeak, BWeak, SWeak, AWeak], .inl (by simp [AWeak, SWeak])⟩
        · rw [if_neg h4] at tl ek
          rw [tl, ek]
          generalize pk t (k + 1 + 1 + 1) 3 = z at *
          simp (config := { maxSteps := 1000000 }) (disch := ((try simp only [awL]); omega)) only [QR, QS, QT, QU, QV, QW, QX, QY, QZ, Q0, Q1, Q2, row_sign, row_fracs, strs_unf, gs, ls, ls', lf, lf', ↓awU, awV, awF, Qa, Qb, Qc, Qd, forall_const, ↓reduceIte, ↓reduceDIte, ↓Qe, Qf, Qg, Qh, Qi, Qj, Qk, Ql, Qm, Qn, Qo, Qp, Qq, Qr, Qs, implies_true, Qt, Qu, Qv, Qw, Qx, Qy, Qz, QA, QB, QC, QD, QE, QF, QG, QH, QI, QJ, QK, QL, QM, QN, QO, QP, QQ]
          exact ⟨[some 0], rfl, by simp, by simp [HWeak, BWeak, SWeak, AWeak], .inl (by simp [AWeak, SWeak])⟩
  · rw [if_neg h3] at e2
    generalize pk t (k + 1 + 1) 3 = z3 at *
    have hr : r1 = num2 t k := e2.symm
    have tl := tail (r1) hr
    have lr : (r1).length ≤ 4 := by rw [hr]; exact l2.2
    simp (config := { maxSteps := 1000000 }) (disch := ((try simp only [awL]); omega)) only [QR, QS, QT, QU, QV, QW, QX, QY, QZ, Q0, Q1, Q2, row_sign, row_fracs, strs_unf, gs, ls, ls', lf, lf', ↓awU, awV, awF, Qa, Qb, Qc, Qd, forall_const, ↓reduceIte, ↓reduceDIte, ↓Qe, Qf, Qg, Qh, Qi, Qj, Qk, Ql, Qm, Qn, Qo, Qp, Qq, Qr, Qs, implies_true, Qt, Qu, Qv, Qw, Qx, Qy, Qz, QA, QB, QC, QD, QE, QF, QG, QH, QI, QJ, QK, QL, QM, QN, QO, QP, QQ]
    refine CallC.by (pick_spec t (k + 1 + 1 + 1) 3 ht (by decide) (by decide)) (by rfl) (by rfl) (Nat.le_refl _) ?_
    by_cases h4 : pk t (k + 1 + 1 + 1) 3 = 0
    · rw [if_pos h4] at tl ek
      rw [h4, tl, ek]
      obtain ⟨d, hd, hd2⟩ := pk_nat t (k + 1 + 1 + 1 + 1) 6 (by decide)
      have gs2 := strs_getD (l := fracsL) (i := d) (by omega)
      have lg2 := get_len (l := fracsL) (m := 9) (by decide) d
      rw [hd, Int.toNat_natCast]
      simp (config := { maxSteps := 1000000 }) (disch := ((try simp only [awL]); omega)) only [QR, QS, QT, QU, QV, QW, QX, QY, QZ, Q0, Q1, Q2, row_sign, row_fracs, strs_unf, gs, ls, ls', lf, lf', ↓awU, awV, awF, Qa, Qb, Qc, Qd, forall_const, ↓reduceIte, ↓reduceDIte, ↓Qe, Qf, Qg, Qh, Qi, Qj, Qk, Ql, Qm, Qn, Qo, Qp, Qq, Qr, Qs, implies_true, Qt, Qu, Qv, Qw, Qx, Qy, Qz, QA, QB, QC, QD, QE, QF, QG, QH, QI, QJ, QK, QL, QM, QN, QO, QP, QQ]
      refine CallC.by (pick_spec t (k + 1 + 1 + 1 + 1) 6 ht (by decide) (by decide)) (by rfl) (by rfl) (Nat.le_refl _) ?_
      rw [hd]
      simp (config := { maxSteps := 1000000 }) (disch := ((try simp only [awL]); omega)) only [QR, QS, QT, QU, QV, QW, QX, QY, QZ, Q0, Q1, Q2, gs2, row_sign, row_fracs, strs_unf, gs, ls, ls', lf, lf', ↓awU, awV, awF, Qa, Qb, Qc, Qd, forall_const, ↓reduceIte, ↓reduceDIte, ↓Qe, Qf, Qg, Qh, Qi, Qj, Qk, Ql, Qm, Qn, Qo, Qp, Qq, Qr, Qs, implies_true, Qt, Qu, Qv, Qw, Qx, Qy, Qz, QA, QB, QC, QD, QE, QF, QG, QH, QI, QJ, QK, QL, QM, QN, QO, QP, QQ]
      first
      | exact ⟨[some 0], rfl, by simp, by simp [HWeak, BWeak, SWeak, AWeak], .inl (by simp [AWeak, SWeak])⟩
      | refine ⟨by rfl, ?_⟩
        exact ⟨[some 0], rfl, by simp, by simp [HWeak, BWeak, SWeak, AWeak], .inl (by simp [AWeak, SWeak])⟩
    · rw [if_neg h4] at tl ek
      rw [tl, ek]
      generalize pk t (k + 1 + 1 + 1) 3 = z at *
      simp (config := { maxSteps := 1000000 }) (disch := ((try simp only [awL]); omega)) only [QR, QS, QT, QU, QV, QW, QX, QY, QZ, Q0, Q1, Q2, row_sign, row_fracs, strs_unf, gs, ls, ls', lf, lf', ↓awU, awV, awF, Qa, Qb, Qc, Qd, forall_const, ↓reduceIte, ↓reduceDIte, ↓Qe, Qf, Qg, Qh, Qi, Qj, Qk, Ql, Qm, Qn, Qo, Qp, Qq, Qr, Qs, implies_true, Qt, Qu, Qv, Qw, Qx, Qy, Qz, QA, QB, QC, QD, QE, QF, QG, QH, QI, QJ, QK, QL, QM, QN, QO, QP, QQ]
      exact ⟨[some 0], rfl, by simp, by simp [HWeak, BWeak, SWeak, AWeak], .inl (by simp [AWeak, SWeak])⟩
end Go.Proofs.YtacepalmphbnfaaGreatDoor

namespace Go.Proofs.YtacepalmphbnfaaGreatDoor
open Go Go.Proofs Go.Abs
variable {G : Globals}
/-! The dice's dates, fields, grids of odd fields. -/
def yearsL : List (List UInt8) := [[50, 48, 50, 52], [49, 57, 57, 57], [50, 48, 50, 54], [49, 57, 48, 48], [48, 48, 48, 49], [57, 57, 57, 57]]
def monthsL : List (List UInt8) := [[48, 49], [48, 50], [49, 50], [49, 49], [49, 51]]
def daysL : List (List UInt8) := [[48, 49], [50, 56], [50, 57], [51, 48], [51, 49]]
def dateM (t : List Int) (k : Nat) : List UInt8 :=
  let y := yearsL.getD (pk t k 6).toNat []
  let m := monthsL.getD (pk t (k + 1) 5).toNat []
  let e := daysL.getD (pk t (k + 2) 5).toNat []
  if pk t (k + 3) 3 = 0 then y ++ [45] ++ m ++ [45] ++ e else if pk t (k + 3) 3 = 1 then y ++ [47] ++ m ++ [47] ++ e else e ++ [46] ++ m ++ [46] ++ y
theorem row_years : [D.str (bs [50, 48, 50, 52]), D.str (bs [49, 57, 57, 57]), D.str (bs [50, 48, 50, 54]), D.str (bs [49, 57, 48, 48]), D.str (bs [48, 48, 48, 49]), D.str (bs [57, 57, 57, 57])] = strs yearsL := rfl
theorem row_months : [D.str (bs [48, 49]), D.str (bs [48, 50]), D.str (bs [49, 50]), D.str (bs [49, 49]), D.str (bs [49, 51])] = strs monthsL := rfl
theorem row_days : [D.str (bs [48, 49]), D.str (bs [50, 56]), D.str (bs [50, 57]), D.str (bs [51, 48]), D.str (bs [51, 49])] = strs daysL := rfl
set_option maxHeartbeats 4000000 in
set_option maxRecDepth 100000 in
theorem date_spec (t : List Int) (k : Nat) (ht : OkM t) : Ctr Tryz.prog G 94 [.ptr 0 0] [DiceM t k] (.d (S (dateM t k))) [DiceM t (k + 4)] := by
  obtain ⟨r, hr⟩ : ∃ r, r = dateM t k := ⟨_, rfl⟩
  rw [← hr]
  unfold dateM at hr
  refine Ctr.body (M := M0) hmix Tryz.func94 rfl go94 ?_
  obtain ⟨a, ha, ha2⟩ := pk_nat t k 6 (by decide)
  obtain ⟨b, hb, hb2⟩ := pk_nat t (k + 1) 5 (by decide)
  obtain ⟨c, hc, hc2⟩ := pk_nat t (k + 2) 5 (by decide)
  obtain ⟨e, he, he2⟩ := pk_nat t (k + 3) 3 (by decide)
  rw [ha, hb, hc, he] at hr
  simp only [Int.toNat_natCast] at hr
  have l1 := @strs_length yearsL
  have l2 := @strs_length monthsL
  have l3 := @strs_length daysL
  have n1 : yearsL.length = 6 := rfl
  have n2 : monthsL.length = 5 := rfl
  have n3 : daysL.length = 5 := rfl
  have g1 := strs_getD (l := yearsL) (i := a) (by omega)
  have g2 := strs_getD (l := monthsL) (i := b) (by omega)
  have g3 := strs_getD (l := daysL) (i := c) (by omega)
  have s1 := get_len (l := yearsL) (m := 4) (by decide) a
  have s2 := get_len (l := monthsL) (m := 2) (by decide) b
  have s3 := get_len (l := daysL) (m := 2) (by decide) c
  generalize yearsL.getD a [] = y at *
  generalize monthsL.getD b [] = m at *
  generalize daysL.getD c [] = dd at *
  simp (config := { maxSteps := 1000000 }) (disch := ((try simp only [awL]); omega)) only [QR, QS, QT, QU, QV, QW, QX, QY, QZ, Q0, Q1, Q2, row_years, row_months, row_days, strs_unf, l1, l2, l3, n1, n2, n3, Tryz.f94, ↓awU, awV, awF, Qa, Qb, Qc, Qd, forall_const, ↓reduceIte, ↓reduceDIte, ↓Qe, Qf, Qg, Qh, Qi, Qj, Qk, Ql, Qm, Qn, Qo, Qp, Qq, Qr, Qs, implies_true, Qt, Qu, Qv, Qw, Qx, Qy, Qz, QA, QB, QC, QD, QE, QF, QG, QH, QI, QJ, QK, QL, QM, QN, QO, QP, QQ]
  refine CallC.by (pick_spec t k 6 ht (by decide) (by decide)) (by rfl) (by rfl) (Nat.le_refl _) ?_
  rw [ha]
  simp (config := { maxSteps := 1000000 }) (disch := ((try simp only [awL]); omega)) only [QR, QS, QT, QU, QV, QW, QX, QY, QZ, Q0, Q1, Q2, row_years, row_months, row_days, strs_unf, l1, l2, l3, n1, n2, n3, g1, ↓awU, awV, awF, Qa, Qb, Qc, Qd, forall_const, ↓reduceIte, ↓reduceDIte, ↓Qe, Qf, Qg, Qh, Qi, Qj, Qk, Ql, Qm, Qn, Qo, Qp, Qq, Qr, Qs, implies_true, Qt, Qu, Qv, Qw, Qx, Qy, Qz, QA, QB, QC, QD, QE, QF, QG, QH, QI, QJ, QK, QL, QM, QN, QO, QP, QQ]
  refine CallC.by (pick_spec t (k + 1) 5 ht (by decide) (by decide)) (by rfl) (by rfl) (Nat.le_refl _) ?_
  rw [hb]
  simp (config := { maxSteps := 1000000 }) (disch := ((try simp only [awL]); omega)) only [QR, QS, QT, QU, QV, QW, QX, QY, QZ, Q0, Q1, Q2, row_years, row_months, row_days, strs_unf, l1, l2, l3, n1, n2, n3, g2, ↓awU, awV, awF, Qa, Qb, Qc, Qd, forall_const, ↓reduceIte, ↓reduceDIte, ↓Qe, Qf, Qg, Qh, Qi, Qj, Qk, Ql, Qm, Qn, Qo, Qp, Qq, Qr, Qs, implies_true, Qt, Qu, Qv, Qw, Qx, Qy, Qz, QA, QB, QC, QD, QE, QF, QG, QH, QI, QJ, QK, QL, QM, QN, QO, QP, QQ]
  refine CallC.by (pick_spec t (k + 1 + 1) 5 ht (by decide) (by decide)) (by rfl) (by rfl) (Nat.le_refl _) ?_
  rw [hc]
  simp (config := { maxSteps := 1000000 }) (disch := ((try simp only [awL]); omega)) only [QR, QS, QT, QU, QV, QW, QX, QY, QZ, Q0, Q1, Q2, row_years, row_months, row_days, strs_unf, l1, l2, l3, n1, n2, n3, g3, ↓awU, awV, awF, Qa, Qb, Qc, Qd, forall_const, ↓reduceIte, ↓reduceDIte, ↓Qe, Qf, Qg, Qh, Qi, Qj, Qk, Ql, Qm, Qn, Qo, Qp, Qq, Qr, Qs, implies_true, Qt, Qu, Qv, Qw, Qx, Qy, Qz, QA, QB, QC, QD, QE, QF, QG, QH, QI, QJ, QK, QL, QM, QN, QO, QP, QQ]
  refine CallC.by (pick_spec t (k + 1 + 1 + 1) 3 ht (by decide) (by decide)) (by rfl) (by rfl) (Nat.le_refl _) ?_
  rw [he]
  rcases (by omega : e = 0 ∨ e = 1 ∨ e = 2) with rfl | rfl | rfl
  all_goals
    simp (config := { maxSteps := 1000000 }) (disch := ((try simp only [awL]); omega)) only [QR, QS, QT, QU, QV, QW, QX, QY, QZ, Q0, Q1, Q2, ↓awU, awV, awF, Qa, Qb, Qc, Qd, forall_const, ↓reduceIte, ↓reduceDIte, ↓Qe, Qf, Qg, Qh, Qi, Qj, Qk, Ql, Qm, Qn, Qo, Qp, Qq, Qr, Qs, implies_true, Qt, Qu, Qv, Qw, Qx, Qy, Qz, QA, QB, QC, QD, QE, QF, QG, QH, QI, QJ, QK, QL, QM, QN, QO, QP, QQ]
    rw [hr]
    exact ⟨[some 0], rfl, by simp, by simp [HWeak, BWeak, SWeak, AWeak], .inl (by simp [AWeak, SWeak])⟩
def boolsL : List (List UInt8) := [[121, 101, 115], [110, 111], [84, 82, 85, 69], [70, 97, 108, 115, 101], [32, 121, 101, 115, 32]]
theorem row_bools : [D.str (bs [121, 101, 115]), D.str (bs [110, 111]), D.str (bs [84, 82, 85, 69]), D.str (bs [70, 97, 108, 115, 101]), D.str (bs [32, 121, 101, 115, 32])] = strs boolsL := rfl
def unitsL : List (List UInt8) := [[32, 107, 103], [103], [32, 107, 109], [109], [32, 109, 105, 110], [37], [32, 109, 109]]
theorem row_units : [D.str (bs [32, 107, 103]), D.str (bs [103]), D.str (bs [32, 107, 109]), D.str (bs [109]), D.str (bs [32, 109, 105, 110]), D.str (bs [37]), D.str (bs [32, 109, 109])] = strs unitsL := rfl
def nullsL : List (List UInt8) := [[], [32], [78, 65], [45], [110, 111, 110, 101], [63], [110, 117, 108, 108]]
theorem row_nulls : [D.str (bs []), D.str (bs [32]), D.str (bs [78, 65]), D.str (bs [45]), D.str (bs [110, 111, 110, 101]), D.str (bs [63]), D.str (bs [110, 117, 108, 108])] = strs nullsL := rfl
def oddsL : List (List UInt8) := [[97, 44, 98], [34, 113, 34], [39], [120, 59, 121], [108, 10, 105], [99, 13, 114], [32, 112, 97, 100, 32], [9], [124], [], [195, 169], [123], [97, 34, 98], [13, 10]]
theorem row_odds : [D.str (bs [97, 44, 98]), D.str (bs [34, 113, 34]), D.str (bs [39]), D.str (bs [120, 59, 121]), D.str (bs [108, 10, 105]), D.str (bs [99, 13, 114]), D.str (bs [32, 112, 97, 100, 32]), D.str (bs [9]), D.str (bs [124]), D.str (bs []), D.str (bs [195, 169]), D.str (bs [123]), D.str (bs [97, 34, 98]), D.str (bs [13, 10])] = strs oddsL := rfl
def fieldM (t : List Int) (k c : Nat) : List UInt8 :=
  if c = 0 then wordsL.getD (pk t k 16).toNat [] else if c = 1 then numM t k else if c = 2 then dateM t k else if c = 3 then boolsL.getD (pk t k 5).toNat [] else
    if c = 4 then numM t k ++ unitsL.getD (pk t (numK t k) 7).toNat [] else if c = 5 then nullsL.getD (pk t k 7).toNat [] else oddsL.getD (pk t k 14).toNat []
def fieldK (t : List Int) (k c : Nat) : Nat := if c = 1 then numK t k else if c = 2 then k + 4 else if c = 4 then numK t k + 1 else k + 1
set_option maxHeartbeats 8000000 in
set_option maxRecDepth 100000 in
theorem field_mspec (t : List Int) (k c : Nat) (ht : OkM t) (hc : c ≤ 100) : Ctr Tryz.prog G 54 [.ptr 0 0, .d (.int .i64 c)] [DiceM t k] (.d (S (fieldM t k c))) [DiceM t (fieldK t k c)] := by
  obtain ⟨r, hr⟩ : ∃ r, r = fieldM t k c := ⟨_, rfl⟩
  obtain ⟨k2, hk⟩ : ∃ k2, k2 = fieldK t k c := ⟨_, rfl⟩
  rw [← hr, ← hk]
  unfold fieldM at hr
  unfold fieldK at hk
  refine Ctr.body (M := M0) hmix Tryz.func54 rfl go54 ?_
  rcases (by omega : c = 0 ∨ c = 1 ∨ c = 2 ∨ c = 3 ∨ c = 4 ∨ c = 5 ∨ 5 < c) with rfl | rfl | rfl | rfl | rfl | rfl | h
  · simp only [if_true, if_false, show ¬ (0 = 1) by decide, show ¬ (0 = 2) by decide, show ¬ (0 = 4) by decide] at hr hk
    subst hk
    obtain ⟨a, ha, ha2⟩ := pk_nat t k 16 (by decide)
    rw [ha] at hr
    simp only [Int.toNat_natCast] at hr
    have l1 := @strs_length wordsL
    have n1 : wordsL.length = 16 := rfl
    have g1 := strs_getD (l := wordsL) (i := a) (by omega)
    generalize wordsL.getD a [] = y at *
    simp (config := { maxSteps := 1000000 }) (disch := ((try simp only [awL]); omega)) only [QR, QS, QT, QU, QV, QW, QX, QY, QZ, Q0, Q1, Q2, strs_unf, l1, n1, Tryz.f54, ↓awU, awV, awF, Qa, Qb, Qc, Qd, forall_const, ↓reduceIte, ↓reduceDIte, ↓Qe, Qf, Qg, Qh, Qi, Qj, Qk, Ql, Qm, Qn, Qo, Qp, Qq, Qr, Qs, implies_true, Qt, Qu, Qv, Qw, Qx, Qy, Qz, QA, QB, QC, QD, QE, QF, QG, QH, QI, QJ, QK, QL, QM, QN, QO, QP, QQ]
    refine CallC.of words_spec (by rfl) ?_
    simp (config := { maxSteps := 1000000 }) (disch := ((try simp only [awL]); omega)) only [QR, QS, QT, QU, QV, QW, QX, QY, QZ, Q0, Q1, Q2, strs_unf, l1, n1, ↓awU, awV, awF, Qa, Qb, Qc, Qd, forall_const, ↓reduceIte, ↓reduceDIte, ↓Qe, Qf, Qg, Qh, Qi, Qj, Qk, Ql, Qm, Qn, Qo, Qp, Qq, Qr, Qs, implies_true, Qt, Qu, Qv, Qw, Qx, Qy, Qz, QA, QB, QC, QD, QE, QF, QG, QH, QI, QJ, QK, QL, QM, QN, QO, QP, QQ]
    refine CallC.of words_spec (by rfl) ?_
    simp (config := { maxSteps := 1000000 }) (disch := ((try simp only [awL]); omega)) only [QR, QS, QT, QU, QV, QW, QX, QY, QZ, Q0, Q1, Q2, strs_unf, l1, n1, ↓awU, awV, awF, Qa, Qb, Qc, Qd, forall_const, ↓reduceIte, ↓reduceDIte, ↓Qe, Qf, Qg, Qh, Qi, Qj, Qk, Ql, Qm, Qn, Qo, Qp, Qq, Qr, Qs, implies_true, Qt, Qu, Qv, Qw, Qx, Qy, Qz, QA, QB, QC, QD, QE, QF, QG, QH, QI, QJ, QK, QL, QM, QN, QO, QP, QQ]
    refine CallC.by (pick_spec t k 16 ht (by decide) (by decide)) (by rfl) (by rfl) (Nat.le_refl _) ?_
    rw [ha]
    simp (config := { maxSteps := 1000000 }) (disch := ((try simp only [awL]); omega)) only [QR, QS, QT, QU, QV, QW, QX, QY, QZ, Q0, Q1, Q2, strs_unf, l1, n1, g1, ↓awU, awV, awF, Qa, Qb, Qc, Qd, forall_const, ↓reduceIte, ↓reduceDIte, ↓Qe, Qf, Qg, Qh, Qi, Qj, Qk, Ql, Qm, Qn, Qo, Qp, Qq, Qr, Qs, implies_true, Qt, Qu, Qv, Qw, Qx, Qy, Qz, QA, QB, QC, QD, QE, QF, QG, QH, QI, QJ, QK, QL, QM, QN, QO, QP, QQ]
    rw [hr]
    exact ⟨[some 0], rfl, by simp, by simp [HWeak, BWeak, SWeak, AWeak], .inl (by simp [AWeak, SWeak])⟩
  · simp only [if_true, if_false, show ¬ (1 = 0) by decide] at hr hk
    subst hk hr
    simp (config := { maxSteps := 1000000 }) (disch := ((try simp only [awL]); omega)) only [QR, QS, QT, QU, QV, QW, QX, QY, QZ, Q0, Q1, Q2, Tryz.f54, ↓awU, awV, awF, Qa, Qb, Qc, Qd, forall_const, ↓reduceIte, ↓reduceDIte, ↓Qe, Qf, Qg, Qh, Qi, Qj, Qk, Ql, Qm, Qn, Qo, Qp, Qq, Qr, Qs, implies_true, Qt, Qu, Qv, Qw, Qx, Qy, Qz, QA, QB, QC, QD, QE, QF, QG, QH, QI, QJ, QK, QL, QM, QN, QO, QP, QQ]
    refine CallC.by (number_spec t k ht) (by rfl) (by rfl) (Nat.le_refl _) ?_
    simp (config := { maxSteps := 1000000 }) (disch := ((try simp only [awL]); omega)) only [QR, QS, QT, QU, QV, QW, QX, QY, QZ, Q0, Q1, Q2, ↓awU, awV, awF, Qa, Qb, Qc, Qd, forall_const, ↓reduceIte, ↓reduceDIte, ↓Qe, Qf, Qg, Qh, Qi, Qj, Qk, Ql, Qm, Qn, Qo, Qp, Qq, Qr, Qs, implies_true, Qt, Qu, Qv, Qw, Qx, Qy, Qz, QA, QB, QC, QD, QE, QF, QG, QH, QI, QJ, QK, QL, QM, QN, QO, QP, QQ]
    exact ⟨[some 0], rfl, by simp, by simp [HWeak, BWeak, SWeak, AWeak], .inl (by simp [AWeak, SWeak])⟩
  · simp only [if_true, if_false, show ¬ (2 = 0) by decide, show ¬ (2 = 1) by decide] at hr hk
    subst hk hr
    simp (config := { maxSteps := 1000000 }) (disch := ((try simp only [awL]); omega)) only [QR, QS, QT, QU, QV, QW, QX, QY, QZ, Q0, Q1, Q2, Tryz.f54, ↓awU, awV, awF, Qa, Qb, Qc, Qd, forall_const, ↓reduceIte, ↓reduceDIte, ↓Qe, Qf, Qg, Qh, Qi, Qj, Qk, Ql, Qm, Qn, Qo, Qp, Qq, Qr, Qs, implies_true, Qt, Qu, Qv, Qw, Qx, Qy, Qz, QA, QB, QC, QD, QE, QF, QG, QH, QI, QJ, QK, QL, QM, QN, QO, QP, QQ]
    refine CallC.by (date_spec t k ht) (by rfl) (by rfl) (Nat.le_refl _) ?_
    simp (config := { maxSteps := 1000000 }) (disch := ((try simp only [awL]); omega)) only [QR, QS, QT, QU, QV, QW, QX, QY, QZ, Q0, Q1, Q2, ↓awU, awV, awF, Qa, Qb, Qc, Qd, forall_const, ↓reduceIte, ↓reduceDIte, ↓Qe, Qf, Qg, Qh, Qi, Qj, Qk, Ql, Qm, Qn, Qo, Qp, Qq, Qr, Qs, implies_true, Qt, Qu, Qv, Qw, Qx, Qy, Qz, QA, QB, QC, QD, QE, QF, QG, QH, QI, QJ, QK, QL, QM, QN, QO, QP, QQ]
    exact ⟨[some 0], rfl, by simp, by simp [HWeak, BWeak, SWeak, AWeak], .inl (by simp [AWeak, SWeak])⟩
  · simp only [if_true, if_false, show ¬ (3 = 0) by decide, show ¬ (3 = 1) by decide, show ¬ (3 = 2) by decide, show ¬ (3 = 4) by decide] at hr hk
    subst hk
    obtain ⟨a, ha, ha2⟩ := pk_nat t k 5 (by decide)
    rw [ha] at hr
    simp only [Int.toNat_natCast] at hr
    have l1 := @strs_length boolsL
    have n1 : boolsL.length = 5 := rfl
    have g1 := strs_getD (l := boolsL) (i := a) (by omega)
    generalize boolsL.getD a [] = y at *
    simp (config := { maxSteps := 1000000 }) (disch := ((try simp only [awL]); omega)) only [QR, QS, QT, QU, QV, QW, QX, QY, QZ, Q0, Q1, Q2, row_bools, strs_unf, l1, n1, Tryz.f54, ↓awU, awV, awF, Qa, Qb, Qc, Qd, forall_const, ↓reduceIte, ↓reduceDIte, ↓Qe, Qf, Qg, Qh, Qi, Qj, Qk, Ql, Qm, Qn, Qo, Qp, Qq, Qr, Qs, implies_true, Qt, Qu, Qv, Qw, Qx, Qy, Qz, QA, QB, QC, QD, QE, QF, QG, QH, QI, QJ, QK, QL, QM, QN, QO, QP, QQ]
    refine CallC.by (pick_spec t k 5 ht (by decide) (by decide)) (by rfl) (by rfl) (Nat.le_refl _) ?_
    rw [ha]
    simp (config := { maxSteps := 1000000 }) (disch := ((try simp only [awL]); omega)) only [QR, QS, QT, QU, QV, QW, QX, QY, QZ, Q0, Q1, Q2, row_bools, strs_unf, l1, n1, g1, ↓awU, awV, awF, Qa, Qb, Qc, Qd, forall_const, ↓reduceIte, ↓reduceDIte, ↓Qe, Qf, Qg, Qh, Qi, Qj, Qk, Ql, Qm, Qn, Qo, Qp, Qq, Qr, Qs, implies_true, Qt, Qu, Qv, Qw, Qx, Qy, Qz, QA, QB, QC, QD, QE, QF, QG, QH, QI, QJ, QK, QL, QM, QN, QO, QP, QQ]
    rw [hr]
    exact ⟨[some 0], rfl, by simp, by simp [HWeak, BWeak, SWeak, AWeak], .inl (by simp [AWeak, SWeak])⟩
  · simp only [if_true, if_false, show ¬ (4 = 0) by decide, show ¬ (4 = 1) by decide, show ¬ (4 = 2) by decide, show ¬ (4 = 3) by decide] at hr hk
    have nl := (numM_len t k).2
    obtain ⟨a, ha, ha2⟩ := pk_nat t (numK t k) 7 (by decide)
    rw [ha] at hr
    simp only [Int.toNat_natCast] at hr
    have l1 := @strs_length unitsL
    have n1 : unitsL.length = 7 := rfl
    have g1 := strs_getD (l := unitsL) (i := a) (by omega)
    have s1 := get_len (l := unitsL) (m := 4) (by decide) a
    generalize unitsL.getD a [] = y at *
    simp (config := { maxSteps := 1000000 }) (disch := ((try simp only [awL]); omega)) only [QR, QS, QT, QU, QV, QW, QX, QY, QZ, Q0, Q1, Q2, row_units, strs_unf, l1, n1, Tryz.f54, ↓awU, awV, awF, Qa, Qb, Qc, Qd, forall_const, ↓reduceIte, ↓reduceDIte, ↓Qe, Qf, Qg, Qh, Qi, Qj, Qk, Ql, Qm, Qn, Qo, Qp, Qq, Qr, Qs, implies_true, Qt, Qu, Qv, Qw, Qx, Qy, Qz, QA, QB, QC, QD, QE, QF, QG, QH, QI, QJ, QK, QL, QM, QN, QO, QP, QQ]
    refine CallC.by (number_spec t k ht) (by rfl) (by rfl) (Nat.le_refl _) ?_
    generalize numK t k = kk at *
    generalize numM t k = nn at *
    subst hk
    simp (config := { maxSteps := 1000000 }) (disch := ((try simp only [awL]); omega)) only [QR, QS, QT, QU, QV, QW, QX, QY, QZ, Q0, Q1, Q2, row_units, strs_unf, l1, n1, ↓awU, awV, awF, Qa, Qb, Qc, Qd, forall_const, ↓reduceIte, ↓reduceDIte, ↓Qe, Qf, Qg, Qh, Qi, Qj, Qk, Ql, Qm, Qn, Qo, Qp, Qq, Qr, Qs, implies_true, Qt, Qu, Qv, Qw, Qx, Qy, Qz, QA, QB, QC, QD, QE, QF, QG, QH, QI, QJ, QK, QL, QM, QN, QO, QP, QQ]
    refine CallC.by (pick_spec t kk 7 ht (by decide) (by decide)) (by rfl) (by rfl) (Nat.le_refl _) ?_
    rw [ha]
    simp (config := { maxSteps := 1000000 }) (disch := ((try simp only [awL]); omega)) only [QR, QS, QT, QU, QV, QW, QX, QY, QZ, Q0, Q1, Q2, row_units, strs_unf, l1, n1, g1, ↓awU, awV, awF, Qa, Qb, Qc, Qd, forall_const, ↓reduceIte, ↓reduceDIte, ↓Qe, Qf, Qg, Qh, Qi, Qj, Qk, Ql, Qm, Qn, Qo, Qp, Qq, Qr, Qs, implies_true, Qt, Qu, Qv, Qw, Qx, Qy, Qz, QA, QB, QC, QD, QE, QF, QG, QH, QI, QJ, QK, QL, QM, QN, QO, QP, QQ]
    rw [hr]
    first | exact ⟨[some 0], rfl, by simp, by simp [HWeak, BWeak, SWeak, AWeak], .inl (by simp [AWeak, SWeak])⟩ | (refine ⟨by rfl, ?_⟩; exact ⟨[some 0], rfl, by simp, by simp [HWeak, BWeak, SWeak, AWeak], .inl (by simp [AWeak, SWeak])⟩)
  · simp only [if_true, if_false, show ¬ (5 = 0) by decide, show ¬ (5 = 1) by decide, show ¬ (5 = 2) by decide, show ¬ (5 = 3) by decide, show ¬ (5 = 4) by decide] at hr hk
    subst hk
    obtain ⟨a, ha, ha2⟩ := pk_nat t k 7 (by decide)
    rw [ha] at hr
    simp only [Int.toNat_natCast] at hr
    have l1 := @strs_length nullsL
    have n1 : nullsL.length = 7 := rfl
    have g1 := strs_getD (l := nullsL) (i := a) (by omega)
    generalize nullsL.getD a [] = y at *
    simp (config := { maxSteps := 1000000 }) (disch := ((try simp only [awL]); omega)) only [QR, QS, QT, QU, QV, QW, QX, QY, QZ, Q0, Q1, Q2, row_nulls, strs_unf, l1, n1, Tryz.f54, ↓awU, awV, awF, Qa, Qb, Qc, Qd, forall_const, ↓reduceIte, ↓reduceDIte, ↓Qe, Qf, Qg, Qh, Qi, Qj, Qk, Ql, Qm, Qn, Qo, Qp, Qq, Qr, Qs, implies_true, Qt, Qu, Qv, Qw, Qx, Qy, Qz, QA, QB, QC, QD, QE, QF, QG, QH, QI, QJ, QK, QL, QM, QN, QO, QP, QQ]
    refine CallC.by (pick_spec t k 7 ht (by decide) (by decide)) (by rfl) (by rfl) (Nat.le_refl _) ?_
    rw [ha]
    simp (config := { maxSteps := 1000000 }) (disch := ((try simp only [awL]); omega)) only [QR, QS, QT, QU, QV, QW, QX, QY, QZ, Q0, Q1, Q2, row_nulls, strs_unf, l1, n1, g1, ↓awU, awV, awF, Qa, Qb, Qc, Qd, forall_const, ↓reduceIte, ↓reduceDIte, ↓Qe, Qf, Qg, Qh, Qi, Qj, Qk, Ql, Qm, Qn, Qo, Qp, Qq, Qr, Qs, implies_true, Qt, Qu, Qv, Qw, Qx, Qy, Qz, QA, QB, QC, QD, QE, QF, QG, QH, QI, QJ, QK, QL, QM, QN, QO, QP, QQ]
    rw [hr]
    exact ⟨[some 0], rfl, by simp, by simp [HWeak, BWeak, SWeak, AWeak], .inl (by simp [AWeak, SWeak])⟩
  · simp only [if_false, show ¬ c = 0 by omega, show ¬ c = 1 by omega, show ¬ c = 2 by omega, show ¬ c = 3 by omega, show ¬ c = 4 by omega, show ¬ c = 5 by omega] at hr hk
    subst hk
    obtain ⟨a, ha, ha2⟩ := pk_nat t k 14 (by decide)
    rw [ha] at hr
    simp only [Int.toNat_natCast] at hr
    have l1 := @strs_length oddsL
    have n1 : oddsL.length = 14 := rfl
    have g1 := strs_getD (l := oddsL) (i := a) (by omega)
    generalize oddsL.getD a [] = y at *
    simp (config := { maxSteps := 1000000 }) (disch := ((try simp only [awL]); omega)) only [QR, QS, QT, QU, QV, QW, QX, QY, QZ, Q0, Q1, Q2, row_odds, strs_unf, l1, n1, Tryz.f54, ↓awU, awV, awF, Qa, Qb, Qc, Qd, forall_const, ↓reduceIte, ↓reduceDIte, ↓Qe, Qf, Qg, Qh, Qi, Qj, Qk, Ql, Qm, Qn, Qo, Qp, Qq, Qr, Qs, implies_true, Qt, Qu, Qv, Qw, Qx, Qy, Qz, QA, QB, QC, QD, QE, QF, QG, QH, QI, QJ, QK, QL, QM, QN, QO, QP, QQ]
    refine CallC.by (pick_spec t k 14 ht (by decide) (by decide)) (by rfl) (by rfl) (Nat.le_refl _) ?_
    rw [ha]
    simp (config := { maxSteps := 1000000 }) (disch := ((try simp only [awL]); omega)) only [QR, QS, QT, QU, QV, QW, QX, QY, QZ, Q0, Q1, Q2, row_odds, strs_unf, l1, n1, g1, ↓awU, awV, awF, Qa, Qb, Qc, Qd, forall_const, ↓reduceIte, ↓reduceDIte, ↓Qe, Qf, Qg, Qh, Qi, Qj, Qk, Ql, Qm, Qn, Qo, Qp, Qq, Qr, Qs, implies_true, Qt, Qu, Qv, Qw, Qx, Qy, Qz, QA, QB, QC, QD, QE, QF, QG, QH, QI, QJ, QK, QL, QM, QN, QO, QP, QQ]
    rw [hr]
    exact ⟨[some 0], rfl, by simp, by simp [HWeak, BWeak, SWeak, AWeak], .inl (by simp [AWeak, SWeak])⟩
end Go.Proofs.YtacepalmphbnfaaGreatDoor

namespace Go.Proofs.YtacepalmphbnfaaGreatDoor
open Go Go.Proofs Go.Abs
variable {G : Globals}
/-! The dice's grids of odd fields. -/
end Go.Proofs.YtacepalmphbnfaaGreatDoor

namespace Go.Proofs.YtacepalmphbnfaaGreatDoor
open Go Go.Proofs Go.Abs Go.RowKit Go.Shelf
variable {G : Globals}
/-! Texts: repeated, their runes counted, their ends cut. -/
end Go.Proofs.YtacepalmphbnfaaGreatDoor

namespace Go.Proofs.YtacepalmphbnfaaGreatDoor
open Go Go.Proofs Go.Abs
variable {G : Globals}
/-! The lines of a text. -/
theorem cutR_lt {c : UInt8} : ∀ {s : List UInt8}, c ∈ s → (cutR c s).length < s.length
  | b :: l, h => by
    by_cases e : b = c
    · simp [cutR, e]
    · have := cutR_lt ((List.mem_cons.1 h).resolve_left fun x => e x.symm)
      simp only [cutR, e, if_false, List.length_cons]; omega
theorem cut_len {c : UInt8} : ∀ {s : List UInt8}, c ∈ s → (cutL c s).length + 1 + (cutR c s).length = s.length
  | b :: l, h => by
    by_cases e : b = c
    · simp [cutR, cutL, e]; omega
    · have := cut_len ((List.mem_cons.1 h).resolve_left fun x => e x.symm)
      simp only [cutR, cutL, e, if_false, List.length_cons]; omega
def MY : Muts := fun k => k == 3000000
theorem MY_n {k : Nat} (h : k < 3000000) : MY k = false := by
  simp only [MY, beq_eq_false_iff_ne]; exact Nat.ne_of_lt h
theorem Tdo_cons {x : D} {r : List D} {t : List (D × Bool)} (h : Tdo (x :: r) t) : (∃ t', t = (x, true) :: t' ∧ Tdo r t') ∨ t = [(x, false)] := by
  match t, h with
  | (z, true) :: t, h => exact .inl ⟨t, by rw [h.1], h.2⟩
  | (z, false) :: t, h => exact .inr (by rw [h.1, h.2])
theorem Tdo_nil {t : List (D × Bool)} (h : Tdo [] t) : t = [] := by
  match t, h with
  | [], _ => rfl
theorem strs_get {l : List (List UInt8)} {i : Nat} {x : D} (h : (strs l)[i]? = some x) : ∃ y, l[i]? = some y ∧ x = S y := by
  simp only [strs, List.getElem?_map] at h
  cases e : l[i]? with
  | none => simp [e] at h
  | some y => simp [e] at h; exact ⟨y, rfl, h.symm⟩
end Go.Proofs.YtacepalmphbnfaaGreatDoor

namespace Go.Proofs.YtacepalmphbnfaaGreatDoor
open Go Go.Proofs Go.Abs
variable {G : Globals}
/-! The reference's lines. -/
theorem cut_at {c : UInt8} : ∀ {t : List UInt8} {k : Nat}, k < t.length → t.getD k 0 = c → c ∉ t.take k → cutL c t = t.take k ∧ cutR c t = t.drop (k + 1) ∧ c ∈ t
  | b :: t, 0, _, h2, _ => by
    simp at h2
    simp [cutL, cutR, h2]
  | b :: t, k + 1, h1, h2, h3 => by
    have hb : ¬ b = c := fun e => h3 (by simp [e])
    obtain ⟨i1, i2, i3⟩ := cut_at (c := c) (t := t) (k := k) (by simpa using h1) (by simpa using h2) (fun hm => h3 (by simp [hm]))
    simp [cutL, cutR, hb, i1, i2, i3]
theorem take_snoc {s : List UInt8} {a i : Nat} (h1 : a ≤ i) (h2 : i < s.length) : (s.take (i + 1)).drop a = (s.take i).drop a ++ [s.getD i 0] := by
  rw [List.take_add_one, List.drop_append_of_le_length (by simp; omega), List.getElem?_eq_getElem h2, List.getD_eq_getElem?_getD, List.getElem?_eq_getElem h2]
  rfl
end Go.Proofs.YtacepalmphbnfaaGreatDoor

namespace Go.Proofs.YtacepalmphbnfaaGreatDoor
open Go Go.Proofs Go.Abs
variable {G : Globals}
/-! The places of a text's code points; fixed.offsets. -/
end Go.Proofs.YtacepalmphbnfaaGreatDoor

namespace Go.Proofs.YtacepalmphbnfaaGreatDoor
open Go Go.Proofs Go.Abs
variable {G : Globals}
/-! The fields of a line: fixed.fields and its closures. -/
end Go.Proofs.YtacepalmphbnfaaGreatDoor

namespace Go.Proofs.YtacepalmphbnfaaGreatDoor
open Go Go.Proofs Go.Abs
variable {G : Globals}
/-! The fields of a line, collected. -/
end Go.Proofs.YtacepalmphbnfaaGreatDoor

namespace Go.Proofs.YtacepalmphbnfaaGreatDoor
open Go Go.Proofs Go.Abs
variable {G : Globals}
/-! Which lists are layouts. -/
end Go.Proofs.YtacepalmphbnfaaGreatDoor

namespace Go.Proofs.YtacepalmphbnfaaGreatDoor
open Go Go.Proofs Go.Abs
variable {G : Globals}
/-! fixed.Parse. -/
def gridE (x : List Row × Nat) : D := .tup [.agg [Gr x.1 false], .int .i64 x.2]
end Go.Proofs.YtacepalmphbnfaaGreatDoor

namespace Go.Proofs.YtacepalmphbnfaaGreatDoor
open Go Go.Proofs Go.Abs
variable {G : Globals}
/-! The reference's Trim. -/
theorem trimR_cons (x c : UInt8) (t : List UInt8) : Lib.trimRightB (x :: t) c = if Lib.trimRightB t c = [] ∧ x = c then [] else x :: Lib.trimRightB t c := by
  unfold Lib.trimRightB
  rw [List.reverse_cons, List.dropWhile_append]
  cases h : (t.reverse.dropWhile (· == c)).isEmpty
  · have hn : ¬ t.reverse.dropWhile (· == c) = [] := by intro e; rw [e] at h; cases h
    rw [if_neg (by decide), if_neg (by rintro ⟨e, _⟩; exact hn (by simpa using e))]
    simp
  · have hn : t.reverse.dropWhile (· == c) = [] := List.isEmpty_iff.1 h
    rw [if_pos rfl, hn]
    by_cases hx : x = c
    · simp [List.dropWhile, hx]
    · have hb : (x == c) = false := by simpa using hx
      simp [List.dropWhile, hx, hb]
theorem trim_comm (c : UInt8) : ∀ l : List UInt8, Lib.trimRightB (Lib.trimLeftB l c) c = Lib.trimB l c
  | [] => rfl
  | x :: t => by
    by_cases hx : x = c
    · have e : Lib.trimLeftB (x :: t) c = Lib.trimLeftB t c := by simp [Lib.trimLeftB, List.dropWhile, hx]
      rw [e, trim_comm c t, Lib.trimB, Lib.trimB, trimR_cons]
      by_cases h2 : Lib.trimRightB t c = []
      · rw [if_pos ⟨h2, hx⟩, h2]
      · rw [if_neg (fun h => h2 h.1)]
        simp [Lib.trimLeftB, List.dropWhile, hx]
    · have hb : (x == c) = false := by simpa using hx
      have e : Lib.trimLeftB (x :: t) c = x :: t := by simp [Lib.trimLeftB, List.dropWhile, hb]
      rw [e, Lib.trimB, trimR_cons, if_neg (fun h => hx h.2)]
      simp [Lib.trimLeftB, List.dropWhile, hb]
theorem trimR_snoc (c : UInt8) (q : List UInt8) : Lib.trimRightB (q ++ [c]) c = Lib.trimRightB q c := by
  simp [Lib.trimRightB, List.dropWhile]
theorem trimR_stop {b c : UInt8} {q : List UInt8} (h : ¬ b = c) : Lib.trimRightB (q ++ [b]) c = q ++ [b] := by
  simp [Lib.trimRightB, List.dropWhile, h]
set_option maxHeartbeats 4000000 in
set_option maxRecDepth 100000 in
theorem rtrim_spec (s : List UInt8) (hs : s.length ≤ 9223372036854775807) : Ctr Tryz.prog G 51 [.d (S s)] [] (.d (S (Lib.trimB s 32))) [] := by
  rw [← trim_comm]
  obtain ⟨r, hr⟩ : ∃ r, r = Lib.trimRightB (Lib.trimLeftB s 32) 32 := ⟨_, rfl⟩
  rw [← hr]
  refine Ctr.pure (M := M0) hmix Tryz.func51 rfl go51 ?_
  simp (config := { maxSteps := 1000000 }) (disch := ((try simp only [awL]); omega)) only [QR, QS, QT, QU, QV, QW, QX, QY, QZ, Q0, Q1, Q2, Tryz.f51, ↓awU, awV, awF, Qa, Qb, Qc, Qd, forall_const, ↓reduceIte, ↓reduceDIte, ↓Qe, Qf, Qg, Qh, Qi, Qj, Qk, Ql, Qm, Qn, Qo, Qp, Qq, Qr, Qs, implies_true, Qt, Qu, Qv, Qw, Qx, Qy, Qz, QA, QB, QC, QD, QE, QF, QG, QH, QI, QJ, QK, QL, QM, QN, QO, QP, QQ]
  refine LoopC.fx 0 (α := List UInt8) (β := List UInt8) (fun x => x.length) (fun x => [(0, .d (S x))]) (fun _ => []) (fun x => x.length ≤ 9223372036854775807 ∧ Lib.trimLeftB s 32 = Lib.trimLeftB x 32) 0 (fun y => [(0, .d (S y))]) (fun _ => []) (fun y => y.length ≤ 9223372036854775807 ∧ r = Lib.trimRightB y 32) s ⟨hs, rfl⟩ ?_ ?_ ?_
  · exact ⟨[], rfl, by simp, by simp [setsA, keepA, SWeak, AWeak], by simp [HWeak, BWeak, SWeak, AWeak]⟩
  · rintro x ⟨h1, h2⟩
    simp only [awK, Nat.reduceMod, Nat.reduceDiv, reduceIte]
    rcases x with _ | ⟨b, t⟩
    · simp (config := { maxSteps := 1000000 }) (disch := ((try simp only [awL]); omega)) only [QR, QS, QT, QU, QV, QW, QX, QY, QZ, Q0, Q1, Q2, List.length_nil, ↓awU, awV, awF, Qa, Qb, Qc, Qd, forall_const, ↓reduceIte, ↓reduceDIte, ↓Qe, Qf, Qg, Qh, Qi, Qj, Qk, Ql, Qm, Qn, Qo, Qp, Qq, Qr, Qs, implies_true, Qt, Qu, Qv, Qw, Qx, Qy, Qz, QA, QB, QC, QD, QE, QF, QG, QH, QI, QJ, QK, QL, QM, QN, QO, QP, QQ]
      exact ⟨[], ⟨Nat.zero_le _, by rw [hr, h2]; rfl⟩, ⟨[], rfl, by simp, by simp [setsA, keepA, SWeak, AWeak], by simp [HWeak, BWeak, SWeak, AWeak]⟩⟩
    · have gb : (b :: t).getD 0 0 = b := rfl
      simp only [List.length_cons] at h1
      by_cases hb : b = 32
      · have hbn : b.toNat = 32 := by rw [hb]; rfl
        simp (config := { maxSteps := 1000000 }) (disch := ((try simp only [awL]); omega)) only [QR, QS, QT, QU, QV, QW, QX, QY, QZ, Q0, Q1, Q2, List.length_cons, gb, hbn, ↓awU, awV, awF, Qa, Qb, Qc, Qd, forall_const, ↓reduceIte, ↓reduceDIte, ↓Qe, Qf, Qg, Qh, Qi, Qj, Qk, Ql, Qm, Qn, Qo, Qp, Qq, Qr, Qs, implies_true, Qt, Qu, Qv, Qw, Qx, Qy, Qz, QA, QB, QC, QD, QE, QF, QG, QH, QI, QJ, QK, QL, QM, QN, QO, QP, QQ]
        exact ⟨t, ⟨by omega, by rw [h2, hb]; rfl⟩, by simp, ⟨[], rfl, by simp, by simp [setsA, keepA, SWeak, AWeak], by simp [HWeak, BWeak, SWeak, AWeak]⟩⟩
      · have hbn : ¬ b.toNat = 32 := fun e => hb (UInt8.toNat_inj.1 e)
        have hb2 : (b == 32) = false := by simpa using hb
        simp (config := { maxSteps := 1000000 }) (disch := ((try simp only [awL]); omega)) only [QR, QS, QT, QU, QV, QW, QX, QY, QZ, Q0, Q1, Q2, List.length_cons, gb, hbn, ↓awU, awV, awF, Qa, Qb, Qc, Qd, forall_const, ↓reduceIte, ↓reduceDIte, ↓Qe, Qf, Qg, Qh, Qi, Qj, Qk, Ql, Qm, Qn, Qo, Qp, Qq, Qr, Qs, implies_true, Qt, Qu, Qv, Qw, Qx, Qy, Qz, QA, QB, QC, QD, QE, QF, QG, QH, QI, QJ, QK, QL, QM, QN, QO, QP, QQ]
        exact ⟨b :: t, ⟨by simp only [List.length_cons]; omega, by rw [hr, h2]; simp [Lib.trimLeftB, List.dropWhile, hb2]⟩, ⟨[], rfl, by simp, by simp [setsA, keepA, SWeak, AWeak], by simp [HWeak, BWeak, SWeak, AWeak]⟩⟩
  · rintro y ⟨h1, h2⟩
    simp only [awK, Nat.reduceMod, Nat.reduceDiv, reduceIte]
    simp (config := { maxSteps := 1000000 }) (disch := ((try simp only [awL]); omega)) only [QR, QS, QT, QU, QV, QW, QX, QY, QZ, Q0, Q1, Q2, ↓awU, awV, awF, Qa, Qb, Qc, Qd, forall_const, ↓reduceIte, ↓reduceDIte, ↓Qe, Qf, Qg, Qh, Qi, Qj, Qk, Ql, Qm, Qn, Qo, Qp, Qq, Qr, Qs, implies_true, Qt, Qu, Qv, Qw, Qx, Qy, Qz, QA, QB, QC, QD, QE, QF, QG, QH, QI, QJ, QK, QL, QM, QN, QO, QP, QQ]
    refine LoopC.fr 0 (α := List UInt8) (fun x => x.length) (fun x => [(0, .d (S x))]) (fun _ => []) (fun x => x.length ≤ 9223372036854775807 ∧ r = Lib.trimRightB x 32) y ⟨h1, h2⟩ ?_ ?_
    · exact ⟨[], rfl, by simp, by simp [setsA, keepA, SWeak, AWeak], by simp [HWeak, BWeak, SWeak, AWeak]⟩
    · rintro x ⟨h3, h4⟩
      simp only [awK, Nat.reduceMod, Nat.reduceDiv, reduceIte]
      rcases List.eq_nil_or_concat x with rfl | ⟨q, b, rfl⟩
      · simp (config := { maxSteps := 1000000 }) (disch := ((try simp only [awL]); omega)) only [QR, QS, QT, QU, QV, QW, QX, QY, QZ, Q0, Q1, Q2, List.length_nil, ↓awU, awV, awF, Qa, Qb, Qc, Qd, forall_const, ↓reduceIte, ↓reduceDIte, ↓Qe, Qf, Qg, Qh, Qi, Qj, Qk, Ql, Qm, Qn, Qo, Qp, Qq, Qr, Qs, implies_true, Qt, Qu, Qv, Qw, Qx, Qy, Qz, QA, QB, QC, QD, QE, QF, QG, QH, QI, QJ, QK, QL, QM, QN, QO, QP, QQ]
        rw [h4]; rfl
      · simp only [List.concat_eq_append] at h3 h4 ⊢
        have hl : (q ++ [b]).length = q.length + 1 := by simp
        have gb : (q ++ [b]).getD q.length 0 = b := by simp [List.getD_eq_getElem?_getD]
        have tq : (q ++ [b]).take q.length = q := by simp
        rw [hl] at h3
        by_cases hb : b = 32
        · have hbn : b.toNat = 32 := by rw [hb]; rfl
          rw [hb, trimR_snoc] at h4
          simp (config := { maxSteps := 1000000 }) (disch := ((try simp only [awL]); omega)) only [QR, QS, QT, QU, QV, QW, QX, QY, QZ, Q0, Q1, Q2, hl, gb, tq, hbn, ↓awU, awV, awF, Qa, Qb, Qc, Qd, forall_const, ↓reduceIte, ↓reduceDIte, ↓Qe, Qf, Qg, Qh, Qi, Qj, Qk, Ql, Qm, Qn, Qo, Qp, Qq, Qr, Qs, implies_true, Qt, Qu, Qv, Qw, Qx, Qy, Qz, QA, QB, QC, QD, QE, QF, QG, QH, QI, QJ, QK, QL, QM, QN, QO, QP, QQ]
          exact ⟨q, ⟨by omega, h4⟩, by simp, ⟨[], rfl, by simp, by simp [setsA, keepA, SWeak, AWeak], by simp [HWeak, BWeak, SWeak, AWeak]⟩⟩
        · have hbn : ¬ b.toNat = 32 := fun e => hb (UInt8.toNat_inj.1 e)
          rw [trimR_stop hb] at h4
          simp (config := { maxSteps := 1000000 }) (disch := ((try simp only [awL]); omega)) only [QR, QS, QT, QU, QV, QW, QX, QY, QZ, Q0, Q1, Q2, hl, gb, tq, hbn, ↓awU, awV, awF, Qa, Qb, Qc, Qd, forall_const, ↓reduceIte, ↓reduceDIte, ↓Qe, Qf, Qg, Qh, Qi, Qj, Qk, Ql, Qm, Qn, Qo, Qp, Qq, Qr, Qs, implies_true, Qt, Qu, Qv, Qw, Qx, Qy, Qz, QA, QB, QC, QD, QE, QF, QG, QH, QI, QJ, QK, QL, QM, QN, QO, QP, QQ]
          rw [h4]
end Go.Proofs.YtacepalmphbnfaaGreatDoor

namespace Go.Proofs.YtacepalmphbnfaaGreatDoor
open Go Go.Proofs Go.Abs
/-! The code points of a text, and the bytes that they stand for. -/
end Go.Proofs.YtacepalmphbnfaaGreatDoor

namespace Go.Proofs.YtacepalmphbnfaaGreatDoor
open Go Go.Proofs Go.Abs
variable {G : Globals}
/-! The reference's fields. -/
end Go.Proofs.YtacepalmphbnfaaGreatDoor

namespace Go.Proofs.YtacepalmphbnfaaGreatDoor
open Go Go.Proofs Go.Abs
variable {G : Globals}
/-! The lines of a valid text are valid; the reference's Parse. -/
end Go.Proofs.YtacepalmphbnfaaGreatDoor

namespace Go.Proofs.YtacepalmphbnfaaGreatDoor
open Go Go.Proofs Go.Abs
variable {G : Globals}
/-! Which grids may be written in a layout: fixed.check. -/
theorem getD_some {α : Type} {l : List α} {i : Nat} {d : α} (h : i < l.length) : l[i]? = some (l.getD i d) := by
  rw [List.getD_eq_getElem?_getD, List.getElem?_eq_getElem h]; rfl
end Go.Proofs.YtacepalmphbnfaaGreatDoor

namespace Go.Proofs.YtacepalmphbnfaaGreatDoor
open Go Go.Proofs Go.Abs
variable {G : Globals}
/-! Equal rows of numbers; whether a text is in a list. -/
end Go.Proofs.YtacepalmphbnfaaGreatDoor

namespace Go.Proofs.YtacepalmphbnfaaGreatDoor
open Go Go.Proofs Go.Abs
variable {G : Globals}
/-! The blank places of a file: fixed.blanks. -/
def bools (l : List Bool) : List D := l.map .bool
theorem bools_length {l : List Bool} : (bools l).length = l.length := by simp [bools]
theorem bools_getD {l : List Bool} {i : Nat} {d : D} (h : i < l.length) : (bools l).getD i d = .bool (l.getD i false) := by
  simp [bools, List.getD_eq_getElem?_getD, h]
theorem bools_set {l : List Bool} {i : Nat} {b : Bool} : (bools l).set i (.bool b) = bools (l.set i b) := by simp [bools, List.map_set]
end Go.Proofs.YtacepalmphbnfaaGreatDoor

namespace Go.Proofs.YtacepalmphbnfaaGreatDoor
open Go Go.Proofs Go.Abs
variable {G : Globals}
/-! fixed.Infer. -/
end Go.Proofs.YtacepalmphbnfaaGreatDoor

namespace Go.Proofs.YtacepalmphbnfaaGreatDoor
open Go Go.Proofs Go.Abs Go.RowKit Go.Shelf
variable {G : Globals}
/-! strings.Join, out of the kit's contract. -/
def Tryz.laysJoin_ren : Go.Shelf.Ren := ⟨fun | 156 => 80 | 165 => 113 | 166 => 70 | 169 => 75 | 240 => 110 | 241 => 147 | 276 => 143 | 277 => 182 | n => n, fun | 31 => 35 | 9 => 9 | 3 => 3 | 4 => 4 | 0 => 0 | 20 => 20 | 72 => 98 | 76 => 101 | 70 => 96 | 37 => 22 | 75 => 100 | 127 => 137 | 164 => 167 | 5 => 5 | 80 => 107 | n => n, fun | n => n⟩
theorem Tryz.laysJoin : Go.Proofs.Lays.n156 Tryz.prog Tryz.laysJoin_ren where
  mixed := by kernel_rfl
  f156 := Tryz.func80.trans (congrArg some (by kernel_rfl))
  f165 := Tryz.func113.trans (congrArg some (by kernel_rfl))
  f166 := Tryz.func70.trans (congrArg some (by kernel_rfl))
  f169 := Tryz.func75.trans (congrArg some (by kernel_rfl))
  f240 := Tryz.func110.trans (congrArg some (by kernel_rfl))
  f241 := Tryz.func147.trans (congrArg some (by kernel_rfl))
  f276 := Tryz.func143.trans (congrArg some (by kernel_rfl))
  f277 := Tryz.func182.trans (congrArg some (by kernel_rfl))
  t0 := Tryz.underlying0
  a0 := Tryz.isAgg0
  z0 := Tryz.sizeOf0
  v0 := Tryz.zeroValue0
  t3 := Tryz.underlying3
  a3 := Tryz.isAgg3
  z3 := Tryz.sizeOf3
  v3 := Tryz.zeroValue3
  t4 := Tryz.underlying4
  a4 := Tryz.isAgg4
  z4 := Tryz.sizeOf4
  v4 := Tryz.zeroValue4
  t9 := Tryz.underlying9
  a9 := Tryz.isAgg9
  z9 := Tryz.sizeOf9
  v9 := Tryz.zeroValue9
  t20 := Tryz.underlying20
  a20 := Tryz.isAgg20
  z20 := Tryz.sizeOf20
  v20 := Tryz.zeroValue20
  t31 := Tryz.underlying35
  a31 := Tryz.isAgg35
  z31 := Tryz.sizeOf35
  v31 := Tryz.zeroValue35
  t37 := Tryz.underlying22
  a37 := Tryz.isAgg22
  z37 := Tryz.sizeOf22
  v37 := Tryz.zeroValue22
  t70 := Tryz.underlying96
  a70 := Tryz.isAgg96
  z70 := Tryz.sizeOf96
  v70 := Tryz.zeroValue96
  t72 := Tryz.underlying98
  a72 := Tryz.isAgg98
  z72 := Tryz.sizeOf98
  v72 := Tryz.zeroValue98
  t75 := Tryz.underlying100
  a75 := Tryz.isAgg100
  z75 := Tryz.sizeOf100
  v75 := Tryz.zeroValue100
  t76 := Tryz.underlying101
  a76 := Tryz.isAgg101
  z76 := Tryz.sizeOf101
  v76 := Tryz.zeroValue101
  t127 := Tryz.underlying137
  a127 := Tryz.isAgg137
  z127 := Tryz.sizeOf137
  v127 := Tryz.zeroValue137
  t164 := Tryz.underlying167
  a164 := Tryz.isAgg167
  z164 := Tryz.sizeOf167
  v164 := Tryz.zeroValue167

theorem extraJ : Builder.Extra Tryz.prog Tryz.laysJoin_ren where
  sizeBuilder := by kernel_rfl
  liesBuilder := by kernel_rfl
  t5 := Tryz.underlying5
  a5 := Tryz.isAgg5
  z5 := Tryz.sizeOf5
  v5 := Tryz.zeroValue5
  infoByte := by kernel_rfl
  cellsByte := by kernel_rfl
  sizeByte := by kernel_rfl
  neB5 := by decide
theorem sl_inv {h : Held} {v : Value} {n : Nat} {full : Bool} {cells : List D} (r : RD h v (.sl n full cells)) (h0 : 0 < n) :
    ∃ (g off cap : Nat) (vs : Nat → Value), v = .slice (some ⟨g, off, none⟩) n cap ∧ n ≤ cap ∧ (∀ (i : Nat) x, cells[i]? = some x → h g (off + i) = some (vs i)) ∧ (∀ (i : Nat) x, cells[i]? = some x → RD h (vs i) x) := by
  cases r with
  | sl0 base full => omega
  | sl g off n cap full cells vs k1 k2 k3 k4 k5 => exact ⟨g, off, cap, vs, rfl, k1, k3, k4⟩
theorem join_spec (l : Row) (full : Bool) (sep : List UInt8) (h0 : 0 < l.length) (hl : l.length ≤ 1000000) (hlen : (Lib.join l sep).length ≤ 1000000000) :
    Ctr Tryz.prog G 80 [.d (Ss l full), .d (S sep)] [] (.d (S (Lib.join l sep))) [] := by
  refine Ctr.of_calls go80 fun h ρ w vs q r => ?_
  obtain ⟨v, u, rfl, hv, hu⟩ := r.inv2
  rw [hu.str_inv]
  have hd : RD h v (.sl l.length full (strs l)) := by cases hv with | d _ _ hd => exact hd
  obtain ⟨g, off, cap, vs, rfl, k1, k2, k3⟩ := sl_inv hd h0
  have key : ∀ (j : Nat) x, (l.map bs)[j]? = some x → w.cell? ⟨g, off + j, none⟩ = some (.string x) := by
    intro j x hx
    rw [List.getElem?_map] at hx
    cases hy : l[j]? with
    | none => rw [hy] at hx; cases hx
    | some y =>
      rw [hy] at hx
      cases hx
      have hs : (strs l)[j]? = some (S y) := by simp [strs, hy]
      have c1 := q.prom _ _ _ (k2 j _ hs)
      have r1 := k3 j _ hs
      generalize vs j = z at c1 r1
      cases r1
      exact c1
  have hb : g < w.heap.size := by
    have := key 0 (bs (l.getD 0 [])) (by rw [List.getElem?_map, List.getD_eq_getElem?_getD, List.getElem?_eq_getElem h0]; rfl)
    rcases Nat.lt_or_ge g w.heap.size with h1 | h1
    · exact h1
    · simp [World.cell?, h1] at this
  have e1 : ((l.map bs).map (·.data.toList)) = l := by
    rw [List.map_map]
    conv => rhs; rw [← List.map_id l]
    rfl
  have e2 : (bs sep).data.toList = sep := rfl
  have := Any.strings_Join Tryz.laysJoin extraJ g off cap (l.map bs) (bs sep) w key hb (by rw [List.length_map]; omega) (by rw [List.length_map]; exact k1) (by rw [e1, e2]; omega)
  rw [List.length_map, e1, e2] at this
  refine this.mono ?_
  rintro e w' ⟨rfl, hb⟩
  exact ⟨_, rfl, .str _, hb⟩
end Go.Proofs.YtacepalmphbnfaaGreatDoor

namespace Go.Proofs.YtacepalmphbnfaaGreatDoor
open Go Go.Proofs Go.Abs
variable {G : Globals}
/-! The text of a layout (given what strconv.Itoa does on the numbers up to 2^20). -/
def HI (G : Globals) : Prop := ∀ n : Nat, n ≤ 1048576 → Ctr Tryz.prog G 79 [.d (.int .i64 n)] [] (.d (S (Lib.decDigits n))) []
def numT (l : List Nat) : Row := l.map Lib.decDigits
def textD : Option (List UInt8) → D
  | some s => .tup [S s, .bool true]
  | none => .tup [S [], .bool false]
theorem dec_len {n : Nat} (h : n ≤ 1048576) : (Lib.decDigits n).length ≤ 21 := by
  have := Lib.itoa_length_le (n : Int) (by omega) (by omega)
  rwa [Lib.itoa_nonneg] at this
theorem join_len (sep : List UInt8) (m : Nat) (hs : sep.length ≤ 1) : ∀ l : Row, (∀ s ∈ l, s.length ≤ m) → (Lib.join l sep).length ≤ l.length * (m + 1)
  | [], _ => by simp [Lib.join_nil]
  | [x], h => by rw [Lib.join_one]; have := h x (by simp); simp; omega
  | x :: y :: t, h => by
    have e : Lib.join (x :: y :: t) sep = x ++ sep ++ Lib.join (y :: t) sep := by simp [Lib.join, List.intercalate]
    have i := join_len sep m hs (y :: t) (fun s hm => h s (List.mem_cons_of_mem _ hm))
    have := h x (by simp)
    rw [e]
    simp only [List.length_append, List.length_cons] at *
    rw [Nat.succ_mul]
    omega
theorem join_snoc (sep x : List UInt8) : ∀ l : Row, Lib.join (l ++ [x]) sep = if l = [] then x else Lib.join l sep ++ sep ++ x
  | [] => by rw [if_pos rfl, List.nil_append, Lib.join_one]
  | [y] => by rw [if_neg (by simp)]; simp [Lib.join, List.intercalate]
  | y :: z :: t => by
    have e : ∀ (a b : List UInt8) (u : Row), Lib.join (a :: b :: u) sep = a ++ sep ++ Lib.join (b :: u) sep := fun a b u => by simp [Lib.join, List.intercalate]
    have i := join_snoc sep x (z :: t)
    rw [if_neg (by simp)] at i ⊢
    rw [List.cons_append, List.cons_append, e, e, ← List.cons_append, i]
    simp
end Go.Proofs.YtacepalmphbnfaaGreatDoor

namespace Go.Proofs.YtacepalmphbnfaaGreatDoor
open Go Go.Proofs Go.Abs
variable {G : Globals}
/-! The reference's natural. -/
def natGo (n i : Nat) : List UInt8 → Option Nat
  | [] => some n
  | c :: t => if c.toNat < 48 ∨ 57 < c.toNat ∨ 68719476736 < n ∨ (0 < i ∧ n = 0) then none else natGo (10 * n + (c.toNat - 48)) (i + 1) t
def natD (s : List UInt8) : D :=
  match natGo 0 0 s with
  | some n => .tup [.int .i64 n, .bool (decide (s ≠ []))]
  | none => .tup [.int .i64 0, .bool false]
end Go.Proofs.YtacepalmphbnfaaGreatDoor

namespace Go.Proofs.YtacepalmphbnfaaGreatDoor
open Go Go.Proofs Go.Abs Go.RowKit Go.Shelf
variable {G : Globals}
/-! strconv.Atoi, out of the kit's contracts. -/
def Tryz.laysAtoi_ren : Go.Shelf.Ren := ⟨fun | 172 => 82 | 244 => 117 | 245 => 118 | 247 => 152 | 279 => 153 | 280 => 154 | 281 => 155 | 282 => 156 | 287 => 189 | 316 => 190 | 171 => 79 | 205 => 191 | 321 => 207 | 322 => 208 | 243 => 115 | 246 => 148 | 283 => 183 | 284 => 184 | 285 => 185 | 286 => 186 | 129 => 141 | 317 => 202 | 318 => 203 | 319 => 204 | 320 => 205 | 337 => 211 | 338 => 212 | n => n, fun | 9 => 9 | 3 => 3 | 75 => 100 | 76 => 101 | 4 => 4 | 5 => 5 | 167 => 176 | 37 => 22 | 0 => 0 | 85 => 177 | 2 => 2 | 168 => 179 | 53 => 165 | 175 => 207 | 46 => 129 | 210 => 210 | 127 => 137 | 145 => 225 | 143 => 223 | 21 => 21 | 171 => 203 | 173 => 205 | 212 => 220 | 51 => 163 | 20 => 20 | 213 => 221 | 232 => 228 | 233 => 229 | 80 => 107 | n => n, fun | 15 => 2 | 16 => 3 | 17 => 5 | 18 => 6 | 19 => 7 | n => n⟩
theorem Tryz.laysAtoi : Go.Proofs.LaysC.n172 Tryz.prog Tryz.laysAtoi_ren where
  mixed := by kernel_rfl
  f129 := Tryz.func141.trans (congrArg some (by kernel_rfl))
  f171 := Tryz.func79.trans (congrArg some (by kernel_rfl))
  f172 := Tryz.func82.trans (congrArg some (by kernel_rfl))
  f205 := Tryz.func191.trans (congrArg some (by kernel_rfl))
  f243 := Tryz.func115.trans (congrArg some (by kernel_rfl))
  f244 := Tryz.func117.trans (congrArg some (by kernel_rfl))
  f245 := Tryz.func118.trans (congrArg some (by kernel_rfl))
  f246 := Tryz.func148.trans (congrArg some (by kernel_rfl))
  f247 := Tryz.func152.trans (congrArg some (by kernel_rfl))
  f279 := Tryz.func153.trans (congrArg some (by kernel_rfl))
  f280 := Tryz.func154.trans (congrArg some (by kernel_rfl))
  f281 := Tryz.func155.trans (congrArg some (by kernel_rfl))
  f282 := Tryz.func156.trans (congrArg some (by kernel_rfl))
  f283 := Tryz.func183.trans (congrArg some (by kernel_rfl))
  f284 := Tryz.func184.trans (congrArg some (by kernel_rfl))
  f285 := Tryz.func185.trans (congrArg some (by kernel_rfl))
  f286 := Tryz.func186.trans (congrArg some (by kernel_rfl))
  f287 := Tryz.func189.trans (congrArg some (by kernel_rfl))
  f316 := Tryz.func190.trans (congrArg some (by kernel_rfl))
  f317 := Tryz.func202.trans (congrArg some (by kernel_rfl))
  f318 := Tryz.func203.trans (congrArg some (by kernel_rfl))
  f319 := Tryz.func204.trans (congrArg some (by kernel_rfl))
  f320 := Tryz.func205.trans (congrArg some (by kernel_rfl))
  f321 := Tryz.func207.trans (congrArg some (by kernel_rfl))
  f322 := Tryz.func208.trans (congrArg some (by kernel_rfl))
  f337 := Tryz.func211.trans (congrArg some (by kernel_rfl))
  f338 := Tryz.func212.trans (congrArg some (by kernel_rfl))
  t0 := Tryz.underlying0
  a0 := Tryz.isAgg0
  z0 := Tryz.sizeOf0
  v0 := Tryz.zeroValue0
  t2 := Tryz.underlying2
  a2 := Tryz.isAgg2
  z2 := Tryz.sizeOf2
  v2 := Tryz.zeroValue2
  t3 := Tryz.underlying3
  a3 := Tryz.isAgg3
  z3 := Tryz.sizeOf3
  v3 := Tryz.zeroValue3
  t4 := Tryz.underlying4
  a4 := Tryz.isAgg4
  z4 := Tryz.sizeOf4
  v4 := Tryz.zeroValue4
  t5 := Tryz.underlying5
  a5 := Tryz.isAgg5
  z5 := Tryz.sizeOf5
  v5 := Tryz.zeroValue5
  t9 := Tryz.underlying9
  a9 := Tryz.isAgg9
  z9 := Tryz.sizeOf9
  v9 := Tryz.zeroValue9
  t20 := Tryz.underlying20
  a20 := Tryz.isAgg20
  z20 := Tryz.sizeOf20
  v20 := Tryz.zeroValue20
  t21 := Tryz.underlying21
  a21 := Tryz.isAgg21
  z21 := Tryz.sizeOf21
  v21 := Tryz.zeroValue21
  t37 := Tryz.underlying22
  a37 := Tryz.isAgg22
  z37 := Tryz.sizeOf22
  v37 := Tryz.zeroValue22
  t46 := Tryz.underlying129
  a46 := Tryz.isAgg129
  z46 := Tryz.sizeOf129
  v46 := Tryz.zeroValue129
  t51 := Tryz.underlying163
  a51 := Tryz.isAgg163
  z51 := Tryz.sizeOf163
  v51 := Tryz.zeroValue163
  t53 := Tryz.underlying165
  a53 := Tryz.isAgg165
  z53 := Tryz.sizeOf165
  v53 := Tryz.zeroValue165
  t75 := Tryz.underlying100
  a75 := Tryz.isAgg100
  z75 := Tryz.sizeOf100
  v75 := Tryz.zeroValue100
  t76 := Tryz.underlying101
  a76 := Tryz.isAgg101
  z76 := Tryz.sizeOf101
  v76 := Tryz.zeroValue101
  t85 := Tryz.underlying177
  a85 := Tryz.isAgg177
  z85 := Tryz.sizeOf177
  v85 := Tryz.zeroValue177
  t127 := Tryz.underlying137
  a127 := Tryz.isAgg137
  z127 := Tryz.sizeOf137
  v127 := Tryz.zeroValue137
  t143 := Tryz.underlying223
  a143 := Tryz.isAgg223
  z143 := Tryz.sizeOf223
  v143 := Tryz.zeroValue223
  t145 := Tryz.underlying225
  a145 := Tryz.isAgg225
  z145 := Tryz.sizeOf225
  v145 := Tryz.zeroValue225
  t167 := Tryz.underlying176
  a167 := Tryz.isAgg176
  z167 := Tryz.sizeOf176
  v167 := Tryz.zeroValue176
  t168 := Tryz.underlying179
  a168 := Tryz.isAgg179
  z168 := Tryz.sizeOf179
  v168 := Tryz.zeroValue179
  t171 := Tryz.underlying203
  a171 := Tryz.isAgg203
  z171 := Tryz.sizeOf203
  v171 := Tryz.zeroValue203
  t173 := Tryz.underlying205
  a173 := Tryz.isAgg205
  z173 := Tryz.sizeOf205
  v173 := Tryz.zeroValue205
  t175 := Tryz.underlying207
  a175 := Tryz.isAgg207
  z175 := Tryz.sizeOf207
  v175 := Tryz.zeroValue207
  t210 := Tryz.underlying210
  a210 := Tryz.isAgg210
  z210 := Tryz.sizeOf210
  v210 := Tryz.zeroValue210
  t212 := Tryz.underlying220
  a212 := Tryz.isAgg220
  z212 := Tryz.sizeOf220
  v212 := Tryz.zeroValue220
  t213 := Tryz.underlying221
  a213 := Tryz.isAgg221
  z213 := Tryz.sizeOf221
  t232 := Tryz.underlying228
  a232 := Tryz.isAgg228
  z232 := Tryz.sizeOf228
  v232 := Tryz.zeroValue228
  t233 := Tryz.underlying229
  a233 := Tryz.isAgg229
  z233 := Tryz.sizeOf229
  v233 := Tryz.zeroValue229
  g15 := by kernel_rfl
  g16 := by kernel_rfl
  g17 := by kernel_rfl
  g18 := by kernel_rfl
  g19 := by kernel_rfl
  t80 := Tryz.underlying107
  a80 := Tryz.isAgg107
  z80 := Tryz.sizeOf107
  v80 := Tryz.zeroValue107
  i0 := by kernel_rfl
  i2 := by kernel_rfl
  i3 := by kernel_rfl
  i4 := by kernel_rfl
  i5 := by kernel_rfl
  i9 := by kernel_rfl
  i20 := by kernel_rfl
  i21 := by kernel_rfl
  i37 := by kernel_rfl
  i46 := by kernel_rfl
  i51 := by kernel_rfl
  i53 := by kernel_rfl
  i75 := by kernel_rfl
  i76 := by kernel_rfl
  i80 := by kernel_rfl
  i85 := by kernel_rfl
  i127 := by kernel_rfl
  i143 := by kernel_rfl
  i145 := by kernel_rfl
  i167 := by kernel_rfl
  i168 := by kernel_rfl
  i171 := by kernel_rfl
  i173 := by kernel_rfl
  i175 := by kernel_rfl
  i210 := by kernel_rfl
  i212 := by kernel_rfl
  i232 := by kernel_rfl
  i233 := by kernel_rfl
  m15 := by kernel_rfl
  m16 := by kernel_rfl
  m17 := by kernel_rfl
  m18 := by kernel_rfl
  m19 := by kernel_rfl
  c0 := by kernel_rfl
  c2 := by kernel_rfl
  c3 := by kernel_rfl
  c4 := by kernel_rfl
  c5 := by kernel_rfl
  c9 := by kernel_rfl
  c20 := by kernel_rfl
  c21 := by kernel_rfl
  c37 := by kernel_rfl
  c46 := by kernel_rfl
  c51 := by kernel_rfl
  c53 := by kernel_rfl
  c75 := by kernel_rfl
  c76 := by kernel_rfl
  c80 := by kernel_rfl
  c85 := by kernel_rfl
  c127 := by kernel_rfl
  c143 := by kernel_rfl
  c145 := by kernel_rfl
  c167 := by kernel_rfl
  c168 := by kernel_rfl
  c171 := by kernel_rfl
  c173 := by kernel_rfl
  c175 := by kernel_rfl
  c210 := by kernel_rfl
  c212 := by kernel_rfl
  c213 := by kernel_rfl
  c232 := by kernel_rfl
  c233 := by kernel_rfl

/-- The errors' variables hold some error. -/
def HE (G : Globals) : Prop := G 2 = some [.ifc] ∧ G 3 = some [.ifc]
def atoiD (s : List UInt8) : D :=
  match Lib.atoiAll s with
  | .ok v => .tup [.int .i64 v, .nili]
  | .range => .tup [.int .i64 (Lib.atoiSat s), .ifc]
  | _ => .tup [.int .i64 0, .ifc]
theorem ifc_cell {h : Held} {ρ : Abs.Place} {H : Heap} {w : World} {g : Nat} (q : Sim G h ρ H w) (e : G g = some [.ifc]) : ∃ t v, w.cell? ⟨g, 0, none⟩ = some (.iface t v) := by
  obtain ⟨us, g1, g2⟩ := q.glob _ _ e
  have c1 := q.prom _ _ _ (g1 0 _ rfl)
  have r0 := g2 0 _ rfl
  generalize us 0 = v0 at c1 r0
  cases r0
  exact ⟨_, _, c1⟩
theorem tup2 {h : Held} {v u : Value} {x y : D} (a : RD h v x) (b : RD h u y) : RD h (.tuple #[v, u]) (.tup [x, y]) := by
  refine .tup _ _ rfl fun i z d hz hd => ?_
  rcases i with _ | _ | i <;> simp at hz hd
  · subst hz; subst hd; exact a
  · subst hz; subst hd; exact b
theorem atoi_spec (hE : HE G) (s : List UInt8) (hs : s.length ≤ 1000000000) : Ctr Tryz.prog G 82 [.d (S s)] [] (.d (atoiD s)) [] := by
  refine Ctr.of_calls go82 fun h ρ w vs q r => ?_
  obtain ⟨v, rfl, hv⟩ := r.inv1
  rw [hv.str_inv]
  obtain ⟨t1, v1, c1⟩ := ifc_cell q hE.1
  obtain ⟨t2, v2, c2⟩ := ifc_cell q hE.2
  unfold atoiD
  have sz := bs_size (l := s)
  rcases ha : Lib.atoiAll s with v | _ | _
  · refine (Any.strconv_Atoi_ok Tryz.laysAtoi (bs s) (by omega) v ha w).mono ?_
    rintro e w' ⟨rfl, rfl | ⟨t, rfl⟩⟩
    · exact ⟨_, rfl, tup2 (.int _ _) .nili, .refl _ _⟩
    · exact ⟨_, rfl, tup2 (.int _ _) .nili, Lib.bytesWorld_below _ _ _⟩
  · refine (Any.strconv_Atoi_syntax Tryz.laysAtoi (bs s) (by omega) ha _ w c1 (.inr ⟨_, _, rfl⟩)).mono ?_
    rintro e w' ⟨N, rfl, _, _, hb⟩
    exact ⟨_, rfl, tup2 (.int _ _) (.ifc _ _), hb⟩
  · refine (Any.strconv_Atoi_range Tryz.laysAtoi (bs s) (by omega) ha _ w c2 (.inr ⟨_, _, rfl⟩)).mono ?_
    rintro e w' ⟨N, rfl, _, _, hb⟩
    exact ⟨_, rfl, tup2 (.int _ _) (.ifc _ _), hb⟩
end Go.Proofs.YtacepalmphbnfaaGreatDoor

namespace Go.Proofs.YtacepalmphbnfaaGreatDoor
open Go Go.Proofs Go.Abs
variable {G : Globals}
/-! strings.SplitSeq at a comma. -/
theorem sIndex_spec (s : List UInt8) (c : UInt8) (hs : s.length < 2 ^ 62) : Ctr Tryz.prog G 151 [.d (S s), .d (S [c])] [] (.d (.int .i64 (Lib.indexByte s c))) [] := by
  refine Ctr.pure (M := M0) hmix Tryz.func151 rfl go151 ?_
  simp (config := { maxSteps := 1000000 }) (disch := ((try simp only [awL]); omega)) only [QR, QS, QT, QU, QV, QW, QX, QY, QZ, Q0, Q1, Q2, Tryz.f151, ↓awU, awV, awF, Qa, Qb, Qc, Qd, forall_const, ↓reduceIte, ↓reduceDIte, ↓Qe, Qf, Qg, Qh, Qi, Qj, Qk, Ql, Qm, Qn, Qo, Qp, Qq, Qr, Qs, implies_true, Qt, Qu, Qv, Qw, Qx, Qy, Qz, QA, QB, QC, QD, QE, QF, QG, QH, QI, QJ, QK, QL, QM, QN, QO, QP, QQ]
  refine CallC.pure (index1_spec s c hs) ?_
  simp (config := { maxSteps := 1000000 }) (disch := ((try simp only [awL]); omega)) only [QR, QS, QT, QU, QV, QW, QX, QY, QZ, Q0, Q1, Q2, ↓awU, awV, awF, Qa, Qb, Qc, Qd, forall_const, ↓reduceIte, ↓reduceDIte, ↓Qe, Qf, Qg, Qh, Qi, Qj, Qk, Ql, Qm, Qn, Qo, Qp, Qq, Qr, Qs, implies_true, Qt, Qu, Qv, Qw, Qx, Qy, Qz, QA, QB, QC, QD, QE, QF, QG, QH, QI, QJ, QK, QL, QM, QN, QO, QP, QQ]
end Go.Proofs.YtacepalmphbnfaaGreatDoor

namespace Go.Proofs.YtacepalmphbnfaaGreatDoor
open Go Go.Proofs Go.Abs
variable {G : Globals}
/-! The reference's odd. -/
end Go.Proofs.YtacepalmphbnfaaGreatDoor

namespace Go.Proofs.YtacepalmphbnfaaGreatDoor
open Go Go.Proofs Go.Abs
variable {G : Globals}
/-! strconv.Itoa of the numbers below 10^7. -/
def prD (k : Nat) : List UInt8 := [UInt8.ofNat (48 + k / 10), UInt8.ofNat (48 + k % 10)]
theorem dd2 {n : Nat} (h : 100 ≤ n) : Lib.decDigits n = Lib.decDigits (n / 100) ++ prD (n % 100) := by
  rw [Lib.decDigits, dif_neg (by omega), Lib.decDigits, dif_neg (by omega), Nat.div_div_eq_div_mul, List.append_assoc, prD]
  rw [show n / 10 % 10 = n % 100 / 10 by omega, show n % 100 % 10 = n % 10 by omega]; rfl
theorem dd_one {n : Nat} (h : n < 10) : Lib.decDigits n = [UInt8.ofNat (48 + n)] := Lib.decDigits_one h
theorem dd_two {n : Nat} (h1 : 10 ≤ n) (h : n < 100) : Lib.decDigits n = prD n := Lib.decDigits_two (by omega) h
theorem dd3 {n : Nat} (h1 : 100 ≤ n) (h : n < 1000) : Lib.decDigits n = [UInt8.ofNat (48 + n / 100)] ++ prD (n % 100) := by rw [dd2 h1, dd_one (by omega)]
theorem dd4 {n : Nat} (h1 : 1000 ≤ n) (h : n < 10000) : Lib.decDigits n = prD (n / 100) ++ prD (n % 100) := by rw [dd2 (by omega), dd_two (by omega) (by omega)]
theorem dd5 {n : Nat} (h1 : 10000 ≤ n) (h : n < 100000) : Lib.decDigits n = [UInt8.ofNat (48 + n / 10000)] ++ prD (n % 10000 / 100) ++ prD (n % 10000 % 100) := by
  rw [dd2 (by omega), dd3 (by omega) (by omega), Nat.div_div_eq_div_mul, show n / 100 % 100 = n % 10000 / 100 by omega, show n % 10000 % 100 = n % 100 by omega]
theorem dd6 {n : Nat} (h1 : 100000 ≤ n) (h : n < 1000000) : Lib.decDigits n = prD (n / 10000) ++ prD (n % 10000 / 100) ++ prD (n % 10000 % 100) := by
  rw [dd2 (by omega), dd4 (by omega) (by omega), Nat.div_div_eq_div_mul, show n / 100 % 100 = n % 10000 / 100 by omega, show n % 10000 % 100 = n % 100 by omega]
theorem dd7 {n : Nat} (h1 : 1000000 ≤ n) (h : n < 10000000) : Lib.decDigits n = [UInt8.ofNat (48 + n / 10000 / 100)] ++ prD (n / 10000 % 100) ++ prD (n % 10000 / 100) ++ prD (n % 10000 % 100) := by
  rw [dd2 (by omega), dd5 (by omega) (by omega), show n % 10000 % 100 = n % 100 by omega, show n / 100 / 10000 = n / 10000 / 100 by omega, show n / 100 % 10000 / 100 = n / 10000 % 100 by omega, show n / 100 % 10000 % 100 = n % 10000 / 100 by omega]
theorem sm_at {k : Nat} (h : k < 100) : (smallsL.getD (k * 2) 0).toNat = 48 + k / 10 ∧ (smallsL.getD (k * 2 + 1) 0).toNat = 48 + k % 10 := by
  have : ∀ k : Fin 100, (smallsL.getD (k.val * 2) 0).toNat = 48 + k.val / 10 ∧ (smallsL.getD (k.val * 2 + 1) 0).toNat = 48 + k.val % 10 := by decide +kernel
  exact this ⟨k, h⟩
theorem td100 (a : Nat) : (a : Int).tdiv 100 = ((a / 100 : Nat) : Int) := (Int.ofNat_tdiv a 100).symm
theorem tm100 (a : Nat) : (a : Int).tmod 100 = ((a % 100 : Nat) : Int) := (Int.ofNat_tmod a 100).symm
theorem td10000 (a : Nat) : (a : Int).tdiv 10000 = ((a / 10000 : Nat) : Int) := (Int.ofNat_tdiv a 10000).symm
theorem tm10000 (a : Nat) : (a : Int).tmod 10000 = ((a % 10000 : Nat) : Int) := (Int.ofNat_tmod a 10000).symm
theorem tn2 (k : Nat) : ((k : Int) * 2).toNat = k * 2 := by omega
theorem tn3 (k : Nat) : ((k : Int) * 2 + 1).toNat = k * 2 + 1 := by omega
theorem smA {k : Nat} (h : k < 100) : (smallsL.getD (k * 2) 0).toNat = 48 + k / 10 := (sm_at h).1
theorem smB {k : Nat} (h : k < 100) : (smallsL.getD (k * 2 + 1) 0).toNat = 48 + k % 10 := (sm_at h).2
set_option maxHeartbeats 4000000 in
set_option maxRecDepth 100000 in
theorem fb3_spec (n : Nat) (h1 : 100 ≤ n) (h : n < 1000) : Ctr Tryz.prog G 185 [.lsl 0 1 1 3, .d (.int .u64 n)] [.row false (ints .u8 (List.replicate 24 0))] .undef
    [.row false (ints .u8 ([0, ((48 + n / 100 : Nat) : Int), ((48 + n % 100 / 10 : Nat) : Int), ((48 + n % 100 % 10 : Nat) : Int)] ++ List.replicate 20 0))] := by
  refine Ctr.body (M := M0) hmix Tryz.func185 rfl go185 ?_
  simp (config := { maxSteps := 1000000 }) (disch := ((try simp only [awL]); omega)) only [QR, QS, QT, QU, QV, QW, QX, QY, QZ, Q0, Q1, Q2, Tryz.f185, ↓awU, awV, awF, Qa, Qb, Qc, Qd, forall_const, ↓reduceIte, ↓reduceDIte, ↓Qe, Qf, Qg, Qh, Qi, Qj, Qk, Ql, Qm, Qn, Qo, Qp, Qq, Qr, Qs, implies_true, Qt, Qu, Qv, Qw, Qx, Qy, Qz, QA, QB, QC, QD, QE, QF, QG, QH, QI, QJ, QK, QL, QM, QN, QO, QP, QQ]
  refine LoopC.fx 1 (α := Unit) (β := Unit) (fun _ => 0) (fun _ => [(1, .d (.int .u64 n)), (4, .d (.int .i64 3))]) (fun _ => [.row false (ints .u8 (List.replicate 24 0))]) (fun _ => True) 1 (fun _ => [(1, .d (.int .u64 n)), (4, .d (.int .i64 3))]) (fun _ => [.row false (ints .u8 (List.replicate 24 0))]) (fun _ => True) () trivial ?_ ?_ ?_
  · exact ⟨[some 0], rfl, by simp, by simp [setsA, keepA, SWeak, AWeak], by simp [HWeak, BWeak, SWeak, AWeak]⟩
  · rintro ⟨⟩ -
    simp only [awK, Nat.reduceMod, Nat.reduceDiv, reduceIte]
    simp (config := { maxSteps := 1000000 }) (disch := ((try simp only [awL]); omega)) only [QR, QS, QT, QU, QV, QW, QX, QY, QZ, Q0, Q1, Q2, ↓awU, awV, awF, Qa, Qb, Qc, Qd, forall_const, ↓reduceIte, ↓reduceDIte, ↓Qe, Qf, Qg, Qh, Qi, Qj, Qk, Ql, Qm, Qn, Qo, Qp, Qq, Qr, Qs, implies_true, Qt, Qu, Qv, Qw, Qx, Qy, Qz, QA, QB, QC, QD, QE, QF, QG, QH, QI, QJ, QK, QL, QM, QN, QO, QP, QQ]
    exact ⟨(), trivial, ⟨[some 0], rfl, by simp, by simp [setsA, keepA, SWeak, AWeak], by simp [HWeak, BWeak, SWeak, AWeak]⟩⟩
  · rintro ⟨⟩ -
    simp only [awK, Nat.reduceMod, Nat.reduceDiv, reduceIte]
    simp (config := { maxSteps := 1000000 }) (disch := ((try simp only [awL]); omega)) only [QR, QS, QT, QU, QV, QW, QX, QY, QZ, Q0, Q1, Q2, smalls_eq, smallsL_len, td100, tm100, td10000, tm10000, tn2, tn3, smA, smB, ↓awU, awV, awF, Qa, Qb, Qc, Qd, forall_const, ↓reduceIte, ↓reduceDIte, ↓Qe, Qf, Qg, Qh, Qi, Qj, Qk, Ql, Qm, Qn, Qo, Qp, Qq, Qr, Qs, implies_true, Qt, Qu, Qv, Qw, Qx, Qy, Qz, QA, QB, QC, QD, QE, QF, QG, QH, QI, QJ, QK, QL, QM, QN, QO, QP, QQ]
    first | (exact ⟨[some 0], rfl, by simp, by simp [HWeak, BWeak, SWeak, AWeak], .inl (by simp [AWeak, SWeak])⟩) | (refine ⟨by rfl, ?_⟩; exact ⟨[some 0], rfl, by simp, by simp [HWeak, BWeak, SWeak, AWeak], .inl (by simp [AWeak, SWeak])⟩) | (refine ⟨by rfl, by rfl, ?_⟩; exact ⟨[some 0], rfl, by simp, by simp [HWeak, BWeak, SWeak, AWeak], .inl (by simp [AWeak, SWeak])⟩) | (refine ⟨by rfl, by rfl, by rfl, ?_⟩; exact ⟨[some 0], rfl, by simp, by simp [HWeak, BWeak, SWeak, AWeak], .inl (by simp [AWeak, SWeak])⟩)
set_option maxHeartbeats 4000000 in
set_option maxRecDepth 100000 in
theorem fb4_spec (n : Nat) (h1 : 1000 ≤ n) (h : n < 10000) : Ctr Tryz.prog G 185 [.lsl 0 1 1 4, .d (.int .u64 n)] [.row false (ints .u8 (List.replicate 24 0))] .undef
    [.row false (ints .u8 ([0, ((48 + n % 10000 / 100 / 10 : Nat) : Int), ((48 + n % 10000 / 100 % 10 : Nat) : Int), ((48 + n % 10000 % 100 / 10 : Nat) : Int), ((48 + n % 10000 % 100 % 10 : Nat) : Int)] ++ List.replicate 19 0))] := by
  refine Ctr.body (M := M0) hmix Tryz.func185 rfl go185 ?_
  simp (config := { maxSteps := 1000000 }) (disch := ((try simp only [awL]); omega)) only [QR, QS, QT, QU, QV, QW, QX, QY, QZ, Q0, Q1, Q2, Tryz.f185, ↓awU, awV, awF, Qa, Qb, Qc, Qd, forall_const, ↓reduceIte, ↓reduceDIte, ↓Qe, Qf, Qg, Qh, Qi, Qj, Qk, Ql, Qm, Qn, Qo, Qp, Qq, Qr, Qs, implies_true, Qt, Qu, Qv, Qw, Qx, Qy, Qz, QA, QB, QC, QD, QE, QF, QG, QH, QI, QJ, QK, QL, QM, QN, QO, QP, QQ]
  refine LoopC.fx 1 (α := Unit) (β := Unit) (fun _ => 0) (fun _ => [(1, .d (.int .u64 n)), (4, .d (.int .i64 4))]) (fun _ => [.row false (ints .u8 (List.replicate 24 0))]) (fun _ => True) 1 (fun _ => [(1, .d (.int .u64 n)), (4, .d (.int .i64 4))]) (fun _ => [.row false (ints .u8 (List.replicate 24 0))]) (fun _ => True) () trivial ?_ ?_ ?_
  · exact ⟨[some 0], rfl, by simp, by simp [setsA, keepA, SWeak, AWeak], by simp [HWeak, BWeak, SWeak, AWeak]⟩
  · rintro ⟨⟩ -
    simp only [awK, Nat.reduceMod, Nat.reduceDiv, reduceIte]
    simp (config := { maxSteps := 1000000 }) (disch := ((try simp only [awL]); omega)) only [QR, QS, QT, QU, QV, QW, QX, QY, QZ, Q0, Q1, Q2, ↓awU, awV, awF, Qa, Qb, Qc, Qd, forall_const, ↓reduceIte, ↓reduceDIte, ↓Qe, Qf, Qg, Qh, Qi, Qj, Qk, Ql, Qm, Qn, Qo, Qp, Qq, Qr, Qs, implies_true, Qt, Qu, Qv, Qw, Qx, Qy, Qz, QA, QB, QC, QD, QE, QF, QG, QH, QI, QJ, QK, QL, QM, QN, QO, QP, QQ]
    exact ⟨(), trivial, ⟨[some 0], rfl, by simp, by simp [setsA, keepA, SWeak, AWeak], by simp [HWeak, BWeak, SWeak, AWeak]⟩⟩
  · rintro ⟨⟩ -
    simp only [awK, Nat.reduceMod, Nat.reduceDiv, reduceIte]
    simp (config := { maxSteps := 1000000 }) (disch := ((try simp only [awL]); omega)) only [QR, QS, QT, QU, QV, QW, QX, QY, QZ, Q0, Q1, Q2, smalls_eq, smallsL_len, td100, tm100, td10000, tm10000, tn2, tn3, smA, smB, ↓awU, awV, awF, Qa, Qb, Qc, Qd, forall_const, ↓reduceIte, ↓reduceDIte, ↓Qe, Qf, Qg, Qh, Qi, Qj, Qk, Ql, Qm, Qn, Qo, Qp, Qq, Qr, Qs, implies_true, Qt, Qu, Qv, Qw, Qx, Qy, Qz, QA, QB, QC, QD, QE, QF, QG, QH, QI, QJ, QK, QL, QM, QN, QO, QP, QQ]
    first | (exact ⟨[some 0], rfl, by simp, by simp [HWeak, BWeak, SWeak, AWeak], .inl (by simp [AWeak, SWeak])⟩) | (refine ⟨by rfl, ?_⟩; exact ⟨[some 0], rfl, by simp, by simp [HWeak, BWeak, SWeak, AWeak], .inl (by simp [AWeak, SWeak])⟩) | (refine ⟨by rfl, by rfl, ?_⟩; exact ⟨[some 0], rfl, by simp, by simp [HWeak, BWeak, SWeak, AWeak], .inl (by simp [AWeak, SWeak])⟩) | (refine ⟨by rfl, by rfl, by rfl, ?_⟩; exact ⟨[some 0], rfl, by simp, by simp [HWeak, BWeak, SWeak, AWeak], .inl (by simp [AWeak, SWeak])⟩)
set_option maxHeartbeats 4000000 in
set_option maxRecDepth 100000 in
theorem fb5_spec (n : Nat) (h1 : 10000 ≤ n) (h : n < 100000) : Ctr Tryz.prog G 185 [.lsl 0 1 1 5, .d (.int .u64 n)] [.row false (ints .u8 (List.replicate 24 0))] .undef
    [.row false (ints .u8 ([0, ((48 + n / 10000 : Nat) : Int), ((48 + n % 10000 / 100 / 10 : Nat) : Int), ((48 + n % 10000 / 100 % 10 : Nat) : Int), ((48 + n % 10000 % 100 / 10 : Nat) : Int), ((48 + n % 10000 % 100 % 10 : Nat) : Int)] ++ List.replicate 18 0))] := by
  refine Ctr.body (M := M0) hmix Tryz.func185 rfl go185 ?_
  simp (config := { maxSteps := 1000000 }) (disch := ((try simp only [awL]); omega)) only [QR, QS, QT, QU, QV, QW, QX, QY, QZ, Q0, Q1, Q2, Tryz.f185, ↓awU, awV, awF, Qa, Qb, Qc, Qd, forall_const, ↓reduceIte, ↓reduceDIte, ↓Qe, Qf, Qg, Qh, Qi, Qj, Qk, Ql, Qm, Qn, Qo, Qp, Qq, Qr, Qs, implies_true, Qt, Qu, Qv, Qw, Qx, Qy, Qz, QA, QB, QC, QD, QE, QF, QG, QH, QI, QJ, QK, QL, QM, QN, QO, QP, QQ]
  refine LoopC.fx 1 (α := Unit) (β := Unit) (fun _ => 0) (fun _ => [(1, .d (.int .u64 n)), (4, .d (.int .i64 5))]) (fun _ => [.row false (ints .u8 (List.replicate 24 0))]) (fun _ => True) 1 (fun _ => [(1, .d (.int .u64 n)), (4, .d (.int .i64 5))]) (fun _ => [.row false (ints .u8 (List.replicate 24 0))]) (fun _ => True) () trivial ?_ ?_ ?_
  · exact ⟨[some 0], rfl, by simp, by simp [setsA, keepA, SWeak, AWeak], by simp [HWeak, BWeak, SWeak, AWeak]⟩
  · rintro ⟨⟩ -
    simp only [awK, Nat.reduceMod, Nat.reduceDiv, reduceIte]
    simp (config := { maxSteps := 1000000 }) (disch := ((try simp only [awL]); omega)) only [QR, QS, QT, QU, QV, QW, QX, QY, QZ, Q0, Q1, Q2, ↓awU, awV, awF, Qa, Qb, Qc, Qd, forall_const, ↓reduceIte, ↓reduceDIte, ↓Qe, Qf, Qg, Qh, Qi, Qj, Qk, Ql, Qm, Qn, Qo, Qp, Qq, Qr, Qs, implies_true, Qt, Qu, Qv, Qw, Qx, Qy, Qz, QA, QB, QC, QD, QE, QF, QG, QH, QI, QJ, QK, QL, QM, QN, QO, QP, QQ]
    exact ⟨(), trivial, ⟨[some 0], rfl, by simp, by simp [setsA, keepA, SWeak, AWeak], by simp [HWeak, BWeak, SWeak, AWeak]⟩⟩
  · rintro ⟨⟩ -
    simp only [awK, Nat.reduceMod, Nat.reduceDiv, reduceIte]
    simp (config := { maxSteps := 1000000 }) (disch := ((try simp only [awL]); omega)) only [QR, QS, QT, QU, QV, QW, QX, QY, QZ, Q0, Q1, Q2, smalls_eq, smallsL_len, td100, tm100, td10000, tm10000, tn2, tn3, smA, smB, ↓awU, awV, awF, Qa, Qb, Qc, Qd, forall_const, ↓reduceIte, ↓reduceDIte, ↓Qe, Qf, Qg, Qh, Qi, Qj, Qk, Ql, Qm, Qn, Qo, Qp, Qq, Qr, Qs, implies_true, Qt, Qu, Qv, Qw, Qx, Qy, Qz, QA, QB, QC, QD, QE, QF, QG, QH, QI, QJ, QK, QL, QM, QN, QO, QP, QQ]
    first | (exact ⟨[some 0], rfl, by simp, by simp [HWeak, BWeak, SWeak, AWeak], .inl (by simp [AWeak, SWeak])⟩) | (refine ⟨by rfl, ?_⟩; exact ⟨[some 0], rfl, by simp, by simp [HWeak, BWeak, SWeak, AWeak], .inl (by simp [AWeak, SWeak])⟩) | (refine ⟨by rfl, by rfl, ?_⟩; exact ⟨[some 0], rfl, by simp, by simp [HWeak, BWeak, SWeak, AWeak], .inl (by simp [AWeak, SWeak])⟩) | (refine ⟨by rfl, by rfl, by rfl, ?_⟩; exact ⟨[some 0], rfl, by simp, by simp [HWeak, BWeak, SWeak, AWeak], .inl (by simp [AWeak, SWeak])⟩)
set_option maxHeartbeats 4000000 in
set_option maxRecDepth 100000 in
theorem fb6_spec (n : Nat) (h1 : 100000 ≤ n) (h : n < 1000000) : Ctr Tryz.prog G 185 [.lsl 0 1 1 6, .d (.int .u64 n)] [.row false (ints .u8 (List.replicate 24 0))] .undef
    [.row false (ints .u8 ([0, ((48 + n / 10000 % 100 / 10 : Nat) : Int), ((48 + n / 10000 % 100 % 10 : Nat) : Int), ((48 + n % 10000 / 100 / 10 : Nat) : Int), ((48 + n % 10000 / 100 % 10 : Nat) : Int), ((48 + n % 10000 % 100 / 10 : Nat) : Int), ((48 + n % 10000 % 100 % 10 : Nat) : Int)] ++ List.replicate 17 0))] := by
  refine Ctr.body (M := M0) hmix Tryz.func185 rfl go185 ?_
  simp (config := { maxSteps := 1000000 }) (disch := ((try simp only [awL]); omega)) only [QR, QS, QT, QU, QV, QW, QX, QY, QZ, Q0, Q1, Q2, Tryz.f185, ↓awU, awV, awF, Qa, Qb, Qc, Qd, forall_const, ↓reduceIte, ↓reduceDIte, ↓Qe, Qf, Qg, Qh, Qi, Qj, Qk, Ql, Qm, Qn, Qo, Qp, Qq, Qr, Qs, implies_true, Qt, Qu, Qv, Qw, Qx, Qy, Qz, QA, QB, QC, QD, QE, QF, QG, QH, QI, QJ, QK, QL, QM, QN, QO, QP, QQ]
  refine LoopC.fx 1 (α := Unit) (β := Unit) (fun _ => 0) (fun _ => [(1, .d (.int .u64 n)), (4, .d (.int .i64 6))]) (fun _ => [.row false (ints .u8 (List.replicate 24 0))]) (fun _ => True) 1 (fun _ => [(1, .d (.int .u64 n)), (4, .d (.int .i64 6))]) (fun _ => [.row false (ints .u8 (List.replicate 24 0))]) (fun _ => True) () trivial ?_ ?_ ?_
  · exact ⟨[some 0], rfl, by simp, by simp [setsA, keepA, SWeak, AWeak], by simp [HWeak, BWeak, SWeak, AWeak]⟩
  · rintro ⟨⟩ -
    simp only [awK, Nat.reduceMod, Nat.reduceDiv, reduceIte]
    simp (config := { maxSteps := 1000000 }) (disch := ((try simp only [awL]); omega)) only [QR, QS, QT, QU, QV, QW, QX, QY, QZ, Q0, Q1, Q2, ↓awU, awV, awF, Qa, Qb, Qc, Qd, forall_const, ↓reduceIte, ↓reduceDIte, ↓Qe, Qf, Qg, Qh, Qi, Qj, Qk, Ql, Qm, Qn, Qo, Qp, Qq, Qr, Qs, implies_true, Qt, Qu, Qv, Qw, Qx, Qy, Qz, QA, QB, QC, QD, QE, QF, QG, QH, QI, QJ, QK, QL, QM, QN, QO, QP, QQ]
    exact ⟨(), trivial, ⟨[some 0], rfl, by simp, by simp [setsA, keepA, SWeak, AWeak], by simp [HWeak, BWeak, SWeak, AWeak]⟩⟩
  · rintro ⟨⟩ -
    simp only [awK, Nat.reduceMod, Nat.reduceDiv, reduceIte]
    simp (config := { maxSteps := 1000000 }) (disch := ((try simp only [awL]); omega)) only [QR, QS, QT, QU, QV, QW, QX, QY, QZ, Q0, Q1, Q2, smalls_eq, smallsL_len, td100, tm100, td10000, tm10000, tn2, tn3, smA, smB, ↓awU, awV, awF, Qa, Qb, Qc, Qd, forall_const, ↓reduceIte, ↓reduceDIte, ↓Qe, Qf, Qg, Qh, Qi, Qj, Qk, Ql, Qm, Qn, Qo, Qp, Qq, Qr, Qs, implies_true, Qt, Qu, Qv, Qw, Qx, Qy, Qz, QA, QB, QC, QD, QE, QF, QG, QH, QI, QJ, QK, QL, QM, QN, QO, QP, QQ]
    first | (exact ⟨[some 0], rfl, by simp, by simp [HWeak, BWeak, SWeak, AWeak], .inl (by simp [AWeak, SWeak])⟩) | (refine ⟨by rfl, ?_⟩; exact ⟨[some 0], rfl, by simp, by simp [HWeak, BWeak, SWeak, AWeak], .inl (by simp [AWeak, SWeak])⟩) | (refine ⟨by rfl, by rfl, ?_⟩; exact ⟨[some 0], rfl, by simp, by simp [HWeak, BWeak, SWeak, AWeak], .inl (by simp [AWeak, SWeak])⟩) | (refine ⟨by rfl, by rfl, by rfl, ?_⟩; exact ⟨[some 0], rfl, by simp, by simp [HWeak, BWeak, SWeak, AWeak], .inl (by simp [AWeak, SWeak])⟩)
set_option maxHeartbeats 4000000 in
set_option maxRecDepth 100000 in
theorem fb7_spec (n : Nat) (h1 : 1000000 ≤ n) (h : n < 10000000) : Ctr Tryz.prog G 185 [.lsl 0 1 1 7, .d (.int .u64 n)] [.row false (ints .u8 (List.replicate 24 0))] .undef
    [.row false (ints .u8 ([0, ((48 + n / 10000 / 100 : Nat) : Int), ((48 + n / 10000 % 100 / 10 : Nat) : Int), ((48 + n / 10000 % 100 % 10 : Nat) : Int), ((48 + n % 10000 / 100 / 10 : Nat) : Int), ((48 + n % 10000 / 100 % 10 : Nat) : Int), ((48 + n % 10000 % 100 / 10 : Nat) : Int), ((48 + n % 10000 % 100 % 10 : Nat) : Int)] ++ List.replicate 16 0))] := by
  refine Ctr.body (M := M0) hmix Tryz.func185 rfl go185 ?_
  simp (config := { maxSteps := 1000000 }) (disch := ((try simp only [awL]); omega)) only [QR, QS, QT, QU, QV, QW, QX, QY, QZ, Q0, Q1, Q2, Tryz.f185, ↓awU, awV, awF, Qa, Qb, Qc, Qd, forall_const, ↓reduceIte, ↓reduceDIte, ↓Qe, Qf, Qg, Qh, Qi, Qj, Qk, Ql, Qm, Qn, Qo, Qp, Qq, Qr, Qs, implies_true, Qt, Qu, Qv, Qw, Qx, Qy, Qz, QA, QB, QC, QD, QE, QF, QG, QH, QI, QJ, QK, QL, QM, QN, QO, QP, QQ]
  refine LoopC.fx 1 (α := Unit) (β := Unit) (fun _ => 0) (fun _ => [(1, .d (.int .u64 n)), (4, .d (.int .i64 7))]) (fun _ => [.row false (ints .u8 (List.replicate 24 0))]) (fun _ => True) 1 (fun _ => [(1, .d (.int .u64 n)), (4, .d (.int .i64 7))]) (fun _ => [.row false (ints .u8 (List.replicate 24 0))]) (fun _ => True) () trivial ?_ ?_ ?_
  · exact ⟨[some 0], rfl, by simp, by simp [setsA, keepA, SWeak, AWeak], by simp [HWeak, BWeak, SWeak, AWeak]⟩
  · rintro ⟨⟩ -
    simp only [awK, Nat.reduceMod, Nat.reduceDiv, reduceIte]
    simp (config := { maxSteps := 1000000 }) (disch := ((try simp only [awL]); omega)) only [QR, QS, QT, QU, QV, QW, QX, QY, QZ, Q0, Q1, Q2, ↓awU, awV, awF, Qa, Qb, Qc, Qd, forall_const, ↓reduceIte, ↓reduceDIte, ↓Qe, Qf, Qg, Qh, Qi, Qj, Qk, Ql, Qm, Qn, Qo, Qp, Qq, Qr, Qs, implies_true, Qt, Qu, Qv, Qw, Qx, Qy, Qz, QA, QB, QC, QD, QE, QF, QG, QH, QI, QJ, QK, QL, QM, QN, QO, QP, QQ]
    exact ⟨(), trivial, ⟨[some 0], rfl, by simp, by simp [setsA, keepA, SWeak, AWeak], by simp [HWeak, BWeak, SWeak, AWeak]⟩⟩
  · rintro ⟨⟩ -
    simp only [awK, Nat.reduceMod, Nat.reduceDiv, reduceIte]
    simp (config := { maxSteps := 1000000 }) (disch := ((try simp only [awL]); omega)) only [QR, QS, QT, QU, QV, QW, QX, QY, QZ, Q0, Q1, Q2, smalls_eq, smallsL_len, td100, tm100, td10000, tm10000, tn2, tn3, smA, smB, ↓awU, awV, awF, Qa, Qb, Qc, Qd, forall_const, ↓reduceIte, ↓reduceDIte, ↓Qe, Qf, Qg, Qh, Qi, Qj, Qk, Ql, Qm, Qn, Qo, Qp, Qq, Qr, Qs, implies_true, Qt, Qu, Qv, Qw, Qx, Qy, Qz, QA, QB, QC, QD, QE, QF, QG, QH, QI, QJ, QK, QL, QM, QN, QO, QP, QQ]
    first | (exact ⟨[some 0], rfl, by simp, by simp [HWeak, BWeak, SWeak, AWeak], .inl (by simp [AWeak, SWeak])⟩) | (refine ⟨by rfl, ?_⟩; exact ⟨[some 0], rfl, by simp, by simp [HWeak, BWeak, SWeak, AWeak], .inl (by simp [AWeak, SWeak])⟩) | (refine ⟨by rfl, by rfl, ?_⟩; exact ⟨[some 0], rfl, by simp, by simp [HWeak, BWeak, SWeak, AWeak], .inl (by simp [AWeak, SWeak])⟩) | (refine ⟨by rfl, by rfl, by rfl, ?_⟩; exact ⟨[some 0], rfl, by simp, by simp [HWeak, BWeak, SWeak, AWeak], .inl (by simp [AWeak, SWeak])⟩)
/-- The table of powers of ten. -/
def HP (G : Globals) : Prop := G 5 = some (ints .u64 Lib.pow10Tab)
def Tryz.laysLen64_ren : Go.Shelf.Ren := ⟨fun | 129 => 141 | n => n, fun | 53 => 165 | 3 => 3 | 4 => 4 | 46 => 129 | 5 => 5 | 9 => 9 | n => n, fun | n => n⟩
theorem Tryz.laysLen64 : Go.Proofs.Lays.n129 Tryz.prog Tryz.laysLen64_ren where
  mixed := by kernel_rfl
  f129 := Tryz.func141.trans (congrArg some (by kernel_rfl))
  t3 := Tryz.underlying3
  a3 := Tryz.isAgg3
  z3 := Tryz.sizeOf3
  v3 := Tryz.zeroValue3
  t4 := Tryz.underlying4
  a4 := Tryz.isAgg4
  z4 := Tryz.sizeOf4
  v4 := Tryz.zeroValue4
  t5 := Tryz.underlying5
  a5 := Tryz.isAgg5
  z5 := Tryz.sizeOf5
  v5 := Tryz.zeroValue5
  t9 := Tryz.underlying9
  a9 := Tryz.isAgg9
  z9 := Tryz.sizeOf9
  v9 := Tryz.zeroValue9
  t46 := Tryz.underlying129
  a46 := Tryz.isAgg129
  z46 := Tryz.sizeOf129
  v46 := Tryz.zeroValue129
  t53 := Tryz.underlying165
  a53 := Tryz.isAgg165
  z53 := Tryz.sizeOf165
  v53 := Tryz.zeroValue165

theorem len64_spec (n : Nat) (h : n < 18446744073709551616) : Ctr Tryz.prog G 141 [.d (.int .u64 n)] [] (.d (.int .i64 (Lib.bitLen n))) [] := by
  refine Ctr.of_calls go141 fun h ρ w vs q r => ?_
  obtain ⟨v, rfl, hv⟩ := r.inv1
  rw [hv.int_inv]
  refine (Any.bits_Len64 Tryz.laysLen64 n w (by omega) (by omega)).mono ?_
  rintro e w' ⟨rfl, rfl⟩
  exact ⟨_, rfl, .int _ _, .refl _ _⟩
theorem log10_spec (x : Nat) (h : x ≤ 64) : Ctr Tryz.prog G 202 [.d (.int .i64 x)] [] (.d (.int .i64 (Lib.l10 x))) [] := by
  refine Ctr.pure (M := M0) hmix Tryz.func202 rfl go202 ?_
  simp (config := { maxSteps := 1000000 }) (disch := ((try simp only [awL]); omega)) only [QR, QS, QT, QU, QV, QW, QX, QY, QZ, Q0, Q1, Q2, Tryz.f202, ↓awU, awV, awF, Qa, Qb, Qc, Qd, forall_const, ↓reduceIte, ↓reduceDIte, ↓Qe, Qf, Qg, Qh, Qi, Qj, Qk, Ql, Qm, Qn, Qo, Qp, Qq, Qr, Qs, implies_true, Qt, Qu, Qv, Qw, Qx, Qy, Qz, QA, QB, QC, QD, QE, QF, QG, QH, QI, QJ, QK, QL, QM, QN, QO, QP, QQ]
  unfold Lib.l10; omega
theorem bool2_spec (b : Bool) : Ctr Tryz.prog G 203 [.d (.bool b)] [] (.d (.int .i64 (if b = true then 1 else 0))) [] := by
  refine Ctr.pure (M := M0) hmix Tryz.func203 rfl go203 ?_
  cases b
  · simp (config := { maxSteps := 1000000 }) (disch := ((try simp only [awL]); omega)) only [QR, QS, QT, QU, QV, QW, QX, QY, QZ, Q0, Q1, Q2, Tryz.f203, ↓awU, awV, awF, Qa, Qb, Qc, Qd, forall_const, ↓reduceIte, ↓reduceDIte, ↓Qe, Qf, Qg, Qh, Qi, Qj, Qk, Ql, Qm, Qn, Qo, Qp, Qq, Qr, Qs, implies_true, Qt, Qu, Qv, Qw, Qx, Qy, Qz, QA, QB, QC, QD, QE, QF, QG, QH, QI, QJ, QK, QL, QM, QN, QO, QP, QQ]
    try rfl
  · simp (config := { maxSteps := 1000000 }) (disch := ((try simp only [awL]); omega)) only [QR, QS, QT, QU, QV, QW, QX, QY, QZ, Q0, Q1, Q2, Tryz.f203, ↓awU, awV, awF, Qa, Qb, Qc, Qd, forall_const, ↓reduceIte, ↓reduceDIte, ↓Qe, Qf, Qg, Qh, Qi, Qj, Qk, Ql, Qm, Qn, Qo, Qp, Qq, Qr, Qs, implies_true, Qt, Qu, Qv, Qw, Qx, Qy, Qz, QA, QB, QC, QD, QE, QF, QG, QH, QI, QJ, QK, QL, QM, QN, QO, QP, QQ]
    try rfl
theorem bitLen_10 {n : Nat} (h2 : n < 10000000) : Lib.bitLen n ≤ 24 := Lib.bitLen_le n 24 (by decide) (by omega)
set_option maxHeartbeats 4000000 in
set_option maxRecDepth 100000 in
theorem numDigits_spec (hP : HP G) (n : Nat) (h1 : 1 ≤ n) (h2 : n < 10000000) : Ctr Tryz.prog G 184 [.d (.int .u64 n)] [] (.d (.int .i64 (Lib.nDigits n))) [] := by
  refine Ctr.pure (M := M0) hmix Tryz.func184 rfl go184 ?_
  have hP' : G 5 = some (ints .u64 Lib.pow10Tab) := hP
  obtain ⟨e1, e2⟩ := Lib.numDigits_eq n h1 (by omega)
  have hb := bitLen_10 h2
  have g0 := ints_getD (k := .u64) (d := .nilp) (l := Lib.pow10Tab) (i := Lib.l10 (Lib.bitLen n)) (by rw [Lib.pow10Tab_length]; omega)
  rw [Lib.pow10Tab_at _ (by omega)] at g0
  have pl := @ints_length .u64 Lib.pow10Tab
  rw [Lib.pow10Tab_length] at pl
  simp (config := { maxSteps := 1000000 }) (disch := ((try simp only [awL]); omega)) only [QR, QS, QT, QU, QV, QW, QX, QY, QZ, Q0, Q1, Q2, Tryz.f184, ↓awU, awV, awF, Qa, Qb, Qc, Qd, forall_const, ↓reduceIte, ↓reduceDIte, ↓Qe, Qf, Qg, Qh, Qi, Qj, Qk, Ql, Qm, Qn, Qo, Qp, Qq, Qr, Qs, implies_true, Qt, Qu, Qv, Qw, Qx, Qy, Qz, QA, QB, QC, QD, QE, QF, QG, QH, QI, QJ, QK, QL, QM, QN, QO, QP, QQ]
  refine CallC.pure (len64_spec n (by omega)) ?_
  simp (config := { maxSteps := 1000000 }) (disch := ((try simp only [awL]); omega)) only [QR, QS, QT, QU, QV, QW, QX, QY, QZ, Q0, Q1, Q2, ↓awU, awV, awF, Qa, Qb, Qc, Qd, forall_const, ↓reduceIte, ↓reduceDIte, ↓Qe, Qf, Qg, Qh, Qi, Qj, Qk, Ql, Qm, Qn, Qo, Qp, Qq, Qr, Qs, implies_true, Qt, Qu, Qv, Qw, Qx, Qy, Qz, QA, QB, QC, QD, QE, QF, QG, QH, QI, QJ, QK, QL, QM, QN, QO, QP, QQ]
  refine CallC.pure (log10_spec (Lib.bitLen n) (by omega)) ?_
  generalize Lib.l10 (Lib.bitLen n) = q at *
  generalize (10 : Nat) ^ q = t at *
  simp (config := { maxSteps := 1000000 }) (disch := ((try simp only [awL]); omega)) only [QR, QS, QT, QU, QV, QW, QX, QY, QZ, Q0, Q1, Q2, hP', pl, g0, ↓awU, awV, awF, Qa, Qb, Qc, Qd, forall_const, ↓reduceIte, ↓reduceDIte, ↓Qe, Qf, Qg, Qh, Qi, Qj, Qk, Ql, Qm, Qn, Qo, Qp, Qq, Qr, Qs, implies_true, Qt, Qu, Qv, Qw, Qx, Qy, Qz, QA, QB, QC, QD, QE, QF, QG, QH, QI, QJ, QK, QL, QM, QN, QO, QP, QQ]
  refine CallC.pure (bool2_spec _) ?_
  rw [← e1]
  by_cases ht : t ≤ n
  · rw [show decide ((t : Int) ≤ (n : Int)) = true from decide_eq_true (by omega), if_pos rfl, if_pos ht]
    simp (config := { maxSteps := 1000000 }) (disch := ((try simp only [awL]); omega)) only [QR, QS, QT, QU, QV, QW, QX, QY, QZ, Q0, Q1, Q2, ↓awU, awV, awF, Qa, Qb, Qc, Qd, forall_const, ↓reduceIte, ↓reduceDIte, ↓Qe, Qf, Qg, Qh, Qi, Qj, Qk, Ql, Qm, Qn, Qo, Qp, Qq, Qr, Qs, implies_true, Qt, Qu, Qv, Qw, Qx, Qy, Qz, QA, QB, QC, QD, QE, QF, QG, QH, QI, QJ, QK, QL, QM, QN, QO, QP, QQ]
    try rfl
  · rw [show decide ((t : Int) ≤ (n : Int)) = false from decide_eq_false (by omega), if_neg ht, if_neg (show ¬ (false = true) by decide)]
    simp (config := { maxSteps := 1000000 }) (disch := ((try simp only [awL]); omega)) only [QR, QS, QT, QU, QV, QW, QX, QY, QZ, Q0, Q1, Q2, ↓awU, awV, awF, Qa, Qb, Qc, Qd, forall_const, ↓reduceIte, ↓reduceDIte, ↓Qe, Qf, Qg, Qh, Qi, Qj, Qk, Ql, Qm, Qn, Qo, Qp, Qq, Qr, Qs, implies_true, Qt, Qu, Qv, Qw, Qx, Qy, Qz, QA, QB, QC, QD, QE, QF, QG, QH, QI, QJ, QK, QL, QM, QN, QO, QP, QQ]
    try rfl
def MI : Muts := fun k => k == 185
theorem MI_t : MI 185 = true := rfl
theorem MI_n {k : Nat} (h : k ≠ 185) : MI k = false := by simpa only [MI, beq_eq_false_iff_ne] using h
theorem nd_of {n k m : Nat} (h1 : 10 ^ k ≤ n) (h2 : n < 10 ^ (k + 1)) (e : m = k + 1) : ((Lib.nDigits n : Nat) : Int) = m := by rw [Lib.nDigits_unique k n h1 h2, e]
theorem num8 {k : Nat} (h : k < 10) : ((UInt8.ofNat (48 + k)).toNat : Int) = ((48 + k : Nat) : Int) := by simp; omega
theorem cut_row (l z : List UInt8) : cut (ints .u8 ([0] ++ (nums l ++ nums z))) 1 l.length = ints .u8 (nums l) := by
  simp only [cut, ints, nums, List.map_append, List.map_cons, List.map_nil, List.map_map, List.singleton_append, List.drop_succ_cons, List.drop_zero]
  rw [List.take_append_of_le_length (by simp), List.take_of_length_le (by simp)]
theorem row3 {n : Nat} (h1 : 100 ≤ n) (h : n < 1000) : ints .u8 ([0, ((48 + n / 100 : Nat) : Int), ((48 + n % 100 / 10 : Nat) : Int), ((48 + n % 100 % 10 : Nat) : Int)] ++ List.replicate 20 0) = ints .u8 ([0] ++ (nums (Lib.decDigits n) ++ nums (List.replicate 20 0))) := by
  rw [dd3 h1 h, prD]; simp only [nums, List.map_append, List.map_cons, List.map_nil]; rw [num8 (by omega), num8 (by omega), num8 (by omega)]; rfl
theorem row4 {n : Nat} (h1 : 1000 ≤ n) (h : n < 10000) : ints .u8 ([0, ((48 + n % 10000 / 100 / 10 : Nat) : Int), ((48 + n % 10000 / 100 % 10 : Nat) : Int), ((48 + n % 10000 % 100 / 10 : Nat) : Int), ((48 + n % 10000 % 100 % 10 : Nat) : Int)] ++ List.replicate 19 0) = ints .u8 ([0] ++ (nums (Lib.decDigits n) ++ nums (List.replicate 19 0))) := by
  rw [dd4 h1 h, Nat.mod_eq_of_lt h, prD, prD]; simp only [nums, List.map_append, List.map_cons, List.map_nil]; rw [num8 (by omega), num8 (by omega), num8 (by omega), num8 (by omega)]; rfl
theorem row5 {n : Nat} (h1 : 10000 ≤ n) (h : n < 100000) : ints .u8 ([0, ((48 + n / 10000 : Nat) : Int), ((48 + n % 10000 / 100 / 10 : Nat) : Int), ((48 + n % 10000 / 100 % 10 : Nat) : Int), ((48 + n % 10000 % 100 / 10 : Nat) : Int), ((48 + n % 10000 % 100 % 10 : Nat) : Int)] ++ List.replicate 18 0) = ints .u8 ([0] ++ (nums (Lib.decDigits n) ++ nums (List.replicate 18 0))) := by
  rw [dd5 h1 h, prD, prD]; simp only [nums, List.map_append, List.map_cons, List.map_nil]; rw [num8 (by omega), num8 (by omega), num8 (by omega), num8 (by omega), num8 (by omega)]; rfl
theorem row6 {n : Nat} (h1 : 100000 ≤ n) (h : n < 1000000) : ints .u8 ([0, ((48 + n / 10000 % 100 / 10 : Nat) : Int), ((48 + n / 10000 % 100 % 10 : Nat) : Int), ((48 + n % 10000 / 100 / 10 : Nat) : Int), ((48 + n % 10000 / 100 % 10 : Nat) : Int), ((48 + n % 10000 % 100 / 10 : Nat) : Int), ((48 + n % 10000 % 100 % 10 : Nat) : Int)] ++ List.replicate 17 0) = ints .u8 ([0] ++ (nums (Lib.decDigits n) ++ nums (List.replicate 17 0))) := by
  rw [dd6 h1 h, Nat.mod_eq_of_lt (show n / 10000 < 100 by omega), prD, prD, prD]; simp only [nums, List.map_append, List.map_cons, List.map_nil]; rw [num8 (by omega), num8 (by omega), num8 (by omega), num8 (by omega), num8 (by omega), num8 (by omega)]; rfl
theorem row7 {n : Nat} (h1 : 1000000 ≤ n) (h : n < 10000000) : ints .u8 ([0, ((48 + n / 10000 / 100 : Nat) : Int), ((48 + n / 10000 % 100 / 10 : Nat) : Int), ((48 + n / 10000 % 100 % 10 : Nat) : Int), ((48 + n % 10000 / 100 / 10 : Nat) : Int), ((48 + n % 10000 / 100 % 10 : Nat) : Int), ((48 + n % 10000 % 100 / 10 : Nat) : Int), ((48 + n % 10000 % 100 % 10 : Nat) : Int)] ++ List.replicate 16 0) = ints .u8 ([0] ++ (nums (Lib.decDigits n) ++ nums (List.replicate 16 0))) := by
  rw [dd7 h1 h, prD, prD, prD]; simp only [nums, List.map_append, List.map_cons, List.map_nil]; rw [num8 (by omega), num8 (by omega), num8 (by omega), num8 (by omega), num8 (by omega), num8 (by omega), num8 (by omega)]; rfl
set_option maxHeartbeats 4000000 in
set_option maxRecDepth 100000 in
theorem formatIntN_spec (hP : HP G) (n : Nat) (h1 : 100 ≤ n) (h2 : n < 10000000) : Ctr Tryz.prog G 148 [.d (.int .i64 n), .d (.int .i64 10)] [] (.d (S (Lib.decDigits n))) [] := by
  refine Ctr.pure (M := MI) hmix Tryz.func148 rfl go148 ?_
  simp (config := { maxSteps := 1000000 }) (disch := ((try simp only [awL]); omega)) only [QR, QS, QT, QU, QV, QW, QX, QY, QZ, Q0, Q1, Q2, MI_t, MI_n, Tryz.f148, ↓awU, awV, awF, Qa, Qb, Qc, Qd, forall_const, ↓reduceIte, ↓reduceDIte, ↓Qe, Qf, Qg, Qh, Qi, Qj, Qk, Ql, Qm, Qn, Qo, Qp, Qq, Qr, Qs, implies_true, Qt, Qu, Qv, Qw, Qx, Qy, Qz, QA, QB, QC, QD, QE, QF, QG, QH, QI, QJ, QK, QL, QM, QN, QO, QP, QQ]
  refine CallC.pure (numDigits_spec hP n (by omega) h2) ?_
  have dl := Lib.decDigits_length n
  rcases (by omega : n < 1000 ∨ (1000 ≤ n ∧ n < 10000) ∨ (10000 ≤ n ∧ n < 100000) ∨ (100000 ≤ n ∧ n < 1000000) ∨ 1000000 ≤ n) with h | ⟨h3, h4⟩ | ⟨h3, h4⟩ | ⟨h3, h4⟩ | h
  · have en : ((Lib.nDigits n : Nat) : Int) = 3 := nd_of (k := 2) (by omega) (by omega) rfl
    have dl2 : (Lib.decDigits n).length = 3 := by omega
    have sp := fb3_spec (G := G) n h1 h
    rw [row3 h1 h] at sp
    rw [en]
    simp (config := { maxSteps := 1000000 }) (disch := ((try simp only [awL]); omega)) only [QR, QS, QT, QU, QV, QW, QX, QY, QZ, Q0, Q1, Q2, MI_t, MI_n, ↓awU, awV, awF, Qa, Qb, Qc, Qd, forall_const, ↓reduceIte, ↓reduceDIte, ↓Qe, Qf, Qg, Qh, Qi, Qj, Qk, Ql, Qm, Qn, Qo, Qp, Qq, Qr, Qs, implies_true, Qt, Qu, Qv, Qw, Qx, Qy, Qz, QA, QB, QC, QD, QE, QF, QG, QH, QI, QJ, QK, QL, QM, QN, QO, QP, QQ]
    generalize Lib.decDigits n = dg at *
    refine CallC.by sp (by rfl) (by rfl) (by simp) ?_
    have cr := cut_row dg (List.replicate 20 0)
    rw [dl2] at cr
    have rl : (ints .u8 ([0] ++ (nums dg ++ nums (List.replicate 20 0)))).length = 24 := by rw [ints_length]; simp only [List.length_append, nums_length, List.length_replicate, dl2, List.length_cons, List.length_nil]
    generalize ints .u8 ([0] ++ (nums dg ++ nums (List.replicate 20 0))) = rw at *
    simp (config := { maxSteps := 1000000 }) (disch := ((try simp only [awL]); omega)) only [QR, QS, QT, QU, QV, QW, QX, QY, QZ, Q0, Q1, Q2, MI_t, MI_n, rl, cr, numsOf_ints, strOfNums_nums, ↓awU, awV, awF, Qa, Qb, Qc, Qd, forall_const, ↓reduceIte, ↓reduceDIte, ↓Qe, Qf, Qg, Qh, Qi, Qj, Qk, Ql, Qm, Qn, Qo, Qp, Qq, Qr, Qs, implies_true, Qt, Qu, Qv, Qw, Qx, Qy, Qz, QA, QB, QC, QD, QE, QF, QG, QH, QI, QJ, QK, QL, QM, QN, QO, QP, QQ]
    try rfl
  · have en : ((Lib.nDigits n : Nat) : Int) = 4 := nd_of (k := 3) (by omega) (by omega) rfl
    have dl2 : (Lib.decDigits n).length = 4 := by omega
    have sp := fb4_spec (G := G) n h3 h4
    rw [row4 h3 h4] at sp
    rw [en]
    simp (config := { maxSteps := 1000000 }) (disch := ((try simp only [awL]); omega)) only [QR, QS, QT, QU, QV, QW, QX, QY, QZ, Q0, Q1, Q2, MI_t, MI_n, ↓awU, awV, awF, Qa, Qb, Qc, Qd, forall_const, ↓reduceIte, ↓reduceDIte, ↓Qe, Qf, Qg, Qh, Qi, Qj, Qk, Ql, Qm, Qn, Qo, Qp, Qq, Qr, Qs, implies_true, Qt, Qu, Qv, Qw, Qx, Qy, Qz, QA, QB, QC, QD, QE, QF, QG, QH, QI, QJ, QK, QL, QM, QN, QO, QP, QQ]
    generalize Lib.decDigits n = dg at *
    refine CallC.by sp (by rfl) (by rfl) (by simp) ?_
    have cr := cut_row dg (List.replicate 19 0)
    rw [dl2] at cr
    have rl : (ints .u8 ([0] ++ (nums dg ++ nums (List.replicate 19 0)))).length = 24 := by rw [ints_length]; simp only [List.length_append, nums_length, List.length_replicate, dl2, List.length_cons, List.length_nil]
    generalize ints .u8 ([0] ++ (nums dg ++ nums (List.replicate 19 0))) = rw at *
    simp (config := { maxSteps := 1000000 }) (disch := ((try simp only [awL]); omega)) only [QR, QS, QT, QU, QV, QW, QX, QY, QZ, Q0, Q1, Q2, MI_t, MI_n, rl, cr, numsOf_ints, strOfNums_nums, ↓awU, awV, awF, Qa, Qb, Qc, Qd, forall_const, ↓reduceIte, ↓reduceDIte, ↓Qe, Qf, Qg, Qh, Qi, Qj, Qk, Ql, Qm, Qn, Qo, Qp, Qq, Qr, Qs, implies_true, Qt, Qu, Qv, Qw, Qx, Qy, Qz, QA, QB, QC, QD, QE, QF, QG, QH, QI, QJ, QK, QL, QM, QN, QO, QP, QQ]
    try rfl
  · have en : ((Lib.nDigits n : Nat) : Int) = 5 := nd_of (k := 4) (by omega) (by omega) rfl
    have dl2 : (Lib.decDigits n).length = 5 := by omega
    have sp := fb5_spec (G := G) n h3 h4
    rw [row5 h3 h4] at sp
    rw [en]
    simp (config := { maxSteps := 1000000 }) (disch := ((try simp only [awL]); omega)) only [QR, QS, QT, QU, QV, QW, QX, QY, QZ, Q0, Q1, Q2, MI_t, MI_n, ↓awU, awV, awF, Qa, Qb, Qc, Qd, forall_const, ↓reduceIte, ↓reduceDIte, ↓Qe, Qf, Qg, Qh, Qi, Qj, Qk, Ql, Qm, Qn, Qo, Qp, Qq, Qr, Qs, implies_true, Qt, Qu, Qv, Qw, Qx, Qy, Qz, QA, QB, QC, QD, QE, QF, QG, QH, QI, QJ, QK, QL, QM, QN, QO, QP, QQ]
    generalize Lib.decDigits n = dg at *
    refine CallC.by sp (by rfl) (by rfl) (by simp) ?_
    have cr := cut_row dg (List.replicate 18 0)
    rw [dl2] at cr
    have rl : (ints .u8 ([0] ++ (nums dg ++ nums (List.replicate 18 0)))).length = 24 := by rw [ints_length]; simp only [List.length_append, nums_length, List.length_replicate, dl2, List.length_cons, List.length_nil]
    generalize ints .u8 ([0] ++ (nums dg ++ nums (List.replicate 18 0))) = rw at *
    simp (config := { maxSteps := 1000000 }) (disch := ((try simp only [awL]); omega)) only [QR, QS, QT, QU, QV, QW, QX, QY, QZ, Q0, Q1, Q2, MI_t, MI_n, rl, cr, numsOf_ints, strOfNums_nums, ↓awU, awV, awF, Qa, Qb, Qc, Qd, forall_const, ↓reduceIte, ↓reduceDIte, ↓Qe, Qf, Qg, Qh, Qi, Qj, Qk, Ql, Qm, Qn, Qo, Qp, Qq, Qr, Qs, implies_true, Qt, Qu, Qv, Qw, Qx, Qy, Qz, QA, QB, QC, QD, QE, QF, QG, QH, QI, QJ, QK, QL, QM, QN, QO, QP, QQ]
    try rfl
  · have en : ((Lib.nDigits n : Nat) : Int) = 6 := nd_of (k := 5) (by omega) (by omega) rfl
    have dl2 : (Lib.decDigits n).length = 6 := by omega
    have sp := fb6_spec (G := G) n h3 h4
    rw [row6 h3 h4] at sp
    rw [en]
    simp (config := { maxSteps := 1000000 }) (disch := ((try simp only [awL]); omega)) only [QR, QS, QT, QU, QV, QW, QX, QY, QZ, Q0, Q1, Q2, MI_t, MI_n, ↓awU, awV, awF, Qa, Qb, Qc, Qd, forall_const, ↓reduceIte, ↓reduceDIte, ↓Qe, Qf, Qg, Qh, Qi, Qj, Qk, Ql, Qm, Qn, Qo, Qp, Qq, Qr, Qs, implies_true, Qt, Qu, Qv, Qw, Qx, Qy, Qz, QA, QB, QC, QD, QE, QF, QG, QH, QI, QJ, QK, QL, QM, QN, QO, QP, QQ]
    generalize Lib.decDigits n = dg at *
    refine CallC.by sp (by rfl) (by rfl) (by simp) ?_
    have cr := cut_row dg (List.replicate 17 0)
    rw [dl2] at cr
    have rl : (ints .u8 ([0] ++ (nums dg ++ nums (List.replicate 17 0)))).length = 24 := by rw [ints_length]; simp only [List.length_append, nums_length, List.length_replicate, dl2, List.length_cons, List.length_nil]
    generalize ints .u8 ([0] ++ (nums dg ++ nums (List.replicate 17 0))) = rw at *
    simp (config := { maxSteps := 1000000 }) (disch := ((try simp only [awL]); omega)) only [QR, QS, QT, QU, QV, QW, QX, QY, QZ, Q0, Q1, Q2, MI_t, MI_n, rl, cr, numsOf_ints, strOfNums_nums, ↓awU, awV, awF, Qa, Qb, Qc, Qd, forall_const, ↓reduceIte, ↓reduceDIte, ↓Qe, Qf, Qg, Qh, Qi, Qj, Qk, Ql, Qm, Qn, Qo, Qp, Qq, Qr, Qs, implies_true, Qt, Qu, Qv, Qw, Qx, Qy, Qz, QA, QB, QC, QD, QE, QF, QG, QH, QI, QJ, QK, QL, QM, QN, QO, QP, QQ]
    try rfl
  · have en : ((Lib.nDigits n : Nat) : Int) = 7 := nd_of (k := 6) (by omega) (by omega) rfl
    have dl2 : (Lib.decDigits n).length = 7 := by omega
    have sp := fb7_spec (G := G) n h h2
    rw [row7 h h2] at sp
    rw [en]
    simp (config := { maxSteps := 1000000 }) (disch := ((try simp only [awL]); omega)) only [QR, QS, QT, QU, QV, QW, QX, QY, QZ, Q0, Q1, Q2, MI_t, MI_n, ↓awU, awV, awF, Qa, Qb, Qc, Qd, forall_const, ↓reduceIte, ↓reduceDIte, ↓Qe, Qf, Qg, Qh, Qi, Qj, Qk, Ql, Qm, Qn, Qo, Qp, Qq, Qr, Qs, implies_true, Qt, Qu, Qv, Qw, Qx, Qy, Qz, QA, QB, QC, QD, QE, QF, QG, QH, QI, QJ, QK, QL, QM, QN, QO, QP, QQ]
    generalize Lib.decDigits n = dg at *
    refine CallC.by sp (by rfl) (by rfl) (by simp) ?_
    have cr := cut_row dg (List.replicate 16 0)
    rw [dl2] at cr
    have rl : (ints .u8 ([0] ++ (nums dg ++ nums (List.replicate 16 0)))).length = 24 := by rw [ints_length]; simp only [List.length_append, nums_length, List.length_replicate, dl2, List.length_cons, List.length_nil]
    generalize ints .u8 ([0] ++ (nums dg ++ nums (List.replicate 16 0))) = rw at *
    simp (config := { maxSteps := 1000000 }) (disch := ((try simp only [awL]); omega)) only [QR, QS, QT, QU, QV, QW, QX, QY, QZ, Q0, Q1, Q2, MI_t, MI_n, rl, cr, numsOf_ints, strOfNums_nums, ↓awU, awV, awF, Qa, Qb, Qc, Qd, forall_const, ↓reduceIte, ↓reduceDIte, ↓Qe, Qf, Qg, Qh, Qi, Qj, Qk, Ql, Qm, Qn, Qo, Qp, Qq, Qr, Qs, implies_true, Qt, Qu, Qv, Qw, Qx, Qy, Qz, QA, QB, QC, QD, QE, QF, QG, QH, QI, QJ, QK, QL, QM, QN, QO, QP, QQ]
    try rfl
theorem itoaL_dec {n : Nat} (h : n < 100) : itoaL n = Lib.decDigits n := by
  unfold itoaL
  split
  · rw [dd_one (by omega)]
  · rw [dd_two (by omega) h]; rfl
theorem formatIntA_spec (hP : HP G) (n : Nat) (h2 : n < 10000000) : Ctr Tryz.prog G 148 [.d (.int .i64 n), .d (.int .i64 10)] [] (.d (S (Lib.decDigits n))) [] := by
  rcases Nat.lt_or_ge n 100 with h | h
  · rw [← itoaL_dec h]; exact formatInt_spec n h
  · exact formatIntN_spec hP n h h2
theorem itoaIA_spec (hP : HP G) (n : Nat) (h : n < 10000000) : Ctr Tryz.prog G 115 [.d (.int .i64 n)] [] (.d (S (Lib.decDigits n))) [] := by
  refine Ctr.pure (M := M0) hmix Tryz.func115 rfl go115 ?_
  simp (config := { maxSteps := 1000000 }) (disch := ((try simp only [awL]); omega)) only [QR, QS, QT, QU, QV, QW, QX, QY, QZ, Q0, Q1, Q2, Tryz.f115, ↓awU, awV, awF, Qa, Qb, Qc, Qd, forall_const, ↓reduceIte, ↓reduceDIte, ↓Qe, Qf, Qg, Qh, Qi, Qj, Qk, Ql, Qm, Qn, Qo, Qp, Qq, Qr, Qs, implies_true, Qt, Qu, Qv, Qw, Qx, Qy, Qz, QA, QB, QC, QD, QE, QF, QG, QH, QI, QJ, QK, QL, QM, QN, QO, QP, QQ]
  refine CallC.pure (formatIntA_spec hP n h) ?_
  simp (config := { maxSteps := 1000000 }) (disch := ((try simp only [awL]); omega)) only [QR, QS, QT, QU, QV, QW, QX, QY, QZ, Q0, Q1, Q2, ↓awU, awV, awF, Qa, Qb, Qc, Qd, forall_const, ↓reduceIte, ↓reduceDIte, ↓Qe, Qf, Qg, Qh, Qi, Qj, Qk, Ql, Qm, Qn, Qo, Qp, Qq, Qr, Qs, implies_true, Qt, Qu, Qv, Qw, Qx, Qy, Qz, QA, QB, QC, QD, QE, QF, QG, QH, QI, QJ, QK, QL, QM, QN, QO, QP, QQ]
  first | done | rfl
theorem itoaA_spec (hP : HP G) (n : Nat) (h : n < 10000000) : Ctr Tryz.prog G 79 [.d (.int .i64 n)] [] (.d (S (Lib.decDigits n))) [] := by
  refine Ctr.pure (M := M0) hmix Tryz.func79 rfl go79 ?_
  simp (config := { maxSteps := 1000000 }) (disch := ((try simp only [awL]); omega)) only [QR, QS, QT, QU, QV, QW, QX, QY, QZ, Q0, Q1, Q2, Tryz.f79, ↓awU, awV, awF, Qa, Qb, Qc, Qd, forall_const, ↓reduceIte, ↓reduceDIte, ↓Qe, Qf, Qg, Qh, Qi, Qj, Qk, Ql, Qm, Qn, Qo, Qp, Qq, Qr, Qs, implies_true, Qt, Qu, Qv, Qw, Qx, Qy, Qz, QA, QB, QC, QD, QE, QF, QG, QH, QI, QJ, QK, QL, QM, QN, QO, QP, QQ]
  refine CallC.pure (itoaIA_spec hP n h) ?_
  simp (config := { maxSteps := 1000000 }) (disch := ((try simp only [awL]); omega)) only [QR, QS, QT, QU, QV, QW, QX, QY, QZ, Q0, Q1, Q2, ↓awU, awV, awF, Qa, Qb, Qc, Qd, forall_const, ↓reduceIte, ↓reduceDIte, ↓Qe, Qf, Qg, Qh, Qi, Qj, Qk, Ql, Qm, Qn, Qo, Qp, Qq, Qr, Qs, implies_true, Qt, Qu, Qv, Qw, Qx, Qy, Qz, QA, QB, QC, QD, QE, QF, QG, QH, QI, QJ, QK, QL, QM, QN, QO, QP, QQ]
  first | done | rfl
theorem hi_of (hP : HP G) : HI G := fun n hn => itoaA_spec hP n (by omega)
end Go.Proofs.YtacepalmphbnfaaGreatDoor

/-
  What every law of this seat needs: what the listed tables and errors hold, and what the contracts are told of them.
-/
namespace Go.Proofs.YtacepalmphbnfaaGreatDoor
open Go Go.Proofs Go.Abs Go.RowKit Go.ChangeShapes Go.WideShapes Go.ChangeAt Go.Shelf Go.Joins Go.Deep
theorem mem_getD' {l : List Int} {i : Nat} {d : Int} (h : i < l.length) : l.getD i d ∈ l := by
  rw [List.getD_eq_getElem?_getD, List.getElem?_eq_getElem h]; exact List.getElem_mem h
theorem own : ownKnob Tryz.prog.godebug = none := by kernel_rfl
theorem laidOut : laidOutB Tryz.prog = true := by kernel_rfl
theorem cU8 : Tryz.prog.cellsOf 5 = 1 := by kernel_rfl
theorem cU64 : Tryz.prog.cellsOf 165 = 1 := by kernel_rfl
theorem list_u8 {l : List Int} (h : ∀ n ∈ l, (Lit.int .u8 n).wf = true) : ∀ i, 0 ≤ l.getD i 0 ∧ l.getD i 0 ≤ 255 := by
  intro i
  rcases Nat.lt_or_ge i l.length with hi | hi
  · have := h _ (mem_getD' (d := 0) hi)
    simp [Lit.wf, IntKind.min, IntKind.max, IntKind.bits, IntKind.signed] at this
    rw [List.getD_eq_getElem?_getD]
    omega
  · rw [List.getD_eq_getElem?_getD, List.getElem?_eq_none hi]; simp
/-- What the contracts are told of the variables; b: of the errors too. -/
def G1 (b : Bool) : Globals := fun g => if g = 0 then some firstDs else if g = 1 then some accDs else if g = 5 then some (ints .u64 Lib.pow10Tab)
  else if b = true ∧ (g = 2 ∨ g = 3) then some [.ifc] else none
theorem hP1 {b : Bool} : HP (G1 b) := rfl
theorem hI1 {b : Bool} : HI (G1 b) := hi_of hP1
theorem hE1 : HE (G1 true) := ⟨rfl, rfl⟩
theorem u8types : U8Types Tryz.prog Tryz.laysValid_ren := U8Types.of196 Tryz.laysValid
theorem u8extra : U8Extra Tryz.prog Tryz.laysValid_ren where
  n3 := by kernel_rfl
  n4 := by kernel_rfl
  y3 := by kernel_rfl
  y4 := by kernel_rfl
  c5 := by kernel_rfl
  c119 := by kernel_rfl
  c138 := by kernel_rfl
theorem first_eq : Rows.laid_unicode_utf8_first = Lib.firstData := by kernel_rfl
theorem accept_eq : (Rows.laid_unicode_utf8_acceptRanges : DataW Unit) = Lib.acceptData := by kernel_rfl
theorem pow_eq : (Rows.laid_internal_strconv_uint64pow10 : DataW Unit) = Lib.tabData .u64 Lib.pow10Tab := by kernel_rfl
theorem gPow : Tryz.prog.globalNamed "internal/strconv.uint64pow10" = some 5 := by kernel_rfl
theorem tPow : (Tryz.prog.globals[5]?).map (·.type) = some 220 := by kernel_rfl
theorem cPow : Tryz.prog.cellsOf 220 = 20 := by kernel_rfl
theorem gSyn : Tryz.prog.globalNamed "strconv.ErrSyntax" = some 2 := by kernel_rfl
theorem tSyn : (Tryz.prog.globals[2]?).map (·.type) = some 100 := by kernel_rfl
theorem gRan : Tryz.prog.globalNamed "strconv.ErrRange" = some 3 := by kernel_rfl
theorem tRan : (Tryz.prog.globals[3]?).map (·.type) = some 100 := by kernel_rfl
theorem iface_cell {X : World} {g : Nat} {n nm : String} {d : DataW Unit} (hg0 : Tryz.prog.globalNamed n = some g) (ht0 : (Tryz.prog.globals[g]?).map (·.type) = some 100) (h : Lib.VarReads Tryz.prog X n (.iface nm d)) : ∃ u v, X.cell? ⟨g, 0, none⟩ = some (.iface u v) := by
  obtain ⟨g', t, cs, fuel, p, hg, ht, hv, hd⟩ := h
  obtain rfl := Option.some.inj (hg0.symm.trans hg)
  obtain rfl := Option.some.inj (ht0.symm.trans ht)
  obtain ⟨f2, u, v, hcs, _, _⟩ := iface_of_trod Tryz.underlying100 hd
  refine ⟨u, v, ?_⟩
  rw [World.var?_cell hg hv 0, ← Array.getElem?_toList, hcs]
  rfl
theorem globOK {X : World} {b : Bool} (h1 : Lib.VarReads Tryz.prog X "unicode/utf8.first" Rows.laid_unicode_utf8_first) (h2 : Lib.VarReads Tryz.prog X "unicode/utf8.acceptRanges" Rows.laid_unicode_utf8_acceptRanges)
    (h3 : Lib.VarReads Tryz.prog X "internal/strconv.uint64pow10" Rows.laid_internal_strconv_uint64pow10)
    (h4 : b = true → Lib.VarReads Tryz.prog X "strconv.ErrSyntax" Rows.laid_strconv_ErrSyntax ∧ Lib.VarReads Tryz.prog X "strconv.ErrRange" Rows.laid_strconv_ErrRange) : GlobOK (G1 b) X := by
  rw [first_eq] at h1
  rw [accept_eq] at h2
  rw [pow_eq] at h3
  obtain ⟨t1, t2⟩ : Lib.Utf8Tabs 0 1 X := utf8Tabs_of_readsT u8types u8extra h1 h2
  intro g ds hg
  unfold G1 at hg
  split at hg
  · rename_i e; subst e; cases hg
    refine ⟨fun i => .int .u8 (Lib.firstT i), fun i x hx => ?_, fun i x hx => ?_⟩
    · have hi : i < 256 := by have := (List.getElem?_eq_some_iff.1 hx).1; simpa [firstDs] using this
      exact t1 i hi
    · have hi : i < 256 := by have := (List.getElem?_eq_some_iff.1 hx).1; simpa [firstDs] using this
      simp [firstDs, hi] at hx
      subst hx; exact .int _ _
  · split at hg
    · rename_i e; subst e; cases hg
      refine ⟨fun i => .int .u8 ((if i % 2 = 0 then Lib.accLo (i / 2) else Lib.accHi (i / 2) : Nat) : Int), fun i x hx => ?_, fun i x hx => ?_⟩
      · have hi : i < 32 := by have := (List.getElem?_eq_some_iff.1 hx).1; simpa [accDs] using this
        obtain ⟨a, b⟩ := t2 (i / 2) (by omega)
        rcases (by omega : i % 2 = 0 ∨ i % 2 = 1) with h0 | h0
        · show X.cell? ⟨_, i, none⟩ = _
          simp only [if_pos h0]
          rw [← a, show 2 * (i / 2) = i by omega]
        · show X.cell? ⟨_, i, none⟩ = _
          simp only [if_neg (show ¬ i % 2 = 0 by omega)]
          rw [← b, show 2 * (i / 2) + 1 = i by omega]
      · have hi : i < 32 := by have := (List.getElem?_eq_some_iff.1 hx).1; simpa [accDs] using this
        simp only [accDs, List.getElem?_map, List.getElem?_range hi, Option.map_some, Option.some.injEq] at hx
        subst hx; exact .int _ _
    · split at hg
      · rename_i e; subst e; cases hg
        obtain ⟨g', t, cs, fuel, p, hg', ht', hvar, hd⟩ := h3
        obtain rfl := Option.some.inj (gPow.symm.trans hg')
        obtain rfl := Option.some.inj (tPow.symm.trans ht')
        have hcs := Lib.cells_of_tab Tryz.underlying220 Tryz.underlying165 cU64 cPow hd
        refine ⟨fun i => .int .u64 (Lib.pow10Tab.getD i 0), fun i x hx => ?_, fun i x hx => ?_⟩
        · have hi : i < Lib.pow10Tab.length := by have := (List.getElem?_eq_some_iff.1 hx).1; simpa [ints] using this
          show X.cell? ⟨_, i, none⟩ = _
          rw [World.var?_cell hg' hvar i, ← Array.getElem?_toList, hcs]
          simp [hi]
        · have hi : i < Lib.pow10Tab.length := by have := (List.getElem?_eq_some_iff.1 hx).1; simpa [ints] using this
          simp only [ints, List.getElem?_map, List.getElem?_eq_getElem hi, Option.map_some, Option.some.injEq] at hx
          subst hx
          show RD _ (Value.int .u64 (Lib.pow10Tab.getD i 0)) _
          rw [List.getD_eq_getElem?_getD, List.getElem?_eq_getElem hi]
          exact .int _ _
      · split at hg
        · rename_i e
          cases hg
          obtain ⟨q1, q2⟩ := h4 e.1
          have hc : ∃ u v, X.cell? ⟨g, 0, none⟩ = some (.iface u v) := by
            rcases e.2 with rfl | rfl
            · exact iface_cell gSyn tSyn q1
            · exact iface_cell gRan tRan q2
          obtain ⟨u, v, hc⟩ := hc
          refine ⟨fun _ => .iface u v, fun i x hx => ?_, fun i x hx => ?_⟩
          · rcases i with _ | i
            · exact hc
            · simp at hx
          · rcases i with _ | i
            · simp at hx; subst hx; exact .ifc _ _
            · simp at hx
        · cases hg
end Go.Proofs.YtacepalmphbnfaaGreatDoor
