/-
  Facts of the program: its types, and which functions are Go text: each by the kernel.
-/
import Derived.Test.YtpnhbjabnnibcaaLa3
import Derived.Test.YtpnhbjabnnibcaaChecked
import Derived.KernelRfl
import Derived.Test.YtpnhbjabnnibcaaRows
set_option linter.all false

namespace Go.Proofs.Ytpnhbjabnnibcaa
open Go Go.Proofs Go.Abs
theorem ti2 : tiOf Try.prog 2 = some ⟨.int .i64, 1, 8, [.int .i64 0]⟩ := by kernel_rfl
theorem ie2 : intE Try.prog 2 = some .i64 := by kernel_rfl
theorem it2 : intT Try.prog 2 = some .i64 := by kernel_rfl
theorem st2 : isStrT Try.prog 2 = false := by kernel_rfl
theorem ti3 : tiOf Try.prog 3 = some ⟨.int .i64, 1, 8, [.int .i64 0]⟩ := by kernel_rfl
theorem ie3 : intE Try.prog 3 = some .i64 := by kernel_rfl
theorem it3 : intT Try.prog 3 = some .i64 := by kernel_rfl
theorem st3 : isStrT Try.prog 3 = false := by kernel_rfl
theorem ti4 : tiOf Try.prog 4 = some ⟨.bool, 1, 1, [.bool false]⟩ := by kernel_rfl
theorem bt4 : isBoolT Try.prog 4 = true := by kernel_rfl
theorem ti5 : tiOf Try.prog 5 = some ⟨.int .u8, 1, 1, [.int .u8 0]⟩ := by kernel_rfl
theorem ie5 : intE Try.prog 5 = some .u8 := by kernel_rfl
theorem it5 : intT Try.prog 5 = some .u8 := by kernel_rfl
theorem st5 : isStrT Try.prog 5 = false := by kernel_rfl
theorem ti6 : tiOf Try.prog 6 = some ⟨.int .u8, 1, 1, [.int .u8 0]⟩ := by kernel_rfl
theorem ie6 : intE Try.prog 6 = some .u8 := by kernel_rfl
theorem it6 : intT Try.prog 6 = some .u8 := by kernel_rfl
theorem st6 : isStrT Try.prog 6 = false := by kernel_rfl
theorem ti7 : tiOf Try.prog 7 = some ⟨.struct [(0, 2, 1), (1, 3, 1), (2, 4, 1), (3, 6, 1)], 4, 24, [.int .i64 0, .int .i64 0, .bool false, .int .u8 0]⟩ := by kernel_rfl
theorem sf7_0 : structF Try.prog 7 0 = some (0, 2, 1) := by kernel_rfl
theorem sf7_1 : structF Try.prog 7 1 = some (1, 3, 1) := by kernel_rfl
theorem sf7_2 : structF Try.prog 7 2 = some (2, 4, 1) := by kernel_rfl
theorem sf7_3 : structF Try.prog 7 3 = some (3, 6, 1) := by kernel_rfl
theorem ti8 : tiOf Try.prog 8 = some ⟨.struct [(0, 2, 1), (1, 3, 1), (2, 4, 1), (3, 6, 1)], 4, 24, [.int .i64 0, .int .i64 0, .bool false, .int .u8 0]⟩ := by kernel_rfl
theorem sf8_0 : structF Try.prog 8 0 = some (0, 2, 1) := by kernel_rfl
theorem sf8_1 : structF Try.prog 8 1 = some (1, 3, 1) := by kernel_rfl
theorem sf8_2 : structF Try.prog 8 2 = some (2, 4, 1) := by kernel_rfl
theorem sf8_3 : structF Try.prog 8 3 = some (3, 6, 1) := by kernel_rfl
theorem ti9 : tiOf Try.prog 9 = some ⟨.string, 1, 16, [.str .empty]⟩ := by kernel_rfl
theorem st9 : isStrT Try.prog 9 = true := by kernel_rfl
theorem ap9 : appendable Try.prog 9 = true := by kernel_rfl
theorem it9 : intT Try.prog 9 = none := by kernel_rfl
theorem ti10 : tiOf Try.prog 10 = some ⟨.string, 1, 16, [.str .empty]⟩ := by kernel_rfl
theorem st10 : isStrT Try.prog 10 = true := by kernel_rfl
theorem ap10 : appendable Try.prog 10 = true := by kernel_rfl
theorem it10 : intT Try.prog 10 = none := by kernel_rfl
theorem ti11 : tiOf Try.prog 11 = some ⟨.string, 1, 16, [.str .empty]⟩ := by kernel_rfl
theorem st11 : isStrT Try.prog 11 = true := by kernel_rfl
theorem ap11 : appendable Try.prog 11 = true := by kernel_rfl
theorem it11 : intT Try.prog 11 = none := by kernel_rfl
theorem ti12 : tiOf Try.prog 12 = some ⟨.int .u64, 1, 8, [.int .u64 0]⟩ := by kernel_rfl
theorem ie12 : intE Try.prog 12 = some .u64 := by kernel_rfl
theorem it12 : intT Try.prog 12 = some .u64 := by kernel_rfl
theorem st12 : isStrT Try.prog 12 = false := by kernel_rfl
theorem ti14 : tiOf Try.prog 14 = some ⟨.struct [(0, 9, 1), (1, 12, 1)], 2, 24, [.str .empty, .int .u64 0]⟩ := by kernel_rfl
theorem sf14_0 : structF Try.prog 14 0 = some (0, 9, 1) := by kernel_rfl
theorem sf14_1 : structF Try.prog 14 1 = some (1, 12, 1) := by kernel_rfl
theorem ti15 : tiOf Try.prog 15 = some ⟨.ptr 100, 1, 8, [.nilp]⟩ := by kernel_rfl
theorem ti16 : tiOf Try.prog 16 = some ⟨.ptr 103, 1, 8, [.nilp]⟩ := by kernel_rfl
theorem ti17 : tiOf Try.prog 17 = some ⟨.ptr 112, 1, 8, [.nilp]⟩ := by kernel_rfl
theorem ti19 : tiOf Try.prog 19 = some ⟨.struct [(0, 17, 1)], 1, 8, [.nilp]⟩ := by kernel_rfl
theorem sf19_0 : structF Try.prog 19 0 = some (0, 17, 1) := by kernel_rfl
theorem ti21 : tiOf Try.prog 21 = some ⟨.int .i32, 1, 4, [.int .i32 0]⟩ := by kernel_rfl
theorem ie21 : intE Try.prog 21 = some .i32 := by kernel_rfl
theorem it21 : intT Try.prog 21 = some .i32 := by kernel_rfl
theorem st21 : isStrT Try.prog 21 = false := by kernel_rfl
theorem ti22 : tiOf Try.prog 22 = some ⟨.slice 5, 1, 24, [.sl 0 true []]⟩ := by kernel_rfl
theorem se22 : sliceElem Try.prog 22 = some (5, ⟨.int .u8, 1, 1, [.int .u8 0]⟩) := by kernel_rfl
theorem sz22 : isSliceT Try.prog 22 = true := by kernel_rfl
theorem ap22 : appendable Try.prog 22 = true := by kernel_rfl
theorem st22 : isStrT Try.prog 22 = false := by kernel_rfl
theorem ti24 : tiOf Try.prog 24 = some ⟨.ptr 55, 1, 8, [.nilp]⟩ := by kernel_rfl
theorem ti28 : tiOf Try.prog 28 = some ⟨.slice 3, 1, 24, [.sl 0 true []]⟩ := by kernel_rfl
theorem se28 : sliceElem Try.prog 28 = some (3, ⟨.int .i64, 1, 8, [.int .i64 0]⟩) := by kernel_rfl
theorem sz28 : isSliceT Try.prog 28 = true := by kernel_rfl
theorem ap28 : appendable Try.prog 28 = true := by kernel_rfl
theorem st28 : isStrT Try.prog 28 = false := by kernel_rfl
theorem ti35 : tiOf Try.prog 35 = some ⟨.slice 9, 1, 24, [.sl 0 true []]⟩ := by kernel_rfl
theorem se35 : sliceElem Try.prog 35 = some (9, ⟨.string, 1, 16, [.str .empty]⟩) := by kernel_rfl
theorem sz35 : isSliceT Try.prog 35 = true := by kernel_rfl
theorem ap35 : appendable Try.prog 35 = true := by kernel_rfl
theorem st35 : isStrT Try.prog 35 = false := by kernel_rfl
theorem ti40 : tiOf Try.prog 40 = some ⟨.struct [(0, 3, 1), (1, 3, 1), (2, 3, 1), (3, 3, 1)], 4, 32, [.int .i64 0, .int .i64 0, .int .i64 0, .int .i64 0]⟩ := by kernel_rfl
theorem eq40 : eqT Try.prog 40 = some [0, 0, 0, 0] := by kernel_rfl
theorem sf40_0 : structF Try.prog 40 0 = some (0, 3, 1) := by kernel_rfl
theorem sf40_1 : structF Try.prog 40 1 = some (1, 3, 1) := by kernel_rfl
theorem sf40_2 : structF Try.prog 40 2 = some (2, 3, 1) := by kernel_rfl
theorem sf40_3 : structF Try.prog 40 3 = some (3, 3, 1) := by kernel_rfl
theorem ti42 : tiOf Try.prog 42 = some ⟨.array 2 9, 2, 32, [.str .empty, .str .empty]⟩ := by kernel_rfl
theorem se42 : sliceElem Try.prog 42 = none := by kernel_rfl
theorem ae42 : arrayE Try.prog 42 = some (2, 9, 1) := by kernel_rfl
theorem ti43 : tiOf Try.prog 43 = some ⟨.slice 42, 1, 24, [.sl 0 true []]⟩ := by kernel_rfl
theorem se43 : sliceElem Try.prog 43 = some (42, ⟨.array 2 9, 2, 32, [.str .empty, .str .empty]⟩) := by kernel_rfl
theorem sz43 : isSliceT Try.prog 43 = true := by kernel_rfl
theorem ap43 : appendable Try.prog 43 = true := by kernel_rfl
theorem st43 : isStrT Try.prog 43 = false := by kernel_rfl
theorem ti46 : tiOf Try.prog 46 = some ⟨.slice 40, 1, 24, [.sl 0 true []]⟩ := by kernel_rfl
theorem se46 : sliceElem Try.prog 46 = some (40, ⟨.struct [(0, 3, 1), (1, 3, 1), (2, 3, 1), (3, 3, 1)], 4, 32, [.int .i64 0, .int .i64 0, .int .i64 0, .int .i64 0]⟩) := by kernel_rfl
theorem sz46 : isSliceT Try.prog 46 = true := by kernel_rfl
theorem ap46 : appendable Try.prog 46 = true := by kernel_rfl
theorem st46 : isStrT Try.prog 46 = false := by kernel_rfl
theorem ti50 : tiOf Try.prog 50 = some ⟨.array 2 35, 2, 48, [.sl 0 true [], .sl 0 true []]⟩ := by kernel_rfl
theorem se50 : sliceElem Try.prog 50 = none := by kernel_rfl
theorem ae50 : arrayE Try.prog 50 = some (2, 35, 1) := by kernel_rfl
theorem ti51 : tiOf Try.prog 51 = some ⟨.slice 50, 1, 24, [.sl 0 true []]⟩ := by kernel_rfl
theorem se51 : sliceElem Try.prog 51 = some (50, ⟨.array 2 35, 2, 48, [.sl 0 true [], .sl 0 true []]⟩) := by kernel_rfl
theorem sz51 : isSliceT Try.prog 51 = true := by kernel_rfl
theorem ap51 : appendable Try.prog 51 = true := by kernel_rfl
theorem st51 : isStrT Try.prog 51 = false := by kernel_rfl
theorem ti55 : tiOf Try.prog 55 = some ⟨.struct [(0, 22, 1), (1, 3, 1)], 2, 32, [.sl 0 true [], .int .i64 0]⟩ := by kernel_rfl
theorem sf55_0 : structF Try.prog 55 0 = some (0, 22, 1) := by kernel_rfl
theorem sf55_1 : structF Try.prog 55 1 = some (1, 3, 1) := by kernel_rfl
theorem ti69 : tiOf Try.prog 69 = some ⟨.int .u64, 1, 8, [.int .u64 0]⟩ := by kernel_rfl
theorem ie69 : intE Try.prog 69 = some .u64 := by kernel_rfl
theorem it69 : intT Try.prog 69 = some .u64 := by kernel_rfl
theorem st69 : isStrT Try.prog 69 = false := by kernel_rfl
theorem ti73 : tiOf Try.prog 73 = some ⟨.slice 75, 1, 24, [.sl 0 true []]⟩ := by kernel_rfl
theorem se73 : sliceElem Try.prog 73 = some (75, ⟨.struct [(0, 3, 1), (1, 3, 1)], 2, 16, [.int .i64 0, .int .i64 0]⟩) := by kernel_rfl
theorem sz73 : isSliceT Try.prog 73 = true := by kernel_rfl
theorem ap73 : appendable Try.prog 73 = true := by kernel_rfl
theorem st73 : isStrT Try.prog 73 = false := by kernel_rfl
theorem ti75 : tiOf Try.prog 75 = some ⟨.struct [(0, 3, 1), (1, 3, 1)], 2, 16, [.int .i64 0, .int .i64 0]⟩ := by kernel_rfl
theorem sf75_0 : structF Try.prog 75 0 = some (0, 3, 1) := by kernel_rfl
theorem sf75_1 : structF Try.prog 75 1 = some (1, 3, 1) := by kernel_rfl
theorem ti80 : tiOf Try.prog 80 = some ⟨.int .i64, 1, 8, [.int .i64 0]⟩ := by kernel_rfl
theorem ie80 : intE Try.prog 80 = some .i64 := by kernel_rfl
theorem it80 : intT Try.prog 80 = some .i64 := by kernel_rfl
theorem st80 : isStrT Try.prog 80 = false := by kernel_rfl
theorem ti87 : tiOf Try.prog 87 = some ⟨.int .u32, 1, 4, [.int .u32 0]⟩ := by kernel_rfl
theorem ie87 : intE Try.prog 87 = some .u32 := by kernel_rfl
theorem it87 : intT Try.prog 87 = some .u32 := by kernel_rfl
theorem st87 : isStrT Try.prog 87 = false := by kernel_rfl
theorem ti89 : tiOf Try.prog 89 = some ⟨.int .u64, 1, 8, [.int .u64 0]⟩ := by kernel_rfl
theorem ie89 : intE Try.prog 89 = some .u64 := by kernel_rfl
theorem it89 : intT Try.prog 89 = some .u64 := by kernel_rfl
theorem st89 : isStrT Try.prog 89 = false := by kernel_rfl
theorem ti90 : tiOf Try.prog 90 = some ⟨.int .u64, 1, 8, [.int .u64 0]⟩ := by kernel_rfl
theorem ie90 : intE Try.prog 90 = some .u64 := by kernel_rfl
theorem it90 : intT Try.prog 90 = some .u64 := by kernel_rfl
theorem st90 : isStrT Try.prog 90 = false := by kernel_rfl
theorem ti94 : tiOf Try.prog 94 = some ⟨.ptr 3, 1, 8, [.nilp]⟩ := by kernel_rfl
theorem ti96 : tiOf Try.prog 96 = some ⟨.ptr 90, 1, 8, [.nilp]⟩ := by kernel_rfl
theorem ti100 : tiOf Try.prog 100 = some ⟨.struct [(0, 17, 1), (1, 17, 1), (2, 17, 1), (3, 9, 1)], 4, 40, [.nilp, .nilp, .nilp, .str .empty]⟩ := by kernel_rfl
theorem sf100_0 : structF Try.prog 100 0 = some (0, 17, 1) := by kernel_rfl
theorem sf100_1 : structF Try.prog 100 1 = some (1, 17, 1) := by kernel_rfl
theorem sf100_2 : structF Try.prog 100 2 = some (2, 17, 1) := by kernel_rfl
theorem sf100_3 : structF Try.prog 100 3 = some (3, 9, 1) := by kernel_rfl
theorem ti101 : tiOf Try.prog 101 = some ⟨.array 0 16, 0, 0, []⟩ := by kernel_rfl
theorem se101 : sliceElem Try.prog 101 = none := by kernel_rfl
theorem ae101 : arrayE Try.prog 101 = some (0, 16, 1) := by kernel_rfl
theorem ti103 : tiOf Try.prog 103 = some ⟨.struct [(0, 101, 0)], 0, 0, []⟩ := by kernel_rfl
theorem sf103_0 : structF Try.prog 103 0 = some (0, 101, 0) := by kernel_rfl
theorem ti105 : tiOf Try.prog 105 = some ⟨.int .u8, 1, 1, [.int .u8 0]⟩ := by kernel_rfl
theorem ie105 : intE Try.prog 105 = some .u8 := by kernel_rfl
theorem it105 : intT Try.prog 105 = some .u8 := by kernel_rfl
theorem st105 : isStrT Try.prog 105 = false := by kernel_rfl
theorem ti106 : tiOf Try.prog 106 = some ⟨.int .u8, 1, 1, [.int .u8 0]⟩ := by kernel_rfl
theorem ie106 : intE Try.prog 106 = some .u8 := by kernel_rfl
theorem it106 : intT Try.prog 106 = some .u8 := by kernel_rfl
theorem st106 : isStrT Try.prog 106 = false := by kernel_rfl
theorem ti108 : tiOf Try.prog 108 = some ⟨.ptr 5, 1, 8, [.nilp]⟩ := by kernel_rfl
theorem ti109 : tiOf Try.prog 109 = some ⟨.int .i32, 1, 4, [.int .i32 0]⟩ := by kernel_rfl
theorem ie109 : intE Try.prog 109 = some .i32 := by kernel_rfl
theorem it109 : intT Try.prog 109 = some .i32 := by kernel_rfl
theorem st109 : isStrT Try.prog 109 = false := by kernel_rfl
theorem ti110 : tiOf Try.prog 110 = some ⟨.int .i32, 1, 4, [.int .i32 0]⟩ := by kernel_rfl
theorem ie110 : intE Try.prog 110 = some .i32 := by kernel_rfl
theorem it110 : intT Try.prog 110 = some .i32 := by kernel_rfl
theorem st110 : isStrT Try.prog 110 = false := by kernel_rfl
theorem go2 : goFn Try.prog 2 = true := by kernel_rfl
theorem go3 : goFn Try.prog 3 = true := by kernel_rfl
theorem go4 : goFn Try.prog 4 = true := by kernel_rfl
theorem go5 : goFn Try.prog 5 = true := by kernel_rfl
theorem go6 : goFn Try.prog 6 = true := by kernel_rfl
theorem go7 : goFn Try.prog 7 = true := by kernel_rfl
theorem go8 : goFn Try.prog 8 = true := by kernel_rfl
theorem go9 : goFn Try.prog 9 = true := by kernel_rfl
theorem go10 : goFn Try.prog 10 = true := by kernel_rfl
theorem go11 : goFn Try.prog 11 = true := by kernel_rfl
theorem go12 : goFn Try.prog 12 = true := by kernel_rfl
theorem go13 : goFn Try.prog 13 = true := by kernel_rfl
theorem go14 : goFn Try.prog 14 = true := by kernel_rfl
theorem go15 : goFn Try.prog 15 = true := by kernel_rfl
theorem go16 : goFn Try.prog 16 = true := by kernel_rfl
theorem go17 : goFn Try.prog 17 = true := by kernel_rfl
theorem go18 : goFn Try.prog 18 = true := by kernel_rfl
theorem go19 : goFn Try.prog 19 = true := by kernel_rfl
theorem go20 : goFn Try.prog 20 = true := by kernel_rfl
theorem go21 : goFn Try.prog 21 = true := by kernel_rfl
theorem go22 : goFn Try.prog 22 = true := by kernel_rfl
theorem go23 : goFn Try.prog 23 = true := by kernel_rfl
theorem go24 : goFn Try.prog 24 = true := by kernel_rfl
theorem go25 : goFn Try.prog 25 = true := by kernel_rfl
theorem go26 : goFn Try.prog 26 = true := by kernel_rfl
theorem go27 : goFn Try.prog 27 = true := by kernel_rfl
theorem go28 : goFn Try.prog 28 = true := by kernel_rfl
theorem go29 : goFn Try.prog 29 = true := by kernel_rfl
theorem go30 : goFn Try.prog 30 = true := by kernel_rfl
theorem go31 : goFn Try.prog 31 = true := by kernel_rfl
theorem go32 : goFn Try.prog 32 = true := by kernel_rfl
theorem go33 : goFn Try.prog 33 = true := by kernel_rfl
theorem go34 : goFn Try.prog 34 = true := by kernel_rfl
theorem go35 : goFn Try.prog 35 = true := by kernel_rfl
theorem go36 : goFn Try.prog 36 = true := by kernel_rfl
theorem go37 : goFn Try.prog 37 = true := by kernel_rfl
theorem go38 : goFn Try.prog 38 = true := by kernel_rfl
theorem go39 : goFn Try.prog 39 = true := by kernel_rfl
theorem go40 : goFn Try.prog 40 = true := by kernel_rfl
theorem go41 : goFn Try.prog 41 = true := by kernel_rfl
theorem go42 : goFn Try.prog 42 = true := by kernel_rfl
theorem go43 : goFn Try.prog 43 = true := by kernel_rfl
theorem go44 : goFn Try.prog 44 = true := by kernel_rfl
theorem go45 : goFn Try.prog 45 = true := by kernel_rfl
theorem go46 : goFn Try.prog 46 = true := by kernel_rfl
theorem go47 : goFn Try.prog 47 = true := by kernel_rfl
theorem go48 : goFn Try.prog 48 = true := by kernel_rfl
theorem go49 : goFn Try.prog 49 = true := by kernel_rfl
theorem go50 : goFn Try.prog 50 = true := by kernel_rfl
theorem go51 : goFn Try.prog 51 = true := by kernel_rfl
theorem go52 : goFn Try.prog 52 = true := by kernel_rfl
theorem go53 : goFn Try.prog 53 = true := by kernel_rfl
theorem go54 : goFn Try.prog 54 = true := by kernel_rfl
theorem go55 : goFn Try.prog 55 = true := by kernel_rfl
theorem go56 : goFn Try.prog 56 = true := by kernel_rfl
theorem go57 : goFn Try.prog 57 = true := by kernel_rfl
theorem go58 : goFn Try.prog 58 = true := by kernel_rfl
theorem go59 : goFn Try.prog 59 = true := by kernel_rfl
theorem go60 : goFn Try.prog 60 = true := by kernel_rfl
theorem go61 : goFn Try.prog 61 = true := by kernel_rfl
theorem go62 : goFn Try.prog 62 = true := by kernel_rfl
theorem go63 : goFn Try.prog 63 = true := by kernel_rfl
theorem go64 : goFn Try.prog 64 = true := by kernel_rfl
theorem go65 : goFn Try.prog 65 = true := by kernel_rfl
theorem go66 : goFn Try.prog 66 = true := by kernel_rfl
theorem go67 : goFn Try.prog 67 = true := by kernel_rfl
theorem go68 : goFn Try.prog 68 = true := by kernel_rfl
theorem go69 : goFn Try.prog 69 = true := by kernel_rfl
theorem go70 : goFn Try.prog 70 = true := by kernel_rfl
theorem go71 : goFn Try.prog 71 = true := by kernel_rfl
theorem go72 : goFn Try.prog 72 = true := by kernel_rfl
theorem go73 : goFn Try.prog 73 = true := by kernel_rfl
theorem go74 : goFn Try.prog 74 = true := by kernel_rfl
set_option linter.defProp false in
def awF :=
 (And.intro (And.intro (And.intro (And.intro (And.intro (And.intro (And.intro ti2
 ie2)
 (And.intro it2
 st2))
 (And.intro (And.intro ti3
 ie3)
 (And.intro it3
 (And.intro st3
 ti4))))
 (And.intro (And.intro (And.intro bt4
 ti5)
 (And.intro ie5
 (And.intro it5
 st5)))
 (And.intro (And.intro ti6
 ie6)
 (And.intro it6
 (And.intro st6
 ti7)))))
 (And.intro (And.intro (And.intro (And.intro sf7_0
 sf7_1)
 (And.intro sf7_2
 (And.intro sf7_3
 ti8)))
 (And.intro (And.intro sf8_0
 sf8_1)
 (And.intro sf8_2
 (And.intro sf8_3
 ti9))))
 (And.intro (And.intro (And.intro st9
 ap9)
 (And.intro it9
 (And.intro ti10
 st10)))
 (And.intro (And.intro ap10
 it10)
 (And.intro ti11
 (And.intro st11
 ap11))))))
 (And.intro (And.intro (And.intro (And.intro (And.intro it11
 ti12)
 (And.intro ie12
 (And.intro it12
 st12)))
 (And.intro (And.intro ti14
 sf14_0)
 (And.intro sf14_1
 (And.intro ti15
 ti16))))
 (And.intro (And.intro (And.intro ti17
 ti19)
 (And.intro sf19_0
 (And.intro ti21
 ie21)))
 (And.intro (And.intro it21
 st21)
 (And.intro ti22
 (And.intro se22
 sz22)))))
 (And.intro (And.intro (And.intro (And.intro ap22
 st22)
 (And.intro ti24
 (And.intro ti28
 se28)))
 (And.intro (And.intro sz28
 ap28)
 (And.intro st28
 (And.intro ti35
 se35))))
 (And.intro (And.intro (And.intro sz35
 ap35)
 (And.intro st35
 (And.intro ti40
 eq40)))
 (And.intro (And.intro sf40_0
 sf40_1)
 (And.intro sf40_2
 (And.intro sf40_3
 ti42)))))))
 (And.intro (And.intro (And.intro (And.intro (And.intro (And.intro se42
 ae42)
 (And.intro ti43
 (And.intro se43
 sz43)))
 (And.intro (And.intro ap43
 st43)
 (And.intro ti46
 (And.intro se46
 sz46))))
 (And.intro (And.intro (And.intro ap46
 st46)
 (And.intro ti50
 (And.intro se50
 ae50)))
 (And.intro (And.intro ti51
 se51)
 (And.intro sz51
 (And.intro ap51
 st51)))))
 (And.intro (And.intro (And.intro (And.intro ti55
 sf55_0)
 (And.intro sf55_1
 (And.intro ti69
 ie69)))
 (And.intro (And.intro it69
 st69)
 (And.intro ti73
 (And.intro se73
 sz73))))
 (And.intro (And.intro (And.intro ap73
 st73)
 (And.intro ti75
 (And.intro sf75_0
 sf75_1)))
 (And.intro (And.intro ti80
 ie80)
 (And.intro it80
 (And.intro st80
 ti87))))))
 (And.intro (And.intro (And.intro (And.intro (And.intro ie87
 it87)
 (And.intro st87
 (And.intro ti89
 ie89)))
 (And.intro (And.intro it89
 st89)
 (And.intro ti90
 (And.intro ie90
 it90))))
 (And.intro (And.intro (And.intro st90
 ti94)
 (And.intro ti96
 (And.intro ti100
 sf100_0)))
 (And.intro (And.intro sf100_1
 sf100_2)
 (And.intro sf100_3
 (And.intro ti101
 se101)))))
 (And.intro (And.intro (And.intro (And.intro ae101
 ti103)
 (And.intro sf103_0
 (And.intro ti105
 ie105)))
 (And.intro (And.intro it105
 st105)
 (And.intro ti106
 (And.intro ie106
 it106))))
 (And.intro (And.intro (And.intro st106
 ti108)
 (And.intro ti109
 (And.intro ie109
 it109)))
 (And.intro (And.intro st109
 ti110)
 (And.intro ie110
 (And.intro it110
 st110))))))))
theorem hmix : Try.prog.follows .mixedOrders = true := by kernel_rfl
end Go.Proofs.Ytpnhbjabnnibcaa

/-
  What every law of this seat needs: no variable is listed; a world for the witness.
-/
namespace Go.Proofs.Ytpnhbjabnnibcaa
open Go Go.Proofs Go.Abs Go.RowKit Go.ChangeShapes Go.WideShapes Go.ChangeAt
theorem mem_getD' {l : List Int} {i : Nat} {d : Int} (h : i < l.length) : l.getD i d ∈ l := by
  rw [List.getD_eq_getElem?_getD, List.getElem?_eq_getElem h]; exact List.getElem_mem h
theorem own : ownKnob Try.prog.godebug = none := by kernel_rfl
theorem laidOut : laidOutB Try.prog = true := by kernel_rfl
theorem cU8 : Try.prog.cellsOf 5 = 1 := by kernel_rfl
def G1 : Globals := fun _ => none
theorem globOK {X : World} : GlobOK G1 X := fun g ds h => by cases h
noncomputable def laidWorld (os : Os) : World := World.holding Try.prog os ⟨#[], #[], []⟩
theorem laid_met (os : Os) (args : Array Value) : laidMet Try.prog [] ((laidWorld os).forCall (fun _ _ => 0) ⟨#[], args, []⟩).memory :=
  laidMet_of_run' 8 (by kernel_rfl) (by kernel_rfl)
theorem list_u8 {l : List Int} (h : ∀ n ∈ l, (Lit.int .u8 n).wf = true) : ∀ i, 0 ≤ l.getD i 0 ∧ l.getD i 0 ≤ 255 := by
  intro i
  rcases Nat.lt_or_ge i l.length with hi | hi
  · have := h _ (mem_getD' (d := 0) hi)
    simp [Lit.wf, IntKind.min, IntKind.max, IntKind.bits, IntKind.signed] at this
    rw [List.getD_eq_getElem?_getD]
    omega
  · rw [List.getD_eq_getElem?_getD, List.getElem?_eq_none hi]; simp
end Go.Proofs.Ytpnhbjabnnibcaa

namespace Go.Proofs.Ytpnhbjabnnibcaa
/-! The edit distance: the recursion, the metric, and the rows by which it is computed. -/
def c1 (a b : Int) : Nat := if a = b then 0 else 1
def lev : List Int → List Int → Nat
  | [], y => y.length
  | x, [] => x.length
  | a :: x, b :: y => min (lev x y + c1 a b) (min (lev x (b :: y) + 1) (lev (a :: x) y + 1))
termination_by x y => x.length + y.length
theorem lev_nil_left (y : List Int) : lev [] y = y.length := by unfold lev; rfl
theorem lev_nil_right (x : List Int) : lev x [] = x.length := by cases x <;> (unfold lev; rfl)
theorem lev_cons (a b : Int) (x y : List Int) : lev (a :: x) (b :: y) = min (lev x y + c1 a b) (min (lev x (b :: y) + 1) (lev (a :: x) y + 1)) := by
  conv => lhs; unfold lev
inductive Ed : List Int → List Int → Nat → Prop
  | nil : Ed [] [] 0
  | sub {x y n} (a b) : Ed x y n → Ed (a :: x) (b :: y) (n + c1 a b)
  | del {x y n} (a) : Ed x y n → Ed (a :: x) y (n + 1)
  | ins {x y n} (b) : Ed x y n → Ed x (b :: y) (n + 1)
theorem Ed.left : ∀ x : List Int, Ed x [] x.length
  | [] => .nil
  | a :: x => .del a (Ed.left x)
theorem Ed.right : ∀ x : List Int, Ed [] x x.length
  | [] => .nil
  | a :: x => .ins a (Ed.right x)
theorem lev_le_left {x y : List Int} (a : Int) : lev (a :: x) y ≤ lev x y + 1 := by
  cases y with
  | nil => rw [lev_nil_right, lev_nil_right]; simp
  | cons b y => rw [lev_cons]; omega
theorem lev_le_right {x y : List Int} (b : Int) : lev x (b :: y) ≤ lev x y + 1 := by
  cases x with
  | nil => rw [lev_nil_left, lev_nil_left]; simp
  | cons a x => rw [lev_cons]; omega
theorem lev_le_sub {x y : List Int} (a b : Int) : lev (a :: x) (b :: y) ≤ lev x y + c1 a b := by rw [lev_cons]; omega
theorem Ed.le {x y : List Int} {n : Nat} (h : Ed x y n) : lev x y ≤ n := by
  induction h with
  | nil => rw [lev_nil_left]; simp
  | sub a b _ ih => exact Nat.le_trans (lev_le_sub a b) (by omega)
  | del a _ ih => exact Nat.le_trans (lev_le_left a) (by omega)
  | ins b _ ih => exact Nat.le_trans (lev_le_right b) (by omega)
theorem Ed.lev : ∀ x y : List Int, Ed x y (lev x y)
  | [], y => by rw [lev_nil_left]; exact .right y
  | a :: x, [] => by rw [lev_nil_right]; exact .left _
  | a :: x, b :: y => by
    rw [lev_cons]
    have h1 := Ed.lev x y
    have h2 := Ed.lev x (b :: y)
    have h3 := Ed.lev (a :: x) y
    rcases Nat.le_total (Go.Proofs.Ytpnhbjabnnibcaa.lev x y + c1 a b) (min (Go.Proofs.Ytpnhbjabnnibcaa.lev x (b :: y) + 1) (Go.Proofs.Ytpnhbjabnnibcaa.lev (a :: x) y + 1)) with h | h
    · rw [Nat.min_eq_left h]; exact .sub a b h1
    · rw [Nat.min_eq_right h]
      rcases Nat.le_total (Go.Proofs.Ytpnhbjabnnibcaa.lev x (b :: y) + 1) (Go.Proofs.Ytpnhbjabnnibcaa.lev (a :: x) y + 1) with h | h
      · rw [Nat.min_eq_left h]; exact .del a h2
      · rw [Nat.min_eq_right h]; exact .ins b h3
termination_by x y => x.length + y.length
theorem c1_tri (a b c : Int) : c1 a c ≤ c1 a b + c1 b c := by
  unfold c1
  by_cases h1 : a = b
  · subst h1; split <;> split <;> omega
  · split <;> split <;> (try split) <;> omega
theorem Ed.weaken_comp : ∀ (x y z : List Int) (n m : Nat), Ed x y n → Ed y z m → ∃ k, k ≤ n + m ∧ Ed x z k := by
  have key : ∀ (s : Nat) (x y z : List Int) (n m : Nat), x.length + y.length + z.length = s → Ed x y n → Ed y z m → ∃ k, k ≤ n + m ∧ Ed x z k := by
    intro s
    induction s using Nat.strongRecOn with
    | _ s ih =>
      intro x y z n m hs h1 h2
      cases h1 with
      | del a h1 =>
        rename_i x n
        obtain ⟨k, hk, e⟩ := ih (x.length + y.length + z.length) (by simp at hs; omega) x y z n m rfl h1 h2
        exact ⟨k + 1, by omega, .del a e⟩
      | nil =>
        cases h2 with
        | nil => exact ⟨0, by omega, .nil⟩
        | ins b h2 =>
          rename_i z m
          obtain ⟨k, hk, e⟩ := ih _ (by simp at hs ⊢; omega) [] [] z 0 m rfl .nil h2
          exact ⟨k + 1, by omega, .ins b e⟩
      | sub a b h1 =>
        rename_i x y n
        cases h2 with
        | ins c h2 =>
          rename_i z m
          obtain ⟨k, hk, e⟩ := ih _ (by simp at hs ⊢; omega) (a :: x) (b :: y) z _ m rfl (.sub a b h1) h2
          exact ⟨k + 1, by omega, .ins c e⟩
        | sub b c h2 =>
          rename_i z m
          obtain ⟨k, hk, e⟩ := ih _ (by simp at hs ⊢; omega) x y z n m rfl h1 h2
          have := c1_tri a b c
          exact ⟨k + c1 a c, by omega, .sub a c e⟩
        | del b h2 =>
          rename_i m
          obtain ⟨k, hk, e⟩ := ih _ (by simp at hs ⊢; omega) x y z n m rfl h1 h2
          exact ⟨k + 1, by omega, .del a e⟩
      | ins b h1 =>
        rename_i y n
        cases h2 with
        | ins c h2 =>
          rename_i z m
          obtain ⟨k, hk, e⟩ := ih _ (by simp at hs ⊢; omega) x (b :: y) z _ m rfl (.ins b h1) h2
          exact ⟨k + 1, by omega, .ins c e⟩
        | sub b c h2 =>
          rename_i z m
          obtain ⟨k, hk, e⟩ := ih _ (by simp at hs ⊢; omega) x y z n m rfl h1 h2
          exact ⟨k + 1, by omega, .ins c e⟩
        | del b h2 =>
          rename_i m
          obtain ⟨k, hk, e⟩ := ih _ (by simp at hs ⊢; omega) x y z n m rfl h1 h2
          exact ⟨k, by omega, e⟩
  intro x y z n m
  exact key _ x y z n m rfl
theorem Ed.symm {x y : List Int} {n : Nat} (h : Ed x y n) : Ed y x n := by
  induction h with
  | nil => exact .nil
  | sub a b _ ih =>
    have e : c1 a b = c1 b a := by unfold c1; split <;> split <;> omega
    rw [e]; exact .sub b a ih
  | del a _ ih => exact .ins a ih
  | ins b _ ih => exact .del b ih
theorem lev_symm (x y : List Int) : lev x y = lev y x := Nat.le_antisymm (Ed.lev y x).symm.le (Ed.lev x y).symm.le
theorem lev_tri (x y z : List Int) : lev x z ≤ lev x y + lev y z := by
  obtain ⟨k, hk, e⟩ := Ed.weaken_comp x y z _ _ (Ed.lev x y) (Ed.lev y z)
  exact Nat.le_trans e.le hk
theorem Ed.refl : ∀ x : List Int, Ed x x 0
  | [] => .nil
  | a :: x => by have := Ed.sub a a (Ed.refl x); simpa [c1] using this
theorem Ed.zero {x y : List Int} {n : Nat} (h : Ed x y n) : n = 0 → x = y := by
  induction h with
  | nil => intro _; rfl
  | sub a b _ ih =>
    intro e
    have : a = b := by unfold c1 at e; split at e <;> first | assumption | omega
    rw [ih (by omega), this]
  | del a _ ih => intro e; omega
  | ins b _ ih => intro e; omega
theorem lev_zero {x y : List Int} : lev x y = 0 ↔ x = y := ⟨(Ed.lev x y).zero, fun h => by subst h; exact Nat.le_zero.1 (Ed.refl x).le⟩
theorem Ed.bound {x y : List Int} {n : Nat} (h : Ed x y n) : x.length ≤ y.length + n ∧ y.length ≤ x.length + n := by
  induction h with
  | nil => simp
  | sub a b _ ih => simp; omega
  | del a _ ih => simp; omega
  | ins b _ ih => simp; omega
theorem lev_max : ∀ x y : List Int, lev x y ≤ max x.length y.length
  | [], y => by rw [lev_nil_left]; simp
  | a :: x, [] => by rw [lev_nil_right]; simp
  | a :: x, b :: y => by
    have h1 := lev_max x y
    have h2 := lev_le_sub (x := x) (y := y) a b
    have h3 : c1 a b ≤ 1 := by unfold c1; split <;> omega
    simp only [List.length_cons]
    omega
theorem Ed.append {x y : List Int} {n : Nat} (h : Ed x y n) (z : List Int) : Ed (x ++ z) (y ++ z) n := by
  induction h with
  | nil => exact .refl z
  | sub a b _ ih => exact .sub a b ih
  | del a _ ih => exact .del a ih
  | ins b _ ih => exact .ins b ih
theorem Ed.prepend {x y : List Int} {n : Nat} (h : Ed x y n) : ∀ z : List Int, Ed (z ++ x) (z ++ y) n
  | [] => h
  | a :: z => by have := Ed.sub a a (h.prepend z); simpa [c1] using this
theorem Ed.snoc_sub {x y : List Int} {n : Nat} (h : Ed x y n) (a b : Int) : Ed (x ++ [a]) (y ++ [b]) (n + c1 a b) := by
  induction h with
  | nil => exact .sub a b .nil
  | sub p q _ ih => have := Ed.sub p q ih; simp only [List.cons_append]; rw [Nat.add_right_comm]; exact this
  | del p _ ih => have := Ed.del p ih; simp only [List.cons_append]; rw [Nat.add_right_comm]; exact this
  | ins p _ ih => have := Ed.ins p ih; simp only [List.cons_append]; rw [Nat.add_right_comm]; exact this
theorem Ed.snoc_del {x y : List Int} {n : Nat} (h : Ed x y n) (a : Int) : Ed (x ++ [a]) y (n + 1) := by
  induction h with
  | nil => exact .del a .nil
  | sub p q _ ih => have := Ed.sub p q ih; simp only [List.cons_append]; rw [Nat.add_right_comm]; exact this
  | del p _ ih => have := Ed.del p ih; simp only [List.cons_append]; exact this
  | ins p _ ih => exact .ins p ih
theorem Ed.snoc_ins {x y : List Int} {n : Nat} (h : Ed x y n) (b : Int) : Ed x (y ++ [b]) (n + 1) := (h.symm.snoc_del b).symm
/-- From the end of the lists. -/
theorem Ed.reverse {x y : List Int} {n : Nat} (h : Ed x y n) : Ed x.reverse y.reverse n := by
  induction h with
  | nil => exact .nil
  | sub a b _ ih => rw [List.reverse_cons, List.reverse_cons]; exact ih.snoc_sub a b
  | del a _ ih => rw [List.reverse_cons]; exact ih.snoc_del a
  | ins b _ ih => rw [List.reverse_cons]; exact ih.snoc_ins b
theorem lev_reverse (x y : List Int) : lev x.reverse y.reverse = lev x y := by
  refine Nat.le_antisymm (Ed.lev x y).reverse.le ?_
  have := (Ed.lev x.reverse y.reverse).reverse.le
  rwa [List.reverse_reverse, List.reverse_reverse] at this
theorem lev_snoc (x y : List Int) (a b : Int) : lev (x ++ [a]) (y ++ [b]) = min (lev x y + c1 a b) (min (lev x (y ++ [b]) + 1) (lev (x ++ [a]) y + 1)) := by
  have h := lev_cons a b x.reverse y.reverse
  have e1 : a :: x.reverse = (x ++ [a]).reverse := by simp
  have e2 : b :: y.reverse = (y ++ [b]).reverse := by simp
  rw [e1, e2, lev_reverse, lev_reverse, lev_reverse, lev_reverse] at h
  exact h
/-- The row of the distances of all beginnings. -/
def levRow (x y : List Int) : List Int := (List.range (y.length + 1)).map fun j => (lev x (y.take j) : Int)
theorem levRow_length (x y : List Int) : (levRow x y).length = y.length + 1 := by simp [levRow]
theorem levRow_getD {x y : List Int} {j : Nat} (h : j ≤ y.length) : (levRow x y).getD j 0 = (lev x (y.take j) : Int) := by
  simp [levRow, List.getD_eq_getElem?_getD, List.getElem?_map, List.getElem?_range (show j < y.length + 1 by omega)]
/-- A row half turned into the next one. -/
def midRow (x : List Int) (a : Int) (y : List Int) (j : Nat) : List Int := (levRow (x ++ [a]) y).take j ++ (levRow x y).drop j
theorem midRow_length {x : List Int} {a : Int} {y : List Int} {j : Nat} (h : j ≤ y.length + 1) : (midRow x a y j).length = y.length + 1 := by
  simp [midRow, levRow_length]; omega
theorem midRow_old {x : List Int} {a : Int} {y : List Int} {j i : Nat} (h : j ≤ y.length + 1) (hi : j ≤ i) (hy : i ≤ y.length) : (midRow x a y j).getD i 0 = (lev x (y.take i) : Int) := by
  have hl : ((levRow (x ++ [a]) y).take j).length = j := by rw [List.length_take, levRow_length]; omega
  rw [midRow, List.getD_eq_getElem?_getD, List.getElem?_append_right (by omega), hl, List.getElem?_drop, show j + (i - j) = i by omega, ← List.getD_eq_getElem?_getD, levRow_getD hy]
theorem midRow_new {x : List Int} {a : Int} {y : List Int} {j i : Nat} (hi : i < j) (hy : i ≤ y.length) : (midRow x a y j).getD i 0 = (lev (x ++ [a]) (y.take i) : Int) := by
  have hl : i < ((levRow (x ++ [a]) y).take j).length := by rw [List.length_take, levRow_length]; omega
  rw [midRow, List.getD_eq_getElem?_getD, List.getElem?_append_left hl, List.getElem?_take, if_pos hi, ← List.getD_eq_getElem?_getD, levRow_getD hy]
theorem midRow_set {x : List Int} {a : Int} {y : List Int} {j : Nat} (h : j ≤ y.length) : (midRow x a y j).set j (lev (x ++ [a]) (y.take j) : Int) = midRow x a y (j + 1) := by
  have hl : ((levRow (x ++ [a]) y).take j).length = j := by rw [List.length_take, levRow_length]; omega
  have hl2 : j < (levRow (x ++ [a]) y).length := by rw [levRow_length]; omega
  have hl3 : j < (levRow x y).length := by rw [levRow_length]; omega
  rw [midRow, midRow, List.set_append, if_neg (by omega), hl, Nat.sub_self]
  rw [List.drop_eq_getElem_cons hl3, List.set_cons_zero, List.take_add_one, List.getElem?_eq_getElem hl2]
  have : (levRow (x ++ [a]) y)[j] = (lev (x ++ [a]) (y.take j) : Int) := by
    have := levRow_getD (x := x ++ [a]) (y := y) h
    rwa [List.getD_eq_getElem?_getD, List.getElem?_eq_getElem hl2] at this
  rw [this]
  simp
theorem midRow_zero (x : List Int) (a : Int) (y : List Int) : midRow x a y 0 = levRow x y := by simp [midRow]
theorem midRow_end (x : List Int) (a : Int) (y : List Int) : midRow x a y (y.length + 1) = levRow (x ++ [a]) y := by
  rw [midRow, List.take_of_length_le (by rw [levRow_length]; omega), List.drop_of_length_le (by rw [levRow_length]; omega), List.append_nil]
theorem levRow_nil (y : List Int) : levRow [] y = (List.range (y.length + 1)).map (fun j : Nat => (j : Int)) := by
  unfold levRow
  refine List.map_congr_left fun j hj => ?_
  rw [lev_nil_left, List.length_take]
  have : j < y.length + 1 := List.mem_range.1 hj
  omega
theorem lev_step {x y : List Int} {a : Int} {j : Nat} (h : j < y.length) : (lev (x ++ [a]) (y.take (j + 1)) : Int) = min ((lev x (y.take j) : Int) + (if a = y.getD j 0 then 0 else 1)) (min ((lev x (y.take (j + 1)) : Int) + 1) ((lev (x ++ [a]) (y.take j) : Int) + 1)) := by
  have e : y.take (j + 1) = y.take j ++ [y.getD j 0] := by
    rw [List.take_add_one, List.getElem?_eq_getElem h, List.getD_eq_getElem?_getD, List.getElem?_eq_getElem h]; rfl
  rw [e, lev_snoc]
  unfold c1
  split <;> omega
end Go.Proofs.Ytpnhbjabnnibcaa

namespace Go.Proofs.Ytpnhbjabnnibcaa
/-! Texts in order; sets of texts. -/
abbrev bl (x y : List UInt8) : Bool := Op.bytesLess x y
theorem bl_irrefl : ∀ x : List UInt8, bl x x = false
  | [] => rfl
  | a :: x => by
    show (decide (a < a) || (a == a && bl x x)) = false
    rw [bl_irrefl x]; simp
theorem u8_lt {a b : UInt8} : a < b ↔ a.toNat < b.toNat := UInt8.lt_iff_toNat_lt
theorem bl_cons {a b : UInt8} {x y : List UInt8} : bl (a :: x) (b :: y) = true ↔ a.toNat < b.toNat ∨ (a = b ∧ bl x y = true) := by
  show (decide (a < b) || (a == b && bl x y)) = true ↔ _
  simp [u8_lt]
theorem bl_trans : ∀ {x y z : List UInt8}, bl x y = true → bl y z = true → bl x z = true
  | [], _ :: _, [], _, h => by cases h
  | _ :: _, _ :: _, [], _, h => by cases h
  | [], [], _, h, _ => by cases h
  | _ :: _, [], _, h, _ => by cases h
  | [], _ :: _, _ :: _, _, _ => rfl
  | a :: x, b :: y, c :: z, h1, h2 => by
    rw [bl_cons] at *
    rcases h1 with h1 | ⟨rfl, h1⟩
    · rcases h2 with h2 | ⟨rfl, h2⟩
      · left; omega
      · exact .inl h1
    · rcases h2 with h2 | ⟨rfl, h2⟩
      · exact .inl h2
      · exact .inr ⟨rfl, bl_trans h1 h2⟩
theorem bl_total : ∀ {x y : List UInt8}, bl x y = false → bl y x = false → x = y
  | [], [], _, _ => rfl
  | [], _ :: _, h, _ => by cases h
  | _ :: _, [], _, h => by cases h
  | a :: x, b :: y, h1, h2 => by
    have g1 : ¬ (bl (a :: x) (b :: y) = true) := by rw [h1]; decide
    have g2 : ¬ (bl (b :: y) (a :: x) = true) := by rw [h2]; decide
    rw [bl_cons] at g1 g2
    have e : a = b := UInt8.toNat_inj.1 (by omega)
    subst e
    have : x = y := bl_total (by cases e : bl x y <;> simp_all) (by cases e : bl y x <;> simp_all)
    rw [this]
theorem bl_asymm {x y : List UInt8} (h : bl x y = true) : bl y x = false := by
  cases e : bl y x with
  | false => rfl
  | true => have := bl_trans h e; rw [bl_irrefl] at this; cases this
def Asc (l : List (List UInt8)) : Prop := l.Pairwise fun x y => bl x y = true
theorem Asc.tail {x : List UInt8} {l : List (List UInt8)} (h : Asc (x :: l)) : Asc l := (List.pairwise_cons.1 h).2
theorem asc_ext : ∀ {l m : List (List UInt8)}, Asc l → Asc m → (∀ s, s ∈ l ↔ s ∈ m) → l = m
  | [], [], _, _, _ => rfl
  | [], y :: m, _, _, h => by have := (h y).2 (by simp); cases this
  | x :: l, [], _, _, h => by have := (h x).1 (by simp); cases this
  | x :: l, y :: m, h1, h2, h => by
    obtain ⟨p1, p2⟩ := List.pairwise_cons.1 h1
    obtain ⟨q1, q2⟩ := List.pairwise_cons.1 h2
    have e : x = y := by
      rcases List.mem_cons.1 ((h x).1 (by simp)) with e | e
      · exact e
      · rcases List.mem_cons.1 ((h y).2 (by simp)) with e' | e'
        · exact e'.symm
        · have := bl_trans (p1 y e') (q1 x e); rw [bl_irrefl] at this; cases this
    subst e
    rw [asc_ext p2 q2 fun s => ?_]
    constructor
    · intro hs
      rcases List.mem_cons.1 ((h s).1 (by simp [hs])) with e | e
      · subst e; have := p1 s hs; rw [bl_irrefl] at this; cases this
      · exact e
    · intro hs
      rcases List.mem_cons.1 ((h s).2 (by simp [hs])) with e | e
      · subst e; have := q1 s hs; rw [bl_irrefl] at this; cases this
      · exact e
/-- How many of a list are less than a text. -/
def insAt (s : List UInt8) : List (List UInt8) → Nat
  | [] => 0
  | x :: l => if bl x s = true then insAt s l + 1 else 0
theorem insAt_le (s : List UInt8) : ∀ l : List (List UInt8), insAt s l ≤ l.length
  | [] => Nat.le_refl _
  | x :: l => by have := insAt_le s l; unfold insAt; split <;> simp; omega
def insL (l : List (List UInt8)) (s : List UInt8) : List (List UInt8) :=
  if insAt s l < l.length ∧ l.getD (insAt s l) [] = s then l else l.take (insAt s l) ++ s :: l.drop (insAt s l)
theorem insL_cons (x : List UInt8) (l : List (List UInt8)) (s : List UInt8) : insL (x :: l) s = if bl x s = true then x :: insL l s else if x = s then x :: l else s :: x :: l := by
  unfold insL
  rw [insAt]
  by_cases h : bl x s = true
  · rw [if_pos h, if_pos h]
    by_cases h2 : insAt s l < l.length ∧ l.getD (insAt s l) [] = s
    · rw [if_pos h2, if_pos (by simpa using h2)]
    · rw [if_neg h2, if_neg (by simpa using h2)]; simp
  · rw [if_neg h, if_neg h]
    simp
theorem mem_insL (s t : List UInt8) : ∀ l : List (List UInt8), t ∈ insL l s ↔ t = s ∨ t ∈ l
  | [] => by simp [insL, insAt]
  | x :: l => by
    have ih := mem_insL s t l
    rw [insL_cons]
    split
    · simp only [List.mem_cons, ih]; exact or_left_comm
    · split
      · rename_i e; subst e; simp
      · simp
theorem asc_insL (s : List UInt8) : ∀ {l : List (List UInt8)}, Asc l → Asc (insL l s)
  | [], _ => by simp [insL, insAt, Asc]
  | x :: l, h => by
    obtain ⟨p1, p2⟩ := List.pairwise_cons.1 h
    have ih := asc_insL s (l := l) p2
    rw [insL_cons]
    split
    · rename_i hx
      refine List.pairwise_cons.2 ⟨fun t ht => ?_, ih⟩
      rcases (mem_insL s t l).1 ht with rfl | ht
      · exact hx
      · exact p1 t ht
    · rename_i hx
      split
      · exact h
      · rename_i hne
        have hs : bl s x = true := by
          cases e : bl s x with
          | true => rfl
          | false => exact absurd (bl_total (by simpa using hx) e) hne
        refine List.pairwise_cons.2 ⟨fun t ht => ?_, h⟩
        rcases List.mem_cons.1 ht with rfl | ht
        · exact hs
        · exact bl_trans hs (p1 t ht)
def setL (l : List (List UInt8)) : List (List UInt8) := l.foldl insL []
theorem foldl_insL : ∀ (l m : List (List UInt8)), Asc m → Asc (l.foldl insL m) ∧ ∀ t, t ∈ l.foldl insL m ↔ t ∈ l ∨ t ∈ m
  | [], m, h => ⟨h, fun t => by simp⟩
  | s :: l, m, h => by
    obtain ⟨h1, h2⟩ := foldl_insL l (insL m s) (asc_insL s h)
    refine ⟨h1, fun t => ?_⟩
    rw [List.foldl_cons, h2 t, mem_insL, List.mem_cons]
    constructor
    · rintro (h | h | h)
      · exact .inl (.inr h)
      · exact .inl (.inl h)
      · exact .inr h
    · rintro ((h | h) | h)
      · exact .inr (.inl h)
      · exact .inl h
      · exact .inr (.inr h)
theorem asc_setL (l : List (List UInt8)) : Asc (setL l) := (foldl_insL l [] List.Pairwise.nil).1
theorem mem_setL {l : List (List UInt8)} {t : List UInt8} : t ∈ setL l ↔ t ∈ l := by rw [setL, (foldl_insL l [] List.Pairwise.nil).2]; simp
theorem setL_ext {l m : List (List UInt8)} (h : ∀ t, t ∈ l ↔ t ∈ m) : setL l = setL m := asc_ext (asc_setL l) (asc_setL m) fun t => by rw [mem_setL, mem_setL, h]
theorem setL_asc {l : List (List UInt8)} (h : Asc l) : setL l = l := asc_ext (asc_setL l) h fun t => mem_setL
theorem setL_take {l : List (List UInt8)} {i : Nat} (h : i < l.length) : insL (setL (l.take i)) (l.getD i []) = setL (l.take (i + 1)) := by
  have e : l.take (i + 1) = l.take i ++ [l.getD i []] := by
    rw [List.take_add_one, List.getElem?_eq_getElem h, List.getD_eq_getElem?_getD, List.getElem?_eq_getElem h]; rfl
  rw [e, setL, setL, List.foldl_append]; rfl
/-- Neighbours ascend. -/
def ascB : List (List UInt8) → Bool
  | x :: y :: l => bl x y && ascB (y :: l)
  | _ => true
theorem ascB_iff : ∀ {l : List (List UInt8)}, ascB l = true ↔ Asc l
  | [] => by simp [ascB, Asc]
  | [x] => by simp [ascB, Asc]
  | x :: y :: l => by
    rw [ascB, Bool.and_eq_true, ascB_iff (l := y :: l)]
    constructor
    · rintro ⟨h1, h2⟩
      refine List.pairwise_cons.2 ⟨fun t ht => ?_, h2⟩
      rcases List.mem_cons.1 ht with rfl | ht
      · exact h1
      · exact bl_trans h1 ((List.pairwise_cons.1 h2).1 t ht)
    · intro h
      obtain ⟨p1, p2⟩ := List.pairwise_cons.1 h
      exact ⟨p1 y (by simp), p2⟩
/-- Sorted, then each once. -/
def dedup : List (List UInt8) → List (List UInt8)
  | x :: y :: l => if x = y then dedup (y :: l) else x :: dedup (y :: l)
  | l => l
theorem mem_dedup {t : List UInt8} : ∀ {l : List (List UInt8)}, t ∈ dedup l ↔ t ∈ l
  | [] => by simp [dedup]
  | [x] => by simp [dedup]
  | x :: y :: l => by
    have ih := mem_dedup (t := t) (l := y :: l)
    rw [dedup]
    split
    · rename_i e; subst e; rw [ih]; simp
    · rw [List.mem_cons, ih, ← List.mem_cons]
theorem dedup_asc : ∀ {l : List (List UInt8)}, l.Pairwise (fun x y => bl y x = false) → Asc (dedup l)
  | [], _ => by simp [dedup, Asc]
  | [x], _ => by simp [dedup, Asc]
  | x :: y :: l, h => by
    obtain ⟨p1, p2⟩ := List.pairwise_cons.1 h
    have ih := dedup_asc (l := y :: l) p2
    rw [dedup]
    split
    · exact ih
    · rename_i hne
      have hxy : bl x y = true := by
        cases e : bl x y with
        | true => rfl
        | false => exact absurd (bl_total e (p1 y (by simp))) hne
      refine List.pairwise_cons.2 ⟨fun t ht => ?_, ih⟩
      rcases List.mem_cons.1 (mem_dedup.1 ht) with rfl | ht
      · exact hxy
      · have h2 := (List.pairwise_cons.1 p2).1 t ht
        cases e : bl y t with
        | true => exact bl_trans hxy e
        | false => rw [bl_total e h2] at hxy; exact hxy
theorem setL_dedup {l m : List (List UInt8)} (h : m.Pairwise (fun x y => bl y x = false)) (hp : ∀ t, t ∈ m ↔ t ∈ l) : dedup m = setL l :=
  asc_ext (dedup_asc h) (asc_setL l) fun t => by rw [mem_dedup, mem_setL, hp]
/-- How many of one list are in another. -/
def comL (a b : List (List UInt8)) : Nat := (a.filter fun s => decide (s ∈ b)).length
theorem comL_le (a b : List (List UInt8)) : comL a b ≤ a.length := List.length_filter_le _ _
theorem comL_self {a : List (List UInt8)} : comL a a = a.length := by
  unfold comL
  rw [List.filter_eq_self.2 (fun s hs => decide_eq_true hs)]
theorem Asc.nodup {l : List (List UInt8)} (h : Asc l) : l.Nodup := List.Pairwise.imp (fun {x y} hxy e => by subst e; rw [bl_irrefl] at hxy; cases hxy) h
theorem comL_symm {a b : List (List UInt8)} (ha : Asc a) (hb : Asc b) : comL a b = comL b a := by
  have e : a.filter (fun s => decide (s ∈ b)) = b.filter (fun s => decide (s ∈ a)) := asc_ext (ha.sublist List.filter_sublist) (hb.sublist List.filter_sublist) fun s => by simp [List.mem_filter]; exact and_comm
  unfold comL
  rw [e]
end Go.Proofs.Ytpnhbjabnnibcaa

namespace Go.Proofs.Ytpnhbjabnnibcaa
open Go.Abs
/-! Code points and tokens. -/
theorem dec_wide (l : List UInt8) (p : Nat) (h : p < l.length) : ((l.getD p 0).toNat < 128 ∧ dec l p = ((l.getD p 0).toNat, 1)) ∨
    (128 ≤ (dec l p).1 ∧ 1 ≤ (dec l p).2 ∧ p + (dec l p).2 ≤ l.length ∧ ∀ i, i < (dec l p).2 → 128 ≤ (l.getD (p + i) 0).toNat) := by
  by_cases h0 : (l.getD p 0).toNat < 128
  · exact .inl ⟨h0, dec_ascii h h0⟩
  · right
    have hget : ∀ k, ((bs l).get! (p + k)).toNat = (l.getD (p + k) 0).toNat := fun k => by
      show (l.toArray.getD (p + k) default).toNat = _
      simp [List.getD_eq_getElem?_getD]; rfl
    have hsz : (bs l).size = l.length := bs_size
    unfold dec Utf8.decode
    have hget0 : ((bs l).get! p).toNat = (l.getD p 0).toNat := hget 0
    simp only [hget, hsz, Nat.add_zero, hget0]
    have hb : ∀ k, (l.getD (p + k) 0).toNat < 256 := fun k => (l.getD (p + k) 0).toNat_lt
    have hb1 := hb 1
    have hb2 := hb 2
    have hb3 := hb 3
    have hb0 := hb 0
    rw [Nat.add_zero] at hb0
    rw [if_neg h0]
    have one : ∀ i, i < 1 → 128 ≤ (l.getD (p + i) 0).toNat := fun i hi => by obtain rfl : i = 0 := by omega
                                                                             rw [Nat.add_zero]; omega
    split
    · rename_i h1
      simp only [Bool.and_eq_true, beq_iff_eq, decide_eq_true_eq] at h1
      split
      · rename_i h2
        refine ⟨by omega, by omega, by omega, fun i hi => ?_⟩
        rcases (by omega : i = 0 ∨ i = 1) with rfl | rfl
        · rw [Nat.add_zero]; omega
        · omega
      · exact ⟨by simp [Utf8.runeError], by omega, by omega, one⟩
    · split
      · rename_i h1
        simp only [Bool.and_eq_true, beq_iff_eq, decide_eq_true_eq] at h1
        split
        · rename_i h2
          simp only [Bool.and_eq_true, decide_eq_true_eq] at h2
          refine ⟨by omega, by omega, by omega, fun i hi => ?_⟩
          rcases (by omega : i = 0 ∨ i = 1 ∨ i = 2) with rfl | rfl | rfl
          · rw [Nat.add_zero]; omega
          · omega
          · omega
        · exact ⟨by simp [Utf8.runeError], by omega, by omega, one⟩
      · split
        · rename_i h1
          simp only [Bool.and_eq_true, beq_iff_eq, decide_eq_true_eq] at h1
          split
          · rename_i h2
            simp only [Bool.and_eq_true, decide_eq_true_eq] at h2
            refine ⟨by omega, by omega, by omega, fun i hi => ?_⟩
            rcases (by omega : i = 0 ∨ i = 1 ∨ i = 2 ∨ i = 3) with rfl | rfl | rfl | rfl
            · rw [Nat.add_zero]; omega
            · omega
            · omega
            · omega
          · exact ⟨by simp [Utf8.runeError], by omega, by omega, one⟩
        · exact ⟨by simp [Utf8.runeError], by omega, by omega, one⟩
theorem dec_end (l : List UInt8) (p : Nat) (h : p < l.length) : p < p + (dec l p).2 ∧ p + (dec l p).2 ≤ l.length := by
  rcases dec_wide l p h with ⟨_, e⟩ | ⟨_, h1, h2, _⟩
  · rw [e]; simp only; omega
  · omega
/-- The code points from a place on. -/
def ptsF (l : List UInt8) (p : Nat) : List Int :=
  if h : p < l.length then ((dec l p).1 : Int) :: ptsF l (p + (dec l p).2) else []
termination_by l.length - p
decreasing_by have := dec_end l p h; omega
def pts (l : List UInt8) : List Int := ptsF l 0
theorem ptsF_more {l : List UInt8} {p : Nat} (h : p < l.length) : ptsF l p = ((dec l p).1 : Int) :: ptsF l (p + (dec l p).2) := by
  rw [ptsF, dif_pos h]
theorem ptsF_end {l : List UInt8} {p : Nat} (h : ¬ p < l.length) : ptsF l p = [] := by
  rw [ptsF, dif_neg h]
theorem ptsF_len : ∀ (n : Nat) (l : List UInt8) (p : Nat), l.length - p = n → (ptsF l p).length ≤ n := by
  intro n
  induction n using Nat.strongRecOn with
  | _ n ih =>
    intro l p hn
    by_cases h : p < l.length
    · rw [ptsF_more h, List.length_cons]
      have := dec_end l p h
      have := ih _ (by omega) l (p + (dec l p).2) rfl
      omega
    · rw [ptsF_end h]; simp
theorem pts_len (l : List UInt8) : (pts l).length ≤ l.length := ptsF_len _ l 0 rfl
theorem ptsF_bound : ∀ (n : Nat) (l : List UInt8) (p : Nat), l.length - p = n → ∀ c ∈ ptsF l p, 0 ≤ c ∧ c ≤ 2147483647 := by
  intro n
  induction n using Nat.strongRecOn with
  | _ n ih =>
    intro l p hn c hc
    by_cases h : p < l.length
    · rw [ptsF_more h] at hc
      have := dec_end l p h
      have hb := (dec_bounds l p).2
      rcases List.mem_cons.1 hc with rfl | hc
      · omega
      · exact ih _ (by omega) l (p + (dec l p).2) rfl c hc
    · rw [ptsF_end h] at hc; cases hc
theorem pts_ascii : ∀ (n : Nat) (l : List UInt8) (p : Nat), l.length - p = n → (∀ c ∈ l, c.toNat < 128) → ptsF l p = (l.drop p).map fun c => (c.toNat : Int) := by
  intro n
  induction n using Nat.strongRecOn with
  | _ n ih =>
    intro l p hn ha
    by_cases h : p < l.length
    · have e : l.drop p = l.getD p 0 :: l.drop (p + 1) := by
        rw [List.drop_eq_getElem_cons h, List.getD_eq_getElem?_getD, List.getElem?_eq_getElem h]; rfl
      have hm : l.getD p 0 ∈ l := by rw [List.getD_eq_getElem?_getD, List.getElem?_eq_getElem h]; exact List.getElem_mem h
      rw [ptsF_more h, dec_ascii h (ha _ hm), e, List.map_cons, ih _ (by omega) l (p + 1) rfl ha]
    · rw [ptsF_end h, List.drop_of_length_le (by omega)]; rfl
def foldB (c : UInt8) : UInt8 := if 65 ≤ c.toNat ∧ c.toNat ≤ 90 then c + 32 else c
theorem foldB_nat (c : UInt8) : (foldB c).toNat = if 65 ≤ c.toNat ∧ c.toNat ≤ 90 then c.toNat + 32 else c.toNat := by
  unfold foldB
  split
  · rw [UInt8.toNat_add]; show (c.toNat + 32) % 256 = _; omega
  · rfl
/-- What stands between tokens (of a folded text). -/
def sepB (c : UInt8) : Bool := decide (c.toNat < 128) && !(decide (48 ≤ c.toNat) && decide (c.toNat ≤ 57)) && !(decide (97 ≤ c.toNat) && decide (c.toNat ≤ 122))
theorem sepB_iff {c : UInt8} : sepB c = true ↔ c.toNat < 128 ∧ (c.toNat < 48 ∨ 57 < c.toNat) ∧ (c.toNat < 97 ∨ 122 < c.toNat) := by
  simp [sepB]; omega
def tokG (cur : List UInt8) : List UInt8 → List (List UInt8)
  | [] => if cur = [] then [] else [cur]
  | c :: l => if sepB c = true then (if cur = [] then tokG [] l else cur :: tokG [] l) else tokG (cur ++ [c]) l
def tokL (s : List UInt8) : List (List UInt8) := tokG [] (s.map foldB)
theorem tokG_run : ∀ (w : List UInt8) (cur l : List UInt8), (∀ c ∈ w, sepB c = false) → tokG cur (w ++ l) = tokG (cur ++ w) l
  | [], cur, l, _ => by simp
  | c :: w, cur, l, h => by
    rw [List.cons_append, tokG, h c (by simp), if_neg Bool.false_ne_true, tokG_run w _ l fun d hd => h d (by simp [hd])]
    simp
theorem tokG_sep {c : UInt8} (h : sepB c = true) : ∀ (cur x y : List UInt8), tokG cur (x ++ c :: y) = tokG cur x ++ tokG [] y
  | cur, [], y => by
    rw [List.nil_append]
    show (if sepB c = true then _ else _) = (if cur = [] then [] else [cur]) ++ tokG [] y
    rw [if_pos h]
    split <;> simp
  | cur, d :: x, y => by
    rw [List.cons_append, tokG, tokG]
    split
    · split
      · exact tokG_sep h [] x y
      · rw [tokG_sep h [] x y]; rfl
    · exact tokG_sep h (cur ++ [d]) x y
theorem tokG_step {s : List UInt8} {f i : Nat} (hf : f ≤ i) (hi : i < s.length) (hs : sepB (s.getD i 0) = false) : tokG ((s.take i).drop f) (s.drop i) = tokG ((s.take (i + 1)).drop f) (s.drop (i + 1)) := by
  have e : s.drop i = s.getD i 0 :: s.drop (i + 1) := by
    rw [List.drop_eq_getElem_cons hi, List.getD_eq_getElem?_getD, List.getElem?_eq_getElem hi]; rfl
  have e2 : (s.take (i + 1)).drop f = (s.take i).drop f ++ [s.getD i 0] := by
    rw [List.take_add_one, List.getElem?_eq_getElem hi, List.getD_eq_getElem?_getD, List.getElem?_eq_getElem hi, List.drop_append_of_le_length (by rw [List.length_take]; omega)]; rfl
  rw [e, e2, tokG, hs, if_neg Bool.false_ne_true]
theorem tokG_cut {s : List UInt8} {f i : Nat} (hf : f ≤ i) (hi : i < s.length) (hs : sepB (s.getD i 0) = true) : tokG ((s.take i).drop f) (s.drop i) = (if f < i then [(s.take i).drop f] else []) ++ tokG [] (s.drop (i + 1)) := by
  have e : s.drop i = s.getD i 0 :: s.drop (i + 1) := by
    rw [List.drop_eq_getElem_cons hi, List.getD_eq_getElem?_getD, List.getElem?_eq_getElem hi]; rfl
  have hl : ((s.take i).drop f).length = i - f := by simp; omega
  rw [e, tokG, if_pos hs]
  by_cases h : f < i
  · rw [if_pos h, if_neg (fun h0 => by rw [h0] at hl; simp at hl; omega)]; rfl
  · rw [if_neg h, if_pos (List.eq_nil_of_length_eq_zero (by omega))]; rfl
/-- Over a code point. -/
theorem tokG_wide {s : List UInt8} {f p w : Nat} (hf : f ≤ p) (hw : p + w ≤ s.length) (h : ∀ i, i < w → 128 ≤ (s.getD (p + i) 0).toNat) : tokG ((s.take p).drop f) (s.drop p) = tokG ((s.take (p + w)).drop f) (s.drop (p + w)) := by
  induction w with
  | zero => rfl
  | succ w ih =>
    rw [ih (by omega) fun i hi => h i (by omega)]
    have h1 := h w (by omega)
    have := tokG_step (s := s) (f := f) (i := p + w) (by omega) (by omega) (by cases e : sepB (s.getD (p + w) 0) with | false => rfl | true => have := (sepB_iff.1 e).1; omega)
    rw [this]; rfl
theorem tokL_space (s : List UInt8) : tokG [] (s ++ [32]) = tokG [] s := by
  have h := tokG_sep (c := 32) (by decide) [] s []
  rw [h, tokG, if_pos rfl, List.append_nil]
end Go.Proofs.Ytpnhbjabnnibcaa

namespace Go.Proofs.Ytpnhbjabnnibcaa
open Go.Abs
/-! Texts of ASCII and of the one wide letter of the words: their code points tell them apart. -/
def gdB : List UInt8 → Bool
  | [] => true
  | [c] => decide (c.toNat < 128)
  | c :: d :: l => if c.toNat < 128 then gdB (d :: l) else decide (c = 195) && decide (d = 188) && gdB l
theorem gdB_cons {c : UInt8} {l : List UInt8} (h : c.toNat < 128) : gdB (c :: l) = gdB l := by
  cases l with
  | nil => simp [gdB, h]
  | cons d l => rw [gdB, if_pos h]
theorem gdB_wide {l : List UInt8} : gdB (195 :: 188 :: l) = gdB l := by
  rw [gdB, if_neg (by decide)]; simp
/-- A good text, by its first letter. -/
theorem gd_cases {l : List UInt8} (h : gdB l = true) : l = [] ∨ (∃ c m, l = c :: m ∧ c.toNat < 128 ∧ gdB m = true) ∨ (∃ m, l = 195 :: 188 :: m ∧ gdB m = true) := by
  match l, h with
  | [], _ => exact .inl rfl
  | [c], h => exact .inr (.inl ⟨c, [], rfl, by simpa [gdB] using h, rfl⟩)
  | c :: d :: m, h =>
    by_cases hc : c.toNat < 128
    · exact .inr (.inl ⟨c, d :: m, rfl, hc, by rw [gdB_cons hc] at h; exact h⟩)
    · rw [gdB, if_neg hc] at h
      simp only [Bool.and_eq_true, decide_eq_true_eq] at h
      obtain ⟨⟨rfl, rfl⟩, h⟩ := h
      exact .inr (.inr ⟨m, rfl, h⟩)
theorem gd_append : ∀ (n : Nat) (x y : List UInt8), x.length = n → gdB x = true → gdB y = true → gdB (x ++ y) = true := by
  intro n
  induction n using Nat.strongRecOn with
  | _ n ih =>
    intro x y hn hx hy
    rcases gd_cases hx with rfl | ⟨c, m, rfl, hc, hm⟩ | ⟨m, rfl, hm⟩
    · exact hy
    · rw [List.cons_append, gdB_cons hc]; exact ih m.length (by simp at hn; omega) m y rfl hm hy
    · rw [List.cons_append, List.cons_append, gdB_wide]; exact ih m.length (by simp at hn; omega) m y rfl hm hy
theorem gd_split : ∀ (n : Nat) (x : List UInt8) (i : Nat), x.length = n → gdB x = true → i ≤ x.length → (i < x.length → (x.getD i 0).toNat < 128) → gdB (x.take i) = true ∧ gdB (x.drop i) = true := by
  intro n
  induction n using Nat.strongRecOn with
  | _ n ih =>
    intro x i hn hx hi ha
    rcases i with _ | i
    · exact ⟨by simp [gdB], by simpa using hx⟩
    · rcases gd_cases hx with rfl | ⟨c, m, rfl, hc, hm⟩ | ⟨m, rfl, hm⟩
      · simp at hi
      · obtain ⟨h1, h2⟩ := ih m.length (by simp at hn; omega) m i rfl hm (by simpa using hi) (fun h => by simpa using ha (by simpa using h))
        exact ⟨by rw [List.take_succ_cons, gdB_cons hc]; exact h1, by simpa using h2⟩
      · rcases i with _ | i
        · have := ha (by simp); simp at this
        · obtain ⟨h1, h2⟩ := ih m.length (by simp at hn; omega) m i rfl hm (by simpa using hi) (fun h => by simpa using ha (by simpa using h))
          exact ⟨by rw [List.take_succ_cons, List.take_succ_cons, gdB_wide]; exact h1, by simpa using h2⟩
theorem dec_wide2 {x m : List UInt8} : dec (x ++ 195 :: 188 :: m) x.length = (252, 2) := by
  have hget : ∀ k, ((bs (x ++ 195 :: 188 :: m)).get! (x.length + k)).toNat = ((195 :: 188 :: m : List UInt8).getD k 0).toNat := fun k => by
    show ((x ++ 195 :: 188 :: m).toArray.getD (x.length + k) default).toNat = _
    simp only [Array.getD_eq_getD_getElem?, List.getElem?_toArray, List.getD_eq_getElem?_getD]
    rw [List.getElem?_append_right (by omega), show x.length + k - x.length = k by omega]
    rfl
  have hget0 : ((bs (x ++ 195 :: 188 :: m)).get! x.length).toNat = 195 := hget 0
  have hsz : (bs (x ++ 195 :: 188 :: m)).size = x.length + (m.length + 2) := by rw [bs_size]; simp
  have h1 : x.length + 1 < x.length + (m.length + 2) := by omega
  unfold dec Utf8.decode
  simp only [hget, hget0, hsz, Nat.add_zero]
  rw [if_neg (by decide), if_pos (by simp [h1])]
  simp
def uncode (c : Int) : List UInt8 := if c = 252 then [195, 188] else [UInt8.ofNat c.toNat]
theorem uncode_ptsF : ∀ (n : Nat) (y x : List UInt8), y.length = n → gdB y = true → (ptsF (x ++ y) x.length).flatMap uncode = y := by
  intro n
  induction n using Nat.strongRecOn with
  | _ n ih =>
    intro y x hn hy
    rcases gd_cases hy with rfl | ⟨c, m, rfl, hc, hm⟩ | ⟨m, rfl, hm⟩
    · rw [ptsF_end (by simp)]; rfl
    · have h1 : x.length < (x ++ c :: m).length := by simp
      have h2 : (x ++ c :: m).getD x.length 0 = c := by simp [List.getD_eq_getElem?_getD]
      have hd := dec_ascii h1 (by rw [h2]; exact hc)
      rw [h2] at hd
      rw [ptsF_more h1, hd]
      have := ih m.length (by simp at hn; omega) m (x ++ [c]) rfl hm
      rw [List.append_assoc, List.length_append] at this
      simp only [List.flatMap_cons]
      rw [show x.length + (c.toNat, 1).2 = x.length + [c].length from rfl, show x ++ c :: m = x ++ ([c] ++ m) from rfl, this]
      have hu : uncode ((c.toNat : Nat) : Int) = [c] := by
        unfold uncode
        rw [if_neg (by omega)]
        simp
      rw [hu]; rfl
    · have h1 : x.length < (x ++ 195 :: 188 :: m).length := by simp
      rw [ptsF_more h1, dec_wide2]
      have := ih m.length (by simp at hn; omega) m (x ++ [195, 188]) rfl hm
      rw [List.append_assoc, List.length_append] at this
      simp only [List.flatMap_cons]
      rw [show x.length + ((252 : Nat), 2).2 = x.length + ([195, 188] : List UInt8).length from rfl, show x ++ 195 :: 188 :: m = x ++ ([195, 188] ++ m) from rfl, this]
      rfl
theorem pts_inj {x y : List UInt8} (hx : gdB x = true) (hy : gdB y = true) (h : pts x = pts y) : x = y := by
  have h1 := uncode_ptsF _ x [] rfl hx
  have h2 := uncode_ptsF _ y [] rfl hy
  rw [List.nil_append, List.length_nil] at h1 h2
  unfold pts at h
  rw [← h1, h, h2]
def wordsL : List (List UInt8) := [[97, 110, 110], [98, 111, 98], [99, 121], [66, 101, 114, 110], [85, 108, 109], [78, 101, 119, 32, 89, 111, 114, 107], [121, 111, 114, 107, 32, 110, 101, 119], [97, 45, 49], [98, 45, 50, 50], [120], [122, 195, 188, 114, 105, 99, 104], [65, 110, 110], [98, 111], [99, 97, 116], [98, 97, 116], [114, 97, 116]]
theorem words_gd : ∀ w ∈ wordsL, gdB w = true ∧ w.length ≤ 8 := by decide
end Go.Proofs.Ytpnhbjabnnibcaa

namespace Go.Proofs.Ytpnhbjabnnibcaa
open Go Go.Proofs Go.Abs
variable {G : Globals}
/-! Code points, both packages. -/
abbrev M0 : Muts := fun _ => false
abbrev S (l : List UInt8) : D := .str (bs l)
abbrev Is (l : List Int) : D := .sl l.length false (ints .i64 l)
theorem pts_step {l : List UInt8} {p : Nat} {pre : List Int} (h : p < l.length) (e : pre ++ ptsF l p = pts l) : (pre ++ [((dec l p).1 : Int)]) ++ ptsF l (p + (dec l p).2) = pts l := by
  rw [← e, ptsF_more h]; simp
theorem pts_pre {l : List UInt8} {p : Nat} {pre : List Int} (e : pre ++ ptsF l p = pts l) : pre.length ≤ l.length := by
  have h := pts_len l
  rw [← e, List.length_append] at h
  omega
set_option maxRecDepth 100000 in
theorem points_spec (l : List UInt8) (hl : l.length ≤ 1000000) : Ctr Try.prog G 34 [.d (S l)] [] (.d (Is (pts l))) [] := by
  refine Ctr.pure (M := M0) hmix Try.func34 rfl go34 ?_
  simp (config := { maxSteps := 1000000 }) (disch := ((try simp only [awL]); omega)) only [nextC_more, nextC_over, bs_size, bs_extract, bs_toList, bs_append, byteAt_bs, bs_cells, nums_length, nums_getD, Try.f34, ↓awU, awV, awF, ofVal, ofVal0, isShift, aggK, forall_const, ↓reduceIte, ↓reduceDIte, ↓purePost, combine, idsA, cellsA, numsOf, srcA, calleeA, refsA, isScalar, scalarD, scalar0, AV.one, putL, unfA, implies_true, IntKind.signed, Nat.reduceAdd, Nat.reduceSub, Nat.reduceMul, Nat.reducePow, Nat.reduceDiv, Nat.reduceMod, Int.reduceAdd, Int.reduceSub, Int.reduceMul, Int.reducePow, Int.reduceNeg, Int.reduceToNat, Int.reduceLT, Int.reduceLE, Nat.reduceEqDiff, sidsB, Nat.reduceBEq, keyKD, isIntK, aggD, aggL, eqKs]
  refine LoopC.fr 1024 (α := Nat × List Int) (fun x => l.length - x.1) (fun x => [(3, .lsl 0 1 0 x.2.length)])
    (fun x => [.row false (ints .i64 x.2), .iter (bs l) x.1]) (fun x => x.1 ≤ l.length ∧ x.2 ++ ptsF l x.1 = pts l) (0, []) ⟨Nat.zero_le _, rfl⟩ ?_ ?_
  · exact ⟨[some 0, some 1], rfl, by simp, by simp [setsA, keepA, SWeak, AWeak], by simp [HWeak, BWeak, SWeak, AWeak, ints, nats]⟩
  · rintro ⟨p, pre⟩ ⟨h1, h2⟩
    simp only at h1 h2
    have hp := pts_pre h2
    have il := @ints_length .i64 pre
    simp only [awK, Nat.reduceMod, Nat.reduceDiv, reduceIte]
    rcases Nat.lt_or_ge p l.length with h | h
    · have hd := dec_end l p h
      have hb := dec_bounds l p
      have hs := pts_step h h2
      simp (config := { maxSteps := 1000000 }) (disch := ((try simp only [awL]); omega)) only [nextC_more, nextC_over, bs_size, bs_extract, bs_toList, bs_append, byteAt_bs, bs_cells, nums_length, nums_getD, il, ↓awU, awV, awF, ofVal, ofVal0, isShift, aggK, forall_const, ↓reduceIte, ↓reduceDIte, ↓purePost, combine, idsA, cellsA, numsOf, srcA, calleeA, refsA, isScalar, scalarD, scalar0, AV.one, putL, unfA, implies_true, IntKind.signed, Nat.reduceAdd, Nat.reduceSub, Nat.reduceMul, Nat.reducePow, Nat.reduceDiv, Nat.reduceMod, Int.reduceAdd, Int.reduceSub, Int.reduceMul, Int.reducePow, Int.reduceNeg, Int.reduceToNat, Int.reduceLT, Int.reduceLE, Nat.reduceEqDiff, sidsB, Nat.reduceBEq, keyKD, isIntK, aggD, aggL, eqKs]
      exact ⟨(p + (dec l p).2, pre ++ [((dec l p).1 : Int)]), ⟨hd.2, hs⟩, by simp only; omega, ⟨[some 3, some 1], rfl, by simp, by simp [setsA, keepA, SWeak, AWeak], by simp [HWeak, BWeak, SWeak, AWeak, ints]⟩⟩
    · obtain rfl : p = l.length := by omega
      rw [ptsF_end (Nat.lt_irrefl _), List.append_nil] at h2
      subst h2
      simp (config := { maxSteps := 1000000 }) (disch := ((try simp only [awL]); omega)) only [nextC_more, nextC_over, bs_size, bs_extract, bs_toList, bs_append, byteAt_bs, bs_cells, nums_length, nums_getD, il, ↓awU, awV, awF, ofVal, ofVal0, isShift, aggK, forall_const, ↓reduceIte, ↓reduceDIte, ↓purePost, combine, idsA, cellsA, numsOf, srcA, calleeA, refsA, isScalar, scalarD, scalar0, AV.one, putL, unfA, implies_true, IntKind.signed, Nat.reduceAdd, Nat.reduceSub, Nat.reduceMul, Nat.reducePow, Nat.reduceDiv, Nat.reduceMod, Int.reduceAdd, Int.reduceSub, Int.reduceMul, Int.reducePow, Int.reduceNeg, Int.reduceToNat, Int.reduceLT, Int.reduceLE, Nat.reduceEqDiff, sidsB, Nat.reduceBEq, keyKD, isIntK, aggD, aggL, eqKs]
      try rfl
set_option maxRecDepth 100000 in
theorem rpoints_spec (l : List UInt8) (hl : l.length ≤ 1000000) : Ctr Try.prog G 12 [.d (S l)] [] (.d (Is (pts l))) [] := by
  refine Ctr.pure (M := M0) hmix Try.func12 rfl go12 ?_
  simp (config := { maxSteps := 1000000 }) (disch := ((try simp only [awL]); omega)) only [nextC_more, nextC_over, bs_size, bs_extract, bs_toList, bs_append, byteAt_bs, bs_cells, nums_length, nums_getD, Try.f12, ↓awU, awV, awF, ofVal, ofVal0, isShift, aggK, forall_const, ↓reduceIte, ↓reduceDIte, ↓purePost, combine, idsA, cellsA, numsOf, srcA, calleeA, refsA, isScalar, scalarD, scalar0, AV.one, putL, unfA, implies_true, IntKind.signed, Nat.reduceAdd, Nat.reduceSub, Nat.reduceMul, Nat.reducePow, Nat.reduceDiv, Nat.reduceMod, Int.reduceAdd, Int.reduceSub, Int.reduceMul, Int.reducePow, Int.reduceNeg, Int.reduceToNat, Int.reduceLT, Int.reduceLE, Nat.reduceEqDiff, sidsB, Nat.reduceBEq, keyKD, isIntK, aggD, aggL, eqKs]
  refine LoopC.fr 128 (α := Nat × List Int) (fun x => l.length - x.1) (fun x => [(3, .lsl 1 1 0 x.2.length)])
    (fun x => [.iter (bs l) x.1, .row false (ints .i64 x.2)]) (fun x => x.1 ≤ l.length ∧ x.2 ++ ptsF l x.1 = pts l) (0, []) ⟨Nat.zero_le _, rfl⟩ ?_ ?_
  · exact ⟨[some 0, none], rfl, by simp, by simp [setsA, keepA, SWeak, AWeak], by simp [HWeak, BWeak, SWeak, AWeak, ints, nats]⟩
  · rintro ⟨p, pre⟩ ⟨h1, h2⟩
    simp only at h1 h2
    have hp := pts_pre h2
    have il := @ints_length .i64 pre
    simp only [awK, Nat.reduceMod, Nat.reduceDiv, reduceIte]
    rcases Nat.lt_or_ge p l.length with h | h
    · have hd := dec_end l p h
      have hb := dec_bounds l p
      have hs := pts_step h h2
      simp (config := { maxSteps := 1000000 }) (disch := ((try simp only [awL]); omega)) only [nextC_more, nextC_over, bs_size, bs_extract, bs_toList, bs_append, byteAt_bs, bs_cells, nums_length, nums_getD, il, ↓awU, awV, awF, ofVal, ofVal0, isShift, aggK, forall_const, ↓reduceIte, ↓reduceDIte, ↓purePost, combine, idsA, cellsA, numsOf, srcA, calleeA, refsA, isScalar, scalarD, scalar0, AV.one, putL, unfA, implies_true, IntKind.signed, Nat.reduceAdd, Nat.reduceSub, Nat.reduceMul, Nat.reducePow, Nat.reduceDiv, Nat.reduceMod, Int.reduceAdd, Int.reduceSub, Int.reduceMul, Int.reducePow, Int.reduceNeg, Int.reduceToNat, Int.reduceLT, Int.reduceLE, Nat.reduceEqDiff, sidsB, Nat.reduceBEq, keyKD, isIntK, aggD, aggL, eqKs]
      exact ⟨(p + (dec l p).2, pre ++ [((dec l p).1 : Int)]), ⟨hd.2, hs⟩, by simp only; omega, ⟨[some 0, some 3], rfl, by simp, by simp [setsA, keepA, SWeak, AWeak], by simp [HWeak, BWeak, SWeak, AWeak, ints]⟩⟩
    · obtain rfl : p = l.length := by omega
      rw [ptsF_end (Nat.lt_irrefl _), List.append_nil] at h2
      subst h2
      simp (config := { maxSteps := 1000000 }) (disch := ((try simp only [awL]); omega)) only [nextC_more, nextC_over, bs_size, bs_extract, bs_toList, bs_append, byteAt_bs, bs_cells, nums_length, nums_getD, il, ↓awU, awV, awF, ofVal, ofVal0, isShift, aggK, forall_const, ↓reduceIte, ↓reduceDIte, ↓purePost, combine, idsA, cellsA, numsOf, srcA, calleeA, refsA, isScalar, scalarD, scalar0, AV.one, putL, unfA, implies_true, IntKind.signed, Nat.reduceAdd, Nat.reduceSub, Nat.reduceMul, Nat.reducePow, Nat.reduceDiv, Nat.reduceMod, Int.reduceAdd, Int.reduceSub, Int.reduceMul, Int.reducePow, Int.reduceNeg, Int.reduceToNat, Int.reduceLT, Int.reduceLE, Nat.reduceEqDiff, sidsB, Nat.reduceBEq, keyKD, isIntK, aggD, aggL, eqKs]
      try rfl
end Go.Proofs.Ytpnhbjabnnibcaa

namespace Go.Proofs.Ytpnhbjabnnibcaa
open Go Go.Proofs Go.Abs
variable {G : Globals}
/-! Folding, both packages. -/
def foldMid (l : List UInt8) (i : Nat) : List UInt8 := (l.take i).map foldB ++ l.drop i
theorem foldMid_length {l : List UInt8} {i : Nat} (h : i ≤ l.length) : (foldMid l i).length = l.length := by simp [foldMid]; omega
theorem foldMid_get {l : List UInt8} {i : Nat} (h : i < l.length) : (foldMid l i).getD i 0 = l.getD i 0 := by
  have hl : ((l.take i).map foldB).length = i := by rw [List.length_map, List.length_take]; omega
  rw [foldMid, List.getD_eq_getElem?_getD, List.getElem?_append_right (by omega), hl, Nat.sub_self, List.getElem?_drop, Nat.add_zero, ← List.getD_eq_getElem?_getD]
theorem foldMid_set {l : List UInt8} {i : Nat} (h : i < l.length) : (foldMid l i).set i (foldB (l.getD i 0)) = foldMid l (i + 1) := by
  have hl : ((l.take i).map foldB).length = i := by rw [List.length_map, List.length_take]; omega
  rw [foldMid, foldMid, List.set_append, if_neg (by omega), hl, Nat.sub_self, List.drop_eq_getElem_cons h, List.set_cons_zero, List.take_add_one, List.getElem?_eq_getElem h, List.getD_eq_getElem?_getD, List.getElem?_eq_getElem h]
  simp only [Option.toList_some, Option.getD_some, List.map_append, List.map_cons, List.map_nil, List.append_assoc, List.cons_append, List.nil_append]
theorem foldMid_same {l : List UInt8} {i : Nat} (h : i < l.length) (hc : foldB (l.getD i 0) = l.getD i 0) : foldMid l (i + 1) = foldMid l i := by
  rw [← foldMid_set h, hc]
  have hg := foldMid_get h
  have hl := foldMid_length (l := l) (i := i) (by omega)
  rw [List.getD_eq_getElem?_getD, List.getElem?_eq_getElem (by omega)] at hg
  simp only [Option.getD_some] at hg
  rw [← hg, List.set_getElem_self]
theorem nums_set {l : List UInt8} {i : Nat} {c : UInt8} : (nums l).set i (c.toNat : Int) = nums (l.set i c) := by simp [nums, List.map_set]
theorem cells_nums {l : List UInt8} : (l.map fun b => D.int .u8 (b.toNat : Int)) = ints .u8 (nums l) := by simp [ints, nums]
set_option maxRecDepth 100000 in
theorem fold_spec (l : List UInt8) (hl : l.length ≤ 1000000) : Ctr Try.prog G 47 [.d (S l)] [] (.d (S (l.map foldB))) [] := by
  refine Ctr.pure (M := M0) hmix Try.func47 rfl go47 ?_
  simp (config := { maxSteps := 1000000 }) (disch := ((try simp only [awL]); omega)) only [nextC_more, nextC_over, bs_size, bs_extract, bs_toList, bs_append, byteAt_bs, bs_cells, nums_length, nums_getD, Try.f47, cells_nums, ↓awU, awV, awF, ofVal, ofVal0, isShift, aggK, forall_const, ↓reduceIte, ↓reduceDIte, ↓purePost, combine, idsA, cellsA, numsOf, srcA, calleeA, refsA, isScalar, scalarD, scalar0, AV.one, putL, unfA, implies_true, IntKind.signed, Nat.reduceAdd, Nat.reduceSub, Nat.reduceMul, Nat.reducePow, Nat.reduceDiv, Nat.reduceMod, Int.reduceAdd, Int.reduceSub, Int.reduceMul, Int.reducePow, Int.reduceNeg, Int.reduceToNat, Int.reduceLT, Int.reduceLE, Nat.reduceEqDiff, sidsB, Nat.reduceBEq, keyKD, isIntK, aggD, aggL, eqKs]
  refine LoopC.fr 776 (α := Nat) (fun i => l.length - i) (fun i => [(10, .d (.int .i64 i))]) (fun i => [.row false (ints .u8 (nums (foldMid l i)))]) (fun i => i ≤ l.length) 0 (Nat.zero_le _) ?_ ?_
  · exact ⟨[some 0], rfl, by simp, by simp [setsA, keepA, SWeak, AWeak], by simp [HWeak, BWeak, SWeak, AWeak, foldMid]⟩
  · intro i hi
    have ml := foldMid_length hi
    have nl := @nums_length (foldMid l i)
    simp only [awK, Nat.reduceMod, Nat.reduceDiv, reduceIte]
    rcases Nat.lt_or_ge i l.length with h | h
    · have mg := foldMid_get h
      have fs := foldMid_set h
      have fb := foldB_nat (l.getD i 0)
      have fe := foldMid_same h
      have hb : (l.getD i 0).toNat < 256 := (l.getD i 0).toNat_lt
      by_cases h1 : 65 ≤ (l.getD i 0).toNat ∧ (l.getD i 0).toNat ≤ 90
      · rw [if_pos h1] at fb
        obtain ⟨h1, h2⟩ := h1
        have hs1 : (nums (foldMid l i)).set i (((l.getD i 0).toNat : Int) - 65 + 97) = nums (foldMid l (i + 1)) := by
          rw [← fs, ← nums_set, fb]; congr 1; omega
        have hs2 : (nums (foldMid l i)).set i (((l.getD i 0).toNat : Int) + 32) = nums (foldMid l (i + 1)) := by
          rw [← fs, ← nums_set, fb]; congr 1
        simp (config := { maxSteps := 1000000 }) (disch := ((try simp only [awL]); omega)) only [nextC_more, nextC_over, bs_size, bs_extract, bs_toList, bs_append, byteAt_bs, bs_cells, nums_length, nums_getD, nl, ml, mg, hs1, hs2, ↓awU, awV, awF, ofVal, ofVal0, isShift, aggK, forall_const, ↓reduceIte, ↓reduceDIte, ↓purePost, combine, idsA, cellsA, numsOf, srcA, calleeA, refsA, isScalar, scalarD, scalar0, AV.one, putL, unfA, implies_true, IntKind.signed, Nat.reduceAdd, Nat.reduceSub, Nat.reduceMul, Nat.reducePow, Nat.reduceDiv, Nat.reduceMod, Int.reduceAdd, Int.reduceSub, Int.reduceMul, Int.reducePow, Int.reduceNeg, Int.reduceToNat, Int.reduceLT, Int.reduceLE, Nat.reduceEqDiff, sidsB, Nat.reduceBEq, keyKD, isIntK, aggD, aggL, eqKs]
        first
        | exact ⟨i + 1, h, by simp only; omega, ⟨[some 0], rfl, by simp, by simp [setsA, keepA, SWeak, AWeak], by simp [HWeak, BWeak, SWeak, AWeak]⟩⟩
        | exact ⟨by rfl, i + 1, h, by simp only; omega, ⟨[some 0], rfl, by simp, by simp [setsA, keepA, SWeak, AWeak], by simp [HWeak, BWeak, SWeak, AWeak]⟩⟩
        | trace_state
      · rw [if_neg h1] at fb
        have e := fe (UInt8.toNat_inj.1 fb)
        rcases (by omega : (l.getD i 0).toNat < 65 ∨ 90 < (l.getD i 0).toNat) with h2 | h2
        · simp (config := { maxSteps := 1000000 }) (disch := ((try simp only [awL]); omega)) only [nextC_more, nextC_over, bs_size, bs_extract, bs_toList, bs_append, byteAt_bs, bs_cells, nums_length, nums_getD, nl, ml, mg, ↓awU, awV, awF, ofVal, ofVal0, isShift, aggK, forall_const, ↓reduceIte, ↓reduceDIte, ↓purePost, combine, idsA, cellsA, numsOf, srcA, calleeA, refsA, isScalar, scalarD, scalar0, AV.one, putL, unfA, implies_true, IntKind.signed, Nat.reduceAdd, Nat.reduceSub, Nat.reduceMul, Nat.reducePow, Nat.reduceDiv, Nat.reduceMod, Int.reduceAdd, Int.reduceSub, Int.reduceMul, Int.reducePow, Int.reduceNeg, Int.reduceToNat, Int.reduceLT, Int.reduceLE, Nat.reduceEqDiff, sidsB, Nat.reduceBEq, keyKD, isIntK, aggD, aggL, eqKs]
          first
          | exact ⟨i + 1, h, by simp only; omega, ⟨[some 0], rfl, by simp, by simp [setsA, keepA, SWeak, AWeak], by simp [HWeak, BWeak, SWeak, AWeak, e]⟩⟩
          | exact ⟨by rfl, i + 1, h, by simp only; omega, ⟨[some 0], rfl, by simp, by simp [setsA, keepA, SWeak, AWeak], by simp [HWeak, BWeak, SWeak, AWeak, e]⟩⟩
          | trace_state
        · simp (config := { maxSteps := 1000000 }) (disch := ((try simp only [awL]); omega)) only [nextC_more, nextC_over, bs_size, bs_extract, bs_toList, bs_append, byteAt_bs, bs_cells, nums_length, nums_getD, nl, ml, mg, ↓awU, awV, awF, ofVal, ofVal0, isShift, aggK, forall_const, ↓reduceIte, ↓reduceDIte, ↓purePost, combine, idsA, cellsA, numsOf, srcA, calleeA, refsA, isScalar, scalarD, scalar0, AV.one, putL, unfA, implies_true, IntKind.signed, Nat.reduceAdd, Nat.reduceSub, Nat.reduceMul, Nat.reducePow, Nat.reduceDiv, Nat.reduceMod, Int.reduceAdd, Int.reduceSub, Int.reduceMul, Int.reducePow, Int.reduceNeg, Int.reduceToNat, Int.reduceLT, Int.reduceLE, Nat.reduceEqDiff, sidsB, Nat.reduceBEq, keyKD, isIntK, aggD, aggL, eqKs]
          first
          | exact ⟨i + 1, h, by simp only; omega, ⟨[some 0], rfl, by simp, by simp [setsA, keepA, SWeak, AWeak], by simp [HWeak, BWeak, SWeak, AWeak, e]⟩⟩
          | exact ⟨by rfl, i + 1, h, by simp only; omega, ⟨[some 0], rfl, by simp, by simp [setsA, keepA, SWeak, AWeak], by simp [HWeak, BWeak, SWeak, AWeak, e]⟩⟩
          | trace_state
    · obtain rfl : i = l.length := by omega
      have em : foldMid l l.length = l.map foldB := by simp [foldMid]
      have ht : (nums (foldMid l l.length)).take l.length = nums (foldMid l l.length) := List.take_of_length_le (by omega)
      simp (config := { maxSteps := 1000000 }) (disch := ((try simp only [awL]); omega)) only [nextC_more, nextC_over, bs_size, bs_extract, bs_toList, bs_append, byteAt_bs, bs_cells, nums_length, nums_getD, nl, ml, numsOf_ints, ht, strOfNums_nums, ↓awU, awV, awF, ofVal, ofVal0, isShift, aggK, forall_const, ↓reduceIte, ↓reduceDIte, ↓purePost, combine, idsA, cellsA, numsOf, srcA, calleeA, refsA, isScalar, scalarD, scalar0, AV.one, putL, unfA, implies_true, IntKind.signed, Nat.reduceAdd, Nat.reduceSub, Nat.reduceMul, Nat.reducePow, Nat.reduceDiv, Nat.reduceMod, Int.reduceAdd, Int.reduceSub, Int.reduceMul, Int.reducePow, Int.reduceNeg, Int.reduceToNat, Int.reduceLT, Int.reduceLE, Nat.reduceEqDiff, sidsB, Nat.reduceBEq, keyKD, isIntK, aggD, aggL, eqKs]
      first
      | rw [em]
      | trace_state
set_option maxRecDepth 100000 in
theorem rfold_spec (l : List UInt8) (hl : l.length ≤ 1000000) : Ctr Try.prog G 49 [.d (S l)] [] (.d (S (l.map foldB))) [] := by
  refine Ctr.pure (M := M0) hmix Try.func49 rfl go49 ?_
  simp (config := { maxSteps := 1000000 }) (disch := ((try simp only [awL]); omega)) only [nextC_more, nextC_over, bs_size, bs_extract, bs_toList, bs_append, byteAt_bs, bs_cells, nums_length, nums_getD, Try.f49, cells_nums, ↓awU, awV, awF, ofVal, ofVal0, isShift, aggK, forall_const, ↓reduceIte, ↓reduceDIte, ↓purePost, combine, idsA, cellsA, numsOf, srcA, calleeA, refsA, isScalar, scalarD, scalar0, AV.one, putL, unfA, implies_true, IntKind.signed, Nat.reduceAdd, Nat.reduceSub, Nat.reduceMul, Nat.reducePow, Nat.reduceDiv, Nat.reduceMod, Int.reduceAdd, Int.reduceSub, Int.reduceMul, Int.reducePow, Int.reduceNeg, Int.reduceToNat, Int.reduceLT, Int.reduceLE, Nat.reduceEqDiff, sidsB, Nat.reduceBEq, keyKD, isIntK, aggD, aggL, eqKs]
  refine LoopC.fr 264 (α := Nat) (fun i => l.length - i) (fun i => [(9, .d (.int .i64 i))]) (fun i => [.row false (ints .u8 (nums (foldMid l i)))]) (fun i => i ≤ l.length) 0 (Nat.zero_le _) ?_ ?_
  · exact ⟨[some 0], rfl, by simp, by simp [setsA, keepA, SWeak, AWeak], by simp [HWeak, BWeak, SWeak, AWeak, foldMid]⟩
  · intro i hi
    have ml := foldMid_length hi
    have nl := @nums_length (foldMid l i)
    simp only [awK, Nat.reduceMod, Nat.reduceDiv, reduceIte]
    rcases Nat.lt_or_ge i l.length with h | h
    · have mg := foldMid_get h
      have fs := foldMid_set h
      have fb := foldB_nat (l.getD i 0)
      have fe := foldMid_same h
      have hb : (l.getD i 0).toNat < 256 := (l.getD i 0).toNat_lt
      by_cases h1 : 65 ≤ (l.getD i 0).toNat ∧ (l.getD i 0).toNat ≤ 90
      · rw [if_pos h1] at fb
        obtain ⟨h1, h2⟩ := h1
        have hs1 : (nums (foldMid l i)).set i (((l.getD i 0).toNat : Int) - 65 + 97) = nums (foldMid l (i + 1)) := by
          rw [← fs, ← nums_set, fb]; congr 1; omega
        have hs2 : (nums (foldMid l i)).set i (((l.getD i 0).toNat : Int) + 32) = nums (foldMid l (i + 1)) := by
          rw [← fs, ← nums_set, fb]; congr 1
        simp (config := { maxSteps := 1000000 }) (disch := ((try simp only [awL]); omega)) only [nextC_more, nextC_over, bs_size, bs_extract, bs_toList, bs_append, byteAt_bs, bs_cells, nums_length, nums_getD, nl, ml, mg, hs1, hs2, ↓awU, awV, awF, ofVal, ofVal0, isShift, aggK, forall_const, ↓reduceIte, ↓reduceDIte, ↓purePost, combine, idsA, cellsA, numsOf, srcA, calleeA, refsA, isScalar, scalarD, scalar0, AV.one, putL, unfA, implies_true, IntKind.signed, Nat.reduceAdd, Nat.reduceSub, Nat.reduceMul, Nat.reducePow, Nat.reduceDiv, Nat.reduceMod, Int.reduceAdd, Int.reduceSub, Int.reduceMul, Int.reducePow, Int.reduceNeg, Int.reduceToNat, Int.reduceLT, Int.reduceLE, Nat.reduceEqDiff, sidsB, Nat.reduceBEq, keyKD, isIntK, aggD, aggL, eqKs]
        first
        | exact ⟨i + 1, h, by simp only; omega, ⟨[some 0], rfl, by simp, by simp [setsA, keepA, SWeak, AWeak], by simp [HWeak, BWeak, SWeak, AWeak]⟩⟩
        | exact ⟨by rfl, i + 1, h, by simp only; omega, ⟨[some 0], rfl, by simp, by simp [setsA, keepA, SWeak, AWeak], by simp [HWeak, BWeak, SWeak, AWeak]⟩⟩
        | trace_state
      · rw [if_neg h1] at fb
        have e := fe (UInt8.toNat_inj.1 fb)
        rcases (by omega : (l.getD i 0).toNat < 65 ∨ 90 < (l.getD i 0).toNat) with h2 | h2
        · simp (config := { maxSteps := 1000000 }) (disch := ((try simp only [awL]); omega)) only [nextC_more, nextC_over, bs_size, bs_extract, bs_toList, bs_append, byteAt_bs, bs_cells, nums_length, nums_getD, nl, ml, mg, ↓awU, awV, awF, ofVal, ofVal0, isShift, aggK, forall_const, ↓reduceIte, ↓reduceDIte, ↓purePost, combine, idsA, cellsA, numsOf, srcA, calleeA, refsA, isScalar, scalarD, scalar0, AV.one, putL, unfA, implies_true, IntKind.signed, Nat.reduceAdd, Nat.reduceSub, Nat.reduceMul, Nat.reducePow, Nat.reduceDiv, Nat.reduceMod, Int.reduceAdd, Int.reduceSub, Int.reduceMul, Int.reducePow, Int.reduceNeg, Int.reduceToNat, Int.reduceLT, Int.reduceLE, Nat.reduceEqDiff, sidsB, Nat.reduceBEq, keyKD, isIntK, aggD, aggL, eqKs]
          first
          | exact ⟨i + 1, h, by simp only; omega, ⟨[some 0], rfl, by simp, by simp [setsA, keepA, SWeak, AWeak], by simp [HWeak, BWeak, SWeak, AWeak, e]⟩⟩
          | exact ⟨by rfl, i + 1, h, by simp only; omega, ⟨[some 0], rfl, by simp, by simp [setsA, keepA, SWeak, AWeak], by simp [HWeak, BWeak, SWeak, AWeak, e]⟩⟩
          | trace_state
        · simp (config := { maxSteps := 1000000 }) (disch := ((try simp only [awL]); omega)) only [nextC_more, nextC_over, bs_size, bs_extract, bs_toList, bs_append, byteAt_bs, bs_cells, nums_length, nums_getD, nl, ml, mg, ↓awU, awV, awF, ofVal, ofVal0, isShift, aggK, forall_const, ↓reduceIte, ↓reduceDIte, ↓purePost, combine, idsA, cellsA, numsOf, srcA, calleeA, refsA, isScalar, scalarD, scalar0, AV.one, putL, unfA, implies_true, IntKind.signed, Nat.reduceAdd, Nat.reduceSub, Nat.reduceMul, Nat.reducePow, Nat.reduceDiv, Nat.reduceMod, Int.reduceAdd, Int.reduceSub, Int.reduceMul, Int.reducePow, Int.reduceNeg, Int.reduceToNat, Int.reduceLT, Int.reduceLE, Nat.reduceEqDiff, sidsB, Nat.reduceBEq, keyKD, isIntK, aggD, aggL, eqKs]
          first
          | exact ⟨i + 1, h, by simp only; omega, ⟨[some 0], rfl, by simp, by simp [setsA, keepA, SWeak, AWeak], by simp [HWeak, BWeak, SWeak, AWeak, e]⟩⟩
          | exact ⟨by rfl, i + 1, h, by simp only; omega, ⟨[some 0], rfl, by simp, by simp [setsA, keepA, SWeak, AWeak], by simp [HWeak, BWeak, SWeak, AWeak, e]⟩⟩
          | trace_state
    · obtain rfl : i = l.length := by omega
      have em : foldMid l l.length = l.map foldB := by simp [foldMid]
      have ht : (nums (foldMid l l.length)).take l.length = nums (foldMid l l.length) := List.take_of_length_le (by omega)
      simp (config := { maxSteps := 1000000 }) (disch := ((try simp only [awL]); omega)) only [nextC_more, nextC_over, bs_size, bs_extract, bs_toList, bs_append, byteAt_bs, bs_cells, nums_length, nums_getD, nl, ml, numsOf_ints, ht, strOfNums_nums, ↓awU, awV, awF, ofVal, ofVal0, isShift, aggK, forall_const, ↓reduceIte, ↓reduceDIte, ↓purePost, combine, idsA, cellsA, numsOf, srcA, calleeA, refsA, isScalar, scalarD, scalar0, AV.one, putL, unfA, implies_true, IntKind.signed, Nat.reduceAdd, Nat.reduceSub, Nat.reduceMul, Nat.reducePow, Nat.reduceDiv, Nat.reduceMod, Int.reduceAdd, Int.reduceSub, Int.reduceMul, Int.reducePow, Int.reduceNeg, Int.reduceToNat, Int.reduceLT, Int.reduceLE, Nat.reduceEqDiff, sidsB, Nat.reduceBEq, keyKD, isIntK, aggD, aggL, eqKs]
      first
      | rw [em]
      | trace_state
set_option maxRecDepth 100000 in
/-- Which code points stand between tokens. -/
theorem sepR_spec (c : Nat) (hc : c ≤ 2147483647) : Ctr Try.prog G 48 [.d (.int .i32 c)] [] (.d (.bool (decide (c < 128) && !(decide (48 ≤ c) && decide (c ≤ 57)) && !(decide (97 ≤ c) && decide (c ≤ 122))))) [] := by
  refine Ctr.pure (M := M0) hmix Try.func48 rfl go48 ?_
  rcases (by omega : c < 48 ∨ (48 ≤ c ∧ c ≤ 57) ∨ (57 < c ∧ c < 97) ∨ (97 ≤ c ∧ c ≤ 122) ∨ (122 < c ∧ c < 128) ∨ 128 ≤ c) with h | ⟨h, h'⟩ | ⟨h, h'⟩ | ⟨h, h'⟩ | ⟨h, h'⟩ | h
  all_goals
    simp (config := { maxSteps := 1000000 }) (disch := ((try simp only [awL]); omega)) only [Try.f48, ↓awU, awV, awF, ofVal, ofVal0, isShift, aggK, forall_const, ↓reduceIte, ↓reduceDIte, ↓purePost, combine, idsA, cellsA, numsOf, srcA, calleeA, refsA, isScalar, scalarD, scalar0, AV.one, putL, unfA, implies_true, IntKind.signed, Nat.reduceAdd, Nat.reduceSub, Nat.reduceMul, Nat.reducePow, Nat.reduceDiv, Nat.reduceMod, Int.reduceAdd, Int.reduceSub, Int.reduceMul, Int.reducePow, Int.reduceNeg, Int.reduceToNat, Int.reduceLT, Int.reduceLE, Nat.reduceEqDiff, sidsB, Nat.reduceBEq, keyKD, isIntK, aggD, aggL, eqKs]
    try simp
end Go.Proofs.Ytpnhbjabnnibcaa

namespace Go.Proofs.Ytpnhbjabnnibcaa
open Go Go.Proofs Go.Abs
variable {G : Globals}
/-! Rows of texts; which are sets. -/
def strs (l : List (List UInt8)) : List D := l.map fun s => S s
theorem strs_length {l : List (List UInt8)} : (strs l).length = l.length := by simp [strs]
theorem strs_unf {l : List (List UInt8)} : (strs l).map unf0 = strs l := by simp [strs, unf0]
theorem strs_getD {l : List (List UInt8)} {i : Nat} (h : i < l.length) : (strs l).getD i .nilp = S (l.getD i []) := by
  simp [strs, List.getD_eq_getElem?_getD, h]
abbrev Ss (l : List (List UInt8)) (full : Bool) : D := .sl l.length full (strs l)
theorem ascB_get : ∀ {l : List (List UInt8)}, ascB l = true ↔ ∀ i, 1 ≤ i → i < l.length → bl (l.getD (i - 1) []) (l.getD i []) = true
  | [] => by simp [ascB]
  | [x] => by
    simp only [ascB, true_iff]
    intro i h1 h2
    simp at h2; omega
  | x :: y :: l => by
    rw [ascB, Bool.and_eq_true, ascB_get (l := y :: l)]
    constructor
    · rintro ⟨h1, h2⟩ i hi hl
      rcases i with _ | _ | i
      · omega
      · exact h1
      · have := h2 (i + 1) (by omega) (by simpa using hl)
        simpa using this
    · intro h
      refine ⟨h 1 (Nat.le_refl _) (by simp), fun i hi hl => ?_⟩
      have := h (i + 1) (by omega) (by simpa using hl)
      rcases i with _ | i
      · omega
      · simpa using this
theorem ascB_not {l : List (List UInt8)} {i : Nat} (h1 : 1 ≤ i) (h2 : i < l.length) (h : bl (l.getD (i - 1) []) (l.getD i []) = false) : ascB l = false := by
  cases e : ascB l with
  | false => rfl
  | true => have := ascB_get.1 e i h1 h2; rw [h] at this; cases this
set_option maxRecDepth 100000 in
theorem isSet_spec (l : List (List UInt8)) (full : Bool) (hl : l.length ≤ 1000000) : Ctr Try.prog G 39 [.d (Ss l full)] [] (.d (.bool (ascB l))) [] := by
  refine Ctr.pure (M := M0) hmix Try.func39 rfl go39 ?_
  simp (config := { maxSteps := 1000000 }) (disch := ((try simp only [awL]); omega)) only [nextC_more, nextC_over, bs_size, bs_extract, bs_toList, bs_append, byteAt_bs, bs_cells, nums_length, nums_getD, Try.f39, ↓awU, awV, awF, ofVal, ofVal0, isShift, aggK, forall_const, ↓reduceIte, ↓reduceDIte, ↓purePost, combine, idsA, cellsA, numsOf, srcA, calleeA, refsA, isScalar, scalarD, scalar0, AV.one, putL, unfA, implies_true, IntKind.signed, Nat.reduceAdd, Nat.reduceSub, Nat.reduceMul, Nat.reducePow, Nat.reduceDiv, Nat.reduceMod, Int.reduceAdd, Int.reduceSub, Int.reduceMul, Int.reducePow, Int.reduceNeg, Int.reduceToNat, Int.reduceLT, Int.reduceLE, Nat.reduceEqDiff, sidsB, Nat.reduceBEq, keyKD, isIntK, aggD, aggL, eqKs]
  refine LoopC.fr 1 (α := Nat) (fun i => l.length + 1 - i) (fun i => [(3, .d (.int .i64 i))]) (fun _ => []) (fun i => 1 ≤ i ∧ (i ≤ l.length ∨ i = 1) ∧ ∀ j, 1 ≤ j → j < i → bl (l.getD (j - 1) []) (l.getD j []) = true) 1 ⟨Nat.le_refl _, .inr rfl, fun j a b => by omega⟩ ?_ ?_
  · exact ⟨[], rfl, by simp, by simp [setsA, keepA, SWeak, AWeak], by simp [HWeak, BWeak, SWeak, AWeak]⟩
  · rintro i ⟨h1, h2, h3⟩
    have sl := @strs_length l
    simp only [awK, Nat.reduceMod, Nat.reduceDiv, reduceIte]
    rcases Nat.lt_or_ge i l.length with h | h
    · have e1 : ((i : Int) - 1) = ((i - 1 : Nat) : Int) := by omega
      have g1 := strs_getD (l := l) (i := i - 1) (by omega)
      have g2 := strs_getD h
      cases hb : bl (l.getD (i - 1) []) (l.getD i [])
      · rw [ascB_not h1 h hb]
        simp (config := { maxSteps := 1000000 }) (disch := ((try simp only [awL]); omega)) only [nextC_more, nextC_over, bs_size, bs_extract, bs_toList, bs_append, byteAt_bs, bs_cells, nums_length, nums_getD, sl, e1, g1, g2, hb, ↓awU, awV, awF, ofVal, ofVal0, isShift, aggK, forall_const, ↓reduceIte, ↓reduceDIte, ↓purePost, combine, idsA, cellsA, numsOf, srcA, calleeA, refsA, isScalar, scalarD, scalar0, AV.one, putL, unfA, implies_true, IntKind.signed, Nat.reduceAdd, Nat.reduceSub, Nat.reduceMul, Nat.reducePow, Nat.reduceDiv, Nat.reduceMod, Int.reduceAdd, Int.reduceSub, Int.reduceMul, Int.reducePow, Int.reduceNeg, Int.reduceToNat, Int.reduceLT, Int.reduceLE, Nat.reduceEqDiff, sidsB, Nat.reduceBEq, keyKD, isIntK, aggD, aggL, eqKs]
        try rfl
      · simp (config := { maxSteps := 1000000 }) (disch := ((try simp only [awL]); omega)) only [nextC_more, nextC_over, bs_size, bs_extract, bs_toList, bs_append, byteAt_bs, bs_cells, nums_length, nums_getD, sl, e1, g1, g2, hb, ↓awU, awV, awF, ofVal, ofVal0, isShift, aggK, forall_const, ↓reduceIte, ↓reduceDIte, ↓purePost, combine, idsA, cellsA, numsOf, srcA, calleeA, refsA, isScalar, scalarD, scalar0, AV.one, putL, unfA, implies_true, IntKind.signed, Nat.reduceAdd, Nat.reduceSub, Nat.reduceMul, Nat.reducePow, Nat.reduceDiv, Nat.reduceMod, Int.reduceAdd, Int.reduceSub, Int.reduceMul, Int.reducePow, Int.reduceNeg, Int.reduceToNat, Int.reduceLT, Int.reduceLE, Nat.reduceEqDiff, sidsB, Nat.reduceBEq, keyKD, isIntK, aggD, aggL, eqKs]
        exact ⟨by rfl, i + 1, ⟨by omega, .inl h, fun j a b => by
          rcases Nat.lt_or_ge j i with q | q
          · exact h3 j a q
          · obtain rfl : j = i := by omega
            exact hb⟩, by simp only; omega, ⟨[], rfl, by simp, by simp [setsA, keepA, SWeak, AWeak], by simp [HWeak, BWeak, SWeak, AWeak]⟩⟩
    · have e : ascB l = true := ascB_get.2 fun j a b => h3 j a (by omega)
      rw [e]
      simp (config := { maxSteps := 1000000 }) (disch := ((try simp only [awL]); omega)) only [nextC_more, nextC_over, bs_size, bs_extract, bs_toList, bs_append, byteAt_bs, bs_cells, nums_length, nums_getD, sl, ↓awU, awV, awF, ofVal, ofVal0, isShift, aggK, forall_const, ↓reduceIte, ↓reduceDIte, ↓purePost, combine, idsA, cellsA, numsOf, srcA, calleeA, refsA, isScalar, scalarD, scalar0, AV.one, putL, unfA, implies_true, IntKind.signed, Nat.reduceAdd, Nat.reduceSub, Nat.reduceMul, Nat.reducePow, Nat.reduceDiv, Nat.reduceMod, Int.reduceAdd, Int.reduceSub, Int.reduceMul, Int.reducePow, Int.reduceNeg, Int.reduceToNat, Int.reduceLT, Int.reduceLE, Nat.reduceEqDiff, sidsB, Nat.reduceBEq, keyKD, isIntK, aggD, aggL, eqKs]
      try rfl
set_option maxRecDepth 100000 in
theorem risSet_spec (l : List (List UInt8)) (full : Bool) (hl : l.length ≤ 1000000) : Ctr Try.prog G 41 [.d (Ss l full)] [] (.d (.bool (ascB l))) [] := by
  refine Ctr.pure (M := M0) hmix Try.func41 rfl go41 ?_
  simp (config := { maxSteps := 1000000 }) (disch := ((try simp only [awL]); omega)) only [nextC_more, nextC_over, bs_size, bs_extract, bs_toList, bs_append, byteAt_bs, bs_cells, nums_length, nums_getD, Try.f41, ↓awU, awV, awF, ofVal, ofVal0, isShift, aggK, forall_const, ↓reduceIte, ↓reduceDIte, ↓purePost, combine, idsA, cellsA, numsOf, srcA, calleeA, refsA, isScalar, scalarD, scalar0, AV.one, putL, unfA, implies_true, IntKind.signed, Nat.reduceAdd, Nat.reduceSub, Nat.reduceMul, Nat.reducePow, Nat.reduceDiv, Nat.reduceMod, Int.reduceAdd, Int.reduceSub, Int.reduceMul, Int.reducePow, Int.reduceNeg, Int.reduceToNat, Int.reduceLT, Int.reduceLE, Nat.reduceEqDiff, sidsB, Nat.reduceBEq, keyKD, isIntK, aggD, aggL, eqKs]
  refine LoopC.fr 1 (α := Nat) (fun i => l.length + 1 - i) (fun i => [(3, .d (.int .i64 i))]) (fun _ => []) (fun i => 1 ≤ i ∧ (i ≤ l.length ∨ i = 1) ∧ ∀ j, 1 ≤ j → j < i → bl (l.getD (j - 1) []) (l.getD j []) = true) 1 ⟨Nat.le_refl _, .inr rfl, fun j a b => by omega⟩ ?_ ?_
  · exact ⟨[], rfl, by simp, by simp [setsA, keepA, SWeak, AWeak], by simp [HWeak, BWeak, SWeak, AWeak]⟩
  · rintro i ⟨h1, h2, h3⟩
    have sl := @strs_length l
    simp only [awK, Nat.reduceMod, Nat.reduceDiv, reduceIte]
    rcases Nat.lt_or_ge i l.length with h | h
    · have e1 : ((i : Int) - 1) = ((i - 1 : Nat) : Int) := by omega
      have g1 := strs_getD (l := l) (i := i - 1) (by omega)
      have g2 := strs_getD h
      cases hb : bl (l.getD (i - 1) []) (l.getD i [])
      · rw [ascB_not h1 h hb]
        simp (config := { maxSteps := 1000000 }) (disch := ((try simp only [awL]); omega)) only [nextC_more, nextC_over, bs_size, bs_extract, bs_toList, bs_append, byteAt_bs, bs_cells, nums_length, nums_getD, sl, e1, g1, g2, hb, ↓awU, awV, awF, ofVal, ofVal0, isShift, aggK, forall_const, ↓reduceIte, ↓reduceDIte, ↓purePost, combine, idsA, cellsA, numsOf, srcA, calleeA, refsA, isScalar, scalarD, scalar0, AV.one, putL, unfA, implies_true, IntKind.signed, Nat.reduceAdd, Nat.reduceSub, Nat.reduceMul, Nat.reducePow, Nat.reduceDiv, Nat.reduceMod, Int.reduceAdd, Int.reduceSub, Int.reduceMul, Int.reducePow, Int.reduceNeg, Int.reduceToNat, Int.reduceLT, Int.reduceLE, Nat.reduceEqDiff, sidsB, Nat.reduceBEq, keyKD, isIntK, aggD, aggL, eqKs]
        try rfl
      · simp (config := { maxSteps := 1000000 }) (disch := ((try simp only [awL]); omega)) only [nextC_more, nextC_over, bs_size, bs_extract, bs_toList, bs_append, byteAt_bs, bs_cells, nums_length, nums_getD, sl, e1, g1, g2, hb, ↓awU, awV, awF, ofVal, ofVal0, isShift, aggK, forall_const, ↓reduceIte, ↓reduceDIte, ↓purePost, combine, idsA, cellsA, numsOf, srcA, calleeA, refsA, isScalar, scalarD, scalar0, AV.one, putL, unfA, implies_true, IntKind.signed, Nat.reduceAdd, Nat.reduceSub, Nat.reduceMul, Nat.reducePow, Nat.reduceDiv, Nat.reduceMod, Int.reduceAdd, Int.reduceSub, Int.reduceMul, Int.reducePow, Int.reduceNeg, Int.reduceToNat, Int.reduceLT, Int.reduceLE, Nat.reduceEqDiff, sidsB, Nat.reduceBEq, keyKD, isIntK, aggD, aggL, eqKs]
        exact ⟨by rfl, i + 1, ⟨by omega, .inl h, fun j a b => by
          rcases Nat.lt_or_ge j i with q | q
          · exact h3 j a q
          · obtain rfl : j = i := by omega
            exact hb⟩, by simp only; omega, ⟨[], rfl, by simp, by simp [setsA, keepA, SWeak, AWeak], by simp [HWeak, BWeak, SWeak, AWeak]⟩⟩
    · have e : ascB l = true := ascB_get.2 fun j a b => h3 j a (by omega)
      rw [e]
      simp (config := { maxSteps := 1000000 }) (disch := ((try simp only [awL]); omega)) only [nextC_more, nextC_over, bs_size, bs_extract, bs_toList, bs_append, byteAt_bs, bs_cells, nums_length, nums_getD, sl, ↓awU, awV, awF, ofVal, ofVal0, isShift, aggK, forall_const, ↓reduceIte, ↓reduceDIte, ↓purePost, combine, idsA, cellsA, numsOf, srcA, calleeA, refsA, isScalar, scalarD, scalar0, AV.one, putL, unfA, implies_true, IntKind.signed, Nat.reduceAdd, Nat.reduceSub, Nat.reduceMul, Nat.reducePow, Nat.reduceDiv, Nat.reduceMod, Int.reduceAdd, Int.reduceSub, Int.reduceMul, Int.reducePow, Int.reduceNeg, Int.reduceToNat, Int.reduceLT, Int.reduceLE, Nat.reduceEqDiff, sidsB, Nat.reduceBEq, keyKD, isIntK, aggD, aggL, eqKs]
      try rfl
theorem mem_take_succ {l : List (List UInt8)} {i : Nat} {s : List UInt8} (h : i < l.length) : s ∈ l.take (i + 1) ↔ s ∈ l.take i ∨ l.getD i [] = s := by
  rw [List.take_add_one, List.getElem?_eq_getElem h, List.getD_eq_getElem?_getD, List.getElem?_eq_getElem h]
  simp only [Option.toList_some, List.mem_append, List.mem_singleton, Option.getD_some]
  exact or_congr_right eq_comm
set_option maxRecDepth 100000 in
theorem has_spec (l : List (List UInt8)) (full : Bool) (s : List UInt8) (hl : l.length ≤ 1000000) : Ctr Try.prog G 42 [.d (Ss l full), .d (S s)] [] (.d (.bool (decide (s ∈ l)))) [] := by
  refine Ctr.pure (M := M0) hmix Try.func42 rfl go42 ?_
  simp (config := { maxSteps := 1000000 }) (disch := ((try simp only [awL]); omega)) only [nextC_more, nextC_over, bs_size, bs_extract, bs_toList, bs_append, byteAt_bs, bs_cells, nums_length, nums_getD, Try.f42, ↓awU, awV, awF, ofVal, ofVal0, isShift, aggK, forall_const, ↓reduceIte, ↓reduceDIte, ↓purePost, combine, idsA, cellsA, numsOf, srcA, calleeA, refsA, isScalar, scalarD, scalar0, AV.one, putL, unfA, implies_true, IntKind.signed, Nat.reduceAdd, Nat.reduceSub, Nat.reduceMul, Nat.reducePow, Nat.reduceDiv, Nat.reduceMod, Int.reduceAdd, Int.reduceSub, Int.reduceMul, Int.reducePow, Int.reduceNeg, Int.reduceToNat, Int.reduceLT, Int.reduceLE, Nat.reduceEqDiff, sidsB, Nat.reduceBEq, keyKD, isIntK, aggD, aggL, eqKs]
  refine LoopC.fr 386 (α := Nat) (fun i => l.length - i) (fun i => [(9, .d (.int .i64 i))]) (fun _ => []) (fun i => i ≤ l.length ∧ s ∉ l.take i) 0 ⟨Nat.zero_le _, by simp⟩ ?_ ?_
  · exact ⟨[], rfl, by simp, by simp [setsA, keepA, SWeak, AWeak], by simp [HWeak, BWeak, SWeak, AWeak]⟩
  · rintro i ⟨h1, h2⟩
    have sl := @strs_length l
    simp only [awK, Nat.reduceMod, Nat.reduceDiv, reduceIte]
    rcases Nat.lt_or_ge i l.length with h | h
    · have g1 := strs_getD h
      have hm := @mem_take_succ l i s h
      by_cases he : l.getD i [] = s
      · have hin : s ∈ l := List.mem_of_mem_take (hm.2 (.inr he))
        rw [decide_eq_true hin]
        rw [he] at g1
        simp (config := { maxSteps := 1000000 }) (disch := ((try simp only [awL]); omega)) only [nextC_more, nextC_over, bs_size, bs_extract, bs_toList, bs_append, byteAt_bs, bs_cells, nums_length, nums_getD, sl, g1, beq_self_eq_true, ↓awU, awV, awF, ofVal, ofVal0, isShift, aggK, forall_const, ↓reduceIte, ↓reduceDIte, ↓purePost, combine, idsA, cellsA, numsOf, srcA, calleeA, refsA, isScalar, scalarD, scalar0, AV.one, putL, unfA, implies_true, IntKind.signed, Nat.reduceAdd, Nat.reduceSub, Nat.reduceMul, Nat.reducePow, Nat.reduceDiv, Nat.reduceMod, Int.reduceAdd, Int.reduceSub, Int.reduceMul, Int.reducePow, Int.reduceNeg, Int.reduceToNat, Int.reduceLT, Int.reduceLE, Nat.reduceEqDiff, sidsB, Nat.reduceBEq, keyKD, isIntK, aggD, aggL, eqKs]
        try rfl
      · have hne : (l.getD i [] == s) = false := by simpa using he
        simp (config := { maxSteps := 1000000 }) (disch := ((try simp only [awL]); omega)) only [nextC_more, nextC_over, bs_size, bs_extract, bs_toList, bs_append, byteAt_bs, bs_cells, nums_length, nums_getD, sl, g1, hne, ↓awU, awV, awF, ofVal, ofVal0, isShift, aggK, forall_const, ↓reduceIte, ↓reduceDIte, ↓purePost, combine, idsA, cellsA, numsOf, srcA, calleeA, refsA, isScalar, scalarD, scalar0, AV.one, putL, unfA, implies_true, IntKind.signed, Nat.reduceAdd, Nat.reduceSub, Nat.reduceMul, Nat.reducePow, Nat.reduceDiv, Nat.reduceMod, Int.reduceAdd, Int.reduceSub, Int.reduceMul, Int.reducePow, Int.reduceNeg, Int.reduceToNat, Int.reduceLT, Int.reduceLE, Nat.reduceEqDiff, sidsB, Nat.reduceBEq, keyKD, isIntK, aggD, aggL, eqKs]
        exact ⟨i + 1, ⟨h, fun q => (hm.1 q).elim h2 he⟩, by simp only; omega, ⟨[], rfl, by simp, by simp [setsA, keepA, SWeak, AWeak], by simp [HWeak, BWeak, SWeak, AWeak]⟩⟩
    · obtain rfl : i = l.length := by omega
      rw [List.take_length] at h2
      rw [decide_eq_false h2]
      simp (config := { maxSteps := 1000000 }) (disch := ((try simp only [awL]); omega)) only [nextC_more, nextC_over, bs_size, bs_extract, bs_toList, bs_append, byteAt_bs, bs_cells, nums_length, nums_getD, sl, ↓awU, awV, awF, ofVal, ofVal0, isShift, aggK, forall_const, ↓reduceIte, ↓reduceDIte, ↓purePost, combine, idsA, cellsA, numsOf, srcA, calleeA, refsA, isScalar, scalarD, scalar0, AV.one, putL, unfA, implies_true, IntKind.signed, Nat.reduceAdd, Nat.reduceSub, Nat.reduceMul, Nat.reducePow, Nat.reduceDiv, Nat.reduceMod, Int.reduceAdd, Int.reduceSub, Int.reduceMul, Int.reducePow, Int.reduceNeg, Int.reduceToNat, Int.reduceLT, Int.reduceLE, Nat.reduceEqDiff, sidsB, Nat.reduceBEq, keyKD, isIntK, aggD, aggL, eqKs]
      try rfl
set_option maxRecDepth 100000 in
theorem isNaN_spec (s : List UInt8) : Ctr Try.prog G 51 [.d (S s)] [] (.d (.bool false)) [] := by
  refine Ctr.pure (M := M0) hmix Try.func51 rfl go51 ?_
  simp (config := { maxSteps := 1000000 }) (disch := ((try simp only [awL]); omega)) only [nextC_more, nextC_over, bs_size, bs_extract, bs_toList, bs_append, byteAt_bs, bs_cells, nums_length, nums_getD, Try.f51, beq_self_eq_true, ↓awU, awV, awF, ofVal, ofVal0, isShift, aggK, forall_const, ↓reduceIte, ↓reduceDIte, ↓purePost, combine, idsA, cellsA, numsOf, srcA, calleeA, refsA, isScalar, scalarD, scalar0, AV.one, putL, unfA, implies_true, IntKind.signed, Nat.reduceAdd, Nat.reduceSub, Nat.reduceMul, Nat.reducePow, Nat.reduceDiv, Nat.reduceMod, Int.reduceAdd, Int.reduceSub, Int.reduceMul, Int.reducePow, Int.reduceNeg, Int.reduceToNat, Int.reduceLT, Int.reduceLE, Nat.reduceEqDiff, sidsB, Nat.reduceBEq, keyKD, isIntK, aggD, aggL, eqKs]
  try rfl
set_option maxRecDepth 100000 in
theorem cisNaN_spec (s : List UInt8) : Ctr Try.prog G 55 [.d (S s)] [] (.d (.bool false)) [] := by
  refine Ctr.pure (M := M0) hmix Try.func55 rfl go55 ?_
  simp (config := { maxSteps := 1000000 }) (disch := ((try simp only [awL]); omega)) only [nextC_more, nextC_over, bs_size, bs_extract, bs_toList, bs_append, byteAt_bs, bs_cells, nums_length, nums_getD, Try.f55, beq_self_eq_true, ↓awU, awV, awF, ofVal, ofVal0, isShift, aggK, forall_const, ↓reduceIte, ↓reduceDIte, ↓purePost, combine, idsA, cellsA, numsOf, srcA, calleeA, refsA, isScalar, scalarD, scalar0, AV.one, putL, unfA, implies_true, IntKind.signed, Nat.reduceAdd, Nat.reduceSub, Nat.reduceMul, Nat.reducePow, Nat.reduceDiv, Nat.reduceMod, Int.reduceAdd, Int.reduceSub, Int.reduceMul, Int.reducePow, Int.reduceNeg, Int.reduceToNat, Int.reduceLT, Int.reduceLE, Nat.reduceEqDiff, sidsB, Nat.reduceBEq, keyKD, isIntK, aggD, aggL, eqKs]
  try rfl
set_option maxRecDepth 100000 in
theorem less_spec (s t : List UInt8) : Ctr Try.prog G 50 [.d (S s), .d (S t)] [] (.d (.bool (bl s t))) [] := by
  refine Ctr.pure (M := M0) hmix Try.func50 rfl go50 ?_
  simp (config := { maxSteps := 1000000 }) (disch := ((try simp only [awL]); omega)) only [nextC_more, nextC_over, bs_size, bs_extract, bs_toList, bs_append, byteAt_bs, bs_cells, nums_length, nums_getD, Try.f50, ↓awU, awV, awF, ofVal, ofVal0, isShift, aggK, forall_const, ↓reduceIte, ↓reduceDIte, ↓purePost, combine, idsA, cellsA, numsOf, srcA, calleeA, refsA, isScalar, scalarD, scalar0, AV.one, putL, unfA, implies_true, IntKind.signed, Nat.reduceAdd, Nat.reduceSub, Nat.reduceMul, Nat.reducePow, Nat.reduceDiv, Nat.reduceMod, Int.reduceAdd, Int.reduceSub, Int.reduceMul, Int.reducePow, Int.reduceNeg, Int.reduceToNat, Int.reduceLT, Int.reduceLE, Nat.reduceEqDiff, sidsB, Nat.reduceBEq, keyKD, isIntK, aggD, aggL, eqKs]
  refine CallC.pure (cisNaN_spec s) ?_
  simp (config := { maxSteps := 1000000 }) (disch := ((try simp only [awL]); omega)) only [nextC_more, nextC_over, bs_size, bs_extract, bs_toList, bs_append, byteAt_bs, bs_cells, nums_length, nums_getD, ↓awU, awV, awF, ofVal, ofVal0, isShift, aggK, forall_const, ↓reduceIte, ↓reduceDIte, ↓purePost, combine, idsA, cellsA, numsOf, srcA, calleeA, refsA, isScalar, scalarD, scalar0, AV.one, putL, unfA, implies_true, IntKind.signed, Nat.reduceAdd, Nat.reduceSub, Nat.reduceMul, Nat.reducePow, Nat.reduceDiv, Nat.reduceMod, Int.reduceAdd, Int.reduceSub, Int.reduceMul, Int.reducePow, Int.reduceNeg, Int.reduceToNat, Int.reduceLT, Int.reduceLE, Nat.reduceEqDiff, sidsB, Nat.reduceBEq, keyKD, isIntK, aggD, aggL, eqKs]
  try rfl
theorem asc_getD {l : List (List UInt8)} (h : Asc l) {i j : Nat} (hij : i < j) (hj : j < l.length) : bl (l.getD i []) (l.getD j []) = true := by
  have := List.pairwise_iff_getElem.1 h i j (by omega) hj hij
  rw [List.getD_eq_getElem?_getD, List.getD_eq_getElem?_getD, List.getElem?_eq_getElem hj, List.getElem?_eq_getElem (by omega)]
  exact this
theorem search_end {l : List (List UInt8)} (h : Asc l) {s : List UInt8} {i : Nat} (hi : i ≤ l.length) (h1 : ∀ k, k < i → bl (l.getD k []) s = true) (h2 : ∀ k, i ≤ k → k < l.length → bl (l.getD k []) s = false) :
    (i < l.length ∧ l.getD i [] = s ↔ s ∈ l) := by
  constructor
  · rintro ⟨q1, q2⟩
    rw [← q2, List.getD_eq_getElem?_getD, List.getElem?_eq_getElem q1]; exact List.getElem_mem _
  · intro hm
    obtain ⟨k, hk, rfl⟩ := List.getElem_of_mem hm
    have e : l.getD k [] = l[k] := by rw [List.getD_eq_getElem?_getD, List.getElem?_eq_getElem hk]; rfl
    rcases Nat.lt_trichotomy k i with q | q | q
    · have := h1 k q; rw [e, bl_irrefl] at this; cases this
    · subst q; exact ⟨hk, e⟩
    · have a := asc_getD h q hk
      have b := h2 i (Nat.le_refl _) (by omega)
      rw [e] at a; rw [a] at b; cases b
theorem insAt_eq {s : List UInt8} : ∀ {l : List (List UInt8)} {i : Nat}, i ≤ l.length → (∀ k, k < i → bl (l.getD k []) s = true) → (i < l.length → bl (l.getD i []) s = false) → insAt s l = i
  | [], i, h, _, _ => by simp at h; subst h; rfl
  | x :: l, 0, _, _, h => by
    have := h (by simp)
    rw [insAt, if_neg (by simpa using this)]
  | x :: l, i + 1, hi, h1, h2 => by
    have h0 := h1 0 (by omega)
    rw [insAt, if_pos (by simpa using h0), insAt_eq (l := l) (i := i) (by simpa using hi) (fun k hk => by simpa using h1 (k + 1) (by omega)) (fun h => by simpa using h2 (by simpa using h))]
set_option maxHeartbeats 4000000 in
set_option maxRecDepth 100000 in
theorem search_spec (l : List (List UInt8)) (full : Bool) (s : List UInt8) (hl : l.length ≤ 1000000) (ha : Asc l) :
    ∃ i : Nat, Ctr Try.prog G 40 [.d (Ss l full), .d (S s)] [] (.d (.tup [.int .i64 i, .bool (decide (s ∈ l))])) [] := by
  refine ⟨insAt s l, ?_⟩
  refine Ctr.pure (M := M0) hmix Try.func40 rfl go40 ?_
  simp (config := { maxSteps := 1000000 }) (disch := ((try simp only [awL]); omega)) only [nextC_more, nextC_over, bs_size, bs_extract, bs_toList, bs_append, byteAt_bs, bs_cells, nums_length, nums_getD, Try.f40, ↓awU, awV, awF, ofVal, ofVal0, isShift, aggK, forall_const, ↓reduceIte, ↓reduceDIte, ↓purePost, combine, idsA, cellsA, numsOf, srcA, calleeA, refsA, isScalar, scalarD, scalar0, AV.one, putL, unfA, implies_true, IntKind.signed, Nat.reduceAdd, Nat.reduceSub, Nat.reduceMul, Nat.reducePow, Nat.reduceDiv, Nat.reduceMod, Int.reduceAdd, Int.reduceSub, Int.reduceMul, Int.reducePow, Int.reduceNeg, Int.reduceToNat, Int.reduceLT, Int.reduceLE, Nat.reduceEqDiff, sidsB, Nat.reduceBEq, keyKD, isIntK, aggD, aggL, eqKs]
  refine LoopC.fr 67 (α := Nat × Nat) (fun x => x.2 - x.1) (fun x => [(7, .d (.int .i64 x.1)), (8, .d (.int .i64 x.2))]) (fun _ => [])
    (fun x => x.1 ≤ x.2 ∧ x.2 ≤ l.length ∧ (∀ k, k < x.1 → bl (l.getD k []) s = true) ∧ (∀ k, x.2 ≤ k → k < l.length → bl (l.getD k []) s = false)) (0, l.length) ⟨Nat.zero_le _, Nat.le_refl _, fun k h => by omega, fun k a b => by omega⟩ ?_ ?_
  · exact ⟨[], rfl, by simp, by simp [setsA, keepA, SWeak, AWeak], by simp [HWeak, BWeak, SWeak, AWeak]⟩
  · rintro ⟨i, j⟩ ⟨h1, h2, h3, h4⟩
    simp only at h1 h2 h3 h4
    have sl := @strs_length l
    simp only [awK, Nat.reduceMod, Nat.reduceDiv, reduceIte]
    rcases Nat.lt_or_ge i j with h | h
    · obtain ⟨m, hm⟩ : ∃ m, (i + j) / 2 = m := ⟨_, rfl⟩
      have em : ((i + j : Nat) : Int) / 2 = (m : Int) := by omega
      have g1 := strs_getD (l := l) (i := m) (by omega)
      simp (config := { maxSteps := 1000000 }) (disch := ((try simp only [awL]); omega)) only [nextC_more, nextC_over, bs_size, bs_extract, bs_toList, bs_append, byteAt_bs, bs_cells, nums_length, nums_getD, sl, em, Int.toNat_natCast, g1, ↓awU, awV, awF, ofVal, ofVal0, isShift, aggK, forall_const, ↓reduceIte, ↓reduceDIte, ↓purePost, combine, idsA, cellsA, numsOf, srcA, calleeA, refsA, isScalar, scalarD, scalar0, AV.one, putL, unfA, implies_true, IntKind.signed, Nat.reduceAdd, Nat.reduceSub, Nat.reduceMul, Nat.reducePow, Nat.reduceDiv, Nat.reduceMod, Int.reduceAdd, Int.reduceSub, Int.reduceMul, Int.reducePow, Int.reduceNeg, Int.reduceToNat, Int.reduceLT, Int.reduceLE, Nat.reduceEqDiff, sidsB, Nat.reduceBEq, keyKD, isIntK, aggD, aggL, eqKs]
      refine CallC.of (less_spec (l.getD m []) s) (by rfl) ?_
      cases hb : bl (l.getD m []) s
      · simp (config := { maxSteps := 1000000 }) (disch := ((try simp only [awL]); omega)) only [nextC_more, nextC_over, bs_size, bs_extract, bs_toList, bs_append, byteAt_bs, bs_cells, nums_length, nums_getD, sl, em, ↓awU, awV, awF, ofVal, ofVal0, isShift, aggK, forall_const, ↓reduceIte, ↓reduceDIte, ↓purePost, combine, idsA, cellsA, numsOf, srcA, calleeA, refsA, isScalar, scalarD, scalar0, AV.one, putL, unfA, implies_true, IntKind.signed, Nat.reduceAdd, Nat.reduceSub, Nat.reduceMul, Nat.reducePow, Nat.reduceDiv, Nat.reduceMod, Int.reduceAdd, Int.reduceSub, Int.reduceMul, Int.reducePow, Int.reduceNeg, Int.reduceToNat, Int.reduceLT, Int.reduceLE, Nat.reduceEqDiff, sidsB, Nat.reduceBEq, keyKD, isIntK, aggD, aggL, eqKs]
        exact ⟨(i, m), ⟨by simp only; omega, by simp only; omega, h3, fun k a b => by
          simp only at a
          rcases Nat.lt_or_ge m k with q | q
          · cases e : bl (l.getD k []) s with
            | false => rfl
            | true => have := bl_trans (asc_getD ha q b) e; rw [hb] at this; cases this
          · obtain rfl : k = m := by omega
            exact hb⟩, by simp only; omega, ⟨[], rfl, by simp, by simp [setsA, keepA, SWeak, AWeak], by simp [HWeak, BWeak, SWeak, AWeak]⟩⟩
      · simp (config := { maxSteps := 1000000 }) (disch := ((try simp only [awL]); omega)) only [nextC_more, nextC_over, bs_size, bs_extract, bs_toList, bs_append, byteAt_bs, bs_cells, nums_length, nums_getD, sl, em, ↓awU, awV, awF, ofVal, ofVal0, isShift, aggK, forall_const, ↓reduceIte, ↓reduceDIte, ↓purePost, combine, idsA, cellsA, numsOf, srcA, calleeA, refsA, isScalar, scalarD, scalar0, AV.one, putL, unfA, implies_true, IntKind.signed, Nat.reduceAdd, Nat.reduceSub, Nat.reduceMul, Nat.reducePow, Nat.reduceDiv, Nat.reduceMod, Int.reduceAdd, Int.reduceSub, Int.reduceMul, Int.reducePow, Int.reduceNeg, Int.reduceToNat, Int.reduceLT, Int.reduceLE, Nat.reduceEqDiff, sidsB, Nat.reduceBEq, keyKD, isIntK, aggD, aggL, eqKs]
        exact ⟨(m + 1, j), ⟨by simp only; omega, by simp only; omega, fun k a => by
          simp only at a
          rcases Nat.lt_or_ge k m with q | q
          · exact bl_trans (asc_getD ha q (by omega)) hb
          · obtain rfl : k = m := by omega
            exact hb, h4⟩, by simp only; omega, ⟨[], rfl, by simp, by simp [setsA, keepA, SWeak, AWeak], by simp [HWeak, BWeak, SWeak, AWeak]⟩⟩
    · obtain rfl : i = j := by omega
      have hin := search_end ha h2 h3 h4
      have hi := insAt_eq (s := s) h2 h3 (fun q => h4 i (Nat.le_refl _) q)
      rw [hi]
      rcases Nat.lt_or_ge i l.length with q | q
      · have g1 := strs_getD q
        by_cases he : l.getD i [] = s
        · have hd := hin.1 ⟨q, he⟩
          rw [decide_eq_true hd]
          rw [he] at g1
          simp (config := { maxSteps := 1000000 }) (disch := ((try simp only [awL]); omega)) only [nextC_more, nextC_over, bs_size, bs_extract, bs_toList, bs_append, byteAt_bs, bs_cells, nums_length, nums_getD, sl, g1, beq_self_eq_true, ↓awU, awV, awF, ofVal, ofVal0, isShift, aggK, forall_const, ↓reduceIte, ↓reduceDIte, ↓purePost, combine, idsA, cellsA, numsOf, srcA, calleeA, refsA, isScalar, scalarD, scalar0, AV.one, putL, unfA, implies_true, IntKind.signed, Nat.reduceAdd, Nat.reduceSub, Nat.reduceMul, Nat.reducePow, Nat.reduceDiv, Nat.reduceMod, Int.reduceAdd, Int.reduceSub, Int.reduceMul, Int.reducePow, Int.reduceNeg, Int.reduceToNat, Int.reduceLT, Int.reduceLE, Nat.reduceEqDiff, sidsB, Nat.reduceBEq, keyKD, isIntK, aggD, aggL, eqKs]
          try rfl
        · have hd : ¬ s ∈ l := fun h => he (hin.2 h).2
          have hne : (l.getD i [] == s) = false := by simpa using he
          rw [decide_eq_false hd]
          simp (config := { maxSteps := 1000000 }) (disch := ((try simp only [awL]); omega)) only [nextC_more, nextC_over, bs_size, bs_extract, bs_toList, bs_append, byteAt_bs, bs_cells, nums_length, nums_getD, sl, g1, hne, ↓awU, awV, awF, ofVal, ofVal0, isShift, aggK, forall_const, ↓reduceIte, ↓reduceDIte, ↓purePost, combine, idsA, cellsA, numsOf, srcA, calleeA, refsA, isScalar, scalarD, scalar0, AV.one, putL, unfA, implies_true, IntKind.signed, Nat.reduceAdd, Nat.reduceSub, Nat.reduceMul, Nat.reducePow, Nat.reduceDiv, Nat.reduceMod, Int.reduceAdd, Int.reduceSub, Int.reduceMul, Int.reducePow, Int.reduceNeg, Int.reduceToNat, Int.reduceLT, Int.reduceLE, Nat.reduceEqDiff, sidsB, Nat.reduceBEq, keyKD, isIntK, aggD, aggL, eqKs]
          refine CallC.of (isNaN_spec (l.getD i [])) (by rfl) ?_
          simp (config := { maxSteps := 1000000 }) (disch := ((try simp only [awL]); omega)) only [nextC_more, nextC_over, bs_size, bs_extract, bs_toList, bs_append, byteAt_bs, bs_cells, nums_length, nums_getD, sl, g1, hne, ↓awU, awV, awF, ofVal, ofVal0, isShift, aggK, forall_const, ↓reduceIte, ↓reduceDIte, ↓purePost, combine, idsA, cellsA, numsOf, srcA, calleeA, refsA, isScalar, scalarD, scalar0, AV.one, putL, unfA, implies_true, IntKind.signed, Nat.reduceAdd, Nat.reduceSub, Nat.reduceMul, Nat.reducePow, Nat.reduceDiv, Nat.reduceMod, Int.reduceAdd, Int.reduceSub, Int.reduceMul, Int.reducePow, Int.reduceNeg, Int.reduceToNat, Int.reduceLT, Int.reduceLE, Nat.reduceEqDiff, sidsB, Nat.reduceBEq, keyKD, isIntK, aggD, aggL, eqKs]
          try rfl
      · have hd : ¬ s ∈ l := fun h => by have := (hin.2 h).1; omega
        rw [decide_eq_false hd]
        simp (config := { maxSteps := 1000000 }) (disch := ((try simp only [awL]); omega)) only [nextC_more, nextC_over, bs_size, bs_extract, bs_toList, bs_append, byteAt_bs, bs_cells, nums_length, nums_getD, sl, ↓awU, awV, awF, ofVal, ofVal0, isShift, aggK, forall_const, ↓reduceIte, ↓reduceDIte, ↓purePost, combine, idsA, cellsA, numsOf, srcA, calleeA, refsA, isScalar, scalarD, scalar0, AV.one, putL, unfA, implies_true, IntKind.signed, Nat.reduceAdd, Nat.reduceSub, Nat.reduceMul, Nat.reducePow, Nat.reduceDiv, Nat.reduceMod, Int.reduceAdd, Int.reduceSub, Int.reduceMul, Int.reducePow, Int.reduceNeg, Int.reduceToNat, Int.reduceLT, Int.reduceLE, Nat.reduceEqDiff, sidsB, Nat.reduceBEq, keyKD, isIntK, aggD, aggL, eqKs]
        try rfl
theorem com_succ {a b : List (List UInt8)} {i : Nat} (h : i < a.length) : comL (a.take (i + 1)) b = comL (a.take i) b + (if a.getD i [] ∈ b then 1 else 0) := by
  unfold comL
  rw [List.take_add_one, List.getElem?_eq_getElem h, List.filter_append, List.length_append, List.getD_eq_getElem?_getD, List.getElem?_eq_getElem h]
  simp only [Option.toList_some, Option.getD_some]
  split
  · rename_i hm; rw [List.filter_cons_of_pos (by simpa using hm)]; rfl
  · rename_i hm; rw [List.filter_cons_of_neg (by simpa using hm)]; rfl
def comB (a b : List (List UInt8)) : Nat := if ascB a && ascB b then comL a b else 0
set_option maxHeartbeats 4000000 in
set_option maxRecDepth 100000 in
theorem common_spec (a b : List (List UInt8)) (fa fb : Bool) (hla : a.length ≤ 1000000) (hlb : b.length ≤ 1000000) : Ctr Try.prog G 29 [.d (Ss a fa), .d (Ss b fb)] [] (.d (.int .i64 (comB a b : Nat))) [] := by
  refine Ctr.pure (M := M0) hmix Try.func29 rfl go29 ?_
  simp (config := { maxSteps := 1000000 }) (disch := ((try simp only [awL]); omega)) only [nextC_more, nextC_over, bs_size, bs_extract, bs_toList, bs_append, byteAt_bs, bs_cells, nums_length, nums_getD, Try.f29, ↓awU, awV, awF, ofVal, ofVal0, isShift, aggK, forall_const, ↓reduceIte, ↓reduceDIte, ↓purePost, combine, idsA, cellsA, numsOf, srcA, calleeA, refsA, isScalar, scalarD, scalar0, AV.one, putL, unfA, implies_true, IntKind.signed, Nat.reduceAdd, Nat.reduceSub, Nat.reduceMul, Nat.reducePow, Nat.reduceDiv, Nat.reduceMod, Int.reduceAdd, Int.reduceSub, Int.reduceMul, Int.reducePow, Int.reduceNeg, Int.reduceToNat, Int.reduceLT, Int.reduceLE, Nat.reduceEqDiff, sidsB, Nat.reduceBEq, keyKD, isIntK, aggD, aggL, eqKs]
  refine CallC.of (isSet_spec a false hla) (by rfl) ?_
  unfold comB
  cases h1 : ascB a
  · rw [Bool.false_and, if_neg Bool.false_ne_true]
    simp (config := { maxSteps := 1000000 }) (disch := ((try simp only [awL]); omega)) only [nextC_more, nextC_over, bs_size, bs_extract, bs_toList, bs_append, byteAt_bs, bs_cells, nums_length, nums_getD, ↓awU, awV, awF, ofVal, ofVal0, isShift, aggK, forall_const, ↓reduceIte, ↓reduceDIte, ↓purePost, combine, idsA, cellsA, numsOf, srcA, calleeA, refsA, isScalar, scalarD, scalar0, AV.one, putL, unfA, implies_true, IntKind.signed, Nat.reduceAdd, Nat.reduceSub, Nat.reduceMul, Nat.reducePow, Nat.reduceDiv, Nat.reduceMod, Int.reduceAdd, Int.reduceSub, Int.reduceMul, Int.reducePow, Int.reduceNeg, Int.reduceToNat, Int.reduceLT, Int.reduceLE, Nat.reduceEqDiff, sidsB, Nat.reduceBEq, keyKD, isIntK, aggD, aggL, eqKs]
    try rfl
  · rw [Bool.true_and]
    simp (config := { maxSteps := 1000000 }) (disch := ((try simp only [awL]); omega)) only [nextC_more, nextC_over, bs_size, bs_extract, bs_toList, bs_append, byteAt_bs, bs_cells, nums_length, nums_getD, ↓awU, awV, awF, ofVal, ofVal0, isShift, aggK, forall_const, ↓reduceIte, ↓reduceDIte, ↓purePost, combine, idsA, cellsA, numsOf, srcA, calleeA, refsA, isScalar, scalarD, scalar0, AV.one, putL, unfA, implies_true, IntKind.signed, Nat.reduceAdd, Nat.reduceSub, Nat.reduceMul, Nat.reducePow, Nat.reduceDiv, Nat.reduceMod, Int.reduceAdd, Int.reduceSub, Int.reduceMul, Int.reducePow, Int.reduceNeg, Int.reduceToNat, Int.reduceLT, Int.reduceLE, Nat.reduceEqDiff, sidsB, Nat.reduceBEq, keyKD, isIntK, aggD, aggL, eqKs]
    refine CallC.of (isSet_spec b false hlb) (by rfl) ?_
    cases h2 : ascB b
    · rw [if_neg Bool.false_ne_true]
      simp (config := { maxSteps := 1000000 }) (disch := ((try simp only [awL]); omega)) only [nextC_more, nextC_over, bs_size, bs_extract, bs_toList, bs_append, byteAt_bs, bs_cells, nums_length, nums_getD, ↓awU, awV, awF, ofVal, ofVal0, isShift, aggK, forall_const, ↓reduceIte, ↓reduceDIte, ↓purePost, combine, idsA, cellsA, numsOf, srcA, calleeA, refsA, isScalar, scalarD, scalar0, AV.one, putL, unfA, implies_true, IntKind.signed, Nat.reduceAdd, Nat.reduceSub, Nat.reduceMul, Nat.reducePow, Nat.reduceDiv, Nat.reduceMod, Int.reduceAdd, Int.reduceSub, Int.reduceMul, Int.reducePow, Int.reduceNeg, Int.reduceToNat, Int.reduceLT, Int.reduceLE, Nat.reduceEqDiff, sidsB, Nat.reduceBEq, keyKD, isIntK, aggD, aggL, eqKs]
      try rfl
    · rw [if_pos rfl]
      have hab := ascB_iff.1 h2
      simp (config := { maxSteps := 1000000 }) (disch := ((try simp only [awL]); omega)) only [nextC_more, nextC_over, bs_size, bs_extract, bs_toList, bs_append, byteAt_bs, bs_cells, nums_length, nums_getD, ↓awU, awV, awF, ofVal, ofVal0, isShift, aggK, forall_const, ↓reduceIte, ↓reduceDIte, ↓purePost, combine, idsA, cellsA, numsOf, srcA, calleeA, refsA, isScalar, scalarD, scalar0, AV.one, putL, unfA, implies_true, IntKind.signed, Nat.reduceAdd, Nat.reduceSub, Nat.reduceMul, Nat.reducePow, Nat.reduceDiv, Nat.reduceMod, Int.reduceAdd, Int.reduceSub, Int.reduceMul, Int.reducePow, Int.reduceNeg, Int.reduceToNat, Int.reduceLT, Int.reduceLE, Nat.reduceEqDiff, sidsB, Nat.reduceBEq, keyKD, isIntK, aggD, aggL, eqKs]
      refine LoopC.fr 786434 (α := Nat) (fun i => a.length - i) (fun i => [(5, .d (.int .i64 (comL (a.take i) b : Nat))), (20, .d (.int .i64 i))]) (fun _ => []) (fun i => i ≤ a.length) 0 (Nat.zero_le _) ?_ ?_
      · exact ⟨[], rfl, by simp, by simp [setsA, keepA, SWeak, AWeak, comL], by simp [HWeak, BWeak, SWeak, AWeak]⟩
      · intro i hi
        have sl := @strs_length a
        have cl := comL_le (a.take i) b
        rw [List.length_take] at cl
        simp only [awK, Nat.reduceMod, Nat.reduceDiv, reduceIte]
        rcases Nat.lt_or_ge i a.length with h | h
        · have g1 := strs_getD h
          have cs := com_succ (b := b) h
          obtain ⟨k, hk⟩ := search_spec (G := G) b false (a.getD i []) hlb hab
          simp (config := { maxSteps := 1000000 }) (disch := ((try simp only [awL]); omega)) only [nextC_more, nextC_over, bs_size, bs_extract, bs_toList, bs_append, byteAt_bs, bs_cells, nums_length, nums_getD, sl, g1, ↓awU, awV, awF, ofVal, ofVal0, isShift, aggK, forall_const, ↓reduceIte, ↓reduceDIte, ↓purePost, combine, idsA, cellsA, numsOf, srcA, calleeA, refsA, isScalar, scalarD, scalar0, AV.one, putL, unfA, implies_true, IntKind.signed, Nat.reduceAdd, Nat.reduceSub, Nat.reduceMul, Nat.reducePow, Nat.reduceDiv, Nat.reduceMod, Int.reduceAdd, Int.reduceSub, Int.reduceMul, Int.reducePow, Int.reduceNeg, Int.reduceToNat, Int.reduceLT, Int.reduceLE, Nat.reduceEqDiff, sidsB, Nat.reduceBEq, keyKD, isIntK, aggD, aggL, eqKs]
          refine CallC.of hk (by rfl) ?_
          by_cases hm : a.getD i [] ∈ b
          · rw [if_pos hm] at cs
            rw [decide_eq_true hm]
            simp (config := { maxSteps := 1000000 }) (disch := ((try simp only [awL]); omega)) only [nextC_more, nextC_over, bs_size, bs_extract, bs_toList, bs_append, byteAt_bs, bs_cells, nums_length, nums_getD, sl, ↓awU, awV, awF, ofVal, ofVal0, isShift, aggK, forall_const, ↓reduceIte, ↓reduceDIte, ↓purePost, combine, idsA, cellsA, numsOf, srcA, calleeA, refsA, isScalar, scalarD, scalar0, AV.one, putL, unfA, implies_true, IntKind.signed, Nat.reduceAdd, Nat.reduceSub, Nat.reduceMul, Nat.reducePow, Nat.reduceDiv, Nat.reduceMod, Int.reduceAdd, Int.reduceSub, Int.reduceMul, Int.reducePow, Int.reduceNeg, Int.reduceToNat, Int.reduceLT, Int.reduceLE, Nat.reduceEqDiff, sidsB, Nat.reduceBEq, keyKD, isIntK, aggD, aggL, eqKs]
            exact ⟨i + 1, h, by simp only; omega, ⟨[], rfl, by simp, by simp [setsA, keepA, SWeak, AWeak, cs], by simp [HWeak, BWeak, SWeak, AWeak]⟩⟩
          · rw [if_neg hm] at cs
            rw [decide_eq_false hm]
            simp (config := { maxSteps := 1000000 }) (disch := ((try simp only [awL]); omega)) only [nextC_more, nextC_over, bs_size, bs_extract, bs_toList, bs_append, byteAt_bs, bs_cells, nums_length, nums_getD, sl, ↓awU, awV, awF, ofVal, ofVal0, isShift, aggK, forall_const, ↓reduceIte, ↓reduceDIte, ↓purePost, combine, idsA, cellsA, numsOf, srcA, calleeA, refsA, isScalar, scalarD, scalar0, AV.one, putL, unfA, implies_true, IntKind.signed, Nat.reduceAdd, Nat.reduceSub, Nat.reduceMul, Nat.reducePow, Nat.reduceDiv, Nat.reduceMod, Int.reduceAdd, Int.reduceSub, Int.reduceMul, Int.reducePow, Int.reduceNeg, Int.reduceToNat, Int.reduceLT, Int.reduceLE, Nat.reduceEqDiff, sidsB, Nat.reduceBEq, keyKD, isIntK, aggD, aggL, eqKs]
            exact ⟨i + 1, h, by simp only; omega, ⟨[], rfl, by simp, by simp [setsA, keepA, SWeak, AWeak, cs], by simp [HWeak, BWeak, SWeak, AWeak]⟩⟩
        · obtain rfl : i = a.length := by omega
          rw [List.take_length] at *
          simp (config := { maxSteps := 1000000 }) (disch := ((try simp only [awL]); omega)) only [nextC_more, nextC_over, bs_size, bs_extract, bs_toList, bs_append, byteAt_bs, bs_cells, nums_length, nums_getD, sl, ↓awU, awV, awF, ofVal, ofVal0, isShift, aggK, forall_const, ↓reduceIte, ↓reduceDIte, ↓purePost, combine, idsA, cellsA, numsOf, srcA, calleeA, refsA, isScalar, scalarD, scalar0, AV.one, putL, unfA, implies_true, IntKind.signed, Nat.reduceAdd, Nat.reduceSub, Nat.reduceMul, Nat.reducePow, Nat.reduceDiv, Nat.reduceMod, Int.reduceAdd, Int.reduceSub, Int.reduceMul, Int.reducePow, Int.reduceNeg, Int.reduceToNat, Int.reduceLT, Int.reduceLE, Nat.reduceEqDiff, sidsB, Nat.reduceBEq, keyKD, isIntK, aggD, aggL, eqKs]
          try rfl
set_option maxHeartbeats 4000000 in
set_option maxRecDepth 100000 in
theorem rcommon_spec (a b : List (List UInt8)) (fa fb : Bool) (hla : a.length ≤ 1000000) (hlb : b.length ≤ 1000000) : Ctr Try.prog G 30 [.d (Ss a fa), .d (Ss b fb)] [] (.d (.int .i64 (comB a b : Nat))) [] := by
  refine Ctr.pure (M := M0) hmix Try.func30 rfl go30 ?_
  simp (config := { maxSteps := 1000000 }) (disch := ((try simp only [awL]); omega)) only [nextC_more, nextC_over, bs_size, bs_extract, bs_toList, bs_append, byteAt_bs, bs_cells, nums_length, nums_getD, Try.f30, ↓awU, awV, awF, ofVal, ofVal0, isShift, aggK, forall_const, ↓reduceIte, ↓reduceDIte, ↓purePost, combine, idsA, cellsA, numsOf, srcA, calleeA, refsA, isScalar, scalarD, scalar0, AV.one, putL, unfA, implies_true, IntKind.signed, Nat.reduceAdd, Nat.reduceSub, Nat.reduceMul, Nat.reducePow, Nat.reduceDiv, Nat.reduceMod, Int.reduceAdd, Int.reduceSub, Int.reduceMul, Int.reducePow, Int.reduceNeg, Int.reduceToNat, Int.reduceLT, Int.reduceLE, Nat.reduceEqDiff, sidsB, Nat.reduceBEq, keyKD, isIntK, aggD, aggL, eqKs]
  refine CallC.of (risSet_spec a false hla) (by rfl) ?_
  unfold comB
  cases h1 : ascB a
  · rw [Bool.false_and, if_neg Bool.false_ne_true]
    simp (config := { maxSteps := 1000000 }) (disch := ((try simp only [awL]); omega)) only [nextC_more, nextC_over, bs_size, bs_extract, bs_toList, bs_append, byteAt_bs, bs_cells, nums_length, nums_getD, ↓awU, awV, awF, ofVal, ofVal0, isShift, aggK, forall_const, ↓reduceIte, ↓reduceDIte, ↓purePost, combine, idsA, cellsA, numsOf, srcA, calleeA, refsA, isScalar, scalarD, scalar0, AV.one, putL, unfA, implies_true, IntKind.signed, Nat.reduceAdd, Nat.reduceSub, Nat.reduceMul, Nat.reducePow, Nat.reduceDiv, Nat.reduceMod, Int.reduceAdd, Int.reduceSub, Int.reduceMul, Int.reducePow, Int.reduceNeg, Int.reduceToNat, Int.reduceLT, Int.reduceLE, Nat.reduceEqDiff, sidsB, Nat.reduceBEq, keyKD, isIntK, aggD, aggL, eqKs]
    try rfl
  · rw [Bool.true_and]
    simp (config := { maxSteps := 1000000 }) (disch := ((try simp only [awL]); omega)) only [nextC_more, nextC_over, bs_size, bs_extract, bs_toList, bs_append, byteAt_bs, bs_cells, nums_length, nums_getD, ↓awU, awV, awF, ofVal, ofVal0, isShift, aggK, forall_const, ↓reduceIte, ↓reduceDIte, ↓purePost, combine, idsA, cellsA, numsOf, srcA, calleeA, refsA, isScalar, scalarD, scalar0, AV.one, putL, unfA, implies_true, IntKind.signed, Nat.reduceAdd, Nat.reduceSub, Nat.reduceMul, Nat.reducePow, Nat.reduceDiv, Nat.reduceMod, Int.reduceAdd, Int.reduceSub, Int.reduceMul, Int.reducePow, Int.reduceNeg, Int.reduceToNat, Int.reduceLT, Int.reduceLE, Nat.reduceEqDiff, sidsB, Nat.reduceBEq, keyKD, isIntK, aggD, aggL, eqKs]
    refine CallC.of (risSet_spec b false hlb) (by rfl) ?_
    cases h2 : ascB b
    · rw [if_neg Bool.false_ne_true]
      simp (config := { maxSteps := 1000000 }) (disch := ((try simp only [awL]); omega)) only [nextC_more, nextC_over, bs_size, bs_extract, bs_toList, bs_append, byteAt_bs, bs_cells, nums_length, nums_getD, ↓awU, awV, awF, ofVal, ofVal0, isShift, aggK, forall_const, ↓reduceIte, ↓reduceDIte, ↓purePost, combine, idsA, cellsA, numsOf, srcA, calleeA, refsA, isScalar, scalarD, scalar0, AV.one, putL, unfA, implies_true, IntKind.signed, Nat.reduceAdd, Nat.reduceSub, Nat.reduceMul, Nat.reducePow, Nat.reduceDiv, Nat.reduceMod, Int.reduceAdd, Int.reduceSub, Int.reduceMul, Int.reducePow, Int.reduceNeg, Int.reduceToNat, Int.reduceLT, Int.reduceLE, Nat.reduceEqDiff, sidsB, Nat.reduceBEq, keyKD, isIntK, aggD, aggL, eqKs]
      try rfl
    · rw [if_pos rfl]
      have hab := ascB_iff.1 h2
      simp (config := { maxSteps := 1000000 }) (disch := ((try simp only [awL]); omega)) only [nextC_more, nextC_over, bs_size, bs_extract, bs_toList, bs_append, byteAt_bs, bs_cells, nums_length, nums_getD, ↓awU, awV, awF, ofVal, ofVal0, isShift, aggK, forall_const, ↓reduceIte, ↓reduceDIte, ↓purePost, combine, idsA, cellsA, numsOf, srcA, calleeA, refsA, isScalar, scalarD, scalar0, AV.one, putL, unfA, implies_true, IntKind.signed, Nat.reduceAdd, Nat.reduceSub, Nat.reduceMul, Nat.reducePow, Nat.reduceDiv, Nat.reduceMod, Int.reduceAdd, Int.reduceSub, Int.reduceMul, Int.reducePow, Int.reduceNeg, Int.reduceToNat, Int.reduceLT, Int.reduceLE, Nat.reduceEqDiff, sidsB, Nat.reduceBEq, keyKD, isIntK, aggD, aggL, eqKs]
      refine LoopC.fr 196610 (α := Nat) (fun i => a.length - i) (fun i => [(5, .d (.int .i64 (comL (a.take i) b : Nat))), (18, .d (.int .i64 i))]) (fun _ => []) (fun i => i ≤ a.length) 0 (Nat.zero_le _) ?_ ?_
      · exact ⟨[], rfl, by simp, by simp [setsA, keepA, SWeak, AWeak, comL], by simp [HWeak, BWeak, SWeak, AWeak]⟩
      · intro i hi
        have sl := @strs_length a
        have cl := comL_le (a.take i) b
        rw [List.length_take] at cl
        simp only [awK, Nat.reduceMod, Nat.reduceDiv, reduceIte]
        rcases Nat.lt_or_ge i a.length with h | h
        · have g1 := strs_getD h
          have cs := com_succ (b := b) h
          simp (config := { maxSteps := 1000000 }) (disch := ((try simp only [awL]); omega)) only [nextC_more, nextC_over, bs_size, bs_extract, bs_toList, bs_append, byteAt_bs, bs_cells, nums_length, nums_getD, sl, g1, ↓awU, awV, awF, ofVal, ofVal0, isShift, aggK, forall_const, ↓reduceIte, ↓reduceDIte, ↓purePost, combine, idsA, cellsA, numsOf, srcA, calleeA, refsA, isScalar, scalarD, scalar0, AV.one, putL, unfA, implies_true, IntKind.signed, Nat.reduceAdd, Nat.reduceSub, Nat.reduceMul, Nat.reducePow, Nat.reduceDiv, Nat.reduceMod, Int.reduceAdd, Int.reduceSub, Int.reduceMul, Int.reducePow, Int.reduceNeg, Int.reduceToNat, Int.reduceLT, Int.reduceLE, Nat.reduceEqDiff, sidsB, Nat.reduceBEq, keyKD, isIntK, aggD, aggL, eqKs]
          refine CallC.of (has_spec b false (a.getD i []) hlb) (by rfl) ?_
          by_cases hm : a.getD i [] ∈ b
          · rw [if_pos hm] at cs
            rw [decide_eq_true hm]
            simp (config := { maxSteps := 1000000 }) (disch := ((try simp only [awL]); omega)) only [nextC_more, nextC_over, bs_size, bs_extract, bs_toList, bs_append, byteAt_bs, bs_cells, nums_length, nums_getD, sl, ↓awU, awV, awF, ofVal, ofVal0, isShift, aggK, forall_const, ↓reduceIte, ↓reduceDIte, ↓purePost, combine, idsA, cellsA, numsOf, srcA, calleeA, refsA, isScalar, scalarD, scalar0, AV.one, putL, unfA, implies_true, IntKind.signed, Nat.reduceAdd, Nat.reduceSub, Nat.reduceMul, Nat.reducePow, Nat.reduceDiv, Nat.reduceMod, Int.reduceAdd, Int.reduceSub, Int.reduceMul, Int.reducePow, Int.reduceNeg, Int.reduceToNat, Int.reduceLT, Int.reduceLE, Nat.reduceEqDiff, sidsB, Nat.reduceBEq, keyKD, isIntK, aggD, aggL, eqKs]
            exact ⟨i + 1, h, by simp only; omega, ⟨[], rfl, by simp, by simp [setsA, keepA, SWeak, AWeak, cs], by simp [HWeak, BWeak, SWeak, AWeak]⟩⟩
          · rw [if_neg hm] at cs
            rw [decide_eq_false hm]
            simp (config := { maxSteps := 1000000 }) (disch := ((try simp only [awL]); omega)) only [nextC_more, nextC_over, bs_size, bs_extract, bs_toList, bs_append, byteAt_bs, bs_cells, nums_length, nums_getD, sl, ↓awU, awV, awF, ofVal, ofVal0, isShift, aggK, forall_const, ↓reduceIte, ↓reduceDIte, ↓purePost, combine, idsA, cellsA, numsOf, srcA, calleeA, refsA, isScalar, scalarD, scalar0, AV.one, putL, unfA, implies_true, IntKind.signed, Nat.reduceAdd, Nat.reduceSub, Nat.reduceMul, Nat.reducePow, Nat.reduceDiv, Nat.reduceMod, Int.reduceAdd, Int.reduceSub, Int.reduceMul, Int.reducePow, Int.reduceNeg, Int.reduceToNat, Int.reduceLT, Int.reduceLE, Nat.reduceEqDiff, sidsB, Nat.reduceBEq, keyKD, isIntK, aggD, aggL, eqKs]
            exact ⟨i + 1, h, by simp only; omega, ⟨[], rfl, by simp, by simp [setsA, keepA, SWeak, AWeak, cs], by simp [HWeak, BWeak, SWeak, AWeak]⟩⟩
        · obtain rfl : i = a.length := by omega
          rw [List.take_length] at *
          simp (config := { maxSteps := 1000000 }) (disch := ((try simp only [awL]); omega)) only [nextC_more, nextC_over, bs_size, bs_extract, bs_toList, bs_append, byteAt_bs, bs_cells, nums_length, nums_getD, sl, ↓awU, awV, awF, ofVal, ofVal0, isShift, aggK, forall_const, ↓reduceIte, ↓reduceDIte, ↓purePost, combine, idsA, cellsA, numsOf, srcA, calleeA, refsA, isScalar, scalarD, scalar0, AV.one, putL, unfA, implies_true, IntKind.signed, Nat.reduceAdd, Nat.reduceSub, Nat.reduceMul, Nat.reducePow, Nat.reduceDiv, Nat.reduceMod, Int.reduceAdd, Int.reduceSub, Int.reduceMul, Int.reducePow, Int.reduceNeg, Int.reduceToNat, Int.reduceLT, Int.reduceLE, Nat.reduceEqDiff, sidsB, Nat.reduceBEq, keyKD, isIntK, aggD, aggL, eqKs]
          try rfl
end Go.Proofs.Ytpnhbjabnnibcaa

namespace Go.Proofs.Ytpnhbjabnnibcaa
open Go Go.Proofs Go.Abs
variable {G : Globals}
/-! Tokens: the reference. -/
theorem tok_init (s : List UInt8) : ([] : List (List UInt8)) ++ tokG ((s.take 0).drop 0) (s.drop 0) = tokG [] s := by simp
theorem sep_cases {c : UInt8} : (sepB c = false ∧ ((48 ≤ c.toNat ∧ c.toNat ≤ 57) ∨ (97 ≤ c.toNat ∧ c.toNat ≤ 122) ∨ 128 ≤ c.toNat)) ∨ (sepB c = true ∧ (c.toNat < 48 ∨ (57 < c.toNat ∧ c.toNat < 97) ∨ (122 < c.toNat ∧ c.toNat < 128))) := by
  cases e : sepB c with
  | false =>
    left
    refine ⟨rfl, ?_⟩
    have : ¬ (c.toNat < 128 ∧ (c.toNat < 48 ∨ 57 < c.toNat) ∧ (c.toNat < 97 ∨ 122 < c.toNat)) := fun h => by rw [sepB_iff.2 h] at e; cases e
    omega
  | true =>
    right
    have := sepB_iff.1 e
    exact ⟨rfl, by omega⟩
theorem strs_push {l : List (List UInt8)} {s : List UInt8} : strs (l ++ [s]) = strs l ++ [S s] := by simp [strs]
theorem tok_done {s : List UInt8} {out : List (List UInt8)} {f : Nat} (hs : sepB (s.getD (s.length - 1) 0) = true) (hf : f ≤ s.length) (h0 : 0 < s.length) (hn : ∀ k, f ≤ k → k < s.length → sepB (s.getD k 0) = false)
    (h : out ++ tokG ((s.take s.length).drop f) (s.drop s.length) = tokG [] s) : out = tokG [] s := by
  rcases Nat.lt_or_ge f s.length with q | q
  · have := hn (s.length - 1) (by omega) (by omega)
    rw [hs] at this; cases this
  · obtain rfl : f = s.length := by omega
    rw [List.take_length, List.drop_length] at h
    have e : tokG [] ([] : List UInt8) = [] := rfl
    rw [e, List.append_nil] at h
    exact h
set_option maxHeartbeats 4000000 in
set_option maxRecDepth 100000 in
theorem rtokens_spec (s : List UInt8) (hs : s.length ≤ 100000) : Ctr Try.prog G 38 [.d (S s)] [] (.d (Ss (tokL s) false)) [] := by
  refine Ctr.pure (M := M0) hmix Try.func38 rfl go38 ?_
  simp (config := { maxSteps := 1000000 }) (disch := ((try simp only [awL]); omega)) only [nextC_more, nextC_over, bs_size, bs_extract, bs_toList, bs_append, byteAt_bs, bs_cells, nums_length, nums_getD, Try.f38, ↓awU, awV, awF, ofVal, ofVal0, isShift, aggK, forall_const, ↓reduceIte, ↓reduceDIte, ↓purePost, combine, idsA, cellsA, numsOf, srcA, calleeA, refsA, isScalar, scalarD, scalar0, AV.one, putL, unfA, implies_true, IntKind.signed, Nat.reduceAdd, Nat.reduceSub, Nat.reduceMul, Nat.reducePow, Nat.reduceDiv, Nat.reduceMod, Int.reduceAdd, Int.reduceSub, Int.reduceMul, Int.reducePow, Int.reduceNeg, Int.reduceToNat, Int.reduceLT, Int.reduceLE, Nat.reduceEqDiff, sidsB, Nat.reduceBEq, keyKD, isIntK, aggD, aggL, eqKs]
  refine CallC.pure (rfold_spec s (by omega)) ?_
  have hml : (s.map foldB).length = s.length := List.length_map ..
  have htl : tokL s = tokG [] (s.map foldB ++ [32]) := by rw [tokL_space]; rfl
  rw [htl]
  have hTl : (s.map foldB ++ [32]).length = s.length + 1 := by simp
  have hlast : sepB ((s.map foldB ++ [32]).getD ((s.map foldB ++ [32]).length - 1) 0) = true := by
    rw [hTl, List.getD_eq_getElem?_getD, List.getElem?_append_right (by omega)]; simp [hml]; rfl
  simp (config := { maxSteps := 1000000 }) (disch := ((try simp only [awL]); omega)) only [nextC_more, nextC_over, bs_size, bs_extract, bs_toList, bs_append, byteAt_bs, bs_cells, nums_length, nums_getD, hml, ↓awU, awV, awF, ofVal, ofVal0, isShift, aggK, forall_const, ↓reduceIte, ↓reduceDIte, ↓purePost, combine, idsA, cellsA, numsOf, srcA, calleeA, refsA, isScalar, scalarD, scalar0, AV.one, putL, unfA, implies_true, IntKind.signed, Nat.reduceAdd, Nat.reduceSub, Nat.reduceMul, Nat.reducePow, Nat.reduceDiv, Nat.reduceMod, Int.reduceAdd, Int.reduceSub, Int.reduceMul, Int.reducePow, Int.reduceNeg, Int.reduceToNat, Int.reduceLT, Int.reduceLE, Nat.reduceEqDiff, sidsB, Nat.reduceBEq, keyKD, isIntK, aggD, aggL, eqKs]
  have e32 : (32 :: ([] : List UInt8)) = [32] := rfl
  generalize hT : s.map foldB ++ [32] = T at *
  refine LoopC.fr 1 (α := List (List UInt8) × Nat × Nat) (fun x => T.length - x.2.2) (fun x => [(3, .lsl 0 1 0 x.1.length), (4, .d (.int .i64 x.2.1)), (5, .d (.int .i64 x.2.2))]) (fun x => [.row false (strs x.1)])
    (fun x => x.2.1 ≤ x.2.2 ∧ x.2.2 ≤ T.length ∧ x.1.length ≤ x.2.2 ∧ (∀ k, x.2.1 ≤ k → k < x.2.2 → sepB (T.getD k 0) = false) ∧ x.1 ++ tokG ((T.take x.2.2).drop x.2.1) (T.drop x.2.2) = tokG [] T) ([], 0, 0) ⟨Nat.le_refl _, Nat.zero_le _, Nat.le_refl _, fun k a b => by simp only at a b; omega, tok_init T⟩ ?_ ?_
  · exact ⟨[none], rfl, by simp, by simp [setsA, keepA, SWeak, AWeak], by simp [HWeak, BWeak, SWeak, AWeak, strs]⟩
  · rintro ⟨out, f, i⟩ ⟨h1, h2, h3, h4, h5⟩
    simp only at h1 h2 h3 h4 h5
    have sl := @strs_length out
    simp only [awK, Nat.reduceMod, Nat.reduceDiv, reduceIte]
    rcases Nat.lt_or_ge i T.length with h | h
    · rcases @sep_cases (T.getD i 0) with ⟨hc, hr⟩ | ⟨hc, hr⟩
      · have step := tokG_step h1 h hc
        rw [step] at h5
        have h4' : ∀ k, f ≤ k → k < i + 1 → sepB (T.getD k 0) = false := fun k a b => by
          rcases Nat.lt_or_ge k i with q | q
          · exact h4 k a q
          · obtain rfl : k = i := by omega
            exact hc
        rcases hr with ⟨r1, r2⟩ | ⟨r1, r2⟩ | r1
        · simp (config := { maxSteps := 1000000 }) (disch := ((try simp only [awL]); omega)) only [nextC_more, nextC_over, bs_size, bs_extract, bs_toList, bs_append, byteAt_bs, bs_cells, nums_length, nums_getD, sl, ↓awU, awV, awF, ofVal, ofVal0, isShift, aggK, forall_const, ↓reduceIte, ↓reduceDIte, ↓purePost, combine, idsA, cellsA, numsOf, srcA, calleeA, refsA, isScalar, scalarD, scalar0, AV.one, putL, unfA, implies_true, IntKind.signed, Nat.reduceAdd, Nat.reduceSub, Nat.reduceMul, Nat.reducePow, Nat.reduceDiv, Nat.reduceMod, Int.reduceAdd, Int.reduceSub, Int.reduceMul, Int.reducePow, Int.reduceNeg, Int.reduceToNat, Int.reduceLT, Int.reduceLE, Nat.reduceEqDiff, sidsB, Nat.reduceBEq, keyKD, isIntK, aggD, aggL, eqKs]
          exact ⟨(out, f, i + 1), ⟨by simp only; omega, h, by simp only; omega, h4', h5⟩, by simp only; omega, ⟨[some 0], rfl, by simp, by simp [setsA, keepA, SWeak, AWeak], by simp [HWeak, BWeak, SWeak, AWeak]⟩⟩
        · simp (config := { maxSteps := 1000000 }) (disch := ((try simp only [awL]); omega)) only [nextC_more, nextC_over, bs_size, bs_extract, bs_toList, bs_append, byteAt_bs, bs_cells, nums_length, nums_getD, sl, ↓awU, awV, awF, ofVal, ofVal0, isShift, aggK, forall_const, ↓reduceIte, ↓reduceDIte, ↓purePost, combine, idsA, cellsA, numsOf, srcA, calleeA, refsA, isScalar, scalarD, scalar0, AV.one, putL, unfA, implies_true, IntKind.signed, Nat.reduceAdd, Nat.reduceSub, Nat.reduceMul, Nat.reducePow, Nat.reduceDiv, Nat.reduceMod, Int.reduceAdd, Int.reduceSub, Int.reduceMul, Int.reducePow, Int.reduceNeg, Int.reduceToNat, Int.reduceLT, Int.reduceLE, Nat.reduceEqDiff, sidsB, Nat.reduceBEq, keyKD, isIntK, aggD, aggL, eqKs]
          exact ⟨(out, f, i + 1), ⟨by simp only; omega, h, by simp only; omega, h4', h5⟩, by simp only; omega, ⟨[some 0], rfl, by simp, by simp [setsA, keepA, SWeak, AWeak], by simp [HWeak, BWeak, SWeak, AWeak]⟩⟩
        · simp (config := { maxSteps := 1000000 }) (disch := ((try simp only [awL]); omega)) only [nextC_more, nextC_over, bs_size, bs_extract, bs_toList, bs_append, byteAt_bs, bs_cells, nums_length, nums_getD, sl, ↓awU, awV, awF, ofVal, ofVal0, isShift, aggK, forall_const, ↓reduceIte, ↓reduceDIte, ↓purePost, combine, idsA, cellsA, numsOf, srcA, calleeA, refsA, isScalar, scalarD, scalar0, AV.one, putL, unfA, implies_true, IntKind.signed, Nat.reduceAdd, Nat.reduceSub, Nat.reduceMul, Nat.reducePow, Nat.reduceDiv, Nat.reduceMod, Int.reduceAdd, Int.reduceSub, Int.reduceMul, Int.reducePow, Int.reduceNeg, Int.reduceToNat, Int.reduceLT, Int.reduceLE, Nat.reduceEqDiff, sidsB, Nat.reduceBEq, keyKD, isIntK, aggD, aggL, eqKs]
          exact ⟨(out, f, i + 1), ⟨by simp only; omega, h, by simp only; omega, h4', h5⟩, by simp only; omega, ⟨[some 0], rfl, by simp, by simp [setsA, keepA, SWeak, AWeak], by simp [HWeak, BWeak, SWeak, AWeak]⟩⟩
      · have step := tokG_cut h1 h hc
        rw [step] at h5
        rcases Nat.lt_or_ge f i with hfi | hfi
        · rw [if_pos hfi, ← List.append_assoc] at h5
          have h5' : (out ++ [(T.take i).drop f]) ++ tokG ((T.take (i + 1)).drop (i + 1)) (T.drop (i + 1)) = tokG [] T := by
            have e0 : (T.take (i + 1)).drop (i + 1) = [] := List.drop_of_length_le (by rw [List.length_take]; omega)
            rw [e0]; exact h5
          have fin : ∃ y : List (List UInt8) × Nat × Nat, y = (out ++ [(T.take i).drop f], i + 1, i + 1) ∧ (y.2.1 ≤ y.2.2 ∧ y.2.2 ≤ T.length ∧ y.1.length ≤ y.2.2 ∧ (∀ k, y.2.1 ≤ k → k < y.2.2 → sepB (T.getD k 0) = false) ∧ y.1 ++ tokG ((T.take y.2.2).drop y.2.1) (T.drop y.2.2) = tokG [] T) :=
            ⟨_, rfl, Nat.le_refl _, h, by simp only [List.length_append, List.length_singleton]; omega, fun k a b => by simp only at a b; omega, h5'⟩
          obtain ⟨y, rfl, hy⟩ := fin
          rcases hr with r1 | ⟨r1, r2⟩ | ⟨r1, r2⟩
          · simp (config := { maxSteps := 1000000 }) (disch := ((try simp only [awL]); omega)) only [nextC_more, nextC_over, bs_size, bs_extract, bs_toList, bs_append, byteAt_bs, bs_cells, nums_length, nums_getD, sl, ↓awU, awV, awF, ofVal, ofVal0, isShift, aggK, forall_const, ↓reduceIte, ↓reduceDIte, ↓purePost, combine, idsA, cellsA, numsOf, srcA, calleeA, refsA, isScalar, scalarD, scalar0, AV.one, putL, unfA, implies_true, IntKind.signed, Nat.reduceAdd, Nat.reduceSub, Nat.reduceMul, Nat.reducePow, Nat.reduceDiv, Nat.reduceMod, Int.reduceAdd, Int.reduceSub, Int.reduceMul, Int.reducePow, Int.reduceNeg, Int.reduceToNat, Int.reduceLT, Int.reduceLE, Nat.reduceEqDiff, sidsB, Nat.reduceBEq, keyKD, isIntK, aggD, aggL, eqKs]
            exact ⟨_, hy, by simp only; omega, ⟨[some 2], rfl, by simp, by simp [setsA, keepA, SWeak, AWeak], by simp [HWeak, BWeak, SWeak, AWeak, strs_push]⟩⟩
          · simp (config := { maxSteps := 1000000 }) (disch := ((try simp only [awL]); omega)) only [nextC_more, nextC_over, bs_size, bs_extract, bs_toList, bs_append, byteAt_bs, bs_cells, nums_length, nums_getD, sl, ↓awU, awV, awF, ofVal, ofVal0, isShift, aggK, forall_const, ↓reduceIte, ↓reduceDIte, ↓purePost, combine, idsA, cellsA, numsOf, srcA, calleeA, refsA, isScalar, scalarD, scalar0, AV.one, putL, unfA, implies_true, IntKind.signed, Nat.reduceAdd, Nat.reduceSub, Nat.reduceMul, Nat.reducePow, Nat.reduceDiv, Nat.reduceMod, Int.reduceAdd, Int.reduceSub, Int.reduceMul, Int.reducePow, Int.reduceNeg, Int.reduceToNat, Int.reduceLT, Int.reduceLE, Nat.reduceEqDiff, sidsB, Nat.reduceBEq, keyKD, isIntK, aggD, aggL, eqKs]
            exact ⟨_, hy, by simp only; omega, ⟨[some 2], rfl, by simp, by simp [setsA, keepA, SWeak, AWeak], by simp [HWeak, BWeak, SWeak, AWeak, strs_push]⟩⟩
          · simp (config := { maxSteps := 1000000 }) (disch := ((try simp only [awL]); omega)) only [nextC_more, nextC_over, bs_size, bs_extract, bs_toList, bs_append, byteAt_bs, bs_cells, nums_length, nums_getD, sl, ↓awU, awV, awF, ofVal, ofVal0, isShift, aggK, forall_const, ↓reduceIte, ↓reduceDIte, ↓purePost, combine, idsA, cellsA, numsOf, srcA, calleeA, refsA, isScalar, scalarD, scalar0, AV.one, putL, unfA, implies_true, IntKind.signed, Nat.reduceAdd, Nat.reduceSub, Nat.reduceMul, Nat.reducePow, Nat.reduceDiv, Nat.reduceMod, Int.reduceAdd, Int.reduceSub, Int.reduceMul, Int.reducePow, Int.reduceNeg, Int.reduceToNat, Int.reduceLT, Int.reduceLE, Nat.reduceEqDiff, sidsB, Nat.reduceBEq, keyKD, isIntK, aggD, aggL, eqKs]
            exact ⟨_, hy, by simp only; omega, ⟨[some 2], rfl, by simp, by simp [setsA, keepA, SWeak, AWeak], by simp [HWeak, BWeak, SWeak, AWeak, strs_push]⟩⟩
        · obtain rfl : f = i := by omega
          rw [if_neg (Nat.lt_irrefl _), List.nil_append] at h5
          have h5' : out ++ tokG ((T.take (f + 1)).drop (f + 1)) (T.drop (f + 1)) = tokG [] T := by
            have e0 : (T.take (f + 1)).drop (f + 1) = [] := List.drop_of_length_le (by rw [List.length_take]; omega)
            rw [e0]; exact h5
          rcases hr with r1 | ⟨r1, r2⟩ | ⟨r1, r2⟩
          · simp (config := { maxSteps := 1000000 }) (disch := ((try simp only [awL]); omega)) only [nextC_more, nextC_over, bs_size, bs_extract, bs_toList, bs_append, byteAt_bs, bs_cells, nums_length, nums_getD, sl, ↓awU, awV, awF, ofVal, ofVal0, isShift, aggK, forall_const, ↓reduceIte, ↓reduceDIte, ↓purePost, combine, idsA, cellsA, numsOf, srcA, calleeA, refsA, isScalar, scalarD, scalar0, AV.one, putL, unfA, implies_true, IntKind.signed, Nat.reduceAdd, Nat.reduceSub, Nat.reduceMul, Nat.reducePow, Nat.reduceDiv, Nat.reduceMod, Int.reduceAdd, Int.reduceSub, Int.reduceMul, Int.reducePow, Int.reduceNeg, Int.reduceToNat, Int.reduceLT, Int.reduceLE, Nat.reduceEqDiff, sidsB, Nat.reduceBEq, keyKD, isIntK, aggD, aggL, eqKs]
            exact ⟨(out, f + 1, f + 1), ⟨Nat.le_refl _, h, by simp only; omega, fun k a b => by simp only at a b; omega, h5'⟩, by simp only; omega, ⟨[some 0], rfl, by simp, by simp [setsA, keepA, SWeak, AWeak], by simp [HWeak, BWeak, SWeak, AWeak]⟩⟩
          · simp (config := { maxSteps := 1000000 }) (disch := ((try simp only [awL]); omega)) only [nextC_more, nextC_over, bs_size, bs_extract, bs_toList, bs_append, byteAt_bs, bs_cells, nums_length, nums_getD, sl, ↓awU, awV, awF, ofVal, ofVal0, isShift, aggK, forall_const, ↓reduceIte, ↓reduceDIte, ↓purePost, combine, idsA, cellsA, numsOf, srcA, calleeA, refsA, isScalar, scalarD, scalar0, AV.one, putL, unfA, implies_true, IntKind.signed, Nat.reduceAdd, Nat.reduceSub, Nat.reduceMul, Nat.reducePow, Nat.reduceDiv, Nat.reduceMod, Int.reduceAdd, Int.reduceSub, Int.reduceMul, Int.reducePow, Int.reduceNeg, Int.reduceToNat, Int.reduceLT, Int.reduceLE, Nat.reduceEqDiff, sidsB, Nat.reduceBEq, keyKD, isIntK, aggD, aggL, eqKs]
            exact ⟨(out, f + 1, f + 1), ⟨Nat.le_refl _, h, by simp only; omega, fun k a b => by simp only at a b; omega, h5'⟩, by simp only; omega, ⟨[some 0], rfl, by simp, by simp [setsA, keepA, SWeak, AWeak], by simp [HWeak, BWeak, SWeak, AWeak]⟩⟩
          · simp (config := { maxSteps := 1000000 }) (disch := ((try simp only [awL]); omega)) only [nextC_more, nextC_over, bs_size, bs_extract, bs_toList, bs_append, byteAt_bs, bs_cells, nums_length, nums_getD, sl, ↓awU, awV, awF, ofVal, ofVal0, isShift, aggK, forall_const, ↓reduceIte, ↓reduceDIte, ↓purePost, combine, idsA, cellsA, numsOf, srcA, calleeA, refsA, isScalar, scalarD, scalar0, AV.one, putL, unfA, implies_true, IntKind.signed, Nat.reduceAdd, Nat.reduceSub, Nat.reduceMul, Nat.reducePow, Nat.reduceDiv, Nat.reduceMod, Int.reduceAdd, Int.reduceSub, Int.reduceMul, Int.reducePow, Int.reduceNeg, Int.reduceToNat, Int.reduceLT, Int.reduceLE, Nat.reduceEqDiff, sidsB, Nat.reduceBEq, keyKD, isIntK, aggD, aggL, eqKs]
            exact ⟨(out, f + 1, f + 1), ⟨Nat.le_refl _, h, by simp only; omega, fun k a b => by simp only at a b; omega, h5'⟩, by simp only; omega, ⟨[some 0], rfl, by simp, by simp [setsA, keepA, SWeak, AWeak], by simp [HWeak, BWeak, SWeak, AWeak]⟩⟩
    · obtain rfl : i = T.length := by omega
      have hd := tok_done hlast h1 (by omega) h4 h5
      rw [← hd]
      have hcut : cut (strs out) 0 out.length = strs out := cut_full sl
      simp (config := { maxSteps := 1000000 }) (disch := ((try simp only [awL]); omega)) only [nextC_more, nextC_over, bs_size, bs_extract, bs_toList, bs_append, byteAt_bs, bs_cells, nums_length, nums_getD, sl, strs_unf, hcut, ↓awU, awV, awF, ofVal, ofVal0, isShift, aggK, forall_const, ↓reduceIte, ↓reduceDIte, ↓purePost, combine, idsA, cellsA, numsOf, srcA, calleeA, refsA, isScalar, scalarD, scalar0, AV.one, putL, unfA, implies_true, IntKind.signed, Nat.reduceAdd, Nat.reduceSub, Nat.reduceMul, Nat.reducePow, Nat.reduceDiv, Nat.reduceMod, Int.reduceAdd, Int.reduceSub, Int.reduceMul, Int.reducePow, Int.reduceNeg, Int.reduceToNat, Int.reduceLT, Int.reduceLE, Nat.reduceEqDiff, sidsB, Nat.reduceBEq, keyKD, isIntK, aggD, aggL, eqKs]
      try rfl
end Go.Proofs.Ytpnhbjabnnibcaa

namespace Go.Proofs.Ytpnhbjabnnibcaa
open Go Go.Proofs Go.Abs
variable {G : Globals}
/-! Tokens: the program, by strings.FieldsFunc. -/
def spansD : List (Nat × Nat) → List D
  | [] => []
  | p :: l => .int .i64 p.1 :: .int .i64 p.2 :: spansD l
theorem spansD_length : ∀ l : List (Nat × Nat), (spansD l).length = 2 * l.length
  | [] => rfl
  | p :: l => by simp only [spansD, List.length_cons, spansD_length l]; omega
theorem spansD_push : ∀ (l : List (Nat × Nat)) (p : Nat × Nat), spansD (l ++ [p]) = spansD l ++ [.int .i64 p.1, .int .i64 p.2]
  | [], _ => rfl
  | q :: l, p => by simp [spansD, spansD_push l p]
theorem spansD_get {l : List (Nat × Nat)} {k : Nat} (h : k < l.length) : ((spansD l).drop (k * 2)).take 2 = [.int .i64 (l.getD k (0, 0)).1, .int .i64 (l.getD k (0, 0)).2] := by
  induction l generalizing k with
  | nil => cases h
  | cons p r ih =>
    cases k with
    | zero => rfl
    | succ k =>
      have := ih (k := k) (by simpa using h)
      rw [show (k + 1) * 2 = k * 2 + 1 + 1 by omega]
      simpa [spansD] using this
def cuts (s : List UInt8) (l : List (Nat × Nat)) : List (List UInt8) := l.map fun p => (s.take p.2).drop p.1
theorem cuts_push {s : List UInt8} {l : List (Nat × Nat)} {a b : Nat} : cuts s (l ++ [(a, b)]) = cuts s l ++ [(s.take b).drop a] := by simp [cuts]
theorem tokG_over {s : List UInt8} {f p w : Nat} (hf : f ≤ p) (hw : p + w ≤ s.length) (h : ∀ i, i < w → sepB (s.getD (p + i) 0) = false) : tokG ((s.take p).drop f) (s.drop p) = tokG ((s.take (p + w)).drop f) (s.drop (p + w)) := by
  induction w with
  | zero => rfl
  | succ w ih =>
    rw [ih (by omega) fun i hi => h i (by omega)]
    have := tokG_step (s := s) (f := f) (i := p + w) (by omega) (by omega) (h w (by omega))
    rw [this]; rfl
def sepR (c : Nat) : Bool := decide (c < 128) && !(decide (48 ≤ c) && decide (c ≤ 57)) && !(decide (97 ≤ c) && decide (c ≤ 122))
theorem sepR2_spec (c : Nat) (hc : c ≤ 2147483647) : Ctr Try.prog G 48 [.d (.int .i32 c)] [] (.d (.bool (sepR c))) [] := sepR_spec c hc
theorem sep_dec {s : List UInt8} {p : Nat} (h : p < s.length) : (sepR (dec s p).1 = true ∧ (dec s p).2 = 1 ∧ sepB (s.getD p 0) = true) ∨
    (sepR (dec s p).1 = false ∧ 1 ≤ (dec s p).2 ∧ p + (dec s p).2 ≤ s.length ∧ ∀ i, i < (dec s p).2 → sepB (s.getD (p + i) 0) = false) := by
  rcases dec_wide s p h with ⟨h1, e⟩ | ⟨h1, h2, h3, h4⟩
  · have e1 : sepR (s.getD p 0).toNat = sepB (s.getD p 0) := rfl
    rw [e]
    cases hb : sepB (s.getD p 0) with
    | true => exact .inl ⟨by rw [e1, hb], rfl, rfl⟩
    | false => exact .inr ⟨by rw [e1, hb], Nat.le_refl _, h, fun i hi => by
      have h0 : i = 0 := Nat.lt_one_iff.1 hi
      subst h0; rw [Nat.add_zero]; exact hb⟩
  · refine .inr ⟨?_, h2, h3, fun i hi => ?_⟩
    · unfold sepR; rw [decide_eq_false (by omega)]; rfl
    · cases hb : sepB (s.getD (p + i) 0) with
      | false => rfl
      | true => have := (sepB_iff.1 hb).1; have := h4 i hi; omega
theorem take_drop_self {s : List UInt8} {p : Nat} : (s.take p).drop p = [] := List.drop_of_length_le (by rw [List.length_take]; omega)
def FI (s : List UInt8) (x : List (Nat × Nat) × Int × Nat) : Prop :=
  x.2.2 ≤ s.length ∧ x.1.length ≤ x.2.2 ∧ (∀ q ∈ x.1, q.1 ≤ q.2 ∧ q.2 ≤ s.length) ∧ -100001 ≤ x.2.1 ∧ x.2.1 ≤ 100001 ∧
  ((x.2.1 < 0 ∧ cuts s x.1 ++ tokG [] (s.drop x.2.2) = tokG [] s) ∨ (∃ f : Nat, x.2.1 = f ∧ f < x.2.2 ∧ cuts s x.1 ++ tokG ((s.take x.2.2).drop f) (s.drop x.2.2) = tokG [] s))
theorem FI_sep0 {s : List UInt8} {sp : List (Nat × Nat)} {st : Int} {p : Nat} (hs : s.length ≤ 100000) (h : FI s (sp, st, p)) (hp : p < s.length) (hc : sepB (s.getD p 0) = true) (hn : st < 0) : FI s (sp, st, p + 1) := by
  obtain ⟨h1, h2, h3, h4, h5, h6⟩ := h
  simp only at h1 h2 h3 h4 h5 h6
  refine ⟨hp, by simp only; omega, h3, h4, h5, .inl ⟨hn, ?_⟩⟩
  rcases h6 with ⟨_, h6⟩ | ⟨f, e, _⟩
  · have := tokG_cut (Nat.le_refl p) hp hc
    rw [take_drop_self, if_neg (Nat.lt_irrefl _), List.nil_append] at this
    rw [this] at h6; exact h6
  · omega
theorem FI_sep1 {s : List UInt8} {sp : List (Nat × Nat)} {f p : Nat} (hs : s.length ≤ 100000) (h : FI s (sp, (f : Int), p)) (hp : p < s.length) (hc : sepB (s.getD p 0) = true) : f < p ∧ FI s (sp ++ [(f, p)], -(f : Int) - 1, p + 1) := by
  obtain ⟨h1, h2, h3, h4, h5, h6⟩ := h
  simp only at h1 h2 h3 h4 h5 h6
  rcases h6 with ⟨h6, _⟩ | ⟨g, e, hg, h6⟩
  · omega
  · obtain rfl : f = g := by omega
    refine ⟨hg, hp, by simp only [List.length_append, List.length_singleton]; omega, fun q hq => ?_, by simp only; omega, by simp only; omega, .inl ⟨by simp only; omega, ?_⟩⟩
    · rcases List.mem_append.1 hq with hq | hq
      · exact h3 q hq
      · simp at hq; subst hq; exact ⟨by simp only; omega, by simp only; omega⟩
    · have := tokG_cut (Nat.le_of_lt hg) hp hc
      rw [if_pos hg] at this
      rw [this] at h6
      simp only [cuts_push, List.append_assoc]
      exact h6
theorem FI_tok0 {s : List UInt8} {sp : List (Nat × Nat)} {st : Int} {p w : Nat} (hs : s.length ≤ 100000) (h : FI s (sp, st, p)) (hw : 1 ≤ w) (hp : p + w ≤ s.length) (hc : ∀ i, i < w → sepB (s.getD (p + i) 0) = false) (hn : st < 0) : FI s (sp, (p : Int), p + w) := by
  obtain ⟨h1, h2, h3, h4, h5, h6⟩ := h
  simp only at h1 h2 h3 h4 h5 h6
  refine ⟨hp, by simp only; omega, h3, by simp only; omega, by simp only; omega, .inr ⟨p, rfl, by simp only; omega, ?_⟩⟩
  rcases h6 with ⟨_, h6⟩ | ⟨f, e, _⟩
  · have := tokG_over (Nat.le_refl p) hp hc
    rw [take_drop_self] at this
    rw [this] at h6; exact h6
  · omega
theorem FI_tok1 {s : List UInt8} {sp : List (Nat × Nat)} {f p w : Nat} (hs : s.length ≤ 100000) (h : FI s (sp, (f : Int), p)) (hp : p + w ≤ s.length) (hc : ∀ i, i < w → sepB (s.getD (p + i) 0) = false) : FI s (sp, (f : Int), p + w) := by
  obtain ⟨h1, h2, h3, h4, h5, h6⟩ := h
  simp only at h1 h2 h3 h4 h5 h6
  refine ⟨hp, by simp only; omega, h3, h4, h5, ?_⟩
  rcases h6 with ⟨h6, _⟩ | ⟨g, e, hg, h6⟩
  · omega
  · obtain rfl : f = g := by omega
    refine .inr ⟨f, rfl, by simp only; omega, ?_⟩
    have := tokG_over (Nat.le_of_lt hg) hp hc
    rw [this] at h6; exact h6
theorem FI_end0 {s : List UInt8} {sp : List (Nat × Nat)} {st : Int} (h : FI s (sp, st, s.length)) (hn : st < 0) : cuts s sp = tokG [] s := by
  obtain ⟨h1, h2, h3, h4, h5, h6⟩ := h
  simp only at h6
  rcases h6 with ⟨_, h6⟩ | ⟨f, e, _⟩
  · rw [List.drop_length] at h6
    have e : tokG [] ([] : List UInt8) = [] := rfl
    rwa [e, List.append_nil] at h6
  · omega
theorem FI_end1 {s : List UInt8} {sp : List (Nat × Nat)} {f : Nat} (h : FI s (sp, (f : Int), s.length)) : f < s.length ∧ cuts s (sp ++ [(f, s.length)]) = tokG [] s := by
  obtain ⟨h1, h2, h3, h4, h5, h6⟩ := h
  simp only at h6
  rcases h6 with ⟨h6, _⟩ | ⟨g, e, hg, h6⟩
  · omega
  · obtain rfl : f = g := by omega
    refine ⟨hg, ?_⟩
    rw [cuts_push, ← h6, List.drop_length]
    have : ((s.take s.length).drop f) ≠ [] := fun e => by
      have := congrArg List.length e
      simp at this; omega
    rw [tokG, if_neg this]
theorem cut2 {x y : D} : cut [x, y] 0 2 = [x, y] := rfl
theorem xor_neg {f : Nat} (hf : f ≤ 100001) : bitsI .xor .i64 (-1) (f : Int) = -(f : Int) - 1 := by
  have e1 : BitVec.ofInt 64 (-1) = BitVec.allOnes 64 := by decide
  have e2 : BitVec.ofInt 64 (f : Int) = BitVec.ofNat 64 f := BitVec.ofInt_natCast ..
  have e3 : (BitVec.allOnes 64 ^^^ BitVec.ofNat 64 f).toNat = 18446744073709551615 - f := by
    rw [BitVec.allOnes_xor, BitVec.toNat_not, BitVec.toNat_ofNat, Nat.mod_eq_of_lt (by omega)]
  show IntKind.i64.wrap (((BitVec.ofInt 64 (-1)) ^^^ (BitVec.ofInt 64 (f : Int))).toNat : Int) = _
  rw [e1, e2, e3]
  have key : ∀ n : Int, 9223372036854775808 ≤ n → n < 18446744073709551616 → IntKind.i64.wrap n = n - 18446744073709551616 := by
    intro n h1 h2
    show (if (true && decide (n % 18446744073709551616 ≥ 9223372036854775808)) = true then n % 18446744073709551616 - 18446744073709551616 else n % 18446744073709551616) = _
    rw [Int.emod_eq_of_lt (by omega) h2, decide_eq_true h1, Bool.true_and, if_pos rfl]
  rw [key _ (by omega) (by omega)]
  omega
def fillS (c : List (List UInt8)) (i : Nat) : List (List UInt8) := c.take i ++ List.replicate (c.length - i) []
theorem fillS_length {c : List (List UInt8)} {i : Nat} (h : i ≤ c.length) : (fillS c i).length = c.length := by simp [fillS]; omega
theorem fillS_set {c : List (List UInt8)} {i : Nat} (h : i < c.length) : (fillS c i).set i (c.getD i []) = fillS c (i + 1) := by
  have hl : (c.take i).length = i := by rw [List.length_take]; omega
  rw [fillS, fillS, List.set_append, if_neg (by omega), hl, Nat.sub_self, show c.length - i = (c.length - (i + 1)) + 1 by omega, List.replicate_succ, List.set_cons_zero, List.take_add_one, List.getElem?_eq_getElem h, List.getD_eq_getElem?_getD, List.getElem?_eq_getElem h]
  simp only [Option.toList_some, Option.getD_some, List.append_assoc, List.cons_append, List.nil_append]
theorem strs_set {l : List (List UInt8)} {i : Nat} {s : List UInt8} : (strs l).set i (S s) = strs (l.set i s) := by simp [strs, List.map_set]
theorem zeros_strs {n : Nat} : zerosD [.str .empty] n = strs (List.replicate n []) := by rw [zerosD_one, strs, List.map_replicate]; rfl
theorem cuts_getD {s : List UInt8} {l : List (Nat × Nat)} {i : Nat} (h : i < l.length) : (cuts s l).getD i [] = (s.take (l.getD i (0, 0)).2).drop (l.getD i (0, 0)).1 := by
  simp [cuts, List.getD_eq_getElem?_getD, h]
set_option maxHeartbeats 8000000 in
set_option maxRecDepth 100000 in
theorem fields_spec (s : List UInt8) (hs : s.length ≤ 100000) : Ctr Try.prog G 46 [.d (S s), .d (.fn (.func 48) [] [])] [] (.d (Ss (tokG [] s) false)) [] := by
  refine Ctr.pure (M := M0) hmix Try.func46 rfl go46 ?_
  simp (config := { maxSteps := 1000000 }) (disch := ((try simp only [awL]); omega)) only [nextC_more, nextC_over, bs_size, bs_extract, bs_toList, bs_append, byteAt_bs, bs_cells, nums_length, nums_getD, Try.f46, ↓awU, awV, awF, ofVal, ofVal0, isShift, aggK, forall_const, ↓reduceIte, ↓reduceDIte, ↓purePost, combine, idsA, cellsA, numsOf, srcA, calleeA, refsA, isScalar, scalarD, scalar0, AV.one, putL, unfA, implies_true, IntKind.signed, Nat.reduceAdd, Nat.reduceSub, Nat.reduceMul, Nat.reducePow, Nat.reduceDiv, Nat.reduceMod, Int.reduceAdd, Int.reduceSub, Int.reduceMul, Int.reducePow, Int.reduceNeg, Int.reduceToNat, Int.reduceLT, Int.reduceLE, Nat.reduceEqDiff, sidsB, Nat.reduceBEq, keyKD, isIntK, aggD, aggL, eqKs]
  refine LoopC.fr 16387 (α := List (Nat × Nat) × Int × Nat) (fun x => s.length - x.2.2) (fun x => [(5, .lsl 0 2 0 x.1.length), (6, .d (.int .i64 x.2.1))]) (fun x => [.row false (spansD x.1), .iter (bs s) x.2.2])
    (FI s) ([], -1, 0) ⟨Nat.zero_le _, Nat.le_refl _, fun q hq => (by cases hq), by simp only; omega, by simp only; omega, .inl ⟨by simp only; omega, rfl⟩⟩ ?_ ?_
  · exact ⟨[some 0, some 1], rfl, by simp, by simp [setsA, keepA, SWeak, AWeak], by simp [HWeak, BWeak, SWeak, AWeak, spansD, zerosD]⟩
  · rintro ⟨sp, st, p⟩ hI
    have hI' := hI
    obtain ⟨h1, h2, hsp, h4, h5, h6⟩ := hI'
    simp only at h1 h2 hsp h4 h5 h6
    have spl := spansD_length sp
    simp only [awK, Nat.reduceMod, Nat.reduceDiv, reduceIte]
    rcases Nat.lt_or_ge p s.length with hp | hp
    · have hd := dec_bounds s p
      simp (config := { maxSteps := 1000000 }) (disch := ((try simp only [awL]); omega)) only [nextC_more, nextC_over, bs_size, bs_extract, bs_toList, bs_append, byteAt_bs, bs_cells, nums_length, nums_getD, spl, ↓awU, awV, awF, ofVal, ofVal0, isShift, aggK, forall_const, ↓reduceIte, ↓reduceDIte, ↓purePost, combine, idsA, cellsA, numsOf, srcA, calleeA, refsA, isScalar, scalarD, scalar0, AV.one, putL, unfA, implies_true, IntKind.signed, Nat.reduceAdd, Nat.reduceSub, Nat.reduceMul, Nat.reducePow, Nat.reduceDiv, Nat.reduceMod, Int.reduceAdd, Int.reduceSub, Int.reduceMul, Int.reducePow, Int.reduceNeg, Int.reduceToNat, Int.reduceLT, Int.reduceLE, Nat.reduceEqDiff, sidsB, Nat.reduceBEq, keyKD, isIntK, aggD, aggL, eqKs]
      refine CallC.of (sepR2_spec (dec s p).1 hd.2) (by rfl) ?_
      rcases sep_dec hp with ⟨e1, e2, e3⟩ | ⟨e1, w1, w2, w3⟩
      · rw [e1]
        rcases (by omega : st < 0 ∨ 0 ≤ st) with hn | hn
        · have hN := FI_sep0 hs hI hp e3 hn
          simp (config := { maxSteps := 1000000 }) (disch := ((try simp only [awL]); omega)) only [nextC_more, nextC_over, bs_size, bs_extract, bs_toList, bs_append, byteAt_bs, bs_cells, nums_length, nums_getD, spl, ↓awU, awV, awF, ofVal, ofVal0, isShift, aggK, forall_const, ↓reduceIte, ↓reduceDIte, ↓purePost, combine, idsA, cellsA, numsOf, srcA, calleeA, refsA, isScalar, scalarD, scalar0, AV.one, putL, unfA, implies_true, IntKind.signed, Nat.reduceAdd, Nat.reduceSub, Nat.reduceMul, Nat.reducePow, Nat.reduceDiv, Nat.reduceMod, Int.reduceAdd, Int.reduceSub, Int.reduceMul, Int.reducePow, Int.reduceNeg, Int.reduceToNat, Int.reduceLT, Int.reduceLE, Nat.reduceEqDiff, sidsB, Nat.reduceBEq, keyKD, isIntK, aggD, aggL, eqKs]
          first
          | exact ⟨(sp, st, p + 1), hN, by simp only; omega, ⟨[some 0, some 1], rfl, by simp, by simp [setsA, keepA, SWeak, AWeak], by simp [HWeak, BWeak, SWeak, AWeak, e2]⟩⟩
          | exact ⟨by rfl, (sp, st, p + 1), hN, by simp only; omega, ⟨[some 0, some 1], rfl, by simp, by simp [setsA, keepA, SWeak, AWeak], by simp [HWeak, BWeak, SWeak, AWeak, e2]⟩⟩
          | trace_state
        · obtain ⟨f, rfl⟩ : ∃ f : Nat, st = f := ⟨st.toNat, by omega⟩
          obtain ⟨hf, hN⟩ := FI_sep1 hs hI hp e3
          have hpush := spansD_push sp (f, p)
          simp only at hpush
          simp (config := { maxSteps := 1000000 }) (disch := ((try simp only [awL]); omega)) only [nextC_more, nextC_over, bs_size, bs_extract, bs_toList, bs_append, byteAt_bs, bs_cells, nums_length, nums_getD, spl, ↓awU, awV, awF, ofVal, ofVal0, isShift, aggK, forall_const, ↓reduceIte, ↓reduceDIte, ↓purePost, combine, idsA, cellsA, numsOf, srcA, calleeA, refsA, isScalar, scalarD, scalar0, AV.one, putL, unfA, implies_true, IntKind.signed, Nat.reduceAdd, Nat.reduceSub, Nat.reduceMul, Nat.reducePow, Nat.reduceDiv, Nat.reduceMod, Int.reduceAdd, Int.reduceSub, Int.reduceMul, Int.reducePow, Int.reduceNeg, Int.reduceToNat, Int.reduceLT, Int.reduceLE, Nat.reduceEqDiff, sidsB, Nat.reduceBEq, keyKD, isIntK, aggD, aggL, eqKs]
          first
          | exact ⟨(sp ++ [(f, p)], -(f : Int) - 1, p + 1), hN, by simp only; omega, ⟨[some 3, some 1], rfl, by simp, by simp [setsA, keepA, SWeak, AWeak, xor_neg (show f ≤ 100001 by omega)], by simp [HWeak, BWeak, SWeak, AWeak, e2, hpush, cut2]⟩⟩
          | exact ⟨by rfl, (sp ++ [(f, p)], -(f : Int) - 1, p + 1), hN, by simp only; omega, ⟨[some 3, some 1], rfl, by simp, by simp [setsA, keepA, SWeak, AWeak, xor_neg (show f ≤ 100001 by omega)], by simp [HWeak, BWeak, SWeak, AWeak, e2, hpush, cut2]⟩⟩
          | trace_state
      · rw [e1]
        rcases (by omega : st < 0 ∨ 0 ≤ st) with hn | hn
        · have hN := FI_tok0 hs hI w1 w2 w3 hn
          simp (config := { maxSteps := 1000000 }) (disch := ((try simp only [awL]); omega)) only [nextC_more, nextC_over, bs_size, bs_extract, bs_toList, bs_append, byteAt_bs, bs_cells, nums_length, nums_getD, spl, ↓awU, awV, awF, ofVal, ofVal0, isShift, aggK, forall_const, ↓reduceIte, ↓reduceDIte, ↓purePost, combine, idsA, cellsA, numsOf, srcA, calleeA, refsA, isScalar, scalarD, scalar0, AV.one, putL, unfA, implies_true, IntKind.signed, Nat.reduceAdd, Nat.reduceSub, Nat.reduceMul, Nat.reducePow, Nat.reduceDiv, Nat.reduceMod, Int.reduceAdd, Int.reduceSub, Int.reduceMul, Int.reducePow, Int.reduceNeg, Int.reduceToNat, Int.reduceLT, Int.reduceLE, Nat.reduceEqDiff, sidsB, Nat.reduceBEq, keyKD, isIntK, aggD, aggL, eqKs]
          first
          | exact ⟨(sp, (p : Int), p + (dec s p).2), hN, by simp only; omega, ⟨[some 0, some 1], rfl, by simp, by simp [setsA, keepA, SWeak, AWeak], by simp [HWeak, BWeak, SWeak, AWeak]⟩⟩
          | exact ⟨by rfl, (sp, (p : Int), p + (dec s p).2), hN, by simp only; omega, ⟨[some 0, some 1], rfl, by simp, by simp [setsA, keepA, SWeak, AWeak], by simp [HWeak, BWeak, SWeak, AWeak]⟩⟩
          | trace_state
        · obtain ⟨f, rfl⟩ : ∃ f : Nat, st = f := ⟨st.toNat, by omega⟩
          have hN := FI_tok1 hs hI w2 w3
          simp (config := { maxSteps := 1000000 }) (disch := ((try simp only [awL]); omega)) only [nextC_more, nextC_over, bs_size, bs_extract, bs_toList, bs_append, byteAt_bs, bs_cells, nums_length, nums_getD, spl, ↓awU, awV, awF, ofVal, ofVal0, isShift, aggK, forall_const, ↓reduceIte, ↓reduceDIte, ↓purePost, combine, idsA, cellsA, numsOf, srcA, calleeA, refsA, isScalar, scalarD, scalar0, AV.one, putL, unfA, implies_true, IntKind.signed, Nat.reduceAdd, Nat.reduceSub, Nat.reduceMul, Nat.reducePow, Nat.reduceDiv, Nat.reduceMod, Int.reduceAdd, Int.reduceSub, Int.reduceMul, Int.reducePow, Int.reduceNeg, Int.reduceToNat, Int.reduceLT, Int.reduceLE, Nat.reduceEqDiff, sidsB, Nat.reduceBEq, keyKD, isIntK, aggD, aggL, eqKs]
          first
          | exact ⟨(sp, (f : Int), p + (dec s p).2), hN, by simp only; omega, ⟨[some 0, some 1], rfl, by simp, by simp [setsA, keepA, SWeak, AWeak], by simp [HWeak, BWeak, SWeak, AWeak]⟩⟩
          | exact ⟨by rfl, (sp, (f : Int), p + (dec s p).2), hN, by simp only; omega, ⟨[some 0, some 1], rfl, by simp, by simp [setsA, keepA, SWeak, AWeak], by simp [HWeak, BWeak, SWeak, AWeak]⟩⟩
          | trace_state
    · obtain rfl : p = s.length := by omega
      rcases (by omega : st < 0 ∨ 0 ≤ st) with hn | hn
      · have hres := FI_end0 hI hn
        simp (config := { maxSteps := 1000000 }) (disch := ((try simp only [awL]); omega)) only [nextC_more, nextC_over, bs_size, bs_extract, bs_toList, bs_append, byteAt_bs, bs_cells, nums_length, nums_getD, spl, ↓awU, awV, awF, ofVal, ofVal0, isShift, aggK, forall_const, ↓reduceIte, ↓reduceDIte, ↓purePost, combine, idsA, cellsA, numsOf, srcA, calleeA, refsA, isScalar, scalarD, scalar0, AV.one, putL, unfA, implies_true, IntKind.signed, Nat.reduceAdd, Nat.reduceSub, Nat.reduceMul, Nat.reducePow, Nat.reduceDiv, Nat.reduceMod, Int.reduceAdd, Int.reduceSub, Int.reduceMul, Int.reducePow, Int.reduceNeg, Int.reduceToNat, Int.reduceLT, Int.reduceLE, Nat.reduceEqDiff, sidsB, Nat.reduceBEq, keyKD, isIntK, aggD, aggL, eqKs]
        have hcl : (cuts s sp).length = sp.length := List.length_map ..
        refine LoopC.fr 422212465066497 (α := Nat) (fun i => sp.length - i) (fun i => [(49, .d (.int .i64 i))]) (fun i => [.row false (spansD sp), .dead, .row false (strs (fillS (cuts s sp) i))]) (fun i => i ≤ sp.length) 0 (Nat.zero_le _) ?_ ?_
        · exact ⟨[some 0, some 1, some 2], rfl, by simp, by simp [setsA, keepA, SWeak, AWeak], by simp [HWeak, BWeak, SWeak, AWeak, fillS, hcl, zeros_strs]⟩
        · intro i hi
          have hfl := fillS_length (c := cuts s sp) (i := i) (by omega)
          have sl := @strs_length (fillS (cuts s sp) i)
          simp only [awK, Nat.reduceMod, Nat.reduceDiv, reduceIte]
          rcases Nat.lt_or_ge i sp.length with h | h
          · have hg := spansD_get h
            have hb := hsp _ (show sp.getD i (0, 0) ∈ sp by rw [List.getD_eq_getElem?_getD, List.getElem?_eq_getElem h]; exact List.getElem_mem h)
            have hset := fillS_set (c := cuts s sp) (i := i) (by omega)
            rw [cuts_getD h] at hset
            have hset' : (strs (fillS (cuts s sp) i)).set i (S ((s.take (sp.getD i (0, 0)).2).drop (sp.getD i (0, 0)).1)) = strs (fillS (cuts s sp) (i + 1)) := by rw [strs_set, hset]
            generalize sp.getD i (0, 0) = ab at *
            obtain ⟨a, b⟩ := ab
            simp only at hg hb hset'
            obtain ⟨hb1, hb2⟩ := hb
            simp (config := { maxSteps := 1000000 }) (disch := ((try simp only [awL]); omega)) only [nextC_more, nextC_over, bs_size, bs_extract, bs_toList, bs_append, byteAt_bs, bs_cells, nums_length, nums_getD, sl, hcl, hfl, spl, hg, hset', ↓awU, awV, awF, ofVal, ofVal0, isShift, aggK, forall_const, ↓reduceIte, ↓reduceDIte, ↓purePost, combine, idsA, cellsA, numsOf, srcA, calleeA, refsA, isScalar, scalarD, scalar0, AV.one, putL, unfA, implies_true, IntKind.signed, Nat.reduceAdd, Nat.reduceSub, Nat.reduceMul, Nat.reducePow, Nat.reduceDiv, Nat.reduceMod, Int.reduceAdd, Int.reduceSub, Int.reduceMul, Int.reducePow, Int.reduceNeg, Int.reduceToNat, Int.reduceLT, Int.reduceLE, Nat.reduceEqDiff, sidsB, Nat.reduceBEq, keyKD, isIntK, aggD, aggL, eqKs]
            first
            | exact ⟨i + 1, h, by simp only; omega, ⟨[some 0, some 1, some 2], rfl, by simp, by simp [setsA, keepA, SWeak, AWeak], by simp [HWeak, BWeak, SWeak, AWeak]⟩⟩
            | exact ⟨by rfl, i + 1, h, by simp only; omega, ⟨[some 0, some 1, some 2], rfl, by simp, by simp [setsA, keepA, SWeak, AWeak], by simp [HWeak, BWeak, SWeak, AWeak]⟩⟩
            | trace_state
          · obtain rfl : i = sp.length := by omega
            have he : fillS (cuts s sp) sp.length = cuts s sp := by rw [← hcl, fillS, List.take_length, Nat.sub_self]; simp
            rw [he] at sl ⊢
            have hcut : cut (strs (cuts s sp)) 0 sp.length = strs (cuts s sp) := cut_full (by omega)
            rw [← hres]
            simp (config := { maxSteps := 1000000 }) (disch := ((try simp only [awL]); omega)) only [nextC_more, nextC_over, bs_size, bs_extract, bs_toList, bs_append, byteAt_bs, bs_cells, nums_length, nums_getD, sl, hcl, hcut, strs_unf, ↓awU, awV, awF, ofVal, ofVal0, isShift, aggK, forall_const, ↓reduceIte, ↓reduceDIte, ↓purePost, combine, idsA, cellsA, numsOf, srcA, calleeA, refsA, isScalar, scalarD, scalar0, AV.one, putL, unfA, implies_true, IntKind.signed, Nat.reduceAdd, Nat.reduceSub, Nat.reduceMul, Nat.reducePow, Nat.reduceDiv, Nat.reduceMod, Int.reduceAdd, Int.reduceSub, Int.reduceMul, Int.reducePow, Int.reduceNeg, Int.reduceToNat, Int.reduceLT, Int.reduceLE, Nat.reduceEqDiff, sidsB, Nat.reduceBEq, keyKD, isIntK, aggD, aggL, eqKs]
            first
            | done
            | rfl
            | (simp only [Ss, hcl])
            | trace_state
      · obtain ⟨f, rfl⟩ : ∃ f : Nat, st = f := ⟨st.toNat, by omega⟩
        obtain ⟨hf, hres⟩ := FI_end1 hI
        simp (config := { maxSteps := 1000000 }) (disch := ((try simp only [awL]); omega)) only [nextC_more, nextC_over, bs_size, bs_extract, bs_toList, bs_append, byteAt_bs, bs_cells, nums_length, nums_getD, spl, cut2, ↓awU, awV, awF, ofVal, ofVal0, isShift, aggK, forall_const, ↓reduceIte, ↓reduceDIte, ↓purePost, combine, idsA, cellsA, numsOf, srcA, calleeA, refsA, isScalar, scalarD, scalar0, AV.one, putL, unfA, implies_true, IntKind.signed, Nat.reduceAdd, Nat.reduceSub, Nat.reduceMul, Nat.reducePow, Nat.reduceDiv, Nat.reduceMod, Int.reduceAdd, Int.reduceSub, Int.reduceMul, Int.reducePow, Int.reduceNeg, Int.reduceToNat, Int.reduceLT, Int.reduceLE, Nat.reduceEqDiff, sidsB, Nat.reduceBEq, keyKD, isIntK, aggD, aggL, eqKs]
        have hsp2 : ∀ q ∈ sp ++ [(f, s.length)], q.1 ≤ q.2 ∧ q.2 ≤ s.length := fun q hq => by
          rcases List.mem_append.1 hq with hq | hq
          · exact hsp q hq
          · simp at hq; subst hq; exact ⟨by simp only; omega, Nat.le_refl _⟩
        have hpush := spansD_push sp (f, s.length)
        have hlen : (sp ++ [(f, s.length)]).length = sp.length + 1 := by simp
        simp only at hpush
        try refine ⟨by rfl, ?_⟩
        rw [← hpush]
        clear hpush h6 hI hsp
        generalize hspg : sp ++ [(f, s.length)] = sp2 at *
        have hlen' : sp.length + 1 = sp2.length := hlen.symm
        have spl2 := spansD_length sp2
        rw [hlen']
        clear hlen hspg spl
        have hcl : (cuts s sp2).length = sp2.length := List.length_map ..
        refine LoopC.fr 422212465066497 (α := Nat) (fun i => sp2.length - i) (fun i => [(49, .d (.int .i64 i))]) (fun i => [.dead, .dead, .dead, .row false (spansD sp2), .row false (strs (fillS (cuts s sp2) i))]) (fun i => i ≤ sp2.length) 0 (Nat.zero_le _) ?_ ?_
        · exact ⟨[some 0, some 1, some 2, some 3, some 4], rfl, by simp, by simp [setsA, keepA, SWeak, AWeak], by simp [HWeak, BWeak, SWeak, AWeak, fillS, hcl, zeros_strs]⟩
        · intro i hi
          have hfl := fillS_length (c := cuts s sp2) (i := i) (by omega)
          have sl := @strs_length (fillS (cuts s sp2) i)
          simp only [awK, Nat.reduceMod, Nat.reduceDiv, reduceIte]
          rcases Nat.lt_or_ge i sp2.length with h | h
          · have hg := spansD_get h
            have hb := hsp2 _ (show sp2.getD i (0, 0) ∈ sp2 by rw [List.getD_eq_getElem?_getD, List.getElem?_eq_getElem h]; exact List.getElem_mem h)
            have hset := fillS_set (c := cuts s sp2) (i := i) (by omega)
            rw [cuts_getD h] at hset
            have hset' : (strs (fillS (cuts s sp2) i)).set i (S ((s.take (sp2.getD i (0, 0)).2).drop (sp2.getD i (0, 0)).1)) = strs (fillS (cuts s sp2) (i + 1)) := by rw [strs_set, hset]
            generalize sp2.getD i (0, 0) = ab at *
            obtain ⟨a, b⟩ := ab
            simp only at hg hb hset'
            obtain ⟨hb1, hb2⟩ := hb
            simp (config := { maxSteps := 1000000 }) (disch := ((try simp only [awL]); omega)) only [nextC_more, nextC_over, bs_size, bs_extract, bs_toList, bs_append, byteAt_bs, bs_cells, nums_length, nums_getD, sl, hcl, hfl, spl2, hg, hset', ↓awU, awV, awF, ofVal, ofVal0, isShift, aggK, forall_const, ↓reduceIte, ↓reduceDIte, ↓purePost, combine, idsA, cellsA, numsOf, srcA, calleeA, refsA, isScalar, scalarD, scalar0, AV.one, putL, unfA, implies_true, IntKind.signed, Nat.reduceAdd, Nat.reduceSub, Nat.reduceMul, Nat.reducePow, Nat.reduceDiv, Nat.reduceMod, Int.reduceAdd, Int.reduceSub, Int.reduceMul, Int.reducePow, Int.reduceNeg, Int.reduceToNat, Int.reduceLT, Int.reduceLE, Nat.reduceEqDiff, sidsB, Nat.reduceBEq, keyKD, isIntK, aggD, aggL, eqKs]
            first
            | exact ⟨i + 1, h, by simp only; omega, ⟨[some 0, some 1, some 2, some 3, some 4], rfl, by simp, by simp [setsA, keepA, SWeak, AWeak], by simp [HWeak, BWeak, SWeak, AWeak]⟩⟩
            | exact ⟨by rfl, i + 1, h, by simp only; omega, ⟨[some 0, some 1, some 2, some 3, some 4], rfl, by simp, by simp [setsA, keepA, SWeak, AWeak], by simp [HWeak, BWeak, SWeak, AWeak]⟩⟩
            | trace_state
          · obtain rfl : i = sp2.length := by omega
            have he : fillS (cuts s sp2) sp2.length = cuts s sp2 := by rw [← hcl, fillS, List.take_length, Nat.sub_self]; simp
            rw [he] at sl ⊢
            have hcut : cut (strs (cuts s sp2)) 0 sp2.length = strs (cuts s sp2) := cut_full (by omega)
            rw [← hres]
            simp (config := { maxSteps := 1000000 }) (disch := ((try simp only [awL]); omega)) only [nextC_more, nextC_over, bs_size, bs_extract, bs_toList, bs_append, byteAt_bs, bs_cells, nums_length, nums_getD, sl, hcl, hcut, strs_unf, ↓awU, awV, awF, ofVal, ofVal0, isShift, aggK, forall_const, ↓reduceIte, ↓reduceDIte, ↓purePost, combine, idsA, cellsA, numsOf, srcA, calleeA, refsA, isScalar, scalarD, scalar0, AV.one, putL, unfA, implies_true, IntKind.signed, Nat.reduceAdd, Nat.reduceSub, Nat.reduceMul, Nat.reducePow, Nat.reduceDiv, Nat.reduceMod, Int.reduceAdd, Int.reduceSub, Int.reduceMul, Int.reducePow, Int.reduceNeg, Int.reduceToNat, Int.reduceLT, Int.reduceLE, Nat.reduceEqDiff, sidsB, Nat.reduceBEq, keyKD, isIntK, aggD, aggL, eqKs]
            first
            | done
            | rfl
            | (simp only [Ss, hcl])
            | trace_state
set_option maxRecDepth 100000 in
theorem tokens_spec (s : List UInt8) (hs : s.length ≤ 100000) : Ctr Try.prog G 36 [.d (S s)] [] (.d (Ss (tokL s) false)) [] := by
  refine Ctr.pure (M := M0) hmix Try.func36 rfl go36 ?_
  simp (config := { maxSteps := 1000000 }) (disch := ((try simp only [awL]); omega)) only [nextC_more, nextC_over, bs_size, bs_extract, bs_toList, bs_append, byteAt_bs, bs_cells, nums_length, nums_getD, Try.f36, ↓awU, awV, awF, ofVal, ofVal0, isShift, aggK, forall_const, ↓reduceIte, ↓reduceDIte, ↓purePost, combine, idsA, cellsA, numsOf, srcA, calleeA, refsA, isScalar, scalarD, scalar0, AV.one, putL, unfA, implies_true, IntKind.signed, Nat.reduceAdd, Nat.reduceSub, Nat.reduceMul, Nat.reducePow, Nat.reduceDiv, Nat.reduceMod, Int.reduceAdd, Int.reduceSub, Int.reduceMul, Int.reducePow, Int.reduceNeg, Int.reduceToNat, Int.reduceLT, Int.reduceLE, Nat.reduceEqDiff, sidsB, Nat.reduceBEq, keyKD, isIntK, aggD, aggL, eqKs]
  refine CallC.pure (fold_spec s (by omega)) ?_
  simp (config := { maxSteps := 1000000 }) (disch := ((try simp only [awL]); omega)) only [nextC_more, nextC_over, bs_size, bs_extract, bs_toList, bs_append, byteAt_bs, bs_cells, nums_length, nums_getD, ↓awU, awV, awF, ofVal, ofVal0, isShift, aggK, forall_const, ↓reduceIte, ↓reduceDIte, ↓purePost, combine, idsA, cellsA, numsOf, srcA, calleeA, refsA, isScalar, scalarD, scalar0, AV.one, putL, unfA, implies_true, IntKind.signed, Nat.reduceAdd, Nat.reduceSub, Nat.reduceMul, Nat.reducePow, Nat.reduceDiv, Nat.reduceMod, Int.reduceAdd, Int.reduceSub, Int.reduceMul, Int.reducePow, Int.reduceNeg, Int.reduceToNat, Int.reduceLT, Int.reduceLE, Nat.reduceEqDiff, sidsB, Nat.reduceBEq, keyKD, isIntK, aggD, aggL, eqKs]
  refine CallC.of (fields_spec (s.map foldB) (by rw [List.length_map]; omega)) (by rfl) ?_
  simp (config := { maxSteps := 1000000 }) (disch := ((try simp only [awL]); omega)) only [nextC_more, nextC_over, bs_size, bs_extract, bs_toList, bs_append, byteAt_bs, bs_cells, nums_length, nums_getD, ↓awU, awV, awF, ofVal, ofVal0, isShift, aggK, forall_const, ↓reduceIte, ↓reduceDIte, ↓purePost, combine, idsA, cellsA, numsOf, srcA, calleeA, refsA, isScalar, scalarD, scalar0, AV.one, putL, unfA, implies_true, IntKind.signed, Nat.reduceAdd, Nat.reduceSub, Nat.reduceMul, Nat.reducePow, Nat.reduceDiv, Nat.reduceMod, Int.reduceAdd, Int.reduceSub, Int.reduceMul, Int.reducePow, Int.reduceNeg, Int.reduceToNat, Int.reduceLT, Int.reduceLE, Nat.reduceEqDiff, sidsB, Nat.reduceBEq, keyKD, isIntK, aggD, aggL, eqKs]
  try rfl
end Go.Proofs.Ytpnhbjabnnibcaa

namespace Go.Proofs.Ytpnhbjabnnibcaa
open Go Go.Proofs Go.Abs
variable {G : Globals}
/-! Sets of texts: the reference. -/
abbrev MS : Muts := fun f => Nat.beq f 2000048
theorem insAt_stop {s : List UInt8} {l : List (List UInt8)} {k : Nat} (hk : k ≤ l.length) (h1 : ∀ j, j < k → bl (l.getD j []) s = true) (h2 : k < l.length → bl (l.getD k []) s = false) : insAt s l = k := insAt_eq hk h1 h2
theorem strs_cut {l : List (List UInt8)} {k : Nat} : cut (strs l) k (l.length - k) = strs (l.drop k) := by
  unfold cut strs
  rw [← List.map_drop, ← List.map_take, List.take_of_length_le (by rw [List.length_drop]; omega)]
theorem strs_cut_len {l : List (List UInt8)} {k : Nat} : (cut (strs l) k (l.length - k)).length = l.length - k := by rw [strs_cut, strs_length, List.length_drop]
theorem strs_ins {l : List (List UInt8)} {k : Nat} {s : List UInt8} : (cut (D.str (bs s) :: cut (strs l) k (l.length - k)) 0 (1 + (l.length - k))) = strs (s :: l.drop k) := by
  rw [strs_cut]
  refine cut_full ?_
  rw [List.length_cons, strs_length, List.length_drop]; omega
theorem strs_app {l m : List (List UInt8)} {k : Nat} : (strs l).take k ++ strs m = strs (l.take k ++ m) := by simp [strs, List.map_take]
theorem setL_nil : setL [] = [] := rfl
theorem insL_length (l : List (List UInt8)) (s : List UInt8) : (insL l s).length ≤ l.length + 1 := by
  unfold insL
  split
  · omega
  · have := insAt_le s l
    simp; omega
theorem setL_length : ∀ (n : Nat) (l : List (List UInt8)), l.length = n → (setL l).length ≤ n := by
  have key : ∀ (l m : List (List UInt8)), (l.foldl insL m).length ≤ m.length + l.length := by
    intro l
    induction l with
    | nil => intro m; simp
    | cons s l ih =>
      intro m
      rw [List.foldl_cons, List.length_cons]
      have := ih (insL m s)
      have := insL_length m s
      omega
  intro n l hn
  have := key l []
  simp at this
  unfold setL
  omega
set_option maxHeartbeats 4000000 in
set_option maxRecDepth 100000 in
theorem rset_spec (l : List (List UInt8)) (full : Bool) (hl : l.length ≤ 100000) : Ctr Try.prog G 37 [.d (Ss l full)] [] (.d (Ss (setL l) false)) [] := by
  refine Ctr.pure (M := MS) hmix Try.func37 rfl go37 ?_
  simp (config := { maxSteps := 1000000 }) (disch := ((try simp only [awL]); omega)) only [nextC_more, nextC_over, bs_size, bs_extract, bs_toList, bs_append, byteAt_bs, bs_cells, nums_length, nums_getD, Try.f37, ↓awU, awV, awF, ofVal, ofVal0, isShift, aggK, forall_const, ↓reduceIte, ↓reduceDIte, ↓purePost, combine, idsA, cellsA, numsOf, srcA, calleeA, refsA, isScalar, scalarD, scalar0, AV.one, putL, unfA, implies_true, IntKind.signed, Nat.reduceAdd, Nat.reduceSub, Nat.reduceMul, Nat.reducePow, Nat.reduceDiv, Nat.reduceMod, Int.reduceAdd, Int.reduceSub, Int.reduceMul, Int.reducePow, Int.reduceNeg, Int.reduceToNat, Int.reduceLT, Int.reduceLE, Nat.reduceEqDiff, sidsB, Nat.reduceBEq, keyKD, isIntK, aggD, aggL, eqKs]
  refine LoopC.fr 384 (α := Nat) (fun i => l.length - i) (fun i => [(3, .lsl 0 1 0 (setL (l.take i)).length), (9, .d (.int .i64 i))]) (fun i => [.row false (strs (setL (l.take i)))]) (fun i => i ≤ l.length) 0 (Nat.zero_le _) ?_ ?_
  · exact ⟨[none], rfl, by simp, by simp [setsA, keepA, SWeak, AWeak, setL_nil], by simp [HWeak, BWeak, SWeak, AWeak, setL_nil, strs]⟩
  · intro i hi
    have sll := @strs_length l
    have so := @strs_length (setL (l.take i))
    have sb := setL_length _ (l.take i) rfl
    rw [List.length_take] at sb
    simp only [awK, Nat.reduceMod, Nat.reduceDiv, reduceIte]
    rcases Nat.lt_or_ge i l.length with h | h
    · have hn := setL_take h
      have g1 := strs_getD h
      generalize l.getD i [] = s at *
      generalize hnx : setL (l.take (i + 1)) = nx at *
      generalize setL (l.take i) = out at *
      simp (config := { maxSteps := 1000000 }) (disch := ((try simp only [awL]); omega)) only [nextC_more, nextC_over, bs_size, bs_extract, bs_toList, bs_append, byteAt_bs, bs_cells, nums_length, nums_getD, sll, g1, ↓awU, awV, awF, ofVal, ofVal0, isShift, aggK, forall_const, ↓reduceIte, ↓reduceDIte, ↓purePost, combine, idsA, cellsA, numsOf, srcA, calleeA, refsA, isScalar, scalarD, scalar0, AV.one, putL, unfA, implies_true, IntKind.signed, Nat.reduceAdd, Nat.reduceSub, Nat.reduceMul, Nat.reducePow, Nat.reduceDiv, Nat.reduceMod, Int.reduceAdd, Int.reduceSub, Int.reduceMul, Int.reducePow, Int.reduceNeg, Int.reduceToNat, Int.reduceLT, Int.reduceLE, Nat.reduceEqDiff, sidsB, Nat.reduceBEq, keyKD, isIntK, aggD, aggL, eqKs]
      refine LoopC.fr 270582940584 (α := Nat) (fun k => out.length - k) (fun k => [(6, .d (.int .i64 k))]) (fun _ => [.row false (strs out)]) (fun k => k ≤ out.length ∧ ∀ j, j < k → bl (out.getD j []) s = true) 0 ⟨Nat.zero_le _, fun j h => by omega⟩ ?_ ?_
      · exact ⟨[some 0], rfl, by simp, by simp [setsA, keepA, SWeak, AWeak], by simp [HWeak, BWeak, SWeak, AWeak]⟩
      · rintro k ⟨hk, hb⟩
        simp only [awK, Nat.reduceMod, Nat.reduceDiv, reduceIte]
        rcases Nat.lt_or_ge k out.length with h2 | h2
        · have g2 := strs_getD h2
          cases hc : bl (out.getD k []) s
          · have hat := insAt_stop hk hb (fun _ => hc)
            unfold insL at hn
            rw [hat] at hn
            by_cases he : out.getD k [] = s
            · rw [if_pos ⟨h2, he⟩] at hn
              subst hn
              rw [he] at g2 hc
              simp (config := { maxSteps := 1000000 }) (disch := ((try simp only [awL]); omega)) only [nextC_more, nextC_over, bs_size, bs_extract, bs_toList, bs_append, byteAt_bs, bs_cells, nums_length, nums_getD, so, g2, hc, beq_self_eq_true, ↓awU, awV, awF, ofVal, ofVal0, isShift, aggK, forall_const, ↓reduceIte, ↓reduceDIte, ↓purePost, combine, idsA, cellsA, numsOf, srcA, calleeA, refsA, isScalar, scalarD, scalar0, AV.one, putL, unfA, implies_true, IntKind.signed, Nat.reduceAdd, Nat.reduceSub, Nat.reduceMul, Nat.reducePow, Nat.reduceDiv, Nat.reduceMod, Int.reduceAdd, Int.reduceSub, Int.reduceMul, Int.reducePow, Int.reduceNeg, Int.reduceToNat, Int.reduceLT, Int.reduceLE, Nat.reduceEqDiff, sidsB, Nat.reduceBEq, keyKD, isIntK, aggD, aggL, eqKs]
              exact ⟨i + 1, h, by simp only; omega, ⟨[some 0], rfl, by simp, by simp [setsA, keepA, SWeak, AWeak, hnx], by simp [HWeak, BWeak, SWeak, AWeak, hnx]⟩⟩
            · rw [if_neg (fun q => he q.2)] at hn
              have hne : (out.getD k [] == s) = false := by simpa using he
              simp (config := { maxSteps := 1000000 }) (disch := ((try simp only [awL]); omega)) only [nextC_more, nextC_over, bs_size, bs_extract, bs_toList, bs_append, byteAt_bs, bs_cells, nums_length, nums_getD, so, g2, hc, hne, ↓awU, awV, awF, ofVal, ofVal0, isShift, aggK, forall_const, ↓reduceIte, ↓reduceDIte, ↓purePost, combine, idsA, cellsA, numsOf, srcA, calleeA, refsA, isScalar, scalarD, scalar0, AV.one, putL, unfA, implies_true, IntKind.signed, Nat.reduceAdd, Nat.reduceSub, Nat.reduceMul, Nat.reducePow, Nat.reduceDiv, Nat.reduceMod, Int.reduceAdd, Int.reduceSub, Int.reduceMul, Int.reducePow, Int.reduceNeg, Int.reduceToNat, Int.reduceLT, Int.reduceLE, Nat.reduceEqDiff, sidsB, Nat.reduceBEq, keyKD, isIntK, aggD, aggL, eqKs]
              have hrow : (strs out).take k ++ cut (D.str (bs s) :: cut (strs out) k (out.length - k)) 0 (1 + (out.length - k)) = strs nx := by rw [strs_ins, strs_app, hn]
              have hln : nx.length = k + (1 + (out.length - k)) := by rw [← hn]; simp; omega
              refine ⟨strs_cut_len, by rw [strs_ins, strs_length, List.length_cons, List.length_drop]; omega, by rfl, i + 1, h, by simp only; omega, ⟨[some 3], rfl, by simp, by simp [setsA, keepA, SWeak, AWeak, hnx, hln], ?_⟩⟩
              simp only [HWeak, BWeak, hnx, List.getElem?_cons_succ, List.getElem?_cons_zero]
              exact ⟨⟨hrow, fun h => h⟩, trivial⟩
          · simp (config := { maxSteps := 1000000 }) (disch := ((try simp only [awL]); omega)) only [nextC_more, nextC_over, bs_size, bs_extract, bs_toList, bs_append, byteAt_bs, bs_cells, nums_length, nums_getD, so, g2, hc, ↓awU, awV, awF, ofVal, ofVal0, isShift, aggK, forall_const, ↓reduceIte, ↓reduceDIte, ↓purePost, combine, idsA, cellsA, numsOf, srcA, calleeA, refsA, isScalar, scalarD, scalar0, AV.one, putL, unfA, implies_true, IntKind.signed, Nat.reduceAdd, Nat.reduceSub, Nat.reduceMul, Nat.reducePow, Nat.reduceDiv, Nat.reduceMod, Int.reduceAdd, Int.reduceSub, Int.reduceMul, Int.reducePow, Int.reduceNeg, Int.reduceToNat, Int.reduceLT, Int.reduceLE, Nat.reduceEqDiff, sidsB, Nat.reduceBEq, keyKD, isIntK, aggD, aggL, eqKs]
            exact ⟨k + 1, ⟨h2, fun j hj => by
              rcases Nat.lt_or_ge j k with q | q
              · exact hb j q
              · obtain rfl : j = k := by omega
                exact hc⟩, by simp only; omega, ⟨[some 0], rfl, by simp, by simp [setsA, keepA, SWeak, AWeak], by simp [HWeak, BWeak, SWeak, AWeak]⟩⟩
        · obtain rfl : k = out.length := by omega
          have hat := insAt_stop hk hb (fun q => absurd q (Nat.lt_irrefl _))
          unfold insL at hn
          rw [hat, if_neg (fun q => absurd q.1 (Nat.lt_irrefl _))] at hn
          simp (config := { maxSteps := 1000000 }) (disch := ((try simp only [awL]); omega)) only [nextC_more, nextC_over, bs_size, bs_extract, bs_toList, bs_append, byteAt_bs, bs_cells, nums_length, nums_getD, so, ↓awU, awV, awF, ofVal, ofVal0, isShift, aggK, forall_const, ↓reduceIte, ↓reduceDIte, ↓purePost, combine, idsA, cellsA, numsOf, srcA, calleeA, refsA, isScalar, scalarD, scalar0, AV.one, putL, unfA, implies_true, IntKind.signed, Nat.reduceAdd, Nat.reduceSub, Nat.reduceMul, Nat.reducePow, Nat.reduceDiv, Nat.reduceMod, Int.reduceAdd, Int.reduceSub, Int.reduceMul, Int.reducePow, Int.reduceNeg, Int.reduceToNat, Int.reduceLT, Int.reduceLE, Nat.reduceEqDiff, sidsB, Nat.reduceBEq, keyKD, isIntK, aggD, aggL, eqKs]
          have hrow0 : strs out ++ cut (D.str (bs s) :: cut (strs out) out.length (out.length - out.length)) 0 (1 + (out.length - out.length)) = strs nx := by
            rw [strs_ins, ← hn, List.take_length]; simp [strs]
          have hln : nx.length = out.length + (1 + (out.length - out.length)) := by rw [← hn]; simp
          refine ⟨strs_cut_len, by rw [strs_ins, strs_length, List.length_cons, List.length_drop]; omega, by rfl, i + 1, h, by simp only; omega, ⟨[some 3], rfl, by simp, by simp [setsA, keepA, SWeak, AWeak, hnx, hln], ?_⟩⟩
          simp only [HWeak, BWeak, hnx, List.getElem?_cons_succ, List.getElem?_cons_zero]
          exact ⟨⟨hrow0, fun h => h⟩, trivial⟩
    · obtain rfl : i = l.length := by omega
      rw [List.take_length] at *
      have hcut : cut (strs (setL l)) 0 (setL l).length = strs (setL l) := cut_full so
      simp (config := { maxSteps := 1000000 }) (disch := ((try simp only [awL]); omega)) only [nextC_more, nextC_over, bs_size, bs_extract, bs_toList, bs_append, byteAt_bs, bs_cells, nums_length, nums_getD, sll, so, hcut, strs_unf, ↓awU, awV, awF, ofVal, ofVal0, isShift, aggK, forall_const, ↓reduceIte, ↓reduceDIte, ↓purePost, combine, idsA, cellsA, numsOf, srcA, calleeA, refsA, isScalar, scalarD, scalar0, AV.one, putL, unfA, implies_true, IntKind.signed, Nat.reduceAdd, Nat.reduceSub, Nat.reduceMul, Nat.reducePow, Nat.reduceDiv, Nat.reduceMod, Int.reduceAdd, Int.reduceSub, Int.reduceMul, Int.reducePow, Int.reduceNeg, Int.reduceToNat, Int.reduceLT, Int.reduceLE, Nat.reduceEqDiff, sidsB, Nat.reduceBEq, keyKD, isIntK, aggD, aggL, eqKs]
      try rfl
end Go.Proofs.Ytpnhbjabnnibcaa

namespace Go.Proofs.Ytpnhbjabnnibcaa
open Go Go.Proofs Go.Abs
variable {G : Globals}
/-! The edit distance, both packages. -/
def initRow (y : List Int) (j : Nat) : List Int := (levRow [] y).take j ++ List.replicate (y.length + 1 - j) 0
theorem initRow_length {y : List Int} {j : Nat} (h : j ≤ y.length + 1) : (initRow y j).length = y.length + 1 := by
  simp [initRow, levRow_length]; omega
theorem initRow_set {y : List Int} {j : Nat} (h : j ≤ y.length) : (initRow y j).set j (j : Int) = initRow y (j + 1) := by
  have hl : ((levRow [] y).take j).length = j := by rw [List.length_take, levRow_length]; omega
  have hl2 : j < (levRow [] y).length := by rw [levRow_length]; omega
  rw [initRow, initRow, List.set_append, if_neg (by omega), hl, Nat.sub_self, List.take_add_one, List.getElem?_eq_getElem hl2]
  have e1 : (levRow [] y)[j] = (j : Int) := by
    have := levRow_getD (x := []) (y := y) h
    rw [List.getD_eq_getElem?_getD, List.getElem?_eq_getElem hl2, lev_nil_left, List.length_take] at this
    simp only [Option.getD_some] at this
    omega
  have e2 : y.length + 1 - j = (y.length + 1 - (j + 1)) + 1 := by omega
  rw [e1, e2, List.replicate_succ, List.set_cons_zero]
  simp
theorem initRow_zero (y : List Int) : initRow y 0 = List.replicate (y.length + 1) 0 := by simp [initRow]
theorem initRow_end (y : List Int) : initRow y (y.length + 1) = levRow [] y := by
  rw [initRow, List.take_of_length_le (by rw [levRow_length]; omega), Nat.sub_self]; simp
theorem take_nextI {l : List Int} {i : Nat} (h : i < l.length) : l.take (i + 1) = l.take i ++ [l.getD i 0] := by
  rw [List.take_add_one, List.getElem?_eq_getElem h, List.getD_eq_getElem?_getD, List.getElem?_eq_getElem h]; rfl
theorem lev_bound {x y : List Int} {n : Nat} (hx : x.length ≤ n) (hy : y.length ≤ n) : (lev x y : Int) ≤ n := by
  have := lev_max x y; omega
theorem mmK_3 {kk : IntKind} {a b c : Int} {k : Eff → Prop} : mmK false [.d (.int kk a), .d (.int kk b), .d (.int kk c)] k = k ⟨.d (.int kk (min a (min b c))), [], []⟩ := by
  have e : (if c < (if b < a then b else a) then c else (if b < a then b else a)) = min a (min b c) := by split <;> split at * <;> omega
  rw [← e]; rfl
theorem zeros_ints {n : Nat} : zerosD [.int .i64 0] n = ints .i64 (List.replicate n 0) := by rw [zerosD_one]; simp [ints]
set_option maxHeartbeats 4000000 in
set_option maxRecDepth 100000 in
theorem edit_spec (a b : List UInt8) (ha : a.length ≤ 1000000) (hb : b.length ≤ 1000000) : Ctr Try.prog G 11 [.d (S a), .d (S b)] [] (.d (.int .i64 (lev (pts a) (pts b) : Nat))) [] := by
  refine Ctr.pure (M := M0) hmix Try.func11 rfl go11 ?_
  simp (config := { maxSteps := 1000000 }) (disch := ((try simp only [awL]); omega)) only [nextC_more, nextC_over, bs_size, bs_extract, bs_toList, bs_append, byteAt_bs, bs_cells, nums_length, nums_getD, Try.f11, ↓awU, awV, awF, ofVal, ofVal0, isShift, aggK, forall_const, ↓reduceIte, ↓reduceDIte, ↓purePost, combine, idsA, cellsA, numsOf, srcA, calleeA, refsA, isScalar, scalarD, scalar0, AV.one, putL, unfA, implies_true, IntKind.signed, Nat.reduceAdd, Nat.reduceSub, Nat.reduceMul, Nat.reducePow, Nat.reduceDiv, Nat.reduceMod, Int.reduceAdd, Int.reduceSub, Int.reduceMul, Int.reducePow, Int.reduceNeg, Int.reduceToNat, Int.reduceLT, Int.reduceLE, Nat.reduceEqDiff, sidsB, Nat.reduceBEq, keyKD, isIntK, aggD, aggL, eqKs]
  refine CallC.pure (points_spec a ha) ?_
  simp (config := { maxSteps := 1000000 }) (disch := ((try simp only [awL]); omega)) only [nextC_more, nextC_over, bs_size, bs_extract, bs_toList, bs_append, byteAt_bs, bs_cells, nums_length, nums_getD, ↓awU, awV, awF, ofVal, ofVal0, isShift, aggK, forall_const, ↓reduceIte, ↓reduceDIte, ↓purePost, combine, idsA, cellsA, numsOf, srcA, calleeA, refsA, isScalar, scalarD, scalar0, AV.one, putL, unfA, implies_true, IntKind.signed, Nat.reduceAdd, Nat.reduceSub, Nat.reduceMul, Nat.reducePow, Nat.reduceDiv, Nat.reduceMod, Int.reduceAdd, Int.reduceSub, Int.reduceMul, Int.reducePow, Int.reduceNeg, Int.reduceToNat, Int.reduceLT, Int.reduceLE, Nat.reduceEqDiff, sidsB, Nat.reduceBEq, keyKD, isIntK, aggD, aggL, eqKs]
  refine CallC.pure (points_spec b hb) ?_
  have hX := pts_len a
  have hY := pts_len b
  have bX := ptsF_bound _ a 0 rfl
  have bY := ptsF_bound _ b 0 rfl
  change ∀ c ∈ pts a, _ at bX
  change ∀ c ∈ pts b, _ at bY
  generalize pts a = X at *
  generalize pts b = Y at *
  simp (config := { maxSteps := 1000000 }) (disch := ((try simp only [awL]); omega)) only [nextC_more, nextC_over, bs_size, bs_extract, bs_toList, bs_append, byteAt_bs, bs_cells, nums_length, nums_getD, ↓awU, awV, awF, ofVal, ofVal0, isShift, aggK, forall_const, ↓reduceIte, ↓reduceDIte, ↓purePost, combine, idsA, cellsA, numsOf, srcA, calleeA, refsA, isScalar, scalarD, scalar0, AV.one, putL, unfA, implies_true, IntKind.signed, Nat.reduceAdd, Nat.reduceSub, Nat.reduceMul, Nat.reducePow, Nat.reduceDiv, Nat.reduceMod, Int.reduceAdd, Int.reduceSub, Int.reduceMul, Int.reducePow, Int.reduceNeg, Int.reduceToNat, Int.reduceLT, Int.reduceLE, Nat.reduceEqDiff, sidsB, Nat.reduceBEq, keyKD, isIntK, aggD, aggL, eqKs]
  try refine ⟨by rfl, ?_⟩
  refine LoopC.fr 16777440 (α := Nat) (fun j => Y.length + 1 - j) (fun j => [(25, .d (.int .i64 j))])
    (fun j => [.row false (ints .i64 (initRow Y j))]) (fun j => j ≤ Y.length + 1) 0 (Nat.zero_le _) ?_ ?_
  · exact ⟨[some 0], rfl, by simp, by simp [setsA, keepA, SWeak, AWeak], by simp [HWeak, BWeak, SWeak, AWeak, initRow_zero, nats, ints, List.replicate_succ]⟩
  · intro j hj
    have il := initRow_length hj
    simp only [awK, Nat.reduceMod, Nat.reduceDiv, reduceIte]
    rcases Nat.lt_or_ge j (Y.length + 1) with h | h
    · have is := initRow_set (y := Y) (j := j) (by omega)
      simp (config := { maxSteps := 1000000 }) (disch := ((try simp only [awL]); omega)) only [nextC_more, nextC_over, bs_size, bs_extract, bs_toList, bs_append, byteAt_bs, bs_cells, nums_length, nums_getD, il, is, ↓awU, awV, awF, ofVal, ofVal0, isShift, aggK, forall_const, ↓reduceIte, ↓reduceDIte, ↓purePost, combine, idsA, cellsA, numsOf, srcA, calleeA, refsA, isScalar, scalarD, scalar0, AV.one, putL, unfA, implies_true, IntKind.signed, Nat.reduceAdd, Nat.reduceSub, Nat.reduceMul, Nat.reducePow, Nat.reduceDiv, Nat.reduceMod, Int.reduceAdd, Int.reduceSub, Int.reduceMul, Int.reducePow, Int.reduceNeg, Int.reduceToNat, Int.reduceLT, Int.reduceLE, Nat.reduceEqDiff, sidsB, Nat.reduceBEq, keyKD, isIntK, aggD, aggL, eqKs]
      exact ⟨j + 1, h, by simp only; omega, ⟨[some 0], rfl, by simp, by simp [setsA, keepA, SWeak, AWeak], by simp [HWeak, BWeak, SWeak, AWeak]⟩⟩
    · obtain rfl : j = Y.length + 1 := by omega
      rw [initRow_end]
      simp (config := { maxSteps := 1000000 }) (disch := ((try simp only [awL]); omega)) only [nextC_more, nextC_over, bs_size, bs_extract, bs_toList, bs_append, byteAt_bs, bs_cells, nums_length, nums_getD, ↓awU, awV, awF, ofVal, ofVal0, isShift, aggK, forall_const, ↓reduceIte, ↓reduceDIte, ↓purePost, combine, idsA, cellsA, numsOf, srcA, calleeA, refsA, isScalar, scalarD, scalar0, AV.one, putL, unfA, implies_true, IntKind.signed, Nat.reduceAdd, Nat.reduceSub, Nat.reduceMul, Nat.reducePow, Nat.reduceDiv, Nat.reduceMod, Int.reduceAdd, Int.reduceSub, Int.reduceMul, Int.reducePow, Int.reduceNeg, Int.reduceToNat, Int.reduceLT, Int.reduceLE, Nat.reduceEqDiff, sidsB, Nat.reduceBEq, keyKD, isIntK, aggD, aggL, eqKs]
      refine LoopC.fr 25769803968 (α := Nat) (fun i => X.length - i) (fun i => [(35, .d (.int .i64 i))])
        (fun i => [.row false (ints .i64 (levRow (X.take i) Y))]) (fun i => i ≤ X.length) 0 (Nat.zero_le _) ?_ ?_
      · exact ⟨[some 0], rfl, by simp, by simp [setsA, keepA, SWeak, AWeak], by simp [HWeak, BWeak, SWeak, AWeak]⟩
      · intro i hi
        have ll := levRow_length (X.take i) Y
        simp only [awK, Nat.reduceMod, Nat.reduceDiv, reduceIte]
        rcases Nat.lt_or_ge i X.length with h2 | h2
        · have et := take_nextI h2
          have hx := bX _ (show X.getD i 0 ∈ X by rw [List.getD_eq_getElem?_getD, List.getElem?_eq_getElem h2]; exact List.getElem_mem h2)
          have g0 : (levRow (X.take i) Y).getD 0 0 = (i : Int) := by
            rw [levRow_getD (Nat.zero_le _), List.take_zero, lev_nil_right, List.length_take]; omega
          have s0 : (levRow (X.take i) Y).set 0 ((i : Int) + 1) = midRow (X.take i) (X.getD i 0) Y 1 := by
            have := midRow_set (x := X.take i) (a := X.getD i 0) (y := Y) (j := 0) (Nat.zero_le _)
            rw [midRow_zero, List.take_zero, lev_nil_right, List.length_append, List.length_take, List.length_singleton, show ((min i X.length + 1 : Nat) : Int) = (i : Int) + 1 by omega] at this
            exact this
          have tl : (X.take i).length ≤ 1000000 := by rw [List.length_take]; omega
          simp (config := { maxSteps := 1000000 }) (disch := ((try simp only [awL]); omega)) only [nextC_more, nextC_over, bs_size, bs_extract, bs_toList, bs_append, byteAt_bs, bs_cells, nums_length, nums_getD, ll, g0, s0, ↓awU, awV, awF, ofVal, ofVal0, isShift, aggK, forall_const, ↓reduceIte, ↓reduceDIte, ↓purePost, combine, idsA, cellsA, numsOf, srcA, calleeA, refsA, isScalar, scalarD, scalar0, AV.one, putL, unfA, implies_true, IntKind.signed, Nat.reduceAdd, Nat.reduceSub, Nat.reduceMul, Nat.reducePow, Nat.reduceDiv, Nat.reduceMod, Int.reduceAdd, Int.reduceSub, Int.reduceMul, Int.reducePow, Int.reduceNeg, Int.reduceToNat, Int.reduceLT, Int.reduceLE, Nat.reduceEqDiff, sidsB, Nat.reduceBEq, keyKD, isIntK, aggD, aggL, eqKs]
          refine LoopC.fr 422272594609344 (α := Nat) (fun j => Y.length - j) (fun j => [(11, .d (.int .i64 (lev (X.take i) (Y.take j) : Nat))), (49, .d (.int .i64 j))])
            (fun j => [.row false (ints .i64 (midRow (X.take i) (X.getD i 0) Y (j + 1)))]) (fun j => j ≤ Y.length) 0 (Nat.zero_le _) ?_ ?_
          · exact ⟨[some 0], rfl, by simp, by simp [setsA, keepA, SWeak, AWeak, lev_nil_right]; omega, by show HWeak _ _ _ [ABlk.row false (ints .i64 (midRow (X.take i) (X.getD i 0) Y 1))]; rw [← s0]; simp [HWeak, BWeak, SWeak, AWeak]⟩
          · intro j hj
            have ml := midRow_length (x := X.take i) (a := X.getD i 0) (y := Y) (j := j + 1) (by omega)
            simp only [awK, Nat.reduceMod, Nat.reduceDiv, reduceIte]
            rcases Nat.lt_or_ge j Y.length with h3 | h3
            · have mo := midRow_old (x := X.take i) (a := X.getD i 0) (y := Y) (j := j + 1) (i := j + 1) (by omega) (Nat.le_refl _) (by omega)
              have mn := midRow_new (x := X.take i) (a := X.getD i 0) (y := Y) (j := j + 1) (i := j) (by omega) (by omega)
              have ms := midRow_set (x := X.take i) (a := X.getD i 0) (y := Y) (j := j + 1) (by omega)
              have st := lev_step (x := X.take i) (y := Y) (a := X.getD i 0) (j := j) h3
              have b1 := lev_bound (x := X.take i) (y := Y.take j) tl (by rw [List.length_take]; omega)
              have b2 := lev_bound (x := X.take i) (y := Y.take (j + 1)) tl (by rw [List.length_take]; omega)
              have b3 := lev_bound (x := X.take i ++ [X.getD i 0]) (y := Y.take j) (n := 1000001) (by rw [List.length_append, List.length_singleton]; omega) (by rw [List.length_take]; omega)
              generalize lev (X.take i) (Y.take j) = l1 at *
              generalize hl2 : lev (X.take i) (Y.take (j + 1)) = l2 at *
              generalize lev (X.take i ++ [X.getD i 0]) (Y.take j) = l3 at *
              generalize hl4 : lev (X.take i ++ [X.getD i 0]) (Y.take (j + 1)) = l4 at *
              by_cases hpq : X.getD i 0 = Y.getD j 0
              · rw [if_pos hpq] at st
                have hmin : min (l1 : Int) (min ((l2 + 1 : Nat) : Int) ((l3 + 1 : Nat) : Int)) = (l4 : Int) := by omega
                simp (config := { maxSteps := 1000000 }) (disch := ((try simp only [awL]); omega)) only [nextC_more, nextC_over, bs_size, bs_extract, bs_toList, bs_append, byteAt_bs, bs_cells, nums_length, nums_getD, ml, mo, mn, mmK_3, hmin, ms, ↓awU, awV, awF, ofVal, ofVal0, isShift, aggK, forall_const, ↓reduceIte, ↓reduceDIte, ↓purePost, combine, idsA, cellsA, numsOf, srcA, calleeA, refsA, isScalar, scalarD, scalar0, AV.one, putL, unfA, implies_true, IntKind.signed, Nat.reduceAdd, Nat.reduceSub, Nat.reduceMul, Nat.reducePow, Nat.reduceDiv, Nat.reduceMod, Int.reduceAdd, Int.reduceSub, Int.reduceMul, Int.reducePow, Int.reduceNeg, Int.reduceToNat, Int.reduceLT, Int.reduceLE, Nat.reduceEqDiff, sidsB, Nat.reduceBEq, keyKD, isIntK, aggD, aggL, eqKs]
                first
                | exact ⟨j + 1, h3, by simp only; omega, ⟨[some 0], rfl, by simp, by simp [setsA, keepA, SWeak, AWeak, hl2], by simp [HWeak, BWeak, SWeak, AWeak]⟩⟩
                | exact ⟨by rfl, j + 1, h3, by simp only; omega, ⟨[some 0], rfl, by simp, by simp [setsA, keepA, SWeak, AWeak, hl2], by simp [HWeak, BWeak, SWeak, AWeak]⟩⟩
                | trace_state
              · rw [if_neg hpq] at st
                have hmin : min ((l1 + 1 : Nat) : Int) (min ((l2 + 1 : Nat) : Int) ((l3 + 1 : Nat) : Int)) = (l4 : Int) := by omega
                simp (config := { maxSteps := 1000000 }) (disch := ((try simp only [awL]); omega)) only [nextC_more, nextC_over, bs_size, bs_extract, bs_toList, bs_append, byteAt_bs, bs_cells, nums_length, nums_getD, ml, mo, mn, mmK_3, hmin, ms, ↓awU, awV, awF, ofVal, ofVal0, isShift, aggK, forall_const, ↓reduceIte, ↓reduceDIte, ↓purePost, combine, idsA, cellsA, numsOf, srcA, calleeA, refsA, isScalar, scalarD, scalar0, AV.one, putL, unfA, implies_true, IntKind.signed, Nat.reduceAdd, Nat.reduceSub, Nat.reduceMul, Nat.reducePow, Nat.reduceDiv, Nat.reduceMod, Int.reduceAdd, Int.reduceSub, Int.reduceMul, Int.reducePow, Int.reduceNeg, Int.reduceToNat, Int.reduceLT, Int.reduceLE, Nat.reduceEqDiff, sidsB, Nat.reduceBEq, keyKD, isIntK, aggD, aggL, eqKs]
                first
                | exact ⟨j + 1, h3, by simp only; omega, ⟨[some 0], rfl, by simp, by simp [setsA, keepA, SWeak, AWeak, hl2], by simp [HWeak, BWeak, SWeak, AWeak]⟩⟩
                | exact ⟨by rfl, j + 1, h3, by simp only; omega, ⟨[some 0], rfl, by simp, by simp [setsA, keepA, SWeak, AWeak, hl2], by simp [HWeak, BWeak, SWeak, AWeak]⟩⟩
                | trace_state
            · obtain rfl : j = Y.length := by omega
              rw [midRow_end, ← et] at *
              simp (config := { maxSteps := 1000000 }) (disch := ((try simp only [awL]); omega)) only [nextC_more, nextC_over, bs_size, bs_extract, bs_toList, bs_append, byteAt_bs, bs_cells, nums_length, nums_getD, ↓awU, awV, awF, ofVal, ofVal0, isShift, aggK, forall_const, ↓reduceIte, ↓reduceDIte, ↓purePost, combine, idsA, cellsA, numsOf, srcA, calleeA, refsA, isScalar, scalarD, scalar0, AV.one, putL, unfA, implies_true, IntKind.signed, Nat.reduceAdd, Nat.reduceSub, Nat.reduceMul, Nat.reducePow, Nat.reduceDiv, Nat.reduceMod, Int.reduceAdd, Int.reduceSub, Int.reduceMul, Int.reducePow, Int.reduceNeg, Int.reduceToNat, Int.reduceLT, Int.reduceLE, Nat.reduceEqDiff, sidsB, Nat.reduceBEq, keyKD, isIntK, aggD, aggL, eqKs]
              exact ⟨i + 1, h2, by simp only; omega, ⟨[some 0], rfl, by simp, by simp [setsA, keepA, SWeak, AWeak], by simp [HWeak, BWeak, SWeak, AWeak]⟩⟩
        · obtain rfl : i = X.length := by omega
          rw [List.take_length] at *
          have gl := levRow_getD (x := X) (y := Y) (Nat.le_refl _)
          rw [List.take_length] at gl
          simp (config := { maxSteps := 1000000 }) (disch := ((try simp only [awL]); omega)) only [nextC_more, nextC_over, bs_size, bs_extract, bs_toList, bs_append, byteAt_bs, bs_cells, nums_length, nums_getD, ll, gl, ↓awU, awV, awF, ofVal, ofVal0, isShift, aggK, forall_const, ↓reduceIte, ↓reduceDIte, ↓purePost, combine, idsA, cellsA, numsOf, srcA, calleeA, refsA, isScalar, scalarD, scalar0, AV.one, putL, unfA, implies_true, IntKind.signed, Nat.reduceAdd, Nat.reduceSub, Nat.reduceMul, Nat.reducePow, Nat.reduceDiv, Nat.reduceMod, Int.reduceAdd, Int.reduceSub, Int.reduceMul, Int.reducePow, Int.reduceNeg, Int.reduceToNat, Int.reduceLT, Int.reduceLE, Nat.reduceEqDiff, sidsB, Nat.reduceBEq, keyKD, isIntK, aggD, aggL, eqKs]
          try rfl
set_option maxHeartbeats 4000000 in
set_option maxRecDepth 100000 in
theorem redit_spec (a b : List UInt8) (ha : a.length ≤ 1000000) (hb : b.length ≤ 1000000) : Ctr Try.prog G 18 [.d (S a), .d (S b)] [] (.d (.int .i64 (lev (pts a) (pts b) : Nat))) [] := by
  refine Ctr.pure (M := M0) hmix Try.func18 rfl go18 ?_
  simp (config := { maxSteps := 1000000 }) (disch := ((try simp only [awL]); omega)) only [nextC_more, nextC_over, bs_size, bs_extract, bs_toList, bs_append, byteAt_bs, bs_cells, nums_length, nums_getD, Try.f18, ↓awU, awV, awF, ofVal, ofVal0, isShift, aggK, forall_const, ↓reduceIte, ↓reduceDIte, ↓purePost, combine, idsA, cellsA, numsOf, srcA, calleeA, refsA, isScalar, scalarD, scalar0, AV.one, putL, unfA, implies_true, IntKind.signed, Nat.reduceAdd, Nat.reduceSub, Nat.reduceMul, Nat.reducePow, Nat.reduceDiv, Nat.reduceMod, Int.reduceAdd, Int.reduceSub, Int.reduceMul, Int.reducePow, Int.reduceNeg, Int.reduceToNat, Int.reduceLT, Int.reduceLE, Nat.reduceEqDiff, sidsB, Nat.reduceBEq, keyKD, isIntK, aggD, aggL, eqKs]
  refine CallC.pure (rpoints_spec a ha) ?_
  simp (config := { maxSteps := 1000000 }) (disch := ((try simp only [awL]); omega)) only [nextC_more, nextC_over, bs_size, bs_extract, bs_toList, bs_append, byteAt_bs, bs_cells, nums_length, nums_getD, ↓awU, awV, awF, ofVal, ofVal0, isShift, aggK, forall_const, ↓reduceIte, ↓reduceDIte, ↓purePost, combine, idsA, cellsA, numsOf, srcA, calleeA, refsA, isScalar, scalarD, scalar0, AV.one, putL, unfA, implies_true, IntKind.signed, Nat.reduceAdd, Nat.reduceSub, Nat.reduceMul, Nat.reducePow, Nat.reduceDiv, Nat.reduceMod, Int.reduceAdd, Int.reduceSub, Int.reduceMul, Int.reducePow, Int.reduceNeg, Int.reduceToNat, Int.reduceLT, Int.reduceLE, Nat.reduceEqDiff, sidsB, Nat.reduceBEq, keyKD, isIntK, aggD, aggL, eqKs]
  refine CallC.pure (rpoints_spec b hb) ?_
  have hX := pts_len a
  have hY := pts_len b
  have bX := ptsF_bound _ a 0 rfl
  have bY := ptsF_bound _ b 0 rfl
  change ∀ c ∈ pts a, _ at bX
  change ∀ c ∈ pts b, _ at bY
  generalize pts a = X at *
  generalize pts b = Y at *
  simp (config := { maxSteps := 1000000 }) (disch := ((try simp only [awL]); omega)) only [nextC_more, nextC_over, bs_size, bs_extract, bs_toList, bs_append, byteAt_bs, bs_cells, nums_length, nums_getD, ↓awU, awV, awF, ofVal, ofVal0, isShift, aggK, forall_const, ↓reduceIte, ↓reduceDIte, ↓purePost, combine, idsA, cellsA, numsOf, srcA, calleeA, refsA, isScalar, scalarD, scalar0, AV.one, putL, unfA, implies_true, IntKind.signed, Nat.reduceAdd, Nat.reduceSub, Nat.reduceMul, Nat.reducePow, Nat.reduceDiv, Nat.reduceMod, Int.reduceAdd, Int.reduceSub, Int.reduceMul, Int.reducePow, Int.reduceNeg, Int.reduceToNat, Int.reduceLT, Int.reduceLE, Nat.reduceEqDiff, sidsB, Nat.reduceBEq, keyKD, isIntK, aggD, aggL, eqKs]
  try refine ⟨by rfl, ?_⟩
  refine LoopC.fr 4194528 (α := Nat) (fun j => Y.length + 1 - j) (fun j => [(23, .d (.int .i64 j))])
    (fun j => [.row false (ints .i64 (initRow Y j))]) (fun j => j ≤ Y.length + 1) 0 (Nat.zero_le _) ?_ ?_
  · exact ⟨[some 0], rfl, by simp, by simp [setsA, keepA, SWeak, AWeak], by simp [HWeak, BWeak, SWeak, AWeak, initRow_zero, nats, ints, List.replicate_succ]⟩
  · intro j hj
    have il := initRow_length hj
    simp only [awK, Nat.reduceMod, Nat.reduceDiv, reduceIte]
    rcases Nat.lt_or_ge j (Y.length + 1) with h | h
    · have is := initRow_set (y := Y) (j := j) (by omega)
      simp (config := { maxSteps := 1000000 }) (disch := ((try simp only [awL]); omega)) only [nextC_more, nextC_over, bs_size, bs_extract, bs_toList, bs_append, byteAt_bs, bs_cells, nums_length, nums_getD, il, is, ↓awU, awV, awF, ofVal, ofVal0, isShift, aggK, forall_const, ↓reduceIte, ↓reduceDIte, ↓purePost, combine, idsA, cellsA, numsOf, srcA, calleeA, refsA, isScalar, scalarD, scalar0, AV.one, putL, unfA, implies_true, IntKind.signed, Nat.reduceAdd, Nat.reduceSub, Nat.reduceMul, Nat.reducePow, Nat.reduceDiv, Nat.reduceMod, Int.reduceAdd, Int.reduceSub, Int.reduceMul, Int.reducePow, Int.reduceNeg, Int.reduceToNat, Int.reduceLT, Int.reduceLE, Nat.reduceEqDiff, sidsB, Nat.reduceBEq, keyKD, isIntK, aggD, aggL, eqKs]
      exact ⟨j + 1, h, by simp only; omega, ⟨[some 0], rfl, by simp, by simp [setsA, keepA, SWeak, AWeak], by simp [HWeak, BWeak, SWeak, AWeak]⟩⟩
    · obtain rfl : j = Y.length + 1 := by omega
      rw [initRow_end]
      simp (config := { maxSteps := 1000000 }) (disch := ((try simp only [awL]); omega)) only [nextC_more, nextC_over, bs_size, bs_extract, bs_toList, bs_append, byteAt_bs, bs_cells, nums_length, nums_getD, ↓awU, awV, awF, ofVal, ofVal0, isShift, aggK, forall_const, ↓reduceIte, ↓reduceDIte, ↓purePost, combine, idsA, cellsA, numsOf, srcA, calleeA, refsA, isScalar, scalarD, scalar0, AV.one, putL, unfA, implies_true, IntKind.signed, Nat.reduceAdd, Nat.reduceSub, Nat.reduceMul, Nat.reducePow, Nat.reduceDiv, Nat.reduceMod, Int.reduceAdd, Int.reduceSub, Int.reduceMul, Int.reducePow, Int.reduceNeg, Int.reduceToNat, Int.reduceLT, Int.reduceLE, Nat.reduceEqDiff, sidsB, Nat.reduceBEq, keyKD, isIntK, aggD, aggL, eqKs]
      refine LoopC.fr 4294967520 (α := Nat) (fun i => X.length - i) (fun i => [(33, .d (.int .i64 i))])
        (fun i => [.row false (ints .i64 (levRow (X.take i) Y))]) (fun i => i ≤ X.length) 0 (Nat.zero_le _) ?_ ?_
      · exact ⟨[some 0], rfl, by simp, by simp [setsA, keepA, SWeak, AWeak], by simp [HWeak, BWeak, SWeak, AWeak]⟩
      · intro i hi
        have ll := levRow_length (X.take i) Y
        simp only [awK, Nat.reduceMod, Nat.reduceDiv, reduceIte]
        rcases Nat.lt_or_ge i X.length with h2 | h2
        · have et := take_nextI h2
          have hx := bX _ (show X.getD i 0 ∈ X by rw [List.getD_eq_getElem?_getD, List.getElem?_eq_getElem h2]; exact List.getElem_mem h2)
          have g0 : (levRow (X.take i) Y).getD 0 0 = (i : Int) := by
            rw [levRow_getD (Nat.zero_le _), List.take_zero, lev_nil_right, List.length_take]; omega
          have s0 : (levRow (X.take i) Y).set 0 ((i : Int) + 1) = midRow (X.take i) (X.getD i 0) Y 1 := by
            have := midRow_set (x := X.take i) (a := X.getD i 0) (y := Y) (j := 0) (Nat.zero_le _)
            rw [midRow_zero, List.take_zero, lev_nil_right, List.length_append, List.length_take, List.length_singleton, show ((min i X.length + 1 : Nat) : Int) = (i : Int) + 1 by omega] at this
            exact this
          have tl : (X.take i).length ≤ 1000000 := by rw [List.length_take]; omega
          simp (config := { maxSteps := 1000000 }) (disch := ((try simp only [awL]); omega)) only [nextC_more, nextC_over, bs_size, bs_extract, bs_toList, bs_append, byteAt_bs, bs_cells, nums_length, nums_getD, ll, g0, s0, ↓awU, awV, awF, ofVal, ofVal0, isShift, aggK, forall_const, ↓reduceIte, ↓reduceDIte, ↓purePost, combine, idsA, cellsA, numsOf, srcA, calleeA, refsA, isScalar, scalarD, scalar0, AV.one, putL, unfA, implies_true, IntKind.signed, Nat.reduceAdd, Nat.reduceSub, Nat.reduceMul, Nat.reducePow, Nat.reduceDiv, Nat.reduceMod, Int.reduceAdd, Int.reduceSub, Int.reduceMul, Int.reducePow, Int.reduceNeg, Int.reduceToNat, Int.reduceLT, Int.reduceLE, Nat.reduceEqDiff, sidsB, Nat.reduceBEq, keyKD, isIntK, aggD, aggL, eqKs]
          refine LoopC.fr 17605070947040 (α := Nat) (fun j => Y.length - j) (fun j => [(10, .d (.int .i64 (lev (X.take i) (Y.take j) : Nat))), (45, .d (.int .i64 j))])
            (fun j => [.row false (ints .i64 (midRow (X.take i) (X.getD i 0) Y (j + 1)))]) (fun j => j ≤ Y.length) 0 (Nat.zero_le _) ?_ ?_
          · exact ⟨[some 0], rfl, by simp, by simp [setsA, keepA, SWeak, AWeak, lev_nil_right]; omega, by show HWeak _ _ _ [ABlk.row false (ints .i64 (midRow (X.take i) (X.getD i 0) Y 1))]; rw [← s0]; simp [HWeak, BWeak, SWeak, AWeak]⟩
          · intro j hj
            have ml := midRow_length (x := X.take i) (a := X.getD i 0) (y := Y) (j := j + 1) (by omega)
            simp only [awK, Nat.reduceMod, Nat.reduceDiv, reduceIte]
            rcases Nat.lt_or_ge j Y.length with h3 | h3
            · have mo := midRow_old (x := X.take i) (a := X.getD i 0) (y := Y) (j := j + 1) (i := j + 1) (by omega) (Nat.le_refl _) (by omega)
              have mn := midRow_new (x := X.take i) (a := X.getD i 0) (y := Y) (j := j + 1) (i := j) (by omega) (by omega)
              have ms := midRow_set (x := X.take i) (a := X.getD i 0) (y := Y) (j := j + 1) (by omega)
              have st := lev_step (x := X.take i) (y := Y) (a := X.getD i 0) (j := j) h3
              have b1 := lev_bound (x := X.take i) (y := Y.take j) tl (by rw [List.length_take]; omega)
              have b2 := lev_bound (x := X.take i) (y := Y.take (j + 1)) tl (by rw [List.length_take]; omega)
              have b3 := lev_bound (x := X.take i ++ [X.getD i 0]) (y := Y.take j) (n := 1000001) (by rw [List.length_append, List.length_singleton]; omega) (by rw [List.length_take]; omega)
              generalize lev (X.take i) (Y.take j) = l1 at *
              generalize hl2 : lev (X.take i) (Y.take (j + 1)) = l2 at *
              generalize lev (X.take i ++ [X.getD i 0]) (Y.take j) = l3 at *
              generalize hl4 : lev (X.take i ++ [X.getD i 0]) (Y.take (j + 1)) = l4 at *
              by_cases hpq : X.getD i 0 = Y.getD j 0
              · rw [if_pos hpq] at st
                have hmin : min (l1 : Int) (min ((l2 + 1 : Nat) : Int) ((l3 + 1 : Nat) : Int)) = (l4 : Int) := by omega
                simp (config := { maxSteps := 1000000 }) (disch := ((try simp only [awL]); omega)) only [nextC_more, nextC_over, bs_size, bs_extract, bs_toList, bs_append, byteAt_bs, bs_cells, nums_length, nums_getD, ml, mo, mn, mmK_3, hmin, ms, ↓awU, awV, awF, ofVal, ofVal0, isShift, aggK, forall_const, ↓reduceIte, ↓reduceDIte, ↓purePost, combine, idsA, cellsA, numsOf, srcA, calleeA, refsA, isScalar, scalarD, scalar0, AV.one, putL, unfA, implies_true, IntKind.signed, Nat.reduceAdd, Nat.reduceSub, Nat.reduceMul, Nat.reducePow, Nat.reduceDiv, Nat.reduceMod, Int.reduceAdd, Int.reduceSub, Int.reduceMul, Int.reducePow, Int.reduceNeg, Int.reduceToNat, Int.reduceLT, Int.reduceLE, Nat.reduceEqDiff, sidsB, Nat.reduceBEq, keyKD, isIntK, aggD, aggL, eqKs]
                first
                | exact ⟨j + 1, h3, by simp only; omega, ⟨[some 0], rfl, by simp, by simp [setsA, keepA, SWeak, AWeak, hl2], by simp [HWeak, BWeak, SWeak, AWeak]⟩⟩
                | exact ⟨by rfl, j + 1, h3, by simp only; omega, ⟨[some 0], rfl, by simp, by simp [setsA, keepA, SWeak, AWeak, hl2], by simp [HWeak, BWeak, SWeak, AWeak]⟩⟩
                | trace_state
              · rw [if_neg hpq] at st
                have hmin : min ((l1 + 1 : Nat) : Int) (min ((l2 + 1 : Nat) : Int) ((l3 + 1 : Nat) : Int)) = (l4 : Int) := by omega
                simp (config := { maxSteps := 1000000 }) (disch := ((try simp only [awL]); omega)) only [nextC_more, nextC_over, bs_size, bs_extract, bs_toList, bs_append, byteAt_bs, bs_cells, nums_length, nums_getD, ml, mo, mn, mmK_3, hmin, ms, ↓awU, awV, awF, ofVal, ofVal0, isShift, aggK, forall_const, ↓reduceIte, ↓reduceDIte, ↓purePost, combine, idsA, cellsA, numsOf, srcA, calleeA, refsA, isScalar, scalarD, scalar0, AV.one, putL, unfA, implies_true, IntKind.signed, Nat.reduceAdd, Nat.reduceSub, Nat.reduceMul, Nat.reducePow, Nat.reduceDiv, Nat.reduceMod, Int.reduceAdd, Int.reduceSub, Int.reduceMul, Int.reducePow, Int.reduceNeg, Int.reduceToNat, Int.reduceLT, Int.reduceLE, Nat.reduceEqDiff, sidsB, Nat.reduceBEq, keyKD, isIntK, aggD, aggL, eqKs]
                first
                | exact ⟨j + 1, h3, by simp only; omega, ⟨[some 0], rfl, by simp, by simp [setsA, keepA, SWeak, AWeak, hl2], by simp [HWeak, BWeak, SWeak, AWeak]⟩⟩
                | exact ⟨by rfl, j + 1, h3, by simp only; omega, ⟨[some 0], rfl, by simp, by simp [setsA, keepA, SWeak, AWeak, hl2], by simp [HWeak, BWeak, SWeak, AWeak]⟩⟩
                | trace_state
            · obtain rfl : j = Y.length := by omega
              rw [midRow_end, ← et] at *
              simp (config := { maxSteps := 1000000 }) (disch := ((try simp only [awL]); omega)) only [nextC_more, nextC_over, bs_size, bs_extract, bs_toList, bs_append, byteAt_bs, bs_cells, nums_length, nums_getD, ↓awU, awV, awF, ofVal, ofVal0, isShift, aggK, forall_const, ↓reduceIte, ↓reduceDIte, ↓purePost, combine, idsA, cellsA, numsOf, srcA, calleeA, refsA, isScalar, scalarD, scalar0, AV.one, putL, unfA, implies_true, IntKind.signed, Nat.reduceAdd, Nat.reduceSub, Nat.reduceMul, Nat.reducePow, Nat.reduceDiv, Nat.reduceMod, Int.reduceAdd, Int.reduceSub, Int.reduceMul, Int.reducePow, Int.reduceNeg, Int.reduceToNat, Int.reduceLT, Int.reduceLE, Nat.reduceEqDiff, sidsB, Nat.reduceBEq, keyKD, isIntK, aggD, aggL, eqKs]
              exact ⟨i + 1, h2, by simp only; omega, ⟨[some 0], rfl, by simp, by simp [setsA, keepA, SWeak, AWeak], by simp [HWeak, BWeak, SWeak, AWeak]⟩⟩
        · obtain rfl : i = X.length := by omega
          rw [List.take_length] at *
          have gl := levRow_getD (x := X) (y := Y) (Nat.le_refl _)
          rw [List.take_length] at gl
          simp (config := { maxSteps := 1000000 }) (disch := ((try simp only [awL]); omega)) only [nextC_more, nextC_over, bs_size, bs_extract, bs_toList, bs_append, byteAt_bs, bs_cells, nums_length, nums_getD, ll, gl, ↓awU, awV, awF, ofVal, ofVal0, isShift, aggK, forall_const, ↓reduceIte, ↓reduceDIte, ↓purePost, combine, idsA, cellsA, numsOf, srcA, calleeA, refsA, isScalar, scalarD, scalar0, AV.one, putL, unfA, implies_true, IntKind.signed, Nat.reduceAdd, Nat.reduceSub, Nat.reduceMul, Nat.reducePow, Nat.reduceDiv, Nat.reduceMod, Int.reduceAdd, Int.reduceSub, Int.reduceMul, Int.reducePow, Int.reduceNeg, Int.reduceToNat, Int.reduceLT, Int.reduceLE, Nat.reduceEqDiff, sidsB, Nat.reduceBEq, keyKD, isIntK, aggD, aggL, eqKs]
          try rfl
end Go.Proofs.Ytpnhbjabnnibcaa

namespace Go.Proofs.Ytpnhbjabnnibcaa
open Go Go.Proofs Go.Abs
variable {G : Globals}
/-! Distances within a limit; unions. -/
def withD (a b : List UInt8) (k : Int) : D := .tup [.int .i64 (if (lev (pts a) (pts b) : Int) ≤ k then (lev (pts a) (pts b) : Int) else 0), .bool (decide ((lev (pts a) (pts b) : Int) ≤ k))]
set_option maxRecDepth 100000 in
theorem rwithin_spec (a b : List UInt8) (k : Int) (ha : a.length ≤ 1000000) (hb : b.length ≤ 1000000) (hk1 : -9223372036854775808 ≤ k) (hk2 : k ≤ 9223372036854775807) : Ctr Try.prog G 19 [.d (S a), .d (S b), .d (.int .i64 k)] [] (.d (withD a b k)) [] := by
  refine Ctr.pure (M := M0) hmix Try.func19 rfl go19 ?_
  simp (config := { maxSteps := 1000000 }) (disch := ((try simp only [awL]); omega)) only [nextC_more, nextC_over, bs_size, bs_extract, bs_toList, bs_append, byteAt_bs, bs_cells, nums_length, nums_getD, Try.f19, ↓awU, awV, awF, ofVal, ofVal0, isShift, aggK, forall_const, ↓reduceIte, ↓reduceDIte, ↓purePost, combine, idsA, cellsA, numsOf, srcA, calleeA, refsA, isScalar, scalarD, scalar0, AV.one, putL, unfA, implies_true, IntKind.signed, Nat.reduceAdd, Nat.reduceSub, Nat.reduceMul, Nat.reducePow, Nat.reduceDiv, Nat.reduceMod, Int.reduceAdd, Int.reduceSub, Int.reduceMul, Int.reducePow, Int.reduceNeg, Int.reduceToNat, Int.reduceLT, Int.reduceLE, Nat.reduceEqDiff, sidsB, Nat.reduceBEq, keyKD, isIntK, aggD, aggL, eqKs]
  refine CallC.pure (redit_spec a b ha hb) ?_
  unfold withD
  generalize lev (pts a) (pts b) = n at *
  rcases (by omega : (n : Int) ≤ k ∨ k < n) with h | h
  · rw [if_pos h, decide_eq_true h]
    simp (config := { maxSteps := 1000000 }) (disch := ((try simp only [awL]); omega)) only [nextC_more, nextC_over, bs_size, bs_extract, bs_toList, bs_append, byteAt_bs, bs_cells, nums_length, nums_getD, ↓awU, awV, awF, ofVal, ofVal0, isShift, aggK, forall_const, ↓reduceIte, ↓reduceDIte, ↓purePost, combine, idsA, cellsA, numsOf, srcA, calleeA, refsA, isScalar, scalarD, scalar0, AV.one, putL, unfA, implies_true, IntKind.signed, Nat.reduceAdd, Nat.reduceSub, Nat.reduceMul, Nat.reducePow, Nat.reduceDiv, Nat.reduceMod, Int.reduceAdd, Int.reduceSub, Int.reduceMul, Int.reducePow, Int.reduceNeg, Int.reduceToNat, Int.reduceLT, Int.reduceLE, Nat.reduceEqDiff, sidsB, Nat.reduceBEq, keyKD, isIntK, aggD, aggL, eqKs]
    try rfl
  · rw [if_neg (show ¬ (n : Int) ≤ k by omega), decide_eq_false (show ¬ (n : Int) ≤ k by omega)]
    simp (config := { maxSteps := 1000000 }) (disch := ((try simp only [awL]); omega)) only [nextC_more, nextC_over, bs_size, bs_extract, bs_toList, bs_append, byteAt_bs, bs_cells, nums_length, nums_getD, ↓awU, awV, awF, ofVal, ofVal0, isShift, aggK, forall_const, ↓reduceIte, ↓reduceDIte, ↓purePost, combine, idsA, cellsA, numsOf, srcA, calleeA, refsA, isScalar, scalarD, scalar0, AV.one, putL, unfA, implies_true, IntKind.signed, Nat.reduceAdd, Nat.reduceSub, Nat.reduceMul, Nat.reducePow, Nat.reduceDiv, Nat.reduceMod, Int.reduceAdd, Int.reduceSub, Int.reduceMul, Int.reducePow, Int.reduceNeg, Int.reduceToNat, Int.reduceLT, Int.reduceLE, Nat.reduceEqDiff, sidsB, Nat.reduceBEq, keyKD, isIntK, aggD, aggL, eqKs]
    try rfl
set_option maxRecDepth 100000 in
theorem within_spec (a b : List UInt8) (k : Int) (ha : a.length ≤ 1000000) (hb : b.length ≤ 1000000) (hk1 : -9223372036854775808 ≤ k) (hk2 : k ≤ 9223372036854775807) : Ctr Try.prog G 14 [.d (S a), .d (S b), .d (.int .i64 k)] [] (.d (withD a b k)) [] := by
  refine Ctr.pure (M := M0) hmix Try.func14 rfl go14 ?_
  simp (config := { maxSteps := 1000000 }) (disch := ((try simp only [awL]); omega)) only [nextC_more, nextC_over, bs_size, bs_extract, bs_toList, bs_append, byteAt_bs, bs_cells, nums_length, nums_getD, Try.f14, ↓awU, awV, awF, ofVal, ofVal0, isShift, aggK, forall_const, ↓reduceIte, ↓reduceDIte, ↓purePost, combine, idsA, cellsA, numsOf, srcA, calleeA, refsA, isScalar, scalarD, scalar0, AV.one, putL, unfA, implies_true, IntKind.signed, Nat.reduceAdd, Nat.reduceSub, Nat.reduceMul, Nat.reducePow, Nat.reduceDiv, Nat.reduceMod, Int.reduceAdd, Int.reduceSub, Int.reduceMul, Int.reducePow, Int.reduceNeg, Int.reduceToNat, Int.reduceLT, Int.reduceLE, Nat.reduceEqDiff, sidsB, Nat.reduceBEq, keyKD, isIntK, aggD, aggL, eqKs]
  refine CallC.pure (points_spec a ha) ?_
  simp (config := { maxSteps := 1000000 }) (disch := ((try simp only [awL]); omega)) only [nextC_more, nextC_over, bs_size, bs_extract, bs_toList, bs_append, byteAt_bs, bs_cells, nums_length, nums_getD, ↓awU, awV, awF, ofVal, ofVal0, isShift, aggK, forall_const, ↓reduceIte, ↓reduceDIte, ↓purePost, combine, idsA, cellsA, numsOf, srcA, calleeA, refsA, isScalar, scalarD, scalar0, AV.one, putL, unfA, implies_true, IntKind.signed, Nat.reduceAdd, Nat.reduceSub, Nat.reduceMul, Nat.reducePow, Nat.reduceDiv, Nat.reduceMod, Int.reduceAdd, Int.reduceSub, Int.reduceMul, Int.reducePow, Int.reduceNeg, Int.reduceToNat, Int.reduceLT, Int.reduceLE, Nat.reduceEqDiff, sidsB, Nat.reduceBEq, keyKD, isIntK, aggD, aggL, eqKs]
  refine CallC.pure (points_spec b hb) ?_
  have hX := pts_len a
  have hY := pts_len b
  obtain ⟨b1, b2⟩ := (Ed.lev (pts a) (pts b)).bound
  have he := edit_spec (G := G) a b ha hb
  unfold withD
  generalize lev (pts a) (pts b) = n at *
  generalize pts a = X at *
  generalize pts b = Y at *
  rcases (by omega : (X.length : Int) - Y.length ≤ -((X.length : Int) - Y.length) ∨ -((X.length : Int) - Y.length) < (X.length : Int) - Y.length) with hs | hs
  all_goals
    rcases (by omega : k < (X.length : Int) - Y.length ∨ k < -((X.length : Int) - Y.length) ∨ ((X.length : Int) - Y.length ≤ k ∧ -((X.length : Int) - Y.length) ≤ k)) with h | h | ⟨h, h'⟩
    · have hx : (X.length : Int) - Y.length ≤ 9223372036854775807 := by omega
      rw [if_neg (show ¬ (n : Int) ≤ k by omega), decide_eq_false (show ¬ (n : Int) ≤ k by omega)]
      simp (config := { maxSteps := 1000000 }) (disch := ((try simp only [awL]); omega)) only [nextC_more, nextC_over, bs_size, bs_extract, bs_toList, bs_append, byteAt_bs, bs_cells, nums_length, nums_getD, Int.max_def, ↓awU, awV, awF, ofVal, ofVal0, isShift, aggK, forall_const, ↓reduceIte, ↓reduceDIte, ↓purePost, combine, idsA, cellsA, numsOf, srcA, calleeA, refsA, isScalar, scalarD, scalar0, AV.one, putL, unfA, implies_true, IntKind.signed, Nat.reduceAdd, Nat.reduceSub, Nat.reduceMul, Nat.reducePow, Nat.reduceDiv, Nat.reduceMod, Int.reduceAdd, Int.reduceSub, Int.reduceMul, Int.reducePow, Int.reduceNeg, Int.reduceToNat, Int.reduceLT, Int.reduceLE, Nat.reduceEqDiff, sidsB, Nat.reduceBEq, keyKD, isIntK, aggD, aggL, eqKs]
      try rfl
    · have hx : (X.length : Int) - Y.length ≤ 9223372036854775807 := by omega
      rw [if_neg (show ¬ (n : Int) ≤ k by omega), decide_eq_false (show ¬ (n : Int) ≤ k by omega)]
      simp (config := { maxSteps := 1000000 }) (disch := ((try simp only [awL]); omega)) only [nextC_more, nextC_over, bs_size, bs_extract, bs_toList, bs_append, byteAt_bs, bs_cells, nums_length, nums_getD, Int.max_def, ↓awU, awV, awF, ofVal, ofVal0, isShift, aggK, forall_const, ↓reduceIte, ↓reduceDIte, ↓purePost, combine, idsA, cellsA, numsOf, srcA, calleeA, refsA, isScalar, scalarD, scalar0, AV.one, putL, unfA, implies_true, IntKind.signed, Nat.reduceAdd, Nat.reduceSub, Nat.reduceMul, Nat.reducePow, Nat.reduceDiv, Nat.reduceMod, Int.reduceAdd, Int.reduceSub, Int.reduceMul, Int.reducePow, Int.reduceNeg, Int.reduceToNat, Int.reduceLT, Int.reduceLE, Nat.reduceEqDiff, sidsB, Nat.reduceBEq, keyKD, isIntK, aggD, aggL, eqKs]
      try rfl
    · simp (config := { maxSteps := 1000000 }) (disch := ((try simp only [awL]); omega)) only [nextC_more, nextC_over, bs_size, bs_extract, bs_toList, bs_append, byteAt_bs, bs_cells, nums_length, nums_getD, Int.max_def, ↓awU, awV, awF, ofVal, ofVal0, isShift, aggK, forall_const, ↓reduceIte, ↓reduceDIte, ↓purePost, combine, idsA, cellsA, numsOf, srcA, calleeA, refsA, isScalar, scalarD, scalar0, AV.one, putL, unfA, implies_true, IntKind.signed, Nat.reduceAdd, Nat.reduceSub, Nat.reduceMul, Nat.reducePow, Nat.reduceDiv, Nat.reduceMod, Int.reduceAdd, Int.reduceSub, Int.reduceMul, Int.reducePow, Int.reduceNeg, Int.reduceToNat, Int.reduceLT, Int.reduceLE, Nat.reduceEqDiff, sidsB, Nat.reduceBEq, keyKD, isIntK, aggD, aggL, eqKs]
      refine CallC.of he (by rfl) ?_
      rcases (by omega : (n : Int) ≤ k ∨ k < n) with h3 | h3
      · rw [if_pos h3, decide_eq_true h3]
        simp (config := { maxSteps := 1000000 }) (disch := ((try simp only [awL]); omega)) only [nextC_more, nextC_over, bs_size, bs_extract, bs_toList, bs_append, byteAt_bs, bs_cells, nums_length, nums_getD, ↓awU, awV, awF, ofVal, ofVal0, isShift, aggK, forall_const, ↓reduceIte, ↓reduceDIte, ↓purePost, combine, idsA, cellsA, numsOf, srcA, calleeA, refsA, isScalar, scalarD, scalar0, AV.one, putL, unfA, implies_true, IntKind.signed, Nat.reduceAdd, Nat.reduceSub, Nat.reduceMul, Nat.reducePow, Nat.reduceDiv, Nat.reduceMod, Int.reduceAdd, Int.reduceSub, Int.reduceMul, Int.reducePow, Int.reduceNeg, Int.reduceToNat, Int.reduceLT, Int.reduceLE, Nat.reduceEqDiff, sidsB, Nat.reduceBEq, keyKD, isIntK, aggD, aggL, eqKs]
        try rfl
      · rw [if_neg (show ¬ (n : Int) ≤ k by omega), decide_eq_false (show ¬ (n : Int) ≤ k by omega)]
        simp (config := { maxSteps := 1000000 }) (disch := ((try simp only [awL]); omega)) only [nextC_more, nextC_over, bs_size, bs_extract, bs_toList, bs_append, byteAt_bs, bs_cells, nums_length, nums_getD, ↓awU, awV, awF, ofVal, ofVal0, isShift, aggK, forall_const, ↓reduceIte, ↓reduceDIte, ↓purePost, combine, idsA, cellsA, numsOf, srcA, calleeA, refsA, isScalar, scalarD, scalar0, AV.one, putL, unfA, implies_true, IntKind.signed, Nat.reduceAdd, Nat.reduceSub, Nat.reduceMul, Nat.reducePow, Nat.reduceDiv, Nat.reduceMod, Int.reduceAdd, Int.reduceSub, Int.reduceMul, Int.reducePow, Int.reduceNeg, Int.reduceToNat, Int.reduceLT, Int.reduceLE, Nat.reduceEqDiff, sidsB, Nat.reduceBEq, keyKD, isIntK, aggD, aggL, eqKs]
        try rfl
def uniB (a b : List (List UInt8)) : Int := if ascB a && ascB b then (a.length : Int) + b.length - comL a b else 0
set_option maxRecDepth 100000 in
theorem union_spec (a b : List (List UInt8)) (fa fb : Bool) (hla : a.length ≤ 1000000) (hlb : b.length ≤ 1000000) : Ctr Try.prog G 31 [.d (Ss a fa), .d (Ss b fb)] [] (.d (.int .i64 (uniB a b))) [] := by
  refine Ctr.pure (M := M0) hmix Try.func31 rfl go31 ?_
  simp (config := { maxSteps := 1000000 }) (disch := ((try simp only [awL]); omega)) only [nextC_more, nextC_over, bs_size, bs_extract, bs_toList, bs_append, byteAt_bs, bs_cells, nums_length, nums_getD, Try.f31, ↓awU, awV, awF, ofVal, ofVal0, isShift, aggK, forall_const, ↓reduceIte, ↓reduceDIte, ↓purePost, combine, idsA, cellsA, numsOf, srcA, calleeA, refsA, isScalar, scalarD, scalar0, AV.one, putL, unfA, implies_true, IntKind.signed, Nat.reduceAdd, Nat.reduceSub, Nat.reduceMul, Nat.reducePow, Nat.reduceDiv, Nat.reduceMod, Int.reduceAdd, Int.reduceSub, Int.reduceMul, Int.reducePow, Int.reduceNeg, Int.reduceToNat, Int.reduceLT, Int.reduceLE, Nat.reduceEqDiff, sidsB, Nat.reduceBEq, keyKD, isIntK, aggD, aggL, eqKs]
  refine CallC.of (isSet_spec a false hla) (by rfl) ?_
  unfold uniB
  have hc := common_spec (G := G) a b false false hla hlb
  have hcl := comL_le a b
  cases h1 : ascB a
  · rw [Bool.false_and, if_neg Bool.false_ne_true]
    simp (config := { maxSteps := 1000000 }) (disch := ((try simp only [awL]); omega)) only [nextC_more, nextC_over, bs_size, bs_extract, bs_toList, bs_append, byteAt_bs, bs_cells, nums_length, nums_getD, ↓awU, awV, awF, ofVal, ofVal0, isShift, aggK, forall_const, ↓reduceIte, ↓reduceDIte, ↓purePost, combine, idsA, cellsA, numsOf, srcA, calleeA, refsA, isScalar, scalarD, scalar0, AV.one, putL, unfA, implies_true, IntKind.signed, Nat.reduceAdd, Nat.reduceSub, Nat.reduceMul, Nat.reducePow, Nat.reduceDiv, Nat.reduceMod, Int.reduceAdd, Int.reduceSub, Int.reduceMul, Int.reducePow, Int.reduceNeg, Int.reduceToNat, Int.reduceLT, Int.reduceLE, Nat.reduceEqDiff, sidsB, Nat.reduceBEq, keyKD, isIntK, aggD, aggL, eqKs]
    try rfl
  · rw [Bool.true_and]
    simp (config := { maxSteps := 1000000 }) (disch := ((try simp only [awL]); omega)) only [nextC_more, nextC_over, bs_size, bs_extract, bs_toList, bs_append, byteAt_bs, bs_cells, nums_length, nums_getD, ↓awU, awV, awF, ofVal, ofVal0, isShift, aggK, forall_const, ↓reduceIte, ↓reduceDIte, ↓purePost, combine, idsA, cellsA, numsOf, srcA, calleeA, refsA, isScalar, scalarD, scalar0, AV.one, putL, unfA, implies_true, IntKind.signed, Nat.reduceAdd, Nat.reduceSub, Nat.reduceMul, Nat.reducePow, Nat.reduceDiv, Nat.reduceMod, Int.reduceAdd, Int.reduceSub, Int.reduceMul, Int.reducePow, Int.reduceNeg, Int.reduceToNat, Int.reduceLT, Int.reduceLE, Nat.reduceEqDiff, sidsB, Nat.reduceBEq, keyKD, isIntK, aggD, aggL, eqKs]
    refine CallC.of (isSet_spec b false hlb) (by rfl) ?_
    cases h2 : ascB b
    · rw [if_neg Bool.false_ne_true]
      simp (config := { maxSteps := 1000000 }) (disch := ((try simp only [awL]); omega)) only [nextC_more, nextC_over, bs_size, bs_extract, bs_toList, bs_append, byteAt_bs, bs_cells, nums_length, nums_getD, ↓awU, awV, awF, ofVal, ofVal0, isShift, aggK, forall_const, ↓reduceIte, ↓reduceDIte, ↓purePost, combine, idsA, cellsA, numsOf, srcA, calleeA, refsA, isScalar, scalarD, scalar0, AV.one, putL, unfA, implies_true, IntKind.signed, Nat.reduceAdd, Nat.reduceSub, Nat.reduceMul, Nat.reducePow, Nat.reduceDiv, Nat.reduceMod, Int.reduceAdd, Int.reduceSub, Int.reduceMul, Int.reducePow, Int.reduceNeg, Int.reduceToNat, Int.reduceLT, Int.reduceLE, Nat.reduceEqDiff, sidsB, Nat.reduceBEq, keyKD, isIntK, aggD, aggL, eqKs]
      try rfl
    · rw [if_pos rfl]
      have sa := @strs_length a
      have sb := @strs_length b
      unfold comB at hc
      rw [h1, h2, Bool.true_and, if_pos rfl] at hc
      simp (config := { maxSteps := 1000000 }) (disch := ((try simp only [awL]); omega)) only [nextC_more, nextC_over, bs_size, bs_extract, bs_toList, bs_append, byteAt_bs, bs_cells, nums_length, nums_getD, sa, sb, ↓awU, awV, awF, ofVal, ofVal0, isShift, aggK, forall_const, ↓reduceIte, ↓reduceDIte, ↓purePost, combine, idsA, cellsA, numsOf, srcA, calleeA, refsA, isScalar, scalarD, scalar0, AV.one, putL, unfA, implies_true, IntKind.signed, Nat.reduceAdd, Nat.reduceSub, Nat.reduceMul, Nat.reducePow, Nat.reduceDiv, Nat.reduceMod, Int.reduceAdd, Int.reduceSub, Int.reduceMul, Int.reducePow, Int.reduceNeg, Int.reduceToNat, Int.reduceLT, Int.reduceLE, Nat.reduceEqDiff, sidsB, Nat.reduceBEq, keyKD, isIntK, aggD, aggL, eqKs]
      refine CallC.of hc (by rfl) ?_
      simp (config := { maxSteps := 1000000 }) (disch := ((try simp only [awL]); omega)) only [nextC_more, nextC_over, bs_size, bs_extract, bs_toList, bs_append, byteAt_bs, bs_cells, nums_length, nums_getD, sa, sb, ↓awU, awV, awF, ofVal, ofVal0, isShift, aggK, forall_const, ↓reduceIte, ↓reduceDIte, ↓purePost, combine, idsA, cellsA, numsOf, srcA, calleeA, refsA, isScalar, scalarD, scalar0, AV.one, putL, unfA, implies_true, IntKind.signed, Nat.reduceAdd, Nat.reduceSub, Nat.reduceMul, Nat.reducePow, Nat.reduceDiv, Nat.reduceMod, Int.reduceAdd, Int.reduceSub, Int.reduceMul, Int.reducePow, Int.reduceNeg, Int.reduceToNat, Int.reduceLT, Int.reduceLE, Nat.reduceEqDiff, sidsB, Nat.reduceBEq, keyKD, isIntK, aggD, aggL, eqKs]
      try rfl
set_option maxRecDepth 100000 in
theorem runion_spec (a b : List (List UInt8)) (fa fb : Bool) (hla : a.length ≤ 1000000) (hlb : b.length ≤ 1000000) : Ctr Try.prog G 32 [.d (Ss a fa), .d (Ss b fb)] [] (.d (.int .i64 (uniB a b))) [] := by
  refine Ctr.pure (M := M0) hmix Try.func32 rfl go32 ?_
  simp (config := { maxSteps := 1000000 }) (disch := ((try simp only [awL]); omega)) only [nextC_more, nextC_over, bs_size, bs_extract, bs_toList, bs_append, byteAt_bs, bs_cells, nums_length, nums_getD, Try.f32, ↓awU, awV, awF, ofVal, ofVal0, isShift, aggK, forall_const, ↓reduceIte, ↓reduceDIte, ↓purePost, combine, idsA, cellsA, numsOf, srcA, calleeA, refsA, isScalar, scalarD, scalar0, AV.one, putL, unfA, implies_true, IntKind.signed, Nat.reduceAdd, Nat.reduceSub, Nat.reduceMul, Nat.reducePow, Nat.reduceDiv, Nat.reduceMod, Int.reduceAdd, Int.reduceSub, Int.reduceMul, Int.reducePow, Int.reduceNeg, Int.reduceToNat, Int.reduceLT, Int.reduceLE, Nat.reduceEqDiff, sidsB, Nat.reduceBEq, keyKD, isIntK, aggD, aggL, eqKs]
  refine CallC.of (risSet_spec a false hla) (by rfl) ?_
  unfold uniB
  have hc := rcommon_spec (G := G) a b false false hla hlb
  have hcl := comL_le a b
  cases h1 : ascB a
  · rw [Bool.false_and, if_neg Bool.false_ne_true]
    simp (config := { maxSteps := 1000000 }) (disch := ((try simp only [awL]); omega)) only [nextC_more, nextC_over, bs_size, bs_extract, bs_toList, bs_append, byteAt_bs, bs_cells, nums_length, nums_getD, ↓awU, awV, awF, ofVal, ofVal0, isShift, aggK, forall_const, ↓reduceIte, ↓reduceDIte, ↓purePost, combine, idsA, cellsA, numsOf, srcA, calleeA, refsA, isScalar, scalarD, scalar0, AV.one, putL, unfA, implies_true, IntKind.signed, Nat.reduceAdd, Nat.reduceSub, Nat.reduceMul, Nat.reducePow, Nat.reduceDiv, Nat.reduceMod, Int.reduceAdd, Int.reduceSub, Int.reduceMul, Int.reducePow, Int.reduceNeg, Int.reduceToNat, Int.reduceLT, Int.reduceLE, Nat.reduceEqDiff, sidsB, Nat.reduceBEq, keyKD, isIntK, aggD, aggL, eqKs]
    try rfl
  · rw [Bool.true_and]
    simp (config := { maxSteps := 1000000 }) (disch := ((try simp only [awL]); omega)) only [nextC_more, nextC_over, bs_size, bs_extract, bs_toList, bs_append, byteAt_bs, bs_cells, nums_length, nums_getD, ↓awU, awV, awF, ofVal, ofVal0, isShift, aggK, forall_const, ↓reduceIte, ↓reduceDIte, ↓purePost, combine, idsA, cellsA, numsOf, srcA, calleeA, refsA, isScalar, scalarD, scalar0, AV.one, putL, unfA, implies_true, IntKind.signed, Nat.reduceAdd, Nat.reduceSub, Nat.reduceMul, Nat.reducePow, Nat.reduceDiv, Nat.reduceMod, Int.reduceAdd, Int.reduceSub, Int.reduceMul, Int.reducePow, Int.reduceNeg, Int.reduceToNat, Int.reduceLT, Int.reduceLE, Nat.reduceEqDiff, sidsB, Nat.reduceBEq, keyKD, isIntK, aggD, aggL, eqKs]
    refine CallC.of (risSet_spec b false hlb) (by rfl) ?_
    cases h2 : ascB b
    · rw [if_neg Bool.false_ne_true]
      simp (config := { maxSteps := 1000000 }) (disch := ((try simp only [awL]); omega)) only [nextC_more, nextC_over, bs_size, bs_extract, bs_toList, bs_append, byteAt_bs, bs_cells, nums_length, nums_getD, ↓awU, awV, awF, ofVal, ofVal0, isShift, aggK, forall_const, ↓reduceIte, ↓reduceDIte, ↓purePost, combine, idsA, cellsA, numsOf, srcA, calleeA, refsA, isScalar, scalarD, scalar0, AV.one, putL, unfA, implies_true, IntKind.signed, Nat.reduceAdd, Nat.reduceSub, Nat.reduceMul, Nat.reducePow, Nat.reduceDiv, Nat.reduceMod, Int.reduceAdd, Int.reduceSub, Int.reduceMul, Int.reducePow, Int.reduceNeg, Int.reduceToNat, Int.reduceLT, Int.reduceLE, Nat.reduceEqDiff, sidsB, Nat.reduceBEq, keyKD, isIntK, aggD, aggL, eqKs]
      try rfl
    · rw [if_pos rfl]
      have sa := @strs_length a
      have sb := @strs_length b
      unfold comB at hc
      rw [h1, h2, Bool.true_and, if_pos rfl] at hc
      simp (config := { maxSteps := 1000000 }) (disch := ((try simp only [awL]); omega)) only [nextC_more, nextC_over, bs_size, bs_extract, bs_toList, bs_append, byteAt_bs, bs_cells, nums_length, nums_getD, sa, sb, ↓awU, awV, awF, ofVal, ofVal0, isShift, aggK, forall_const, ↓reduceIte, ↓reduceDIte, ↓purePost, combine, idsA, cellsA, numsOf, srcA, calleeA, refsA, isScalar, scalarD, scalar0, AV.one, putL, unfA, implies_true, IntKind.signed, Nat.reduceAdd, Nat.reduceSub, Nat.reduceMul, Nat.reducePow, Nat.reduceDiv, Nat.reduceMod, Int.reduceAdd, Int.reduceSub, Int.reduceMul, Int.reducePow, Int.reduceNeg, Int.reduceToNat, Int.reduceLT, Int.reduceLE, Nat.reduceEqDiff, sidsB, Nat.reduceBEq, keyKD, isIntK, aggD, aggL, eqKs]
      refine CallC.of hc (by rfl) ?_
      simp (config := { maxSteps := 1000000 }) (disch := ((try simp only [awL]); omega)) only [nextC_more, nextC_over, bs_size, bs_extract, bs_toList, bs_append, byteAt_bs, bs_cells, nums_length, nums_getD, sa, sb, ↓awU, awV, awF, ofVal, ofVal0, isShift, aggK, forall_const, ↓reduceIte, ↓reduceDIte, ↓purePost, combine, idsA, cellsA, numsOf, srcA, calleeA, refsA, isScalar, scalarD, scalar0, AV.one, putL, unfA, implies_true, IntKind.signed, Nat.reduceAdd, Nat.reduceSub, Nat.reduceMul, Nat.reducePow, Nat.reduceDiv, Nat.reduceMod, Int.reduceAdd, Int.reduceSub, Int.reduceMul, Int.reducePow, Int.reduceNeg, Int.reduceToNat, Int.reduceLT, Int.reduceLE, Nat.reduceEqDiff, sidsB, Nat.reduceBEq, keyKD, isIntK, aggD, aggL, eqKs]
      try rfl
end Go.Proofs.Ytpnhbjabnnibcaa
