/-
  Contracts of the functions, one after another.
-/
import Derived.Test.YtkgbbdoeodmkgaaGreatDoorLa3
import Derived.Lib.ValidLaws
import Derived.Test.YtkgbbdoeodmkgaaGreatDoorChecked
import Derived.KernelRfl
import Derived.Shelf.Unicode.ValidAny
import Derived.Ground.NamesProg
import Derived.Lib.DecodeN
import Derived.Shelf.Strings.OnBuilder
import Derived.Lib.Strings
import Derived.Lib.Slices
import Derived.Lib.Walk
import Derived.Lib.Bytealg
import Derived.Shelf.Strings.Trim
import Derived.Shelf.Strings.Replace
import Derived.Shelf.Strings.Repeat
import Derived.Shelf.Strings.Builder1
import Derived.Shelf.Utf8.RuneCount
import Derived.Shelf.Strings.Prefix
import Derived.Shelf.Small.Wraps
import Derived.Lib.OthersKept
import Derived.Lib.MapLaws
import Derived.Lib.RuneBytes
import Derived.Lib.ItoaNum
import Derived.Lib.ItoaMem
import Derived.Lib.ItoaLen
import Derived.Shelf.Strconv.AtoiAll
import Derived.Lib.AtoiErrMem
import Derived.Shelf.Strconv.Itoa0
import Derived.Test.YtkgbbdoeodmkgaaGreatDoorCards
import Derived.Test.YtkgbbdoeodmkgaaGreatDoorTie
import Derived.Lib.LaidU8T
import Derived.Lib.LaidTab
import Derived.LaidLaws
import Derived.Shelf.Vars
import Derived.Lib.SmallJoins
set_option linter.all false
open Go.Abs renaming ofVal→Qa,ofVal0→Qb,isShift→Qc,aggK→Qd,purePost→Qe,combine→Qf,idsA→Qg,cellsA→Qh,numsOf→Qi,srcA→Qj,calleeA→Qk,refsA→Ql,isScalar→Qm,scalarD→Qn,scalar0→Qo,putL→Qr,unfA→Qs,sidsB→QJ,keyKD→QL,isIntK→QM,aggD→QN,aggL→QO,eqKs→QP,boxRow→QQ,nextC_more→QT,nextC_over→QU,bs_size→QV,bs_extract→QW,bs_toList→QX,bs_append→QY,byteAt_bs→QZ,bs_cells→Q0,nums_length→Q1,nums_getD→Q2
open Go.Abs.AV renaming one→Qp
open Go.Abs.D renaming one→Qq
open Go.IntKind renaming signed→Qt
open Nat renaming reduceAdd→Qu,reduceSub→Qv,reduceMul→Qw,reducePow→Qx,reduceDiv→Qy,reduceMod→Qz,reduceEqDiff→QI,reduceBEq→QK
open Int renaming reduceAdd→QA,reduceSub→QB,reduceMul→QC,reducePow→QD,reduceNeg→QE,reduceToNat→QF,reduceLT→QG,reduceLE→QH
open Option renaming toList_some→QR,toList_none→QS
namespace Go.Proofs.YtkgbbdoeodmkgaaGreatDoor
structure Dia where
 del:UInt8
 quo:UInt8
 trim:Bool
def trimR (d:Dia) (l:List UInt8):List UInt8:=if d.trim then (l.reverse.dropWhile (· == 32)).reverse else l
end Go.Proofs.YtkgbbdoeodmkgaaGreatDoor
namespace Go.Proofs.YtkgbbdoeodmkgaaGreatDoor
open Go.Lib
end Go.Proofs.YtkgbbdoeodmkgaaGreatDoor
namespace Go.Proofs.YtkgbbdoeodmkgaaGreatDoor
open Go Go.Proofs Go.Abs
theorem ti2:tiOf Tryz.prog 2=some ⟨.int .i64,1,8,[.int .i64 0]⟩:=by kernel_rfl
theorem ie2:intE Tryz.prog 2=some .i64:=by kernel_rfl
theorem it2:intT Tryz.prog 2=some .i64:=by kernel_rfl
theorem st2:isStrT Tryz.prog 2=false:=by kernel_rfl
theorem ti3:tiOf Tryz.prog 3=some ⟨.int .i64,1,8,[.int .i64 0]⟩:=by kernel_rfl
theorem zo3:zeroOf Tryz.prog 3=some (.int .i64 0):=by kernel_rfl
theorem ie3:intE Tryz.prog 3=some .i64:=by kernel_rfl
theorem it3:intT Tryz.prog 3=some .i64:=by kernel_rfl
theorem st3:isStrT Tryz.prog 3=false:=by kernel_rfl
theorem ti4:tiOf Tryz.prog 4=some ⟨.bool,1,1,[.bool false]⟩:=by kernel_rfl
theorem bt4:isBoolT Tryz.prog 4=true:=by kernel_rfl
theorem ti5:tiOf Tryz.prog 5=some ⟨.int .u8,1,1,[.int .u8 0]⟩:=by kernel_rfl
theorem ie5:intE Tryz.prog 5=some .u8:=by kernel_rfl
theorem it5:intT Tryz.prog 5=some .u8:=by kernel_rfl
theorem st5:isStrT Tryz.prog 5=false:=by kernel_rfl
theorem ti6:tiOf Tryz.prog 6=some ⟨.int .u8,1,1,[.int .u8 0]⟩:=by kernel_rfl
theorem ie6:intE Tryz.prog 6=some .u8:=by kernel_rfl
theorem it6:intT Tryz.prog 6=some .u8:=by kernel_rfl
theorem st6:isStrT Tryz.prog 6=false:=by kernel_rfl
theorem ti7:tiOf Tryz.prog 7=some ⟨.struct [(0,2,1),(1,3,1),(2,4,1),(3,6,1)],4,24,[.int .i64 0,.int .i64 0,.bool false,.int .u8 0]⟩:=by kernel_rfl
theorem sf7_0:structF Tryz.prog 7 0=some (0,2,1):=by kernel_rfl
theorem sf7_1:structF Tryz.prog 7 1=some (1,3,1):=by kernel_rfl
theorem sf7_2:structF Tryz.prog 7 2=some (2,4,1):=by kernel_rfl
theorem sf7_3:structF Tryz.prog 7 3=some (3,6,1):=by kernel_rfl
theorem ti8:tiOf Tryz.prog 8=some ⟨.struct [(0,2,1),(1,3,1),(2,4,1),(3,6,1)],4,24,[.int .i64 0,.int .i64 0,.bool false,.int .u8 0]⟩:=by kernel_rfl
theorem sf8_0:structF Tryz.prog 8 0=some (0,2,1):=by kernel_rfl
theorem sf8_1:structF Tryz.prog 8 1=some (1,3,1):=by kernel_rfl
theorem sf8_2:structF Tryz.prog 8 2=some (2,4,1):=by kernel_rfl
theorem sf8_3:structF Tryz.prog 8 3=some (3,6,1):=by kernel_rfl
theorem ti9:tiOf Tryz.prog 9=some ⟨.string,1,16,[.str .empty]⟩:=by kernel_rfl
theorem st9:isStrT Tryz.prog 9=true:=by kernel_rfl
theorem ap9:appendable Tryz.prog 9=true:=by kernel_rfl
theorem it9:intT Tryz.prog 9=none:=by kernel_rfl
theorem ti10:tiOf Tryz.prog 10=some ⟨.string,1,16,[.str .empty]⟩:=by kernel_rfl
theorem st10:isStrT Tryz.prog 10=true:=by kernel_rfl
theorem ap10:appendable Tryz.prog 10=true:=by kernel_rfl
theorem it10:intT Tryz.prog 10=none:=by kernel_rfl
theorem ti11:tiOf Tryz.prog 11=some ⟨.string,1,16,[.str .empty]⟩:=by kernel_rfl
theorem st11:isStrT Tryz.prog 11=true:=by kernel_rfl
theorem ap11:appendable Tryz.prog 11=true:=by kernel_rfl
theorem it11:intT Tryz.prog 11=none:=by kernel_rfl
theorem ti12:tiOf Tryz.prog 12=some ⟨.int .u64,1,8,[.int .u64 0]⟩:=by kernel_rfl
theorem ie12:intE Tryz.prog 12=some .u64:=by kernel_rfl
theorem it12:intT Tryz.prog 12=some .u64:=by kernel_rfl
theorem st12:isStrT Tryz.prog 12=false:=by kernel_rfl
theorem ti14:tiOf Tryz.prog 14=some ⟨.struct [(0,9,1),(1,12,1)],2,24,[.str .empty,.int .u64 0]⟩:=by kernel_rfl
theorem sf14_0:structF Tryz.prog 14 0=some (0,9,1):=by kernel_rfl
theorem sf14_1:structF Tryz.prog 14 1=some (1,12,1):=by kernel_rfl
theorem ti15:tiOf Tryz.prog 15=some ⟨.ptr 193,1,8,[.nilp]⟩:=by kernel_rfl
theorem ti16:tiOf Tryz.prog 16=some ⟨.ptr 196,1,8,[.nilp]⟩:=by kernel_rfl
theorem ti17:tiOf Tryz.prog 17=some ⟨.ptr 204,1,8,[.nilp]⟩:=by kernel_rfl
theorem ti19:tiOf Tryz.prog 19=some ⟨.struct [(0,17,1)],1,8,[.nilp]⟩:=by kernel_rfl
theorem sf19_0:structF Tryz.prog 19 0=some (0,17,1):=by kernel_rfl
theorem ti20:tiOf Tryz.prog 20=some ⟨.other,1,16,[.nili]⟩:=by kernel_rfl
theorem ti21:tiOf Tryz.prog 21=some ⟨.int .i32,1,4,[.int .i32 0]⟩:=by kernel_rfl
theorem ie21:intE Tryz.prog 21=some .i32:=by kernel_rfl
theorem it21:intT Tryz.prog 21=some .i32:=by kernel_rfl
theorem st21:isStrT Tryz.prog 21=false:=by kernel_rfl
theorem ti22:tiOf Tryz.prog 22=some ⟨.slice 5,1,24,[.sl 0 true []]⟩:=by kernel_rfl
theorem se22:sliceElem Tryz.prog 22=some (5,⟨.int .u8,1,1,[.int .u8 0]⟩):=by kernel_rfl
theorem sz22:isSliceT Tryz.prog 22=true:=by kernel_rfl
theorem ap22:appendable Tryz.prog 22=true:=by kernel_rfl
theorem st22:isStrT Tryz.prog 22=false:=by kernel_rfl
theorem ti24:tiOf Tryz.prog 24=some ⟨.ptr 54,1,8,[.nilp]⟩:=by kernel_rfl
theorem ti26:tiOf Tryz.prog 26=some ⟨.slice 39,1,24,[.sl 0 true []]⟩:=by kernel_rfl
theorem se26:sliceElem Tryz.prog 26=some (39,⟨.struct [(0,4,1),(1,9,1)],2,24,[.bool false,.str .empty]⟩):=by kernel_rfl
theorem sz26:isSliceT Tryz.prog 26=true:=by kernel_rfl
theorem ap26:appendable Tryz.prog 26=true:=by kernel_rfl
theorem st26:isStrT Tryz.prog 26=false:=by kernel_rfl
theorem ti28:tiOf Tryz.prog 28=some ⟨.struct [(0,9,1),(1,26,1)],2,40,[.str .empty,.sl 0 true []]⟩:=by kernel_rfl
theorem sf28_0:structF Tryz.prog 28 0=some (0,9,1):=by kernel_rfl
theorem sf28_1:structF Tryz.prog 28 1=some (1,26,1):=by kernel_rfl
theorem ti30:tiOf Tryz.prog 30=some ⟨.slice 9,1,24,[.sl 0 true []]⟩:=by kernel_rfl
theorem se30:sliceElem Tryz.prog 30=some (9,⟨.string,1,16,[.str .empty]⟩):=by kernel_rfl
theorem sz30:isSliceT Tryz.prog 30=true:=by kernel_rfl
theorem ap30:appendable Tryz.prog 30=true:=by kernel_rfl
theorem st30:isStrT Tryz.prog 30=false:=by kernel_rfl
theorem ti34:tiOf Tryz.prog 34=some ⟨.slice 60,1,24,[.sl 0 true []]⟩:=by kernel_rfl
theorem se34:sliceElem Tryz.prog 34=some (60,⟨.struct [(0,9,1),(1,3,1),(2,3,1)],3,32,[.str .empty,.int .i64 0,.int .i64 0]⟩):=by kernel_rfl
theorem sz34:isSliceT Tryz.prog 34=true:=by kernel_rfl
theorem ap34:appendable Tryz.prog 34=true:=by kernel_rfl
theorem st34:isStrT Tryz.prog 34=false:=by kernel_rfl
theorem ti39:tiOf Tryz.prog 39=some ⟨.struct [(0,4,1),(1,9,1)],2,24,[.bool false,.str .empty]⟩:=by kernel_rfl
theorem eq39:eqT Tryz.prog 39=some [2,1]:=by kernel_rfl
theorem sf39_0:structF Tryz.prog 39 0=some (0,4,1):=by kernel_rfl
theorem sf39_1:structF Tryz.prog 39 1=some (1,9,1):=by kernel_rfl
theorem ti44:tiOf Tryz.prog 44=some ⟨.slice 28,1,24,[.sl 0 true []]⟩:=by kernel_rfl
theorem se44:sliceElem Tryz.prog 44=some (28,⟨.struct [(0,9,1),(1,26,1)],2,40,[.str .empty,.sl 0 true []]⟩):=by kernel_rfl
theorem sz44:isSliceT Tryz.prog 44=true:=by kernel_rfl
theorem ap44:appendable Tryz.prog 44=true:=by kernel_rfl
theorem st44:isStrT Tryz.prog 44=false:=by kernel_rfl
theorem ti47:tiOf Tryz.prog 47=some ⟨.slice 30,1,24,[.sl 0 true []]⟩:=by kernel_rfl
theorem se47:sliceElem Tryz.prog 47=some (30,⟨.slice 9,1,24,[.sl 0 true []]⟩):=by kernel_rfl
theorem sz47:isSliceT Tryz.prog 47=true:=by kernel_rfl
theorem ap47:appendable Tryz.prog 47=true:=by kernel_rfl
theorem st47:isStrT Tryz.prog 47=false:=by kernel_rfl
theorem ti54:tiOf Tryz.prog 54=some ⟨.struct [(0,22,1),(1,3,1)],2,32,[.sl 0 true [],.int .i64 0]⟩:=by kernel_rfl
theorem sf54_0:structF Tryz.prog 54 0=some (0,22,1):=by kernel_rfl
theorem sf54_1:structF Tryz.prog 54 1=some (1,3,1):=by kernel_rfl
theorem ti60:tiOf Tryz.prog 60=some ⟨.struct [(0,9,1),(1,3,1),(2,3,1)],3,32,[.str .empty,.int .i64 0,.int .i64 0]⟩:=by kernel_rfl
theorem eq60:eqT Tryz.prog 60=some [1,0,0]:=by kernel_rfl
theorem sf60_0:structF Tryz.prog 60 0=some (0,9,1):=by kernel_rfl
theorem sf60_1:structF Tryz.prog 60 1=some (1,3,1):=by kernel_rfl
theorem sf60_2:structF Tryz.prog 60 2=some (2,3,1):=by kernel_rfl
theorem ti62:tiOf Tryz.prog 62=some ⟨.map 9 3,1,8,[.nilm]⟩:=by kernel_rfl
theorem ti63:tiOf Tryz.prog 63=some ⟨.array 14 9,14,224,[.str .empty,.str .empty,.str .empty,.str .empty,.str .empty,.str .empty,.str .empty,.str .empty,.str .empty,.str .empty,.str .empty,.str .empty,.str .empty,.str .empty]⟩:=by kernel_rfl
theorem se63:sliceElem Tryz.prog 63=none:=by kernel_rfl
theorem ae63:arrayE Tryz.prog 63=some (14,9,1):=by kernel_rfl
theorem ti64:tiOf Tryz.prog 64=some ⟨.func,1,8,[.nilf]⟩:=by kernel_rfl
theorem ti70:tiOf Tryz.prog 70=some ⟨.ptr 72,1,8,[.nilp]⟩:=by kernel_rfl
theorem ti72:tiOf Tryz.prog 72=some ⟨.struct [(0,70,1),(1,22,1)],2,32,[.nilp,.sl 0 true []]⟩:=by kernel_rfl
theorem sf72_0:structF Tryz.prog 72 0=some (0,70,1):=by kernel_rfl
theorem sf72_1:structF Tryz.prog 72 1=some (1,22,1):=by kernel_rfl
theorem ti75:tiOf Tryz.prog 75=some ⟨.other,1,16,[.nili]⟩:=by kernel_rfl
theorem ti80:tiOf Tryz.prog 80=some ⟨.slice 107,1,24,[.sl 0 true []]⟩:=by kernel_rfl
theorem se80:sliceElem Tryz.prog 80=some (107,⟨.int .u32,1,4,[.int .u32 0]⟩):=by kernel_rfl
theorem sz80:isSliceT Tryz.prog 80=true:=by kernel_rfl
theorem ap80:appendable Tryz.prog 80=true:=by kernel_rfl
theorem st80:isStrT Tryz.prog 80=false:=by kernel_rfl
theorem ti82:tiOf Tryz.prog 82=some ⟨.struct [(0,4,1),(1,80,1)],2,32,[.bool false,.sl 0 true []]⟩:=by kernel_rfl
theorem sf82_0:structF Tryz.prog 82 0=some (0,4,1):=by kernel_rfl
theorem sf82_1:structF Tryz.prog 82 1=some (1,80,1):=by kernel_rfl
theorem ti84:tiOf Tryz.prog 84=some ⟨.struct [(0,82,2),(2,82,2)],4,64,[.bool false,.sl 0 true [],.bool false,.sl 0 true []]⟩:=by kernel_rfl
theorem sf84_0:structF Tryz.prog 84 0=some (0,82,2):=by kernel_rfl
theorem sf84_1:structF Tryz.prog 84 1=some (2,82,2):=by kernel_rfl
theorem ti91:tiOf Tryz.prog 91=some ⟨.func,1,8,[.nilf]⟩:=by kernel_rfl
theorem ti92:tiOf Tryz.prog 92=some ⟨.func,1,8,[.nilf]⟩:=by kernel_rfl
theorem ti94:tiOf Tryz.prog 94=some ⟨.ptr 5,1,8,[.nilp]⟩:=by kernel_rfl
theorem ti97:tiOf Tryz.prog 97=some ⟨.array 256 4,256,256,[.bool false,.bool false,.bool false,.bool false,.bool false,.bool false,.bool false,.bool false,.bool false,.bool false,.bool false,.bool false,.bool false,.bool false,.bool false,.bool false,.bool false,.bool false,.bool false,.bool false,.bool false,.bool false,.bool false,.bool false,.bool false,.bool false,.bool false,.bool false,.bool false,.bool false,.bool false,.bool false,.bool false,.bool false,.bool false,.bool false,.bool false,.bool false,.bool false,.bool false,.bool false,.bool false,.bool false,.bool false,.bool false,.bool false,.bool false,.bool false,.bool false,.bool false,.bool false,.bool false,.bool false,.bool false,.bool false,.bool false,.bool false,.bool false,.bool false,.bool false,.bool false,.bool false,.bool false,.bool false,.bool false,.bool false,.bool false,.bool false,.bool false,.bool false,.bool false,.bool false,.bool false,.bool false,.bool false,.bool false,.bool false,.bool false,.bool false,.bool false,.bool false,.bool false,.bool false,.bool false,.bool false,.bool false,.bool false,.bool false,.bool false,.bool false,.bool false,.bool false,.bool false,.bool false,.bool false,.bool false,.bool false,.bool false,.bool false,.bool false,.bool false,.bool false,.bool false,.bool false,.bool false,.bool false,.bool false,.bool false,.bool false,.bool false,.bool false,.bool false,.bool false,.bool false,.bool false,.bool false,.bool false,.bool false,.bool false,.bool false,.bool false,.bool false,.bool false,.bool false,.bool false,.bool false,.bool false,.bool false,.bool false,.bool false,.bool false,.bool false,.bool false,.bool false,.bool false,.bool false,.bool false,.bool false,.bool false,.bool false,.bool false,.bool false,.bool false,.bool false,.bool false,.bool false,.bool false,.bool false,.bool false,.bool false,.bool false,.bool false,.bool false,.bool false,.bool false,.bool false,.bool false,.bool false,.bool false,.bool false,.bool false,.bool false,.bool false,.bool false,.bool false,.bool false,.bool false,.bool false,.bool false,.bool false,.bool false,.bool false,.bool false,.bool false,.bool false,.bool false,.bool false,.bool false,.bool false,.bool false,.bool false,.bool false,.bool false,.bool false,.bool false,.bool false,.bool false,.bool false,.bool false,.bool false,.bool false,.bool false,.bool false,.bool false,.bool false,.bool false,.bool false,.bool false,.bool false,.bool false,.bool false,.bool false,.bool false,.bool false,.bool false,.bool false,.bool false,.bool false,.bool false,.bool false,.bool false,.bool false,.bool false,.bool false,.bool false,.bool false,.bool false,.bool false,.bool false,.bool false,.bool false,.bool false,.bool false,.bool false,.bool false,.bool false,.bool false,.bool false,.bool false,.bool false,.bool false,.bool false,.bool false,.bool false,.bool false,.bool false,.bool false,.bool false,.bool false,.bool false,.bool false,.bool false,.bool false,.bool false,.bool false,.bool false,.bool false,.bool false,.bool false,.bool false,.bool false,.bool false,.bool false,.bool false,.bool false,.bool false]⟩:=by kernel_rfl
theorem se97:sliceElem Tryz.prog 97=none:=by kernel_rfl
theorem ae97:arrayE Tryz.prog 97=some (256,4,1):=by kernel_rfl
theorem ti101:tiOf Tryz.prog 101=some ⟨.ptr 97,1,8,[.nilp]⟩:=by kernel_rfl
theorem ti106:tiOf Tryz.prog 106=some ⟨.slice 107,1,24,[.sl 0 true []]⟩:=by kernel_rfl
theorem se106:sliceElem Tryz.prog 106=some (107,⟨.int .u32,1,4,[.int .u32 0]⟩):=by kernel_rfl
theorem sz106:isSliceT Tryz.prog 106=true:=by kernel_rfl
theorem ap106:appendable Tryz.prog 106=true:=by kernel_rfl
theorem st106:isStrT Tryz.prog 106=false:=by kernel_rfl
theorem ti107:tiOf Tryz.prog 107=some ⟨.int .u32,1,4,[.int .u32 0]⟩:=by kernel_rfl
theorem ie107:intE Tryz.prog 107=some .u32:=by kernel_rfl
theorem it107:intT Tryz.prog 107=some .u32:=by kernel_rfl
theorem st107:isStrT Tryz.prog 107=false:=by kernel_rfl
theorem ti110:tiOf Tryz.prog 110=some ⟨.int .u64,1,8,[.int .u64 0]⟩:=by kernel_rfl
theorem ie110:intE Tryz.prog 110=some .u64:=by kernel_rfl
theorem it110:intT Tryz.prog 110=some .u64:=by kernel_rfl
theorem st110:isStrT Tryz.prog 110=false:=by kernel_rfl
theorem ti123:tiOf Tryz.prog 123=some ⟨.array 256 5,256,256,[.int .u8 0,.int .u8 0,.int .u8 0,.int .u8 0,.int .u8 0,.int .u8 0,.int .u8 0,.int .u8 0,.int .u8 0,.int .u8 0,.int .u8 0,.int .u8 0,.int .u8 0,.int .u8 0,.int .u8 0,.int .u8 0,.int .u8 0,.int .u8 0,.int .u8 0,.int .u8 0,.int .u8 0,.int .u8 0,.int .u8 0,.int .u8 0,.int .u8 0,.int .u8 0,.int .u8 0,.int .u8 0,.int .u8 0,.int .u8 0,.int .u8 0,.int .u8 0,.int .u8 0,.int .u8 0,.int .u8 0,.int .u8 0,.int .u8 0,.int .u8 0,.int .u8 0,.int .u8 0,.int .u8 0,.int .u8 0,.int .u8 0,.int .u8 0,.int .u8 0,.int .u8 0,.int .u8 0,.int .u8 0,.int .u8 0,.int .u8 0,.int .u8 0,.int .u8 0,.int .u8 0,.int .u8 0,.int .u8 0,.int .u8 0,.int .u8 0,.int .u8 0,.int .u8 0,.int .u8 0,.int .u8 0,.int .u8 0,.int .u8 0,.int .u8 0,.int .u8 0,.int .u8 0,.int .u8 0,.int .u8 0,.int .u8 0,.int .u8 0,.int .u8 0,.int .u8 0,.int .u8 0,.int .u8 0,.int .u8 0,.int .u8 0,.int .u8 0,.int .u8 0,.int .u8 0,.int .u8 0,.int .u8 0,.int .u8 0,.int .u8 0,.int .u8 0,.int .u8 0,.int .u8 0,.int .u8 0,.int .u8 0,.int .u8 0,.int .u8 0,.int .u8 0,.int .u8 0,.int .u8 0,.int .u8 0,.int .u8 0,.int .u8 0,.int .u8 0,.int .u8 0,.int .u8 0,.int .u8 0,.int .u8 0,.int .u8 0,.int .u8 0,.int .u8 0,.int .u8 0,.int .u8 0,.int .u8 0,.int .u8 0,.int .u8 0,.int .u8 0,.int .u8 0,.int .u8 0,.int .u8 0,.int .u8 0,.int .u8 0,.int .u8 0,.int .u8 0,.int .u8 0,.int .u8 0,.int .u8 0,.int .u8 0,.int .u8 0,.int .u8 0,.int .u8 0,.int .u8 0,.int .u8 0,.int .u8 0,.int .u8 0,.int .u8 0,.int .u8 0,.int .u8 0,.int .u8 0,.int .u8 0,.int .u8 0,.int .u8 0,.int .u8 0,.int .u8 0,.int .u8 0,.int .u8 0,.int .u8 0,.int .u8 0,.int .u8 0,.int .u8 0,.int .u8 0,.int .u8 0,.int .u8 0,.int .u8 0,.int .u8 0,.int .u8 0,.int .u8 0,.int .u8 0,.int .u8 0,.int .u8 0,.int .u8 0,.int .u8 0,.int .u8 0,.int .u8 0,.int .u8 0,.int .u8 0,.int .u8 0,.int .u8 0,.int .u8 0,.int .u8 0,.int .u8 0,.int .u8 0,.int .u8 0,.int .u8 0,.int .u8 0,.int .u8 0,.int .u8 0,.int .u8 0,.int .u8 0,.int .u8 0,.int .u8 0,.int .u8 0,.int .u8 0,.int .u8 0,.int .u8 0,.int .u8 0,.int .u8 0,.int .u8 0,.int .u8 0,.int .u8 0,.int .u8 0,.int .u8 0,.int .u8 0,.int .u8 0,.int .u8 0,.int .u8 0,.int .u8 0,.int .u8 0,.int .u8 0,.int .u8 0,.int .u8 0,.int .u8 0,.int .u8 0,.int .u8 0,.int .u8 0,.int .u8 0,.int .u8 0,.int .u8 0,.int .u8 0,.int .u8 0,.int .u8 0,.int .u8 0,.int .u8 0,.int .u8 0,.int .u8 0,.int .u8 0,.int .u8 0,.int .u8 0,.int .u8 0,.int .u8 0,.int .u8 0,.int .u8 0,.int .u8 0,.int .u8 0,.int .u8 0,.int .u8 0,.int .u8 0,.int .u8 0,.int .u8 0,.int .u8 0,.int .u8 0,.int .u8 0,.int .u8 0,.int .u8 0,.int .u8 0,.int .u8 0,.int .u8 0,.int .u8 0,.int .u8 0,.int .u8 0,.int .u8 0,.int .u8 0,.int .u8 0,.int .u8 0,.int .u8 0,.int .u8 0,.int .u8 0,.int .u8 0,.int .u8 0,.int .u8 0,.int .u8 0,.int .u8 0,.int .u8 0,.int .u8 0,.int .u8 0,.int .u8 0,.int .u8 0,.int .u8 0,.int .u8 0,.int .u8 0,.int .u8 0,.int .u8 0,.int .u8 0]⟩:=by kernel_rfl
theorem se123:sliceElem Tryz.prog 123=none:=by kernel_rfl
theorem ae123:arrayE Tryz.prog 123=some (256,5,1):=by kernel_rfl
theorem ti125:tiOf Tryz.prog 125=some ⟨.struct [(0,5,1),(1,5,1)],2,2,[.int .u8 0,.int .u8 0]⟩:=by kernel_rfl
theorem sf125_0:structF Tryz.prog 125 0=some (0,5,1):=by kernel_rfl
theorem sf125_1:structF Tryz.prog 125 1=some (1,5,1):=by kernel_rfl
theorem ti126:tiOf Tryz.prog 126=some ⟨.array 16 125,32,32,[.int .u8 0,.int .u8 0,.int .u8 0,.int .u8 0,.int .u8 0,.int .u8 0,.int .u8 0,.int .u8 0,.int .u8 0,.int .u8 0,.int .u8 0,.int .u8 0,.int .u8 0,.int .u8 0,.int .u8 0,.int .u8 0,.int .u8 0,.int .u8 0,.int .u8 0,.int .u8 0,.int .u8 0,.int .u8 0,.int .u8 0,.int .u8 0,.int .u8 0,.int .u8 0,.int .u8 0,.int .u8 0,.int .u8 0,.int .u8 0,.int .u8 0,.int .u8 0]⟩:=by kernel_rfl
theorem se126:sliceElem Tryz.prog 126=none:=by kernel_rfl
theorem ae126:arrayE Tryz.prog 126=some (16,125,2):=by kernel_rfl
theorem ti127:tiOf Tryz.prog 127=some ⟨.int .u64,1,8,[.int .u64 0]⟩:=by kernel_rfl
theorem ie127:intE Tryz.prog 127=some .u64:=by kernel_rfl
theorem it127:intT Tryz.prog 127=some .u64:=by kernel_rfl
theorem st127:isStrT Tryz.prog 127=false:=by kernel_rfl
theorem ti158:tiOf Tryz.prog 158=some ⟨.array 24 5,24,24,[.int .u8 0,.int .u8 0,.int .u8 0,.int .u8 0,.int .u8 0,.int .u8 0,.int .u8 0,.int .u8 0,.int .u8 0,.int .u8 0,.int .u8 0,.int .u8 0,.int .u8 0,.int .u8 0,.int .u8 0,.int .u8 0,.int .u8 0,.int .u8 0,.int .u8 0,.int .u8 0,.int .u8 0,.int .u8 0,.int .u8 0,.int .u8 0]⟩:=by kernel_rfl
theorem se158:sliceElem Tryz.prog 158=none:=by kernel_rfl
theorem ae158:arrayE Tryz.prog 158=some (24,5,1):=by kernel_rfl
theorem ti165:tiOf Tryz.prog 165=some ⟨.int .i64,1,8,[.int .i64 0]⟩:=by kernel_rfl
theorem ie165:intE Tryz.prog 165=some .i64:=by kernel_rfl
theorem it165:intT Tryz.prog 165=some .i64:=by kernel_rfl
theorem st165:isStrT Tryz.prog 165=false:=by kernel_rfl
theorem ti176:tiOf Tryz.prog 176=some ⟨.array 20 110,20,160,[.int .u64 0,.int .u64 0,.int .u64 0,.int .u64 0,.int .u64 0,.int .u64 0,.int .u64 0,.int .u64 0,.int .u64 0,.int .u64 0,.int .u64 0,.int .u64 0,.int .u64 0,.int .u64 0,.int .u64 0,.int .u64 0,.int .u64 0,.int .u64 0,.int .u64 0,.int .u64 0]⟩:=by kernel_rfl
theorem se176:sliceElem Tryz.prog 176=none:=by kernel_rfl
theorem ae176:arrayE Tryz.prog 176=some (20,110,1):=by kernel_rfl
theorem ti177:tiOf Tryz.prog 177=some ⟨.array 65 5,65,65,[.int .u8 0,.int .u8 0,.int .u8 0,.int .u8 0,.int .u8 0,.int .u8 0,.int .u8 0,.int .u8 0,.int .u8 0,.int .u8 0,.int .u8 0,.int .u8 0,.int .u8 0,.int .u8 0,.int .u8 0,.int .u8 0,.int .u8 0,.int .u8 0,.int .u8 0,.int .u8 0,.int .u8 0,.int .u8 0,.int .u8 0,.int .u8 0,.int .u8 0,.int .u8 0,.int .u8 0,.int .u8 0,.int .u8 0,.int .u8 0,.int .u8 0,.int .u8 0,.int .u8 0,.int .u8 0,.int .u8 0,.int .u8 0,.int .u8 0,.int .u8 0,.int .u8 0,.int .u8 0,.int .u8 0,.int .u8 0,.int .u8 0,.int .u8 0,.int .u8 0,.int .u8 0,.int .u8 0,.int .u8 0,.int .u8 0,.int .u8 0,.int .u8 0,.int .u8 0,.int .u8 0,.int .u8 0,.int .u8 0,.int .u8 0,.int .u8 0,.int .u8 0,.int .u8 0,.int .u8 0,.int .u8 0,.int .u8 0,.int .u8 0,.int .u8 0,.int .u8 0]⟩:=by kernel_rfl
theorem se177:sliceElem Tryz.prog 177=none:=by kernel_rfl
theorem ae177:arrayE Tryz.prog 177=some (65,5,1):=by kernel_rfl
theorem ti179:tiOf Tryz.prog 179=some ⟨.int .u64,1,8,[.int .u64 0]⟩:=by kernel_rfl
theorem ie179:intE Tryz.prog 179=some .u64:=by kernel_rfl
theorem it179:intT Tryz.prog 179=some .u64:=by kernel_rfl
theorem st179:isStrT Tryz.prog 179=false:=by kernel_rfl
theorem ti183:tiOf Tryz.prog 183=some ⟨.ptr 3,1,8,[.nilp]⟩:=by kernel_rfl
theorem ti186:tiOf Tryz.prog 186=some ⟨.ptr 179,1,8,[.nilp]⟩:=by kernel_rfl
theorem ti189:tiOf Tryz.prog 189=some ⟨.array 32 5,32,32,[.int .u8 0,.int .u8 0,.int .u8 0,.int .u8 0,.int .u8 0,.int .u8 0,.int .u8 0,.int .u8 0,.int .u8 0,.int .u8 0,.int .u8 0,.int .u8 0,.int .u8 0,.int .u8 0,.int .u8 0,.int .u8 0,.int .u8 0,.int .u8 0,.int .u8 0,.int .u8 0,.int .u8 0,.int .u8 0,.int .u8 0,.int .u8 0,.int .u8 0,.int .u8 0,.int .u8 0,.int .u8 0,.int .u8 0,.int .u8 0,.int .u8 0,.int .u8 0]⟩:=by kernel_rfl
theorem se189:sliceElem Tryz.prog 189=none:=by kernel_rfl
theorem ae189:arrayE Tryz.prog 189=some (32,5,1):=by kernel_rfl
theorem ti190:tiOf Tryz.prog 190=some ⟨.array 64 5,64,64,[.int .u8 0,.int .u8 0,.int .u8 0,.int .u8 0,.int .u8 0,.int .u8 0,.int .u8 0,.int .u8 0,.int .u8 0,.int .u8 0,.int .u8 0,.int .u8 0,.int .u8 0,.int .u8 0,.int .u8 0,.int .u8 0,.int .u8 0,.int .u8 0,.int .u8 0,.int .u8 0,.int .u8 0,.int .u8 0,.int .u8 0,.int .u8 0,.int .u8 0,.int .u8 0,.int .u8 0,.int .u8 0,.int .u8 0,.int .u8 0,.int .u8 0,.int .u8 0,.int .u8 0,.int .u8 0,.int .u8 0,.int .u8 0,.int .u8 0,.int .u8 0,.int .u8 0,.int .u8 0,.int .u8 0,.int .u8 0,.int .u8 0,.int .u8 0,.int .u8 0,.int .u8 0,.int .u8 0,.int .u8 0,.int .u8 0,.int .u8 0,.int .u8 0,.int .u8 0,.int .u8 0,.int .u8 0,.int .u8 0,.int .u8 0,.int .u8 0,.int .u8 0,.int .u8 0,.int .u8 0,.int .u8 0,.int .u8 0,.int .u8 0,.int .u8 0]⟩:=by kernel_rfl
theorem se190:sliceElem Tryz.prog 190=none:=by kernel_rfl
theorem ae190:arrayE Tryz.prog 190=some (64,5,1):=by kernel_rfl
theorem ti191:tiOf Tryz.prog 191=some ⟨.ptr 206,1,8,[.nilp]⟩:=by kernel_rfl
theorem ti193:tiOf Tryz.prog 193=some ⟨.struct [(0,17,1),(1,17,1),(2,17,1),(3,9,1)],4,40,[.nilp,.nilp,.nilp,.str .empty]⟩:=by kernel_rfl
theorem sf193_0:structF Tryz.prog 193 0=some (0,17,1):=by kernel_rfl
theorem sf193_1:structF Tryz.prog 193 1=some (1,17,1):=by kernel_rfl
theorem sf193_2:structF Tryz.prog 193 2=some (2,17,1):=by kernel_rfl
theorem sf193_3:structF Tryz.prog 193 3=some (3,9,1):=by kernel_rfl
theorem ti194:tiOf Tryz.prog 194=some ⟨.array 0 16,0,0,[]⟩:=by kernel_rfl
theorem se194:sliceElem Tryz.prog 194=none:=by kernel_rfl
theorem ae194:arrayE Tryz.prog 194=some (0,16,1):=by kernel_rfl
theorem ti196:tiOf Tryz.prog 196=some ⟨.struct [(0,194,0)],0,0,[]⟩:=by kernel_rfl
theorem sf196_0:structF Tryz.prog 196 0=some (0,194,0):=by kernel_rfl
theorem ti198:tiOf Tryz.prog 198=some ⟨.int .u8,1,1,[.int .u8 0]⟩:=by kernel_rfl
theorem ie198:intE Tryz.prog 198=some .u8:=by kernel_rfl
theorem it198:intT Tryz.prog 198=some .u8:=by kernel_rfl
theorem st198:isStrT Tryz.prog 198=false:=by kernel_rfl
theorem ti199:tiOf Tryz.prog 199=some ⟨.int .u8,1,1,[.int .u8 0]⟩:=by kernel_rfl
theorem ie199:intE Tryz.prog 199=some .u8:=by kernel_rfl
theorem it199:intT Tryz.prog 199=some .u8:=by kernel_rfl
theorem st199:isStrT Tryz.prog 199=false:=by kernel_rfl
theorem ti200:tiOf Tryz.prog 200=some ⟨.func,1,8,[.nilf]⟩:=by kernel_rfl
theorem ti201:tiOf Tryz.prog 201=some ⟨.int .i32,1,4,[.int .i32 0]⟩:=by kernel_rfl
theorem ie201:intE Tryz.prog 201=some .i32:=by kernel_rfl
theorem it201:intT Tryz.prog 201=some .i32:=by kernel_rfl
theorem st201:isStrT Tryz.prog 201=false:=by kernel_rfl
theorem ti202:tiOf Tryz.prog 202=some ⟨.int .i32,1,4,[.int .i32 0]⟩:=by kernel_rfl
theorem ie202:intE Tryz.prog 202=some .i32:=by kernel_rfl
theorem it202:intT Tryz.prog 202=some .i32:=by kernel_rfl
theorem st202:isStrT Tryz.prog 202=false:=by kernel_rfl
theorem ti204:tiOf Tryz.prog 204=some ⟨.struct [(0,12,1),(1,12,1),(2,107,1),(3,198,1),(4,5,1),(5,5,1),(6,199,1),(7,200,1),(8,94,1),(9,201,1),(10,202,1)],11,48,[.int .u64 0,.int .u64 0,.int .u32 0,.int .u8 0,.int .u8 0,.int .u8 0,.int .u8 0,.nilf,.nilp,.int .i32 0,.int .i32 0]⟩:=by kernel_rfl
theorem sf204_0:structF Tryz.prog 204 0=some (0,12,1):=by kernel_rfl
theorem sf204_1:structF Tryz.prog 204 1=some (1,12,1):=by kernel_rfl
theorem sf204_2:structF Tryz.prog 204 2=some (2,107,1):=by kernel_rfl
theorem sf204_3:structF Tryz.prog 204 3=some (3,198,1):=by kernel_rfl
theorem sf204_4:structF Tryz.prog 204 4=some (4,5,1):=by kernel_rfl
theorem sf204_5:structF Tryz.prog 204 5=some (5,5,1):=by kernel_rfl
theorem sf204_6:structF Tryz.prog 204 6=some (6,199,1):=by kernel_rfl
theorem sf204_7:structF Tryz.prog 204 7=some (7,200,1):=by kernel_rfl
theorem sf204_8:structF Tryz.prog 204 8=some (8,94,1):=by kernel_rfl
theorem sf204_9:structF Tryz.prog 204 9=some (9,201,1):=by kernel_rfl
theorem sf204_10:structF Tryz.prog 204 10=some (10,202,1):=by kernel_rfl
theorem ti206:tiOf Tryz.prog 206=some ⟨.struct [(0,9,1)],1,16,[.str .empty]⟩:=by kernel_rfl
theorem sf206_0:structF Tryz.prog 206 0=some (0,9,1):=by kernel_rfl
theorem go4:goFn Tryz.prog 4=true:=by kernel_rfl
theorem go5:goFn Tryz.prog 5=true:=by kernel_rfl
theorem go6:goFn Tryz.prog 6=true:=by kernel_rfl
theorem go7:goFn Tryz.prog 7=true:=by kernel_rfl
theorem go8:goFn Tryz.prog 8=true:=by kernel_rfl
theorem go9:goFn Tryz.prog 9=true:=by kernel_rfl
theorem go10:goFn Tryz.prog 10=true:=by kernel_rfl
theorem go11:goFn Tryz.prog 11=true:=by kernel_rfl
theorem go12:goFn Tryz.prog 12=true:=by kernel_rfl
theorem go13:goFn Tryz.prog 13=true:=by kernel_rfl
theorem go14:goFn Tryz.prog 14=true:=by kernel_rfl
theorem go15:goFn Tryz.prog 15=true:=by kernel_rfl
theorem go16:goFn Tryz.prog 16=true:=by kernel_rfl
theorem go17:goFn Tryz.prog 17=true:=by kernel_rfl
theorem go18:goFn Tryz.prog 18=true:=by kernel_rfl
theorem go19:goFn Tryz.prog 19=true:=by kernel_rfl
theorem go20:goFn Tryz.prog 20=true:=by kernel_rfl
theorem go21:goFn Tryz.prog 21=true:=by kernel_rfl
theorem go22:goFn Tryz.prog 22=true:=by kernel_rfl
theorem go23:goFn Tryz.prog 23=true:=by kernel_rfl
theorem go24:goFn Tryz.prog 24=true:=by kernel_rfl
theorem go25:goFn Tryz.prog 25=true:=by kernel_rfl
theorem go26:goFn Tryz.prog 26=true:=by kernel_rfl
theorem go27:goFn Tryz.prog 27=true:=by kernel_rfl
theorem go28:goFn Tryz.prog 28=true:=by kernel_rfl
theorem go29:goFn Tryz.prog 29=true:=by kernel_rfl
theorem go30:goFn Tryz.prog 30=true:=by kernel_rfl
theorem go31:goFn Tryz.prog 31=true:=by kernel_rfl
theorem go32:goFn Tryz.prog 32=true:=by kernel_rfl
theorem go33:goFn Tryz.prog 33=true:=by kernel_rfl
theorem go34:goFn Tryz.prog 34=true:=by kernel_rfl
theorem go35:goFn Tryz.prog 35=true:=by kernel_rfl
theorem go36:goFn Tryz.prog 36=true:=by kernel_rfl
theorem go37:goFn Tryz.prog 37=true:=by kernel_rfl
theorem go38:goFn Tryz.prog 38=true:=by kernel_rfl
theorem go39:goFn Tryz.prog 39=true:=by kernel_rfl
theorem go40:goFn Tryz.prog 40=true:=by kernel_rfl
theorem go41:goFn Tryz.prog 41=true:=by kernel_rfl
theorem go42:goFn Tryz.prog 42=true:=by kernel_rfl
theorem go43:goFn Tryz.prog 43=true:=by kernel_rfl
theorem go44:goFn Tryz.prog 44=true:=by kernel_rfl
theorem go45:goFn Tryz.prog 45=true:=by kernel_rfl
theorem go46:goFn Tryz.prog 46=true:=by kernel_rfl
theorem go50:goFn Tryz.prog 50=true:=by kernel_rfl
theorem go51:goFn Tryz.prog 51=true:=by kernel_rfl
theorem go52:goFn Tryz.prog 52=true:=by kernel_rfl
theorem go53:goFn Tryz.prog 53=true:=by kernel_rfl
theorem go54:goFn Tryz.prog 54=true:=by kernel_rfl
theorem go55:goFn Tryz.prog 55=true:=by kernel_rfl
theorem go57:goFn Tryz.prog 57=true:=by kernel_rfl
theorem go58:goFn Tryz.prog 58=true:=by kernel_rfl
theorem go59:goFn Tryz.prog 59=true:=by kernel_rfl
theorem go60:goFn Tryz.prog 60=true:=by kernel_rfl
theorem go61:goFn Tryz.prog 61=true:=by kernel_rfl
theorem go62:goFn Tryz.prog 62=true:=by kernel_rfl
theorem go63:goFn Tryz.prog 63=true:=by kernel_rfl
theorem go68:goFn Tryz.prog 68=true:=by kernel_rfl
theorem go69:goFn Tryz.prog 69=true:=by kernel_rfl
theorem go70:goFn Tryz.prog 70=true:=by kernel_rfl
theorem go73:goFn Tryz.prog 73=true:=by kernel_rfl
theorem go74:goFn Tryz.prog 74=true:=by kernel_rfl
theorem go75:goFn Tryz.prog 75=true:=by kernel_rfl
theorem go76:goFn Tryz.prog 76=true:=by kernel_rfl
theorem go77:goFn Tryz.prog 77=true:=by kernel_rfl
theorem go78:goFn Tryz.prog 78=true:=by kernel_rfl
theorem go79:goFn Tryz.prog 79=true:=by kernel_rfl
theorem go80:goFn Tryz.prog 80=true:=by kernel_rfl
theorem go81:goFn Tryz.prog 81=true:=by kernel_rfl
theorem go82:goFn Tryz.prog 82=true:=by kernel_rfl
theorem go83:goFn Tryz.prog 83=true:=by kernel_rfl
theorem go84:goFn Tryz.prog 84=true:=by kernel_rfl
theorem go85:goFn Tryz.prog 85=true:=by kernel_rfl
theorem go86:goFn Tryz.prog 86=true:=by kernel_rfl
theorem go87:goFn Tryz.prog 87=true:=by kernel_rfl
theorem go88:goFn Tryz.prog 88=true:=by kernel_rfl
theorem go89:goFn Tryz.prog 89=true:=by kernel_rfl
theorem go93:goFn Tryz.prog 93=true:=by kernel_rfl
theorem go95:goFn Tryz.prog 95=true:=by kernel_rfl
theorem go96:goFn Tryz.prog 96=true:=by kernel_rfl
theorem go97:goFn Tryz.prog 97=true:=by kernel_rfl
theorem go100:goFn Tryz.prog 100=true:=by kernel_rfl
theorem go103:goFn Tryz.prog 103=true:=by kernel_rfl
theorem go104:goFn Tryz.prog 104=true:=by kernel_rfl
theorem go105:goFn Tryz.prog 105=true:=by kernel_rfl
theorem go106:goFn Tryz.prog 106=true:=by kernel_rfl
theorem go107:goFn Tryz.prog 107=true:=by kernel_rfl
theorem go108:goFn Tryz.prog 108=true:=by kernel_rfl
theorem go109:goFn Tryz.prog 109=true:=by kernel_rfl
theorem go110:goFn Tryz.prog 110=true:=by kernel_rfl
theorem go111:goFn Tryz.prog 111=true:=by kernel_rfl
theorem go112:goFn Tryz.prog 112=true:=by kernel_rfl
theorem go113:goFn Tryz.prog 113=true:=by kernel_rfl
theorem go114:goFn Tryz.prog 114=true:=by kernel_rfl
theorem go115:goFn Tryz.prog 115=true:=by kernel_rfl
theorem go116:goFn Tryz.prog 116=true:=by kernel_rfl
theorem go117:goFn Tryz.prog 117=true:=by kernel_rfl
theorem go118:goFn Tryz.prog 118=true:=by kernel_rfl
theorem go120:goFn Tryz.prog 120=true:=by kernel_rfl
theorem go124:goFn Tryz.prog 124=true:=by kernel_rfl
theorem go129:goFn Tryz.prog 129=true:=by kernel_rfl
theorem go130:goFn Tryz.prog 130=true:=by kernel_rfl
theorem go131:goFn Tryz.prog 131=true:=by kernel_rfl
theorem go132:goFn Tryz.prog 132=true:=by kernel_rfl
theorem go133:goFn Tryz.prog 133=true:=by kernel_rfl
theorem go134:goFn Tryz.prog 134=true:=by kernel_rfl
theorem go135:goFn Tryz.prog 135=true:=by kernel_rfl
theorem go136:goFn Tryz.prog 136=true:=by kernel_rfl
theorem go137:goFn Tryz.prog 137=true:=by kernel_rfl
theorem go138:goFn Tryz.prog 138=true:=by kernel_rfl
theorem go139:goFn Tryz.prog 139=true:=by kernel_rfl
theorem go140:goFn Tryz.prog 140=true:=by kernel_rfl
theorem go141:goFn Tryz.prog 141=true:=by kernel_rfl
theorem go154:goFn Tryz.prog 154=true:=by kernel_rfl
theorem go155:goFn Tryz.prog 155=true:=by kernel_rfl
theorem go158:goFn Tryz.prog 158=true:=by kernel_rfl
theorem go159:goFn Tryz.prog 159=true:=by kernel_rfl
theorem go160:goFn Tryz.prog 160=true:=by kernel_rfl
theorem go161:goFn Tryz.prog 161=true:=by kernel_rfl
theorem go162:goFn Tryz.prog 162=true:=by kernel_rfl
theorem go163:goFn Tryz.prog 163=true:=by kernel_rfl
theorem go172:goFn Tryz.prog 172=true:=by kernel_rfl
theorem go173:goFn Tryz.prog 173=true:=by kernel_rfl
set_option linter.defProp false in
def awF :=
 (And.intro (And.intro (And.intro (And.intro (And.intro (And.intro (And.intro ti2
 (And.intro ie2
 it2))
 (And.intro (And.intro st2
 ti3)
 (And.intro zo3
 ie3)))
 (And.intro (And.intro it3
 (And.intro st3
 ti4))
 (And.intro (And.intro bt4
 ti5)
 (And.intro ie5
 it5))))
 (And.intro (And.intro (And.intro st5
 (And.intro ti6
 ie6))
 (And.intro (And.intro it6
 st6)
 (And.intro ti7
 sf7_0)))
 (And.intro (And.intro sf7_1
 (And.intro sf7_2
 sf7_3))
 (And.intro (And.intro ti8
 sf8_0)
 (And.intro sf8_1
 sf8_2)))))
 (And.intro (And.intro (And.intro (And.intro sf8_3
 (And.intro ti9
 st9))
 (And.intro (And.intro ap9
 it9)
 (And.intro ti10
 st10)))
 (And.intro (And.intro ap10
 (And.intro it10
 ti11))
 (And.intro (And.intro st11
 ap11)
 (And.intro it11
 ti12))))
 (And.intro (And.intro (And.intro ie12
 (And.intro it12
 st12))
 (And.intro (And.intro ti14
 sf14_0)
 (And.intro sf14_1
 ti15)))
 (And.intro (And.intro ti16
 (And.intro ti17
 ti19))
 (And.intro (And.intro sf19_0
 ti20)
 (And.intro ti21
 ie21))))))
 (And.intro (And.intro (And.intro (And.intro (And.intro it21
 (And.intro st21
 ti22))
 (And.intro (And.intro se22
 sz22)
 (And.intro ap22
 st22)))
 (And.intro (And.intro ti24
 (And.intro ti26
 se26))
 (And.intro (And.intro sz26
 ap26)
 (And.intro st26
 ti28))))
 (And.intro (And.intro (And.intro sf28_0
 (And.intro sf28_1
 ti30))
 (And.intro (And.intro se30
 sz30)
 (And.intro ap30
 st30)))
 (And.intro (And.intro ti34
 (And.intro se34
 sz34))
 (And.intro (And.intro ap34
 st34)
 (And.intro ti39
 eq39)))))
 (And.intro (And.intro (And.intro (And.intro sf39_0
 (And.intro sf39_1
 ti44))
 (And.intro (And.intro se44
 sz44)
 (And.intro ap44
 st44)))
 (And.intro (And.intro ti47
 (And.intro se47
 sz47))
 (And.intro (And.intro ap47
 st47)
 (And.intro ti54
 sf54_0))))
 (And.intro (And.intro (And.intro sf54_1
 (And.intro ti60
 eq60))
 (And.intro (And.intro sf60_0
 sf60_1)
 (And.intro sf60_2
 ti62)))
 (And.intro (And.intro ti63
 (And.intro se63
 ae63))
 (And.intro (And.intro ti64
 ti70)
 (And.intro ti72
 sf72_0)))))))
 (And.intro (And.intro (And.intro (And.intro (And.intro (And.intro sf72_1
 (And.intro ti75
 ti80))
 (And.intro (And.intro se80
 sz80)
 (And.intro ap80
 st80)))
 (And.intro (And.intro ti82
 (And.intro sf82_0
 sf82_1))
 (And.intro (And.intro ti84
 sf84_0)
 (And.intro sf84_1
 ti91))))
 (And.intro (And.intro (And.intro ti92
 (And.intro ti94
 ti97))
 (And.intro (And.intro se97
 ae97)
 (And.intro ti101
 ti106)))
 (And.intro (And.intro se106
 (And.intro sz106
 ap106))
 (And.intro (And.intro st106
 ti107)
 (And.intro ie107
 it107)))))
 (And.intro (And.intro (And.intro (And.intro st107
 (And.intro ti110
 ie110))
 (And.intro (And.intro it110
 st110)
 (And.intro ti123
 se123)))
 (And.intro (And.intro ae123
 (And.intro ti125
 sf125_0))
 (And.intro (And.intro sf125_1
 ti126)
 (And.intro se126
 ae126))))
 (And.intro (And.intro (And.intro ti127
 (And.intro ie127
 it127))
 (And.intro (And.intro st127
 ti158)
 (And.intro se158
 ae158)))
 (And.intro (And.intro ti165
 (And.intro ie165
 it165))
 (And.intro (And.intro st165
 ti176)
 (And.intro se176
 ae176))))))
 (And.intro (And.intro (And.intro (And.intro (And.intro ti177
 (And.intro se177
 ae177))
 (And.intro (And.intro ti179
 ie179)
 (And.intro it179
 st179)))
 (And.intro (And.intro ti183
 (And.intro ti186
 ti189))
 (And.intro (And.intro se189
 ae189)
 (And.intro ti190
 se190))))
 (And.intro (And.intro (And.intro ae190
 (And.intro ti191
 ti193))
 (And.intro (And.intro sf193_0
 sf193_1)
 (And.intro sf193_2
 sf193_3)))
 (And.intro (And.intro ti194
 (And.intro se194
 ae194))
 (And.intro (And.intro ti196
 sf196_0)
 (And.intro ti198
 ie198)))))
 (And.intro (And.intro (And.intro (And.intro it198
 (And.intro st198
 ti199))
 (And.intro (And.intro ie199
 it199)
 (And.intro st199
 ti200)))
 (And.intro (And.intro ti201
 (And.intro ie201
 it201))
 (And.intro (And.intro st201
 ti202)
 (And.intro ie202
 it202))))
 (And.intro (And.intro (And.intro st202
 (And.intro ti204
 sf204_0))
 (And.intro (And.intro sf204_1
 sf204_2)
 (And.intro sf204_3
 sf204_4)))
 (And.intro (And.intro (And.intro sf204_5
 sf204_6)
 (And.intro sf204_7
 sf204_8))
 (And.intro (And.intro sf204_9
 sf204_10)
 (And.intro ti206
 sf206_0))))))))
theorem hmix:Tryz.prog.follows .mixedOrders=true:=by kernel_rfl
end Go.Proofs.YtkgbbdoeodmkgaaGreatDoor
namespace Go.Proofs.YtkgbbdoeodmkgaaGreatDoor
open Go Go.Proofs Go.Abs Go.RowKit Go.Shelf
variable {G:Globals}
abbrev M0:Muts:=fun _=>false
abbrev S (l:List UInt8):D:=.str (bs l)
def firstDs:List D:=(List.range 256).map fun c=>.int .u8 (Lib.firstT c)
def accDs:List D:=(List.range 32).map fun i=>.int .u8 (if i % 2=0 then Lib.accLo (i / 2) else Lib.accHi (i / 2):Nat)
def HT (G:Globals):Prop:=G 2=some firstDs∧G 3=some accDs
def Tryz.laysValid_ren:Go.Shelf.Ren:=⟨fun | 196=>60 | 259=>94 | n=>n,fun | 9=>9 | 4=>4 | 3=>3 | 5=>5 | 12=>12 | 119=>123 | 0=>0 | 46=>127 | 139=>126 | 138=>125 | 53=>110 | n=>n,fun | 3=>2 | 4=>3 | n=>n⟩
theorem Tryz.laysValid:Go.Proofs.Lays.n196 Tryz.prog Tryz.laysValid_ren where
 mixed:=by kernel_rfl
 f196:=Tryz.func60.trans (congrArg some (by kernel_rfl))
 f259:=Tryz.func94.trans (congrArg some (by kernel_rfl))
 t0:=Tryz.underlying0
 a0:=Tryz.isAgg0
 z0:=Tryz.sizeOf0
 v0:=Tryz.zeroValue0
 t3:=Tryz.underlying3
 a3:=Tryz.isAgg3
 z3:=Tryz.sizeOf3
 v3:=Tryz.zeroValue3
 t4:=Tryz.underlying4
 a4:=Tryz.isAgg4
 z4:=Tryz.sizeOf4
 v4:=Tryz.zeroValue4
 t5:=Tryz.underlying5
 a5:=Tryz.isAgg5
 z5:=Tryz.sizeOf5
 v5:=Tryz.zeroValue5
 t9:=Tryz.underlying9
 a9:=Tryz.isAgg9
 z9:=Tryz.sizeOf9
 v9:=Tryz.zeroValue9
 t12:=Tryz.underlying12
 a12:=Tryz.isAgg12
 z12:=Tryz.sizeOf12
 v12:=Tryz.zeroValue12
 t46:=Tryz.underlying127
 a46:=Tryz.isAgg127
 z46:=Tryz.sizeOf127
 v46:=Tryz.zeroValue127
 t53:=Tryz.underlying110
 a53:=Tryz.isAgg110
 z53:=Tryz.sizeOf110
 v53:=Tryz.zeroValue110
 t119:=Tryz.underlying123
 a119:=Tryz.isAgg123
 z119:=Tryz.sizeOf123
 t138:=Tryz.underlying125
 a138:=Tryz.isAgg125
 z138:=Tryz.sizeOf125
 v138:=Tryz.zeroValue125
 t139:=Tryz.underlying126
 a139:=Tryz.isAgg126
 z139:=Tryz.sizeOf126
 v139:=Tryz.zeroValue126
 g3:=by kernel_rfl
 g4:=by kernel_rfl
theorem tab_cell {h:Held} {ρ:Abs.Place} {H:Heap} {w:World} {g:Nat} {l:List Int} (s:Sim G h ρ H w) (e:G g=some (ints .u8 l)) {i:Nat} (hi:i<l.length):w.cell? ⟨g,i,none⟩=some (.int .u8 (l.getD i 0)):=by
 obtain ⟨vs,h1,h2⟩:=s.glob g _ e
 have hx:(ints .u8 l)[i]? = some (.int .u8 (l.getD i 0)):=by simp [ints,hi,List.getD_eq_getElem?_getD]
 have:=s.prom _ _ _ (h1 i _ hx)
 rw [this]
 have r:=h2 i _ hx
 generalize vs i=v at r
 cases r
 rfl
theorem firstDs_eq:firstDs=ints .u8 ((List.range 256).map fun c=>(Lib.firstT c:Int)):=by simp [firstDs,ints]
theorem accDs_eq:accDs=ints .u8 ((List.range 32).map fun i=>((if i % 2=0 then Lib.accLo (i / 2) else Lib.accHi (i / 2):Nat):Int)):=by simp [accDs,ints]
theorem tabs_of {h:Held} {ρ:Abs.Place} {H:Heap} {w:World} (hT:HT G) (s:Sim G h ρ H w):Lib.Utf8Tabs 2 3 w:=by
 obtain ⟨e1,e2⟩:=hT
 rw [firstDs_eq] at e1
 rw [accDs_eq] at e2
 refine ⟨fun c hc=>?_,fun i hi=>⟨?_,?_⟩⟩
 ·rw [tab_cell s e1 (by simpa using hc)]
  simp [List.getD_eq_getElem?_getD,hc]
 ·rw [tab_cell s e2 (by simp;omega)]
  simp [List.getD_eq_getElem?_getD,show 2*i<32 by omega]
 ·rw [tab_cell s e2 (by simp;omega)]
  simp [List.getD_eq_getElem?_getD,show 2*i+1<32 by omega,show (2*i+1) % 2=1 by omega,show (2*i+1) / 2=i by omega]
theorem validS_spec (hT:HT G) (l:List UInt8) (hl:l.length≤9223372036854775807):Ctr Tryz.prog G 60 [.d (S l)] [] (.d (.bool (Lib.validD l))) []:=by
 refine Ctr.of_calls go60 fun h ρ w vs q r=>?_
 obtain ⟨v,rfl,hv⟩:=r.inv1
 rw [hv.str_inv]
 refine (Any.utf8_ValidString Tryz.laysValid (bs l) w (by rw [bs_size];exact hl) (tabs_of hT q)).mono ?_
 rintro e w' ⟨rfl,hb⟩
 exact ⟨_,rfl,.bool _,hb⟩
theorem tvalid_spec (hT:HT G) (l:List UInt8) (hl:l.length≤9223372036854775807):Ctr Tryz.prog G 44 [.d (S l)] [] (.d (.bool (Lib.validD l))) []:=by
 refine Ctr.pure (M:=M0) hmix Tryz.func44 rfl go44 ?_
 simp (config:={maxSteps:=1000000}) (disch:=((try simp only [awL]);omega)) only [Tryz.f44,↓awU,awV,awF,Qa,Qb,Qc,Qd,forall_const,↓reduceIte,↓reduceDIte,↓Qe,Qf,Qg,Qh,Qi,Qj,Qk,Ql,Qm,Qn,Qo,Qp,Qq,Qr,Qs,implies_true,Qt,Qu,Qv,Qw,Qx,Qy,Qz,QA,QB,QC,QD,QE,QF,QG,QH,QI,QJ,QK,QL,QM,QN,QO,QP,QQ]
 refine CallC.pure (validS_spec hT l hl) ?_
 simp (config:={maxSteps:=1000000}) (disch:=((try simp only [awL]);omega)) only [↓awU,awV,awF,Qa,Qb,Qc,Qd,forall_const,↓reduceIte,↓reduceDIte,↓Qe,Qf,Qg,Qh,Qi,Qj,Qk,Ql,Qm,Qn,Qo,Qp,Qq,Qr,Qs,implies_true,Qt,Qu,Qv,Qw,Qx,Qy,Qz,QA,QB,QC,QD,QE,QF,QG,QH,QI,QJ,QK,QL,QM,QN,QO,QP,QQ]
theorem rvalidS_spec (hT:HT G) (l:List UInt8) (hl:l.length≤9223372036854775807):Ctr Tryz.prog G 54 [.d (S l)] [] (.d (.bool (Lib.validD l))) []:=by
 refine Ctr.pure (M:=M0) hmix Tryz.func54 rfl go54 ?_
 simp (config:={maxSteps:=1000000}) (disch:=((try simp only [awL]);omega)) only [Tryz.f54,↓awU,awV,awF,Qa,Qb,Qc,Qd,forall_const,↓reduceIte,↓reduceDIte,↓Qe,Qf,Qg,Qh,Qi,Qj,Qk,Ql,Qm,Qn,Qo,Qp,Qq,Qr,Qs,implies_true,Qt,Qu,Qv,Qw,Qx,Qy,Qz,QA,QB,QC,QD,QE,QF,QG,QH,QI,QJ,QK,QL,QM,QN,QO,QP,QQ]
 refine CallC.pure (validS_spec hT l hl) ?_
 simp (config:={maxSteps:=1000000}) (disch:=((try simp only [awL]);omega)) only [↓awU,awV,awF,Qa,Qb,Qc,Qd,forall_const,↓reduceIte,↓reduceDIte,↓Qe,Qf,Qg,Qh,Qi,Qj,Qk,Ql,Qm,Qn,Qo,Qp,Qq,Qr,Qs,implies_true,Qt,Qu,Qv,Qw,Qx,Qy,Qz,QA,QB,QC,QD,QE,QF,QG,QH,QI,QJ,QK,QL,QM,QN,QO,QP,QQ]
end Go.Proofs.YtkgbbdoeodmkgaaGreatDoor
namespace Go.Proofs.YtkgbbdoeodmkgaaGreatDoor
open Go Go.Proofs Go.Abs Go.RowKit Go.Shelf
variable {G:Globals}
def hasP (s p:List UInt8):Bool:=decide (s.take p.length=p)
theorem hasP_le {s p:List UInt8} (h:hasP s p=true):p.length≤s.length:=by
 have:=of_decide_eq_true h
 have h2:=congrArg List.length this
 simp at h2;omega
theorem hasPrefix_spec (s p:List UInt8):Ctr Tryz.prog G 129 [.d (S s),.d (S p)] [] (.d (.bool (hasP s p))) []:=by
 refine Ctr.pure (M:=M0) hmix Tryz.func129 rfl go129 ?_
 simp (config:={maxSteps:=1000000}) (disch:=((try simp only [awL]);omega)) only [QR,QS,QT,QU,QV,QW,QX,QY,QZ,Q0,Q1,Q2,Tryz.f129,↓awU,awV,awF,Qa,Qb,Qc,Qd,forall_const,↓reduceIte,↓reduceDIte,↓Qe,Qf,Qg,Qh,Qi,Qj,Qk,Ql,Qm,Qn,Qo,Qp,Qq,Qr,Qs,implies_true,Qt,Qu,Qv,Qw,Qx,Qy,Qz,QA,QB,QC,QD,QE,QF,QG,QH,QI,QJ,QK,QL,QM,QN,QO,QP,QQ]
 refine ⟨fun _=>rfl,fun h=>(decide_eq_false fun e=>h ?_).symm⟩
 have:=congrArg List.length e
 simp at this
 omega
set_option maxHeartbeats 1000000 in
set_option maxRecDepth 100000 in
theorem indexByte_calls (s:ByteArray) (c:Int) (w:World) :
  Calls Tryz.prog 120 #[.string s,.int .u8 c] w fun e w'=>e=.returned (.int .i64 (Lib.indexByte s.data.toList c.toNat.toUInt8))∧w'=w:=by
 go_enter Tryz.func120,Tryz.ntmps120
 go_wp2
 rw [run_callFunc_extern Tryz.func143 (by kernel_rfl) (by kernel_rfl) (by kernel_rfl) (e:=Extern.BytealgIndexByte.indexByte) (by kernel_rfl),Lib.run_indexByteString]
 simp only [Result.andThen]
 rw [Oper.upon_value]
 go_wp2
 go_ret
 exact ⟨rfl,rfl⟩
theorem indexByte_spec (s:List UInt8) (c:UInt8):Ctr Tryz.prog G 120 [.d (S s),.d (.int .u8 c.toNat)] [] (.d (.int .i64 (Lib.indexByte s c))) []:=by
 refine Ctr.of_calls go120 fun h ρ w vs q r=>?_
 obtain ⟨v,u,rfl,hv,hu⟩:=r.inv2
 rw [hv.str_inv,hu.int_inv]
 refine (indexByte_calls (bs s) c.toNat w).mono ?_
 rintro e w' ⟨rfl,rfl⟩
 refine ⟨_,rfl,?_,.refl _ _⟩
 have:((c.toNat:Int)).toNat.toUInt8=c:=by simp
 rw [this]
 exact .int _ _
def cutL (c:UInt8):List UInt8→List UInt8
 | []=>[]
 | b::l=>if b=c then [] else b::cutL c l
def cutR (c:UInt8):List UInt8→List UInt8
 | []=>[]
 | b::l=>if b=c then l else cutR c l
theorem cut_index (c:UInt8):∀ s:List UInt8,(c∈s→∃ k:Nat,Lib.indexByte s c=k∧k<s.length∧s.take k=cutL c s∧s.drop (k+1)=cutR c s)∧(c∉s→Lib.indexByte s c=-1∧cutL c s=s∧cutR c s=[])
 | []=>⟨fun h=>absurd h List.not_mem_nil,fun _=>⟨rfl,rfl,rfl⟩⟩
 | b::l=>by
   obtain ⟨i1,i2⟩:=cut_index c l
   by_cases e:b=c
   ·subst e
    refine ⟨fun _=>⟨0,?_,by simp,by simp [cutL],by simp [cutR]⟩,fun h=>absurd (List.mem_cons_self ..) h⟩
    simp [Lib.indexByte]
   ·have e2:¬ c=b:=fun h=>e h.symm
    refine ⟨fun h=>?_,fun h=>?_⟩
    ·obtain ⟨k,h1,h2,h3,h4⟩:=i1 ((List.mem_cons.1 h).resolve_left e2)
     refine ⟨k+1,?_,by simpa using h2,by simp [cutL,e,h3],by simp [cutR,e,h4]⟩
     simp only [Lib.indexByte,h1]
     rw [if_neg (by simpa using e),if_neg (by simp)]
     omega
    ·obtain ⟨h1,h2,h3⟩:=i2 (fun h2=>h (List.mem_cons_of_mem _ h2))
     refine ⟨?_,by simp [cutL,e,h2],by simp [cutR,e,h3]⟩
     simp only [Lib.indexByte,h1]
     rw [if_neg (by simpa using e),if_pos (by decide)]
theorem index1_spec (s:List UInt8) (c:UInt8) (hs:s.length<2 ^ 62):Ctr Tryz.prog G 93 [.d (S s),.d (S [c])] [] (.d (.int .i64 (Lib.indexByte s c))) []:=by
 refine Ctr.pure (M:=M0) hmix Tryz.func93 rfl go93 ?_
 simp (config:={maxSteps:=1000000}) (disch:=((try simp only [awL]);omega)) only [QR,QS,QT,QU,QV,QW,QX,QY,QZ,Q0,Q1,Q2,Tryz.f93,↓awU,awV,awF,Qa,Qb,Qc,Qd,forall_const,↓reduceIte,↓reduceDIte,↓Qe,Qf,Qg,Qh,Qi,Qj,Qk,Ql,Qm,Qn,Qo,Qp,Qq,Qr,Qs,implies_true,Qt,Qu,Qv,Qw,Qx,Qy,Qz,QA,QB,QC,QD,QE,QF,QG,QH,QI,QJ,QK,QL,QM,QN,QO,QP,QQ]
 refine ⟨fun h=>?_,fun h=>?_⟩
 ·rw [← h];simp [Lib.indexByte]
 ·refine CallC.pure (indexByte_spec s c) ?_
  simp (config:={maxSteps:=1000000}) (disch:=((try simp only [awL]);omega)) only [QR,QS,QT,QU,QV,QW,QX,QY,QZ,Q0,Q1,Q2,↓awU,awV,awF,Qa,Qb,Qc,Qd,forall_const,↓reduceIte,↓reduceDIte,↓Qe,Qf,Qg,Qh,Qi,Qj,Qk,Ql,Qm,Qn,Qo,Qp,Qq,Qr,Qs,implies_true,Qt,Qu,Qv,Qw,Qx,Qy,Qz,QA,QB,QC,QD,QE,QF,QG,QH,QI,QJ,QK,QL,QM,QN,QO,QP,QQ]
theorem cutS_spec (s:List UInt8) (c:UInt8) (hs:s.length<2 ^ 62):Ctr Tryz.prog G 105 [.d (S s),.d (S [c])] [] (.d (.tup [S (cutL c s),S (cutR c s),.bool (decide (c∈s))])) []:=by
 refine Ctr.pure (M:=M0) hmix Tryz.func105 rfl go105 ?_
 simp (config:={maxSteps:=1000000}) (disch:=((try simp only [awL]);omega)) only [QR,QS,QT,QU,QV,QW,QX,QY,QZ,Q0,Q1,Q2,Tryz.f105,↓awU,awV,awF,Qa,Qb,Qc,Qd,forall_const,↓reduceIte,↓reduceDIte,↓Qe,Qf,Qg,Qh,Qi,Qj,Qk,Ql,Qm,Qn,Qo,Qp,Qq,Qr,Qs,implies_true,Qt,Qu,Qv,Qw,Qx,Qy,Qz,QA,QB,QC,QD,QE,QF,QG,QH,QI,QJ,QK,QL,QM,QN,QO,QP,QQ]
 refine CallC.pure (index1_spec s c hs) ?_
 obtain ⟨i1,i2⟩:=cut_index c s
 by_cases h:c∈s
 ·obtain ⟨k,h1,h2,h3,h4⟩:=i1 h
  rw [h1,decide_eq_true h,← h3,← h4]
  simp (config:={maxSteps:=1000000}) (disch:=((try simp only [awL]);omega)) only [QR,QS,QT,QU,QV,QW,QX,QY,QZ,Q0,Q1,Q2,↓awU,awV,awF,Qa,Qb,Qc,Qd,forall_const,↓reduceIte,↓reduceDIte,↓Qe,Qf,Qg,Qh,Qi,Qj,Qk,Ql,Qm,Qn,Qo,Qp,Qq,Qr,Qs,implies_true,Qt,Qu,Qv,Qw,Qx,Qy,Qz,QA,QB,QC,QD,QE,QF,QG,QH,QI,QJ,QK,QL,QM,QN,QO,QP,QQ]
  rfl
 ·obtain ⟨h1,h3,h4⟩:=i2 h
  rw [h1,decide_eq_false h,h3,h4]
  simp (config:={maxSteps:=1000000}) (disch:=((try simp only [awL]);omega)) only [QR,QS,QT,QU,QV,QW,QX,QY,QZ,Q0,Q1,Q2,↓awU,awV,awF,Qa,Qb,Qc,Qd,forall_const,↓reduceIte,↓reduceDIte,↓Qe,Qf,Qg,Qh,Qi,Qj,Qk,Ql,Qm,Qn,Qo,Qp,Qq,Qr,Qs,implies_true,Qt,Qu,Qv,Qw,Qx,Qy,Qz,QA,QB,QC,QD,QE,QF,QG,QH,QI,QJ,QK,QL,QM,QN,QO,QP,QQ]
theorem cut_spec (s:List UInt8) (c:UInt8) (hs:s.length<2 ^ 62):Ctr Tryz.prog G 75 [.d (S s),.d (S [c])] [] (.d (.tup [S (cutL c s),S (cutR c s),.bool (decide (c∈s))])) []:=by
 refine Ctr.pure (M:=M0) hmix Tryz.func75 rfl go75 ?_
 simp (config:={maxSteps:=1000000}) (disch:=((try simp only [awL]);omega)) only [QR,QS,QT,QU,QV,QW,QX,QY,QZ,Q0,Q1,Q2,Tryz.f75,↓awU,awV,awF,Qa,Qb,Qc,Qd,forall_const,↓reduceIte,↓reduceDIte,↓Qe,Qf,Qg,Qh,Qi,Qj,Qk,Ql,Qm,Qn,Qo,Qp,Qq,Qr,Qs,implies_true,Qt,Qu,Qv,Qw,Qx,Qy,Qz,QA,QB,QC,QD,QE,QF,QG,QH,QI,QJ,QK,QL,QM,QN,QO,QP,QQ]
 refine CallC.pure (cutS_spec s c hs) ?_
 simp (config:={maxSteps:=1000000}) (disch:=((try simp only [awL]);omega)) only [QR,QS,QT,QU,QV,QW,QX,QY,QZ,Q0,Q1,Q2,↓awU,awV,awF,Qa,Qb,Qc,Qd,forall_const,↓reduceIte,↓reduceDIte,↓Qe,Qf,Qg,Qh,Qi,Qj,Qk,Ql,Qm,Qn,Qo,Qp,Qq,Qr,Qs,implies_true,Qt,Qu,Qv,Qw,Qx,Qy,Qz,QA,QB,QC,QD,QE,QF,QG,QH,QI,QJ,QK,QL,QM,QN,QO,QP,QQ]
def Tryz.laysTrim_ren:Go.Shelf.Ren:=⟨fun | 160=>50 | 232=>67 | 231=>66 | 227=>68 | 234=>70 | 233=>69 | 236=>72 | 235=>71 | 228=>100 | 271=>102 | 151=>101 | 197=>91 | 120=>128 | 152=>127 | 260=>119 | 137=>156 | 119=>157 | 224=>122 | 225=>121 | 217=>120 | 266=>143 | n=>n,fun | 9=>9 | 4=>4 | 3=>3 | 5=>5 | 117=>98 | 116=>97 | 0=>0 | 124=>101 | 21=>21 | 105=>119 | 46=>127 | 119=>123 | 139=>126 | 138=>125 | n=>n,fun | 3=>2 | 4=>3 | n=>n⟩
theorem Tryz.laysTrim:Go.Proofs.Lays.n160 Tryz.prog Tryz.laysTrim_ren where
 mixed:=by kernel_rfl
 f119:=Tryz.func157.trans (congrArg some (by kernel_rfl))
 f120:=Tryz.func128.trans (congrArg some (by kernel_rfl))
 f137:=Tryz.func156.trans (congrArg some (by kernel_rfl))
 f151:=Tryz.func101.trans (congrArg some (by kernel_rfl))
 f152:=Tryz.func127.trans (congrArg some (by kernel_rfl))
 f160:=Tryz.func50.trans (congrArg some (by kernel_rfl))
 f197:=Tryz.func91.trans (congrArg some (by kernel_rfl))
 f217:=Tryz.func120.trans (congrArg some (by kernel_rfl))
 f224:=Tryz.func122.trans (congrArg some (by kernel_rfl))
 f225:=Tryz.func121.trans (congrArg some (by kernel_rfl))
 f227:=Tryz.func68.trans (congrArg some (by kernel_rfl))
 f228:=Tryz.func100.trans (congrArg some (by kernel_rfl))
 f231:=Tryz.func66.trans (congrArg some (by kernel_rfl))
 f232:=Tryz.func67.trans (congrArg some (by kernel_rfl))
 f233:=Tryz.func69.trans (congrArg some (by kernel_rfl))
 f234:=Tryz.func70.trans (congrArg some (by kernel_rfl))
 f235:=Tryz.func71.trans (congrArg some (by kernel_rfl))
 f236:=Tryz.func72.trans (congrArg some (by kernel_rfl))
 f260:=Tryz.func119.trans (congrArg some (by kernel_rfl))
 f266:=Tryz.func143.trans (congrArg some (by kernel_rfl))
 f271:=Tryz.func102.trans (congrArg some (by kernel_rfl))
 t0:=Tryz.underlying0
 a0:=Tryz.isAgg0
 z0:=Tryz.sizeOf0
 v0:=Tryz.zeroValue0
 t3:=Tryz.underlying3
 a3:=Tryz.isAgg3
 z3:=Tryz.sizeOf3
 v3:=Tryz.zeroValue3
 t4:=Tryz.underlying4
 a4:=Tryz.isAgg4
 z4:=Tryz.sizeOf4
 v4:=Tryz.zeroValue4
 t5:=Tryz.underlying5
 a5:=Tryz.isAgg5
 z5:=Tryz.sizeOf5
 v5:=Tryz.zeroValue5
 t9:=Tryz.underlying9
 a9:=Tryz.isAgg9
 z9:=Tryz.sizeOf9
 v9:=Tryz.zeroValue9
 t21:=Tryz.underlying21
 a21:=Tryz.isAgg21
 z21:=Tryz.sizeOf21
 v21:=Tryz.zeroValue21
 t46:=Tryz.underlying127
 a46:=Tryz.isAgg127
 z46:=Tryz.sizeOf127
 v46:=Tryz.zeroValue127
 t105:=Tryz.underlying119
 a105:=Tryz.isAgg119
 z105:=Tryz.sizeOf119
 v105:=Tryz.zeroValue119
 t116:=Tryz.underlying97
 a116:=Tryz.isAgg97
 z116:=Tryz.sizeOf97
 t117:=Tryz.underlying98
 a117:=Tryz.isAgg98
 z117:=Tryz.sizeOf98
 v117:=Tryz.zeroValue98
 t119:=Tryz.underlying123
 a119:=Tryz.isAgg123
 z119:=Tryz.sizeOf123
 t124:=Tryz.underlying101
 a124:=Tryz.isAgg101
 z124:=Tryz.sizeOf101
 v124:=Tryz.zeroValue101
 t138:=Tryz.underlying125
 a138:=Tryz.isAgg125
 z138:=Tryz.sizeOf125
 v138:=Tryz.zeroValue125
 t139:=Tryz.underlying126
 a139:=Tryz.isAgg126
 z139:=Tryz.sizeOf126
 v139:=Tryz.zeroValue126
 g3:=by kernel_rfl
 g4:=by kernel_rfl
theorem trim_spec (s:List UInt8) (hs:s.length≤9223372036854775807):Ctr Tryz.prog G 50 [.d (S s),.d (S [32])] [] (.d (S (Lib.trimB s 32))) [] :=
 Ctr.of_calls_ss go50 fun h w=>(Any.strings_Trim_one Tryz.laysTrim (bs s) 32 (by decide) w (by rw [bs_size];exact hs)).mono (by
  rintro e w' ⟨rfl,h | h⟩
  ·subst h;exact ⟨_,rfl,.str _,.refl _ _⟩
  ·subst h;exact ⟨_,rfl,.str _,Below.drew (.refl _ _)⟩)
theorem ttrim_spec (s:List UInt8) (hs:s.length≤9223372036854775807):Ctr Tryz.prog G 33 [.d (S s)] [] (.d (S (Lib.trimB s 32))) []:=by
 refine Ctr.pure (M:=M0) hmix Tryz.func33 rfl go33 ?_
 simp (config:={maxSteps:=1000000}) (disch:=((try simp only [awL]);omega)) only [QR,QS,QT,QU,QV,QW,QX,QY,QZ,Q0,Q1,Q2,Tryz.f33,↓awU,awV,awF,Qa,Qb,Qc,Qd,forall_const,↓reduceIte,↓reduceDIte,↓Qe,Qf,Qg,Qh,Qi,Qj,Qk,Ql,Qm,Qn,Qo,Qp,Qq,Qr,Qs,implies_true,Qt,Qu,Qv,Qw,Qx,Qy,Qz,QA,QB,QC,QD,QE,QF,QG,QH,QI,QJ,QK,QL,QM,QN,QO,QP,QQ]
 refine CallC.of (trim_spec s hs) (by rfl) ?_
 simp (config:={maxSteps:=1000000}) (disch:=((try simp only [awL]);omega)) only [QR,QS,QT,QU,QV,QW,QX,QY,QZ,Q0,Q1,Q2,↓awU,awV,awF,Qa,Qb,Qc,Qd,forall_const,↓reduceIte,↓reduceDIte,↓Qe,Qf,Qg,Qh,Qi,Qj,Qk,Ql,Qm,Qn,Qo,Qp,Qq,Qr,Qs,implies_true,Qt,Qu,Qv,Qw,Qx,Qy,Qz,QA,QB,QC,QD,QE,QF,QG,QH,QI,QJ,QK,QL,QM,QN,QO,QP,QQ]
end Go.Proofs.YtkgbbdoeodmkgaaGreatDoor
namespace Go.Proofs.YtkgbbdoeodmkgaaGreatDoor
open Go Go.Proofs Go.Abs
variable {G:Globals}
def setD (l:List UInt8):List D:=(List.range 256).map fun i=>.bool (l.any fun b=>b.toNat == i)
def setB (l:List UInt8):List AV:=(setD l).map .d
theorem setB_length {l:List UInt8}:(setB l).length=256:=by simp [setB,setD]
theorem setD_length {l:List UInt8}:(setD l).length=256:=by simp [setD]
set_option maxRecDepth 10000 in
theorem setB_nil:setB []=List.replicate 256 (.d (.bool false)):=by rfl
theorem setD_get {l:List UInt8} {c:UInt8} {d:D}:(setD l).getD c.toNat d=.bool (l.contains c):=by
 have hc:=c.toNat_lt
 simp only [setD,List.getD_eq_getElem?_getD,List.getElem?_map,List.getElem?_range (show c.toNat<256 by omega),Option.map_some,Option.getD_some]
 rw [List.contains_eq_any_beq]
 refine congrArg (fun f=>D.bool (l.any f)) ?_
 funext b
 show (b.toNat == c.toNat)=_
 by_cases h:b=c
 ·subst h;simp
 ·have:¬ b.toNat=c.toNat:=fun e=>h (UInt8.toNat_inj.1 e)
  have h':¬ c=b:=fun e=>h e.symm
  rw [beq_eq_false_iff_ne.2 this];exact (beq_eq_false_iff_ne.2 h').symm
theorem setB_get {l:List UInt8} {c:UInt8} {d:AV}:(setB l).getD c.toNat d=.d (.bool (l.contains c)):=by
 have hc:=c.toNat_lt
 have:=@setD_get l c .nilp
 rw [List.getD_eq_getElem?_getD,List.getElem?_eq_getElem (by rw [setD_length];omega)] at this
 rw [setB,List.getD_eq_getElem?_getD,List.getElem?_map,List.getElem?_eq_getElem (by rw [setD_length];omega)]
 simp only [Option.getD_some] at this
 rw [Option.map_some,Option.getD_some,this]
theorem setB_set {l:List UInt8} {c:UInt8}:(setB l).set c.toNat (.d (.bool true))=setB (l++[c]):=by
 have hc:=c.toNat_lt
 apply List.ext_getElem
 ·rw [List.length_set,setB_length,setB_length]
 ·intro i h1 h2
  rw [List.length_set,setB_length] at h1
  rw [List.getElem_set]
  simp only [setB,setD,List.getElem_map,List.getElem_range,List.any_append,List.any_cons,List.any_nil,Bool.or_false]
  split
  ·rename_i e;subst e;simp
  ·rename_i e
   have:(c.toNat == i)=false:=by simpa using e
   rw [this,Bool.or_false]
theorem SWeak_map {fl:List (Option Nat)}:∀ l:List D,SWeak fl (l.map .d) (l.map .d)
 | []=>by simp [SWeak]
 | x::l=>by simp only [List.map_cons,SWeak];exact ⟨by simp [AWeak],SWeak_map l⟩
theorem setB_weak {fl:List (Option Nat)} {l:List UInt8}:SWeak fl (setB l) (setB l)=True:=eq_true (SWeak_map _)
theorem mem_getDU {α:Type} {l:List α} {i:Nat} {d:α} (h:i<l.length):l.getD i d∈l:=by
 rw [List.getD_eq_getElem?_getD,List.getElem?_eq_getElem h];exact List.getElem_mem h
theorem setB_two (l:List UInt8):∃ a b cs,setB l=a::b::cs:=by
 have:=@setB_length l
 match h:setB l with
 | []=>rw [h] at this;cases this
 | [_]=>rw [h] at this;cases this
 | a::b::cs=>exact ⟨a,b,cs,rfl⟩
theorem setB_one {l:List UInt8}:(setB l).all AV.one=true:=by
 simp [setB,setD,AV.one,D.one]
theorem setB_seal {H:List ABlk} {l:List UInt8}:sealL H (setB l)=some (setD l):=by
 have:∀ m:List D,sealL H (m.map .d)=some m:=fun m=>by
  induction m with
  | nil=>rfl
  | cons x m ih=>simp only [List.map_cons,sealL,sealA,ih]
 exact this _
theorem setB_refs {l:List UInt8}:refsL (setB l)=[]:=by
 have:∀ m:List D,refsL (m.map .d)=[]:=fun m=>by
  induction m with
  | nil=>rfl
  | cons x m ih=>simp only [List.map_cons,refsL,refsA,ih,List.append_nil]
 exact this _
theorem setB_pass {H:List ABlk} {L:List Nat} {l:List UInt8}:passL H L (setB l)=some (setB l):=by
 have:∀ m:List D,passL H L (m.map .d)=some (m.map .d):=fun m=>by
  induction m with
  | nil=>rfl
  | cons x m ih=>simp only [List.map_cons,passL,passA,ih]
 exact this _
theorem setB_sids {H:List ABlk} {L:List Nat} {l:List UInt8}:sidsL H L (setB l)=[]:=by
 have:∀ m:List D,sidsL H L (m.map .d)=[]:=fun m=>by
  induction m with
  | nil=>rfl
  | cons x m ih=>simp only [List.map_cons,sidsL,sidsA,ih,List.append_nil]
 exact this _
theorem setB_ren {f:Nat→Nat} {l:List UInt8}:renL f (setB l)=setB l:=by
 have:∀ m:List D,renL f (m.map .d)=m.map .d:=fun m=>by
  induction m with
  | nil=>rfl
  | cons x m ih=>simp only [List.map_cons,renL,renA,ih]
 exact this _
theorem take_succ_getD {s:List UInt8} {i:Nat} (h:i<s.length):s.take i++[s.getD i 0]=s.take (i+1):=by
 rw [List.take_add_one,List.getElem?_eq_getElem h,List.getD_eq_getElem?_getD,List.getElem?_eq_getElem h];rfl
theorem contains_spec (l:List UInt8) (c:UInt8):Ctr Tryz.prog G 100 [.ptr 0 0,.d (.int .u8 c.toNat)] [.box (setB l)] (.d (.bool (l.contains c))) [.box (setB l)]:=by
 have hc:=c.toNat_lt
 have hl:=@setB_length l
 refine Ctr.body (M:=M0) hmix Tryz.func100 rfl go100 ?_
 simp (config:={maxSteps:=1000000}) (disch:=((try simp only [awL]);omega)) only [QR,QS,QT,QU,QV,QW,QX,QY,QZ,Q0,Q1,Q2,hl,setB_get,Tryz.f100,↓awU,awV,awF,Qa,Qb,Qc,Qd,forall_const,↓reduceIte,↓reduceDIte,↓Qe,Qf,Qg,Qh,Qi,Qj,Qk,Ql,Qm,Qn,Qo,Qp,Qq,Qr,Qs,implies_true,Qt,Qu,Qv,Qw,Qx,Qy,Qz,QA,QB,QC,QD,QE,QF,QG,QH,QI,QJ,QK,QL,QM,QN,QO,QP,QQ]
 exact ⟨[some 0],rfl,by simp,by simp [HWeak,BWeak,setB_weak],.inl (by simp [AWeak])⟩
set_option maxRecDepth 100000 in
theorem makeSet_spec (l:List UInt8) (hl:l.length<2 ^ 62) (ha:∀ b∈l,b.toNat<128):Ctr Tryz.prog G 68 [.d (S l)] [] (.d (.tup [.agg (setD l),.bool true])) []:=by
 refine Ctr.pure (M:=M0) hmix Tryz.func68 rfl go68 ?_
 simp (config:={maxSteps:=1000000}) (disch:=((try simp only [awL]);omega)) only [QR,QS,QT,QU,QV,QW,QX,QY,QZ,Q0,Q1,Q2,Tryz.f68,↓awU,awV,awF,Qa,Qb,Qc,Qd,forall_const,↓reduceIte,↓reduceDIte,↓Qe,Qf,Qg,Qh,Qi,Qj,Qk,Ql,Qm,Qn,Qo,Qp,Qq,Qr,Qs,implies_true,Qt,Qu,Qv,Qw,Qx,Qy,Qz,QA,QB,QC,QD,QE,QF,QG,QH,QI,QJ,QK,QL,QM,QN,QO,QP,QQ]
 refine LoopC.fr 5 (α:=Nat) (fun i=>l.length - i) (fun i=>[(4,.d (.int .i64 i))]) (fun i=>[.box (setB (l.take i))]) (fun i=>i≤l.length) 0 (Nat.zero_le _) ?_ ?_
 ·refine ⟨[some 0],rfl,by simp,by simp [setsA,keepA,SWeak,AWeak],?_⟩
  rw [List.take_zero,setB_nil]
  simp only [HWeak,BWeak,List.getElem?_cons_zero]
  refine ⟨SWeak_map (List.replicate 256 (.bool false)),trivial⟩
 ·intro i hi
  have sl:=@setB_length (l.take i)
  simp only [awK,Nat.reduceMod,Nat.reduceDiv,reduceIte]
  rcases Nat.lt_or_ge i l.length with h1 | h1
  ·have hb:=ha _ (mem_getDU (d:=0) h1)
   have hs:=take_succ_getD h1
   simp (config:={maxSteps:=1000000}) (disch:=((try simp only [awL]);omega)) only [QR,QS,QT,QU,QV,QW,QX,QY,QZ,Q0,Q1,Q2,sl,↓awU,awV,awF,Qa,Qb,Qc,Qd,forall_const,↓reduceIte,↓reduceDIte,↓Qe,Qf,Qg,Qh,Qi,Qj,Qk,Ql,Qm,Qn,Qo,Qp,Qq,Qr,Qs,implies_true,Qt,Qu,Qv,Qw,Qx,Qy,Qz,QA,QB,QC,QD,QE,QF,QG,QH,QI,QJ,QK,QL,QM,QN,QO,QP,QQ]
   exact ⟨i+1,h1,by simp only;omega,[some 0],rfl,by simp,by simp [setsA,keepA,SWeak,AWeak],by simp only [HWeak,BWeak,List.getElem?_cons_zero];rw [setB_set,hs];exact ⟨by rw [setB_weak];trivial,trivial⟩⟩
  ·have sl:=@setB_length l
   have tk:(setB l).take 256=setB l:=List.take_of_length_le (by omega)
   obtain ⟨a,b,cs,e⟩:=setB_two l
   have lc:cs.length=254:=by rw [e] at sl;simpa using sl
   have tc:cs.take 254=cs:=List.take_of_length_le (by omega)
   have dc:cs.drop cs.length=[]:=List.drop_length
   simp (config:={maxSteps:=1000000}) (disch:=((try simp only [awL]);omega)) only [QR,QS,QT,QU,QV,QW,QX,QY,QZ,Q0,Q1,Q2,sl,tk,↓awU,awV,awF,Qa,Qb,Qc,Qd,forall_const,↓reduceIte,↓reduceDIte,↓Qe,Qf,Qg,Qh,Qi,Qj,Qk,Ql,Qm,Qn,Qo,Qp,Qq,Qr,Qs,implies_true,Qt,Qu,Qv,Qw,Qx,Qy,Qz,QA,QB,QC,QD,QE,QF,QG,QH,QI,QJ,QK,QL,QM,QN,QO,QP,QQ]
   refine ⟨setB_one,?_⟩
   have pm:putL (setB l) 0 (setB l)=setB l:=by
    rw [e]
    simp only [putL,putL,List.take_zero,List.nil_append,Nat.zero_add,List.length_cons,List.drop_succ_cons,dc,List.append_nil]
   simp only [putL,putL,List.take_zero,List.nil_append,Nat.zero_add] at pm
   rw [pm,sl,tk]
   simp only [Nat.le_refl,if_true,sealA,sealL,setB_seal]
   rfl
theorem setB_fold {l:List UInt8}:(setD l).map AV.d=setB l:=rfl
theorem setB_putL {L:List AV} {l:List UInt8} (h:L.length=256):putL L 0 ((setD l).map AV.d)=setB l:=by
 rw [setB_fold]
 obtain ⟨a,b,cs,e⟩:=setB_two l
 have q:=@setB_length l
 rw [e] at q ⊢
 have hd:L.drop (0+(a::b::cs).length)=[]:=List.drop_eq_nil_of_le (by omega)
 simp only [putL,hd,List.take_zero,List.nil_append,List.append_nil]
set_option maxRecDepth 10000 in
theorem setB_putL' {l:List UInt8}:putL ([.d (.bool false),.d (.bool false),.d (.bool false),.d (.bool false),.d (.bool false),.d (.bool false),.d (.bool false),.d (.bool false),.d (.bool false),.d (.bool false),.d (.bool false),.d (.bool false),.d (.bool false),.d (.bool false),.d (.bool false),.d (.bool false),.d (.bool false),.d (.bool false),.d (.bool false),.d (.bool false),.d (.bool false),.d (.bool false),.d (.bool false),.d (.bool false),.d (.bool false),.d (.bool false),.d (.bool false),.d (.bool false),.d (.bool false),.d (.bool false),.d (.bool false),.d (.bool false),.d (.bool false),.d (.bool false),.d (.bool false),.d (.bool false),.d (.bool false),.d (.bool false),.d (.bool false),.d (.bool false),.d (.bool false),.d (.bool false),.d (.bool false),.d (.bool false),.d (.bool false),.d (.bool false),.d (.bool false),.d (.bool false),.d (.bool false),.d (.bool false),.d (.bool false),.d (.bool false),.d (.bool false),.d (.bool false),.d (.bool false),.d (.bool false),.d (.bool false),.d (.bool false),.d (.bool false),.d (.bool false),.d (.bool false),.d (.bool false),.d (.bool false),.d (.bool false),.d (.bool false),.d (.bool false),.d (.bool false),.d (.bool false),.d (.bool false),.d (.bool false),.d (.bool false),.d (.bool false),.d (.bool false),.d (.bool false),.d (.bool false),.d (.bool false),.d (.bool false),.d (.bool false),.d (.bool false),.d (.bool false),.d (.bool false),.d (.bool false),.d (.bool false),.d (.bool false),.d (.bool false),.d (.bool false),.d (.bool false),.d (.bool false),.d (.bool false),.d (.bool false),.d (.bool false),.d (.bool false),.d (.bool false),.d (.bool false),.d (.bool false),.d (.bool false),.d (.bool false),.d (.bool false),.d (.bool false),.d (.bool false),.d (.bool false),.d (.bool false),.d (.bool false),.d (.bool false),.d (.bool false),.d (.bool false),.d (.bool false),.d (.bool false),.d (.bool false),.d (.bool false),.d (.bool false),.d (.bool false),.d (.bool false),.d (.bool false),.d (.bool false),.d (.bool false),.d (.bool false),.d (.bool false),.d (.bool false),.d (.bool false),.d (.bool false),.d (.bool false),.d (.bool false),.d (.bool false),.d (.bool false),.d (.bool false),.d (.bool false),.d (.bool false),.d (.bool false),.d (.bool false),.d (.bool false),.d (.bool false),.d (.bool false),.d (.bool false),.d (.bool false),.d (.bool false),.d (.bool false),.d (.bool false),.d (.bool false),.d (.bool false),.d (.bool false),.d (.bool false),.d (.bool false),.d (.bool false),.d (.bool false),.d (.bool false),.d (.bool false),.d (.bool false),.d (.bool false),.d (.bool false),.d (.bool false),.d (.bool false),.d (.bool false),.d (.bool false),.d (.bool false),.d (.bool false),.d (.bool false),.d (.bool false),.d (.bool false),.d (.bool false),.d (.bool false),.d (.bool false),.d (.bool false),.d (.bool false),.d (.bool false),.d (.bool false),.d (.bool false),.d (.bool false),.d (.bool false),.d (.bool false),.d (.bool false),.d (.bool false),.d (.bool false),.d (.bool false),.d (.bool false),.d (.bool false),.d (.bool false),.d (.bool false),.d (.bool false),.d (.bool false),.d (.bool false),.d (.bool false),.d (.bool false),.d (.bool false),.d (.bool false),.d (.bool false),.d (.bool false),.d (.bool false),.d (.bool false),.d (.bool false),.d (.bool false),.d (.bool false),.d (.bool false),.d (.bool false),.d (.bool false),.d (.bool false),.d (.bool false),.d (.bool false),.d (.bool false),.d (.bool false),.d (.bool false),.d (.bool false),.d (.bool false),.d (.bool false),.d (.bool false),.d (.bool false),.d (.bool false),.d (.bool false),.d (.bool false),.d (.bool false),.d (.bool false),.d (.bool false),.d (.bool false),.d (.bool false),.d (.bool false),.d (.bool false),.d (.bool false),.d (.bool false),.d (.bool false),.d (.bool false),.d (.bool false),.d (.bool false),.d (.bool false),.d (.bool false),.d (.bool false),.d (.bool false),.d (.bool false),.d (.bool false),.d (.bool false),.d (.bool false),.d (.bool false),.d (.bool false),.d (.bool false),.d (.bool false),.d (.bool false),.d (.bool false),.d (.bool false),.d (.bool false),.d (.bool false),.d (.bool false),.d (.bool false),.d (.bool false),.d (.bool false),.d (.bool false),.d (.bool false),.d (.bool false),.d (.bool false),.d (.bool false),.d (.bool false),.d (.bool false),.d (.bool false),.d (.bool false),.d (.bool false),.d (.bool false),.d (.bool false),.d (.bool false)]:List AV) 0 (setB l)=setB l:=setB_putL rfl
end Go.Proofs.YtkgbbdoeodmkgaaGreatDoor
namespace Go.Proofs.YtkgbbdoeodmkgaaGreatDoor
open Go Go.Proofs Go.Abs
variable {G:Globals}
end Go.Proofs.YtkgbbdoeodmkgaaGreatDoor
namespace Go.Proofs.YtkgbbdoeodmkgaaGreatDoor
open Go Go.Proofs Go.Abs Go.RowKit Go.Shelf Go.Lib
variable {G:Globals}
structure BldR (v:Value) (w w':World):Prop where
 os:w'.os=w.os
 tape:w'.tape=w.tape
 output:w'.output=w.output
 size:w.heap.size≤w'.heap.size
 keep:∀ k,k<w.heap.size→some k≠v.ownBlock→w'.heap[k]? = w.heap[k]?
theorem BldR.of {v:Value} {w w':World} (h:Below w.heap.size w w'):BldR v w w':=⟨h.os,h.tape,h.output,h.size,fun k hk _=>h.block k hk⟩
end Go.Proofs.YtkgbbdoeodmkgaaGreatDoor
namespace Go.Proofs.YtkgbbdoeodmkgaaGreatDoor
open Go Go.Proofs Go.Abs Go.RowKit Go.Shelf Go.Lib
variable {G:Globals}
theorem ptr_inv {h:Held} {ρ:Abs.Place} {u:Value} {g S:Nat} (r:R h ρ u (.ptr 0 0)) (hρ:ρ 0=some (g,S)):u=.pointer (some ⟨g,0,none⟩):=by
 cases r with
 | ptr b off g' S' h1=>rw [hρ] at h1;cases h1;rfl
end Go.Proofs.YtkgbbdoeodmkgaaGreatDoor
namespace Go.Proofs.YtkgbbdoeodmkgaaGreatDoor
open Go Go.Proofs Go.Abs Go.RowKit Go.Shelf Go.Lib
variable {G:Globals}
end Go.Proofs.YtkgbbdoeodmkgaaGreatDoor
namespace Go.Proofs.YtkgbbdoeodmkgaaGreatDoor
open Go Go.Proofs Go.Abs Go.RowKit Go.Shelf Go.Lib
variable {G:Globals}
end Go.Proofs.YtkgbbdoeodmkgaaGreatDoor
namespace Go.Proofs.YtkgbbdoeodmkgaaGreatDoor
open Go Go.Proofs Go.Abs
variable {G:Globals}
def strs (l:List (List UInt8)):List D:=l.map fun s=>S s
theorem strs_length {l:List (List UInt8)}:(strs l).length=l.length:=by simp [strs]
theorem strs_unf {l:List (List UInt8)}:(strs l).map unf0=strs l:=by simp [strs,unf0]
theorem strs_getD {l:List (List UInt8)} {i:Nat} (h:i<l.length):(strs l).getD i .nilp=S (l.getD i []):=by
 simp [strs,List.getD_eq_getElem?_getD,h]
abbrev Ss (l:List (List UInt8)) (full:Bool):D:=.sl l.length full (strs l)
def wordsL:List (List UInt8):=[[97,110,110],[98,111,98],[99,121],[66,101,114,110],[85,108,109],[78,101,119,32,89,111,114,107],[121,111,114,107,32,110,101,119],[97,45,49],[98,45,50,50],[120],[122,195,188,114,105,99,104],[65,110,110],[98,111],[99,97,116],[98,97,116],[114,97,116]]
abbrev DiceM (t:List Int) (k:Nat):ABlk:=.box [.d (.sl t.length false (ints .u8 t)),.d (.int .i64 (min k t.length:Nat))]
def OkM (t:List Int):Prop:=t.length≤300∧∀ i,0≤t.getD i 0∧t.getD i 0≤255
theorem new_spec (t:List Int) (ht:t.length≤9223372036854775807):Ctr Tryz.prog G 6 [.d (.sl t.length false (ints .u8 t))] [] (.ptr 0 0) [DiceM (t.take 300) 0]:=by
 refine Ctr.body (M:=M0) hmix Tryz.func6 rfl go6 ?_
 rcases Nat.lt_or_ge 300 t.length with h | h
 ·have e:(t.take 300).length=300:=by rw [List.length_take];omega
  simp (config:={maxSteps:=1000000}) (disch:=((try simp only [awL]);omega)) only [Tryz.f6,e,↓awU,awV,awF,Qa,Qb,Qc,Qd,forall_const,↓reduceIte,↓reduceDIte,↓Qe,Qf,Qg,Qh,Qi,Qj,Qk,Ql,Qm,Qn,Qo,Qp,Qq,Qr,Qs,implies_true,Qt,Qu,Qv,Qw,Qx,Qy,Qz,QA,QB,QC,QD,QE,QF,QG,QH,QI,QJ,QK,QL,QM,QN,QO,QP,QQ]
  exact ⟨[some 0],rfl,by simp,by simp [HWeak,BWeak,SWeak,AWeak];omega,.inl (by simp [AWeak])⟩
 ·have e:t.take 300=t:=List.take_of_length_le h
  simp (config:={maxSteps:=1000000}) (disch:=((try simp only [awL]);omega)) only [Tryz.f6,e,↓awU,awV,awF,Qa,Qb,Qc,Qd,forall_const,↓reduceIte,↓reduceDIte,↓Qe,Qf,Qg,Qh,Qi,Qj,Qk,Ql,Qm,Qn,Qo,Qp,Qq,Qr,Qs,implies_true,Qt,Qu,Qv,Qw,Qx,Qy,Qz,QA,QB,QC,QD,QE,QF,QG,QH,QI,QJ,QK,QL,QM,QN,QO,QP,QQ]
  exact ⟨[some 0],rfl,by simp,by simp [HWeak,BWeak,SWeak,AWeak],.inl (by simp [AWeak,SWeak])⟩
def pk (t:List Int) (k:Nat) (n:Int):Int:=t.getD k 0 % n
theorem pk_range {t:List Int} {k:Nat} {n:Int} (h:0<n):0≤pk t k n∧pk t k n<n:=⟨Int.emod_nonneg _ (by omega),Int.emod_lt_of_pos _ h⟩
theorem pk_nat (t:List Int) (k:Nat) (n:Int) (h:0<n):∃ c:Nat,pk t k n=c∧(c:Int)<n:=⟨(pk t k n).toNat,by have:=@pk_range t k n h;omega,by have:=@pk_range t k n h;omega⟩
set_option maxHeartbeats 4000000 in
set_option maxRecDepth 100000 in
theorem pick_spec (t:List Int) (k:Nat) (n:Int) (ht:OkM t) (h0:0<n) (h1:n≤1000) :
  Ctr Tryz.prog G 28 [.ptr 0 0,.d (.int .i64 n)] [DiceM t k] (.d (.int .i64 (pk t k n))) [DiceM t (k+1)]:=by
 obtain ⟨ht,htt⟩:=ht
 refine Ctr.body (M:=M0) hmix Tryz.func28 rfl go28 ?_
 rcases Nat.lt_or_ge k t.length with h | h
 ·have e1:min k t.length=k:=by omega
  have e2:min (k+1) t.length=k+1:=by omega
  obtain ⟨b1,b2⟩:=htt k
  have e3:(t.getD k 0).tmod n=pk t k n:=Int.tmod_eq_emod_of_nonneg b1
  simp only [e1,e2,DiceM]
  simp (config:={maxSteps:=1000000}) (disch:=((try simp only [awL]);omega)) only [Tryz.f28,e3,↓awU,awV,awF,Qa,Qb,Qc,Qd,forall_const,↓reduceIte,↓reduceDIte,↓Qe,Qf,Qg,Qh,Qi,Qj,Qk,Ql,Qm,Qn,Qo,Qp,Qq,Qr,Qs,implies_true,Qt,Qu,Qv,Qw,Qx,Qy,Qz,QA,QB,QC,QD,QE,QF,QG,QH,QI,QJ,QK,QL,QM,QN,QO,QP,QQ]
  refine ⟨by rfl,by rfl,?_⟩
  exact ⟨[some 0],rfl,by simp,by simp [HWeak,BWeak,SWeak,AWeak],.inl (by simp [AWeak,SWeak])⟩
 ·have e1:min k t.length=t.length:=by omega
  have e2:min (k+1) t.length=t.length:=by omega
  have e3:pk t k n=0:=by rw [pk,List.getD_eq_getElem?_getD,List.getElem?_eq_none h];simp
  simp only [e1,e2,e3,DiceM]
  simp (config:={maxSteps:=1000000}) (disch:=((try simp only [awL]);omega)) only [Tryz.f28,↓awU,awV,awF,Qa,Qb,Qc,Qd,forall_const,↓reduceIte,↓reduceDIte,↓Qe,Qf,Qg,Qh,Qi,Qj,Qk,Ql,Qm,Qn,Qo,Qp,Qq,Qr,Qs,implies_true,Qt,Qu,Qv,Qw,Qx,Qy,Qz,QA,QB,QC,QD,QE,QF,QG,QH,QI,QJ,QK,QL,QM,QN,QO,QP,QQ]
  refine ⟨by rfl,?_⟩
  exact ⟨[some 0],rfl,by simp,by simp [HWeak,BWeak,SWeak,AWeak],.inl (by simp [AWeak,SWeak])⟩
set_option maxRecDepth 100000 in
theorem words_spec:Ctr Tryz.prog G 16 [] [] (.d (Ss wordsL false)) []:=by
 refine Ctr.pure (M:=M0) hmix Tryz.func16 rfl go16 ?_
 simp (config:={maxSteps:=1000000}) (disch:=((try simp only [awL]);omega)) only [QR,QS,QT,QU,QV,QW,QX,QY,QZ,Q0,Q1,Q2,Tryz.f16,↓awU,awV,awF,Qa,Qb,Qc,Qd,forall_const,↓reduceIte,↓reduceDIte,↓Qe,Qf,Qg,Qh,Qi,Qj,Qk,Ql,Qm,Qn,Qo,Qp,Qq,Qr,Qs,implies_true,Qt,Qu,Qv,Qw,Qx,Qy,Qz,QA,QB,QC,QD,QE,QF,QG,QH,QI,QJ,QK,QL,QM,QN,QO,QP,QQ]
 try rfl
end Go.Proofs.YtkgbbdoeodmkgaaGreatDoor
namespace Go.Proofs.YtkgbbdoeodmkgaaGreatDoor
open Go Go.Proofs Go.Abs
variable {G:Globals}
abbrev Row:=List (List UInt8)
theorem strs_push {a:Row} {x:List UInt8}:strs a++[S x]=strs (a++[x]):=by simp [strs]
def ixF {α:Type} (p:α→Bool):List α→Int→Int
 | [],_=>-1
 | x::r,k=>if p x then k else ixF p r (k+1)
theorem ixF_any {α:Type} {p:α→Bool}:∀ (l:List α) (k:Int),0≤k→(0≤ixF p l k↔l.any p=true)
 | [],k,h=>by simp [ixF]
 | x::r,k,h=>by
   rw [ixF,List.any_cons]
   cases hx:p x
   ·simpa using ixF_any r (k+1) (by omega)
   ·simpa using h
theorem ixF_at {α:Type} {p:α→Bool} {l:List α} {i:Nat} {d:α} (h:i<l.length):ixF p (l.drop i) i=if p (l.getD i d) then (i:Int) else ixF p (l.drop (i+1)) (i+1:Nat):=by
 rw [List.drop_eq_getElem_cons h,ixF,List.getD_eq_getElem?_getD,List.getElem?_eq_getElem h];rfl
theorem memD {α:Type} {l:List α} {i:Nat} {d:α} (h:i<l.length):l.getD i d∈l:=by
 rw [List.getD_eq_getElem?_getD,List.getElem?_eq_getElem h];exact List.getElem_mem h
set_option maxHeartbeats 4000000 in
theorem indexFunc_spec (f:FuncId) (p:List UInt8→Bool) (l:Row) (full:Bool) (hl:l.length≤1000000000) (hp:∀ s∈l,Ctr Tryz.prog G f [.d (S s)] [] (.d (.bool (p s))) []) :
  Ctr Tryz.prog G 59 [.d (Ss l full),.d (.fn (.func f) [] [])] [] (.d (.int .i64 (ixF p l 0))) []:=by
 refine Ctr.pure (M:=M0) hmix Tryz.func59 rfl go59 ?_
 have sl:=@strs_length l
 simp (config:={maxSteps:=1000000}) (disch:=((try simp only [awL]);omega)) only [sl,Tryz.f59,↓awU,awV,awF,Qa,Qb,Qc,Qd,forall_const,↓reduceIte,↓reduceDIte,↓Qe,Qf,Qg,Qh,Qi,Qj,Qk,Ql,Qm,Qn,Qo,Qp,Qq,Qr,Qs,implies_true,Qt,Qu,Qv,Qw,Qx,Qy,Qz,QA,QB,QC,QD,QE,QF,QG,QH,QI,QJ,QK,QL,QM,QN,QO,QP,QQ]
 refine LoopC.fr 131 (α:=Nat) (fun i=>l.length - i) (fun i=>[(8,.d (.int .i64 i))]) (fun _=>[]) (fun i=>i≤l.length∧ixF p l 0=ixF p (l.drop i) i) 0 ⟨Nat.zero_le _,rfl⟩ ?_ ?_
 ·exact ⟨[],rfl,by simp,by simp [setsA,keepA,SWeak,AWeak],by simp [HWeak,BWeak,SWeak,AWeak]⟩
 ·rintro i ⟨h1,h2⟩
  simp only [awK,Nat.reduceMod,Nat.reduceDiv,reduceIte]
  rw [h2]
  rcases Nat.lt_or_ge i l.length with h | h
  ·have g:=strs_getD h
   rw [ixF_at (d:=[]) h]
   simp (config:={maxSteps:=1000000}) (disch:=((try simp only [awL]);omega)) only [sl,g,↓awU,awV,awF,Qa,Qb,Qc,Qd,forall_const,↓reduceIte,↓reduceDIte,↓Qe,Qf,Qg,Qh,Qi,Qj,Qk,Ql,Qm,Qn,Qo,Qp,Qq,Qr,Qs,implies_true,Qt,Qu,Qv,Qw,Qx,Qy,Qz,QA,QB,QC,QD,QE,QF,QG,QH,QI,QJ,QK,QL,QM,QN,QO,QP,QQ]
   refine CallC.pure (hp _ (memD h)) ?_
   cases hx:p (l.getD i [])
   ·simp (config:={maxSteps:=1000000}) (disch:=((try simp only [awL]);omega)) only [↓awU,awV,awF,Qa,Qb,Qc,Qd,forall_const,↓reduceIte,↓reduceDIte,↓Qe,Qf,Qg,Qh,Qi,Qj,Qk,Ql,Qm,Qn,Qo,Qp,Qq,Qr,Qs,implies_true,Qt,Qu,Qv,Qw,Qx,Qy,Qz,QA,QB,QC,QD,QE,QF,QG,QH,QI,QJ,QK,QL,QM,QN,QO,QP,QQ]
    exact ⟨i+1,⟨h,rfl⟩,by simp only;omega,⟨[],rfl,by simp,by simp [setsA,keepA,SWeak,AWeak],by simp [HWeak,BWeak,SWeak,AWeak]⟩⟩
   ·simp (config:={maxSteps:=1000000}) (disch:=((try simp only [awL]);omega)) only [↓awU,awV,awF,Qa,Qb,Qc,Qd,forall_const,↓reduceIte,↓reduceDIte,↓Qe,Qf,Qg,Qh,Qi,Qj,Qk,Ql,Qm,Qn,Qo,Qp,Qq,Qr,Qs,implies_true,Qt,Qu,Qv,Qw,Qx,Qy,Qz,QA,QB,QC,QD,QE,QF,QG,QH,QI,QJ,QK,QL,QM,QN,QO,QP,QQ]
  ·rw [List.drop_eq_nil_of_le h]
   simp (config:={maxSteps:=1000000}) (disch:=((try simp only [awL]);omega)) only [↓awU,awV,awF,Qa,Qb,Qc,Qd,forall_const,↓reduceIte,↓reduceDIte,↓Qe,Qf,Qg,Qh,Qi,Qj,Qk,Ql,Qm,Qn,Qo,Qp,Qq,Qr,Qs,implies_true,Qt,Qu,Qv,Qw,Qx,Qy,Qz,QA,QB,QC,QD,QE,QF,QG,QH,QI,QJ,QK,QL,QM,QN,QO,QP,QQ]
   rfl
theorem containsFunc_spec (f:FuncId) (p:List UInt8→Bool) (l:Row) (full:Bool) (hl:l.length≤1000000000) (hp:∀ s∈l,Ctr Tryz.prog G f [.d (S s)] [] (.d (.bool (p s))) []) :
  Ctr Tryz.prog G 42 [.d (Ss l full),.d (.fn (.func f) [] [])] [] (.d (.bool (l.any p))) []:=by
 refine Ctr.pure (M:=M0) hmix Tryz.func42 rfl go42 ?_
 simp (config:={maxSteps:=1000000}) (disch:=((try simp only [awL]);omega)) only [Tryz.f42,↓awU,awV,awF,Qa,Qb,Qc,Qd,forall_const,↓reduceIte,↓reduceDIte,↓Qe,Qf,Qg,Qh,Qi,Qj,Qk,Ql,Qm,Qn,Qo,Qp,Qq,Qr,Qs,implies_true,Qt,Qu,Qv,Qw,Qx,Qy,Qz,QA,QB,QC,QD,QE,QF,QG,QH,QI,QJ,QK,QL,QM,QN,QO,QP,QQ]
 refine CallC.of (indexFunc_spec f p l false hl hp) (by rfl) ?_
 have hi:=ixF_any (p:=p) l 0 (Int.le_refl _)
 generalize ixF p l 0=z at *
 rcases (by omega:0≤z∨z<0) with h | h
 ·rw [hi.1 h]
  simp (config:={maxSteps:=1000000}) (disch:=((try simp only [awL]);omega)) only [↓awU,awV,awF,Qa,Qb,Qc,Qd,forall_const,↓reduceIte,↓reduceDIte,↓Qe,Qf,Qg,Qh,Qi,Qj,Qk,Ql,Qm,Qn,Qo,Qp,Qq,Qr,Qs,implies_true,Qt,Qu,Qv,Qw,Qx,Qy,Qz,QA,QB,QC,QD,QE,QF,QG,QH,QI,QJ,QK,QL,QM,QN,QO,QP,QQ]
 ·have:l.any p=false:=by cases hx:l.any p with
   | false=>rfl
   | true=>have:=hi.2 hx;omega
  rw [this]
  simp (config:={maxSteps:=1000000}) (disch:=((try simp only [awL]);omega)) only [↓awU,awV,awF,Qa,Qb,Qc,Qd,forall_const,↓reduceIte,↓reduceDIte,↓Qe,Qf,Qg,Qh,Qi,Qj,Qk,Ql,Qm,Qn,Qo,Qp,Qq,Qr,Qs,implies_true,Qt,Qu,Qv,Qw,Qx,Qy,Qz,QA,QB,QC,QD,QE,QF,QG,QH,QI,QJ,QK,QL,QM,QN,QO,QP,QQ]
def okRow (r:Row):Prop:=r.length≤1000000000∧∀ s∈r,s.length≤1000000000
def okGrid (g:List Row):Prop:=g.length≤1000000000∧∀ r∈g,okRow r
def badF (s:List UInt8):Bool:=!Lib.validD s
def badR (r:Row):Bool:=decide (r.length=0) || r.any badF
end Go.Proofs.YtkgbbdoeodmkgaaGreatDoor
namespace Go.Proofs.YtkgbbdoeodmkgaaGreatDoor
open Go Go.Proofs Go.Abs
variable {G:Globals}
theorem take_eq_step {α:Type} {a b:List α} {i:Nat} {d:α} (h:i<a.length) (hl:a.length=b.length) (ht:a.take i=b.take i) (he:a.getD i d=b.getD i d):a.take (i+1)=b.take (i+1):=by
 have h2:i<b.length:=by omega
 rw [List.take_add_one,List.take_add_one,ht,List.getElem?_eq_getElem h,List.getElem?_eq_getElem h2]
 rw [List.getD_eq_getElem?_getD,List.getD_eq_getElem?_getD,List.getElem?_eq_getElem h,List.getElem?_eq_getElem h2] at he
 simp only [Option.getD_some] at he
 rw [he]
set_option maxHeartbeats 4000000 in
set_option maxRecDepth 100000 in
theorem sameR_spec (a b:Row) (fa fb:Bool) (ha:a.length≤10000000000) (hb:b.length≤10000000000):Ctr Tryz.prog G 25 [.d (Ss a fa),.d (Ss b fb)] [] (.d (.bool (decide (a=b)))) []:=by
 obtain ⟨r,hr⟩:∃ r,r=decide (a=b):=⟨_,rfl⟩
 rw [← hr]
 refine Ctr.pure (M:=M0) hmix Tryz.func25 rfl go25 ?_
 have al:=@strs_length a
 have bl:=@strs_length b
 by_cases hl:a.length=b.length
 ·simp (config:={maxSteps:=1000000}) (disch:=((try simp only [awL]);omega)) only [QR,QS,QT,QU,QV,QW,QX,QY,QZ,Q0,Q1,Q2,al,bl,Tryz.f25,↓awU,awV,awF,Qa,Qb,Qc,Qd,forall_const,↓reduceIte,↓reduceDIte,↓Qe,Qf,Qg,Qh,Qi,Qj,Qk,Ql,Qm,Qn,Qo,Qp,Qq,Qr,Qs,implies_true,Qt,Qu,Qv,Qw,Qx,Qy,Qz,QA,QB,QC,QD,QE,QF,QG,QH,QI,QJ,QK,QL,QM,QN,QO,QP,QQ]
  refine LoopC.fr 4099 (α:=Nat) (fun i=>a.length - i) (fun i=>[(13,.d (.int .i64 i))]) (fun _=>[]) (fun i=>i≤a.length∧a.take i=b.take i) 0 ⟨Nat.zero_le _,by simp⟩ ?_ ?_
  ·exact ⟨[],rfl,by simp,by simp [setsA,keepA,SWeak,AWeak],by simp [HWeak,BWeak,SWeak,AWeak]⟩
  ·rintro i ⟨h1,h2⟩
   simp only [awK,Nat.reduceMod,Nat.reduceDiv,reduceIte]
   rcases Nat.lt_or_ge i a.length with h | h
   ·have ga:=strs_getD h
    have gb:=strs_getD (show i<b.length by omega)
    by_cases he:a.getD i []=b.getD i []
    ·simp (config:={maxSteps:=1000000}) (disch:=((try simp only [awL]);omega)) only [QR,QS,QT,QU,QV,QW,QX,QY,QZ,Q0,Q1,Q2,al,bl,ga,gb,he,↓awU,awV,awF,Qa,Qb,Qc,Qd,forall_const,↓reduceIte,↓reduceDIte,↓Qe,Qf,Qg,Qh,Qi,Qj,Qk,Ql,Qm,Qn,Qo,Qp,Qq,Qr,Qs,implies_true,Qt,Qu,Qv,Qw,Qx,Qy,Qz,QA,QB,QC,QD,QE,QF,QG,QH,QI,QJ,QK,QL,QM,QN,QO,QP,QQ]
     exact ⟨by rfl,i+1,⟨h,take_eq_step h hl h2 he⟩,by simp only;omega,⟨[],rfl,by simp,by simp [setsA,keepA,SWeak,AWeak],by simp [HWeak,BWeak,SWeak,AWeak]⟩⟩
    ·simp (config:={maxSteps:=1000000}) (disch:=((try simp only [awL]);omega)) only [QR,QS,QT,QU,QV,QW,QX,QY,QZ,Q0,Q1,Q2,al,bl,ga,gb,he,↓awU,awV,awF,Qa,Qb,Qc,Qd,forall_const,↓reduceIte,↓reduceDIte,↓Qe,Qf,Qg,Qh,Qi,Qj,Qk,Ql,Qm,Qn,Qo,Qp,Qq,Qr,Qs,implies_true,Qt,Qu,Qv,Qw,Qx,Qy,Qz,QA,QB,QC,QD,QE,QF,QG,QH,QI,QJ,QK,QL,QM,QN,QO,QP,QQ]
     refine ⟨by rfl,?_⟩
     have:¬ a=b:=fun e=>he (by rw [e])
     simp [hr,this]
   ·rw [List.take_of_length_le h,List.take_of_length_le (by omega)] at h2
    simp (config:={maxSteps:=1000000}) (disch:=((try simp only [awL]);omega)) only [QR,QS,QT,QU,QV,QW,QX,QY,QZ,Q0,Q1,Q2,↓awU,awV,awF,Qa,Qb,Qc,Qd,forall_const,↓reduceIte,↓reduceDIte,↓Qe,Qf,Qg,Qh,Qi,Qj,Qk,Ql,Qm,Qn,Qo,Qp,Qq,Qr,Qs,implies_true,Qt,Qu,Qv,Qw,Qx,Qy,Qz,QA,QB,QC,QD,QE,QF,QG,QH,QI,QJ,QK,QL,QM,QN,QO,QP,QQ]
    simp [hr,h2]
 ·simp (config:={maxSteps:=1000000}) (disch:=((try simp only [awL]);omega)) only [QR,QS,QT,QU,QV,QW,QX,QY,QZ,Q0,Q1,Q2,al,bl,hl,Tryz.f25,↓awU,awV,awF,Qa,Qb,Qc,Qd,forall_const,↓reduceIte,↓reduceDIte,↓Qe,Qf,Qg,Qh,Qi,Qj,Qk,Ql,Qm,Qn,Qo,Qp,Qq,Qr,Qs,implies_true,Qt,Qu,Qv,Qw,Qx,Qy,Qz,QA,QB,QC,QD,QE,QF,QG,QH,QI,QJ,QK,QL,QM,QN,QO,QP,QQ]
  have:¬ a=b:=fun e=>hl (by rw [e])
  simp [hr,this]
end Go.Proofs.YtkgbbdoeodmkgaaGreatDoor
namespace Go.Proofs.YtkgbbdoeodmkgaaGreatDoor
open Go Go.Proofs Go.Abs
variable {G:Globals}
def digitsL:List UInt8:=[48,49,50,51,52,53,54,55,56,57,97,98,99,100,101,102,103,104,105,106,107,108,109,110,111,112,113,114,115,116,117,118,119,120,121,122]
def smallsL:List UInt8:=(List.range 100).flatMap fun n=>[UInt8.ofNat (48+n / 10),UInt8.ofNat (48+n % 10)]
theorem smalls_eq:(([48,48,48,49,48,50,48,51,48,52,48,53,48,54,48,55,48,56,48,57,49,48,49,49,49,50,49,51,49,52,49,53,49,54,49,55,49,56,49,57,50,48,50,49,50,50,50,51,50,52]:List UInt8).append [50,53,50,54,50,55,50,56,50,57,51,48,51,49,51,50,51,51,51,52,51,53,51,54,51,55,51,56,51,57,52,48,52,49,52,50,52,51,52,52,52,53,52,54,52,55,52,56,52,57]).append (List.append [53,48,53,49,53,50,53,51,53,52,53,53,53,54,53,55,53,56,53,57,54,48,54,49,54,50,54,51,54,52,54,53,54,54,54,55,54,56,54,57,55,48,55,49,55,50,55,51,55,52] [55,53,55,54,55,55,55,56,55,57,56,48,56,49,56,50,56,51,56,52,56,53,56,54,56,55,56,56,56,57,57,48,57,49,57,50,57,51,57,52,57,53,57,54,57,55,57,56,57,57])=smallsL:=by decide +kernel
theorem smallsL_len:smallsL.length=200:=by decide +kernel
def itoaL (n:Nat):List UInt8:=if n<10 then [UInt8.ofNat (48+n)] else [UInt8.ofNat (48+n / 10),UInt8.ofNat (48+n % 10)]
theorem itoa_one {n:Nat} (h:n<10):(digitsL.take (n+1)).drop n=itoaL n:=by
 have:∀ n:Fin 10,(digitsL.take (n.val+1)).drop n.val=itoaL n.val:=by decide
 exact this ⟨n,h⟩
theorem itoa_two {n:Nat} (h1:10≤n) (h:n<100):(smallsL.take (n*2+2)).drop (n*2)=itoaL n:=by
 have:∀ n:Fin 100,10≤n.val→(smallsL.take (n.val*2+2)).drop (n.val*2)=itoaL n.val:=by decide +kernel
 exact this ⟨n,h⟩ h1
theorem itoaL_len (n:Nat):1≤(itoaL n).length∧(itoaL n).length≤2:=by unfold itoaL;split<;>simp
set_option maxRecDepth 100000 in
theorem small_spec (n:Nat) (h:n<100):Ctr Tryz.prog G 139 [.d (.int .i64 n)] [] (.d (S (itoaL n))) []:=by
 refine Ctr.pure (M:=M0) hmix Tryz.func139 rfl go139 ?_
 rcases Nat.lt_or_ge n 10 with h1 | h1
 ·rw [← itoa_one h1]
  simp (config:={maxSteps:=1000000}) (disch:=((try simp only [awL]);omega)) only [QR,QS,QT,QU,QV,QW,QX,QY,QZ,Q0,Q1,Q2,Tryz.f139,↓awU,awV,awF,Qa,Qb,Qc,Qd,forall_const,↓reduceIte,↓reduceDIte,↓Qe,Qf,Qg,Qh,Qi,Qj,Qk,Ql,Qm,Qn,Qo,Qp,Qq,Qr,Qs,implies_true,Qt,Qu,Qv,Qw,Qx,Qy,Qz,QA,QB,QC,QD,QE,QF,QG,QH,QI,QJ,QK,QL,QM,QN,QO,QP,QQ]
  first | done | rfl
 ·rw [← itoa_two h1 h]
  have e1:((n:Int)*2).toNat=n*2:=by omega
  have e2:((n:Int)*2+2).toNat=n*2+2:=by omega
  simp (config:={maxSteps:=1000000}) (disch:=((try simp only [awL]);omega)) only [QR,QS,QT,QU,QV,QW,QX,QY,QZ,Q0,Q1,Q2,smalls_eq,smallsL_len,e1,e2,Tryz.f139,↓awU,awV,awF,Qa,Qb,Qc,Qd,forall_const,↓reduceIte,↓reduceDIte,↓Qe,Qf,Qg,Qh,Qi,Qj,Qk,Ql,Qm,Qn,Qo,Qp,Qq,Qr,Qs,implies_true,Qt,Qu,Qv,Qw,Qx,Qy,Qz,QA,QB,QC,QD,QE,QF,QG,QH,QI,QJ,QK,QL,QM,QN,QO,QP,QQ]
  first | done | rfl
set_option maxRecDepth 100000 in
theorem formatInt_spec (n:Nat) (h:n<100):Ctr Tryz.prog G 118 [.d (.int .i64 n),.d (.int .i64 10)] [] (.d (S (itoaL n))) []:=by
 refine Ctr.pure (M:=M0) hmix Tryz.func118 rfl go118 ?_
 simp (config:={maxSteps:=1000000}) (disch:=((try simp only [awL]);omega)) only [QR,QS,QT,QU,QV,QW,QX,QY,QZ,Q0,Q1,Q2,Tryz.f118,↓awU,awV,awF,Qa,Qb,Qc,Qd,forall_const,↓reduceIte,↓reduceDIte,↓Qe,Qf,Qg,Qh,Qi,Qj,Qk,Ql,Qm,Qn,Qo,Qp,Qq,Qr,Qs,implies_true,Qt,Qu,Qv,Qw,Qx,Qy,Qz,QA,QB,QC,QD,QE,QF,QG,QH,QI,QJ,QK,QL,QM,QN,QO,QP,QQ]
 refine CallC.pure (small_spec n h) ?_
 simp (config:={maxSteps:=1000000}) (disch:=((try simp only [awL]);omega)) only [QR,QS,QT,QU,QV,QW,QX,QY,QZ,Q0,Q1,Q2,↓awU,awV,awF,Qa,Qb,Qc,Qd,forall_const,↓reduceIte,↓reduceDIte,↓Qe,Qf,Qg,Qh,Qi,Qj,Qk,Ql,Qm,Qn,Qo,Qp,Qq,Qr,Qs,implies_true,Qt,Qu,Qv,Qw,Qx,Qy,Qz,QA,QB,QC,QD,QE,QF,QG,QH,QI,QJ,QK,QL,QM,QN,QO,QP,QQ]
 first | done | rfl
set_option maxRecDepth 100000 in
theorem itoaI_spec (n:Nat) (h:n<100):Ctr Tryz.prog G 89 [.d (.int .i64 n)] [] (.d (S (itoaL n))) []:=by
 refine Ctr.pure (M:=M0) hmix Tryz.func89 rfl go89 ?_
 simp (config:={maxSteps:=1000000}) (disch:=((try simp only [awL]);omega)) only [QR,QS,QT,QU,QV,QW,QX,QY,QZ,Q0,Q1,Q2,Tryz.f89,↓awU,awV,awF,Qa,Qb,Qc,Qd,forall_const,↓reduceIte,↓reduceDIte,↓Qe,Qf,Qg,Qh,Qi,Qj,Qk,Ql,Qm,Qn,Qo,Qp,Qq,Qr,Qs,implies_true,Qt,Qu,Qv,Qw,Qx,Qy,Qz,QA,QB,QC,QD,QE,QF,QG,QH,QI,QJ,QK,QL,QM,QN,QO,QP,QQ]
 refine CallC.pure (formatInt_spec n h) ?_
 simp (config:={maxSteps:=1000000}) (disch:=((try simp only [awL]);omega)) only [QR,QS,QT,QU,QV,QW,QX,QY,QZ,Q0,Q1,Q2,↓awU,awV,awF,Qa,Qb,Qc,Qd,forall_const,↓reduceIte,↓reduceDIte,↓Qe,Qf,Qg,Qh,Qi,Qj,Qk,Ql,Qm,Qn,Qo,Qp,Qq,Qr,Qs,implies_true,Qt,Qu,Qv,Qw,Qx,Qy,Qz,QA,QB,QC,QD,QE,QF,QG,QH,QI,QJ,QK,QL,QM,QN,QO,QP,QQ]
 first | done | rfl
set_option maxRecDepth 100000 in
theorem itoa_spec (n:Nat) (h:n<100):Ctr Tryz.prog G 55 [.d (.int .i64 n)] [] (.d (S (itoaL n))) []:=by
 refine Ctr.pure (M:=M0) hmix Tryz.func55 rfl go55 ?_
 simp (config:={maxSteps:=1000000}) (disch:=((try simp only [awL]);omega)) only [QR,QS,QT,QU,QV,QW,QX,QY,QZ,Q0,Q1,Q2,Tryz.f55,↓awU,awV,awF,Qa,Qb,Qc,Qd,forall_const,↓reduceIte,↓reduceDIte,↓Qe,Qf,Qg,Qh,Qi,Qj,Qk,Ql,Qm,Qn,Qo,Qp,Qq,Qr,Qs,implies_true,Qt,Qu,Qv,Qw,Qx,Qy,Qz,QA,QB,QC,QD,QE,QF,QG,QH,QI,QJ,QK,QL,QM,QN,QO,QP,QQ]
 refine CallC.pure (itoaI_spec n h) ?_
 simp (config:={maxSteps:=1000000}) (disch:=((try simp only [awL]);omega)) only [QR,QS,QT,QU,QV,QW,QX,QY,QZ,Q0,Q1,Q2,↓awU,awV,awF,Qa,Qb,Qc,Qd,forall_const,↓reduceIte,↓reduceDIte,↓Qe,Qf,Qg,Qh,Qi,Qj,Qk,Ql,Qm,Qn,Qo,Qp,Qq,Qr,Qs,implies_true,Qt,Qu,Qv,Qw,Qx,Qy,Qz,QA,QB,QC,QD,QE,QF,QG,QH,QI,QJ,QK,QL,QM,QN,QO,QP,QQ]
 first | done | rfl
def signL:List (List UInt8):=[[],[],[],[45],[43]]
def fracsL:List (List UInt8):=[[53],[53,48],[48],[49,50,53],[48,48,55],[48,48,48,48,48,48,48,48,49]]
def notDig (c:UInt8):Bool:=decide (c.toNat<48) || decide (57<c.toNat)
def num1 (t:List Int) (k:Nat):List UInt8:=signL.getD (pk t k 5).toNat []++itoaL (pk t (k+1) 40).toNat
def num2 (t:List Int) (k:Nat):List UInt8:=if pk t (k+2) 3=0 then (if notDig ((num1 t k).getD 0 0)=true then num1 t k else 48::num1 t k) else num1 t k
def numM (t:List Int) (k:Nat):List UInt8:=if pk t (k+3) 3=0 then num2 t k++(46::fracsL.getD (pk t (k+4) 6).toNat []) else num2 t k
def numK (t:List Int) (k:Nat):Nat:=if pk t (k+3) 3=0 then k+5 else k+4
theorem get_len {l:List (List UInt8)} {m:Nat} (h:∀ s∈l,s.length≤m) (i:Nat):(l.getD i []).length≤m:=by
 rcases Nat.lt_or_ge i l.length with h1 | h1
 ·rw [List.getD_eq_getElem?_getD,List.getElem?_eq_getElem h1];exact h _ (List.getElem_mem _)
 ·rw [List.getD_eq_getElem?_getD,List.getElem?_eq_none h1];simp
theorem num1_len (t:List Int) (k:Nat):1≤(num1 t k).length∧(num1 t k).length≤3:=by
 have h1:=itoaL_len (pk t (k+1) 40).toNat
 have h2:=get_len (l:=signL) (m:=1) (by decide) (pk t k 5).toNat
 unfold num1
 rw [List.length_append]
 omega
theorem num2_len (t:List Int) (k:Nat):1≤(num2 t k).length∧(num2 t k).length≤4:=by
 have h1:=num1_len t k
 unfold num2
 split
 ·split
  ·omega
  ·rw [List.length_cons];omega
 ·omega
theorem numM_len (t:List Int) (k:Nat):1≤(numM t k).length∧(numM t k).length≤20:=by
 have h1:=num2_len t k
 have h2:=get_len (l:=fracsL) (m:=9) (by decide) (pk t (k+4) 6).toNat
 unfold numM
 split
 ·rw [List.length_append,List.length_cons];omega
 ·omega
theorem row_sign:[D.str (bs []),D.str (bs []),D.str (bs []),D.str (bs [45]),D.str (bs [43])]=strs signL:=rfl
theorem row_fracs:[D.str (bs [53]),D.str (bs [53,48]),D.str (bs [48]),D.str (bs [49,50,53]),D.str (bs [48,48,55]),D.str (bs [48,48,48,48,48,48,48,48,49])]=strs fracsL:=rfl
set_option maxHeartbeats 4000000 in
set_option maxRecDepth 100000 in
theorem number_spec (t:List Int) (k:Nat) (ht:OkM t):Ctr Tryz.prog G 39 [.ptr 0 0] [DiceM t k] (.d (S (numM t k))) [DiceM t (numK t k)]:=by
 refine Ctr.body (M:=M0) hmix Tryz.func39 rfl go39 ?_
 have ls:=@strs_length signL
 have lf:=@strs_length fracsL
 have ls':signL.length=5:=rfl
 have lf':fracsL.length=6:=rfl
 obtain ⟨a,ha,ha2⟩:=pk_nat t k 5 (by decide)
 obtain ⟨b,hb,hb2⟩:=pk_nat t (k+1) 40 (by decide)
 have e1:num1 t k=signL.getD a []++itoaL b:=by rw [num1,ha,hb];rfl
 have lg:=get_len (l:=signL) (m:=1) (by decide) a
 have li:=itoaL_len b
 have l1:=num1_len t k
 have l2:=num2_len t k
 have gs:=strs_getD (l:=signL) (i:=a) (by omega)
 simp (config:={maxSteps:=1000000}) (disch:=((try simp only [awL]);omega)) only [QR,QS,QT,QU,QV,QW,QX,QY,QZ,Q0,Q1,Q2,Tryz.f39,row_sign,strs_unf,ls,ls',↓awU,awV,awF,Qa,Qb,Qc,Qd,forall_const,↓reduceIte,↓reduceDIte,↓Qe,Qf,Qg,Qh,Qi,Qj,Qk,Ql,Qm,Qn,Qo,Qp,Qq,Qr,Qs,implies_true,Qt,Qu,Qv,Qw,Qx,Qy,Qz,QA,QB,QC,QD,QE,QF,QG,QH,QI,QJ,QK,QL,QM,QN,QO,QP,QQ]
 refine CallC.by (pick_spec t k 5 ht (by decide) (by decide)) (by rfl) (by rfl) (Nat.le_refl _) ?_
 rw [ha]
 simp (config:={maxSteps:=1000000}) (disch:=((try simp only [awL]);omega)) only [QR,QS,QT,QU,QV,QW,QX,QY,QZ,Q0,Q1,Q2,row_sign,row_fracs,strs_unf,gs,ls,ls',lf,lf',↓awU,awV,awF,Qa,Qb,Qc,Qd,forall_const,↓reduceIte,↓reduceDIte,↓Qe,Qf,Qg,Qh,Qi,Qj,Qk,Ql,Qm,Qn,Qo,Qp,Qq,Qr,Qs,implies_true,Qt,Qu,Qv,Qw,Qx,Qy,Qz,QA,QB,QC,QD,QE,QF,QG,QH,QI,QJ,QK,QL,QM,QN,QO,QP,QQ]
 refine CallC.by (pick_spec t (k+1) 40 ht (by decide) (by decide)) (by rfl) (by rfl) (Nat.le_refl _) ?_
 rw [hb]
 simp (config:={maxSteps:=1000000}) (disch:=((try simp only [awL]);omega)) only [QR,QS,QT,QU,QV,QW,QX,QY,QZ,Q0,Q1,Q2,row_sign,row_fracs,strs_unf,gs,ls,ls',lf,lf',↓awU,awV,awF,Qa,Qb,Qc,Qd,forall_const,↓reduceIte,↓reduceDIte,↓Qe,Qf,Qg,Qh,Qi,Qj,Qk,Ql,Qm,Qn,Qo,Qp,Qq,Qr,Qs,implies_true,Qt,Qu,Qv,Qw,Qx,Qy,Qz,QA,QB,QC,QD,QE,QF,QG,QH,QI,QJ,QK,QL,QM,QN,QO,QP,QQ]
 refine CallC.of (itoa_spec b (by omega)) (by rfl) ?_
 simp (config:={maxSteps:=1000000}) (disch:=((try simp only [awL]);omega)) only [QR,QS,QT,QU,QV,QW,QX,QY,QZ,Q0,Q1,Q2,e1.symm,row_sign,row_fracs,strs_unf,gs,ls,ls',lf,lf',↓awU,awV,awF,Qa,Qb,Qc,Qd,forall_const,↓reduceIte,↓reduceDIte,↓Qe,Qf,Qg,Qh,Qi,Qj,Qk,Ql,Qm,Qn,Qo,Qp,Qq,Qr,Qs,implies_true,Qt,Qu,Qv,Qw,Qx,Qy,Qz,QA,QB,QC,QD,QE,QF,QG,QH,QI,QJ,QK,QL,QM,QN,QO,QP,QQ]
 refine ⟨by rfl,?_⟩
 refine CallC.by (pick_spec t (k+1+1) 3 ht (by decide) (by decide)) (by rfl) (by rfl) (Nat.le_refl _) ?_
 have e2:num2 t k=(if pk t (k+1+1) 3=0 then (if notDig ((num1 t k).getD 0 0)=true then num1 t k else 48::num1 t k) else num1 t k):=rfl
 have tail:∀ r:List UInt8,r=num2 t k→numM t k=(if pk t (k+1+1+1) 3=0 then r++(46::fracsL.getD (pk t (k+1+1+1+1) 6).toNat []) else r):=by rintro r rfl;rfl
 have ek:numK t k=(if pk t (k+1+1+1) 3=0 then k+1+1+1+1+1 else k+1+1+1+1):=rfl
 generalize num1 t k=r1 at *
 by_cases h3:pk t (k+1+1) 3=0
 ·rw [h3]
  rw [if_pos h3] at e2
  by_cases c1:(r1.getD 0 0).toNat<48
  ·have c3:notDig (r1.getD 0 0)=true:=by unfold notDig;rw [decide_eq_true c1];rfl
   have hr:r1=num2 t k:=by rw [e2,if_pos c3]
   have tl:=tail (r1) hr
   have lr:(r1).length≤4:=by rw [hr];exact l2.2
   simp (config:={maxSteps:=1000000}) (disch:=((try simp only [awL]);omega)) only [QR,QS,QT,QU,QV,QW,QX,QY,QZ,Q0,Q1,Q2,row_sign,row_fracs,strs_unf,gs,ls,ls',lf,lf',↓awU,awV,awF,Qa,Qb,Qc,Qd,forall_const,↓reduceIte,↓reduceDIte,↓Qe,Qf,Qg,Qh,Qi,Qj,Qk,Ql,Qm,Qn,Qo,Qp,Qq,Qr,Qs,implies_true,Qt,Qu,Qv,Qw,Qx,Qy,Qz,QA,QB,QC,QD,QE,QF,QG,QH,QI,QJ,QK,QL,QM,QN,QO,QP,QQ]
   refine CallC.by (pick_spec t (k+1+1+1) 3 ht (by decide) (by decide)) (by rfl) (by rfl) (Nat.le_refl _) ?_
   by_cases h4:pk t (k+1+1+1) 3=0
   ·rw [if_pos h4] at tl ek
    rw [h4,tl,ek]
    obtain ⟨d,hd,hd2⟩:=pk_nat t (k+1+1+1+1) 6 (by decide)
    have gs2:=strs_getD (l:=fracsL) (i:=d) (by omega)
    have lg2:=get_len (l:=fracsL) (m:=9) (by decide) d
    rw [hd,Int.toNat_natCast]
    simp (config:={maxSteps:=1000000}) (disch:=((try simp only [awL]);omega)) only [QR,QS,QT,QU,QV,QW,QX,QY,QZ,Q0,Q1,Q2,row_sign,row_fracs,strs_unf,gs,ls,ls',lf,lf',↓awU,awV,awF,Qa,Qb,Qc,Qd,forall_const,↓reduceIte,↓reduceDIte,↓Qe,Qf,Qg,Qh,Qi,Qj,Qk,Ql,Qm,Qn,Qo,Qp,Qq,Qr,Qs,implies_true,Qt,Qu,Qv,Qw,Qx,Qy,Qz,QA,QB,QC,QD,QE,QF,QG,QH,QI,QJ,QK,QL,QM,QN,QO,QP,QQ]
    refine CallC.by (pick_spec t (k+1+1+1+1) 6 ht (by decide) (by decide)) (by rfl) (by rfl) (Nat.le_refl _) ?_
    rw [hd]
    simp (config:={maxSteps:=1000000}) (disch:=((try simp only [awL]);omega)) only [QR,QS,QT,QU,QV,QW,QX,QY,QZ,Q0,Q1,Q2,gs2,row_sign,row_fracs,strs_unf,gs,ls,ls',lf,lf',↓awU,awV,awF,Qa,Qb,Qc,Qd,forall_const,↓reduceIte,↓reduceDIte,↓Qe,Qf,Qg,Qh,Qi,Qj,Qk,Ql,Qm,Qn,Qo,Qp,Qq,Qr,Qs,implies_true,Qt,Qu,Qv,Qw,Qx,Qy,Qz,QA,QB,QC,QD,QE,QF,QG,QH,QI,QJ,QK,QL,QM,QN,QO,QP,QQ]
    first
    | exact ⟨[some 0],rfl,by simp,by simp [HWeak,BWeak,SWeak,AWeak],.inl (by simp [AWeak,SWeak])⟩
    | refine ⟨by rfl,?_⟩
      exact ⟨[some 0],rfl,by simp,by simp [HWeak,BWeak,SWeak,AWeak],.inl (by simp [AWeak,SWeak])⟩
   ·rw [if_neg h4] at tl ek
    rw [tl,ek]
    generalize pk t (k+1+1+1) 3=z at *
    simp (config:={maxSteps:=1000000}) (disch:=((try simp only [awL]);omega)) only [QR,QS,QT,QU,QV,QW,QX,QY,QZ,Q0,Q1,Q2,row_sign,row_fracs,strs_unf,gs,ls,ls',lf,lf',↓awU,awV,awF,Qa,Qb,Qc,Qd,forall_const,↓reduceIte,↓reduceDIte,↓Qe,Qf,Qg,Qh,Qi,Qj,Qk,Ql,Qm,Qn,Qo,Qp,Qq,Qr,Qs,implies_true,Qt,Qu,Qv,Qw,Qx,Qy,Qz,QA,QB,QC,QD,QE,QF,QG,QH,QI,QJ,QK,QL,QM,QN,QO,QP,QQ]
    exact ⟨[some 0],rfl,by simp,by simp [HWeak,BWeak,SWeak,AWeak],.inl (by simp [AWeak,SWeak])⟩
  ·by_cases c2:57<(r1.getD 0 0).toNat
   ·have c3:notDig (r1.getD 0 0)=true:=by unfold notDig;rw [decide_eq_true c2,Bool.or_true]
    have hr:r1=num2 t k:=by rw [e2,if_pos c3]
    have tl:=tail (r1) hr
    have lr:(r1).length≤4:=by rw [hr];exact l2.2
    simp (config:={maxSteps:=1000000}) (disch:=((try simp only [awL]);omega)) only [QR,QS,QT,QU,QV,QW,QX,QY,QZ,Q0,Q1,Q2,row_sign,row_fracs,strs_unf,gs,ls,ls',lf,lf',↓awU,awV,awF,Qa,Qb,Qc,Qd,forall_const,↓reduceIte,↓reduceDIte,↓Qe,Qf,Qg,Qh,Qi,Qj,Qk,Ql,Qm,Qn,Qo,Qp,Qq,Qr,Qs,implies_true,Qt,Qu,Qv,Qw,Qx,Qy,Qz,QA,QB,QC,QD,QE,QF,QG,QH,QI,QJ,QK,QL,QM,QN,QO,QP,QQ]
    refine CallC.by (pick_spec t (k+1+1+1) 3 ht (by decide) (by decide)) (by rfl) (by rfl) (Nat.le_refl _) ?_
    by_cases h4:pk t (k+1+1+1) 3=0
    ·rw [if_pos h4] at tl ek
     rw [h4,tl,ek]
     obtain ⟨d,hd,hd2⟩:=pk_nat t (k+1+1+1+1) 6 (by decide)
     have gs2:=strs_getD (l:=fracsL) (i:=d) (by omega)
     have lg2:=get_len (l:=fracsL) (m:=9) (by decide) d
     rw [hd,Int.toNat_natCast]
     simp (config:={maxSteps:=1000000}) (disch:=((try simp only [awL]);omega)) only [QR,QS,QT,QU,QV,QW,QX,QY,QZ,Q0,Q1,Q2,row_sign,row_fracs,strs_unf,gs,ls,ls',lf,lf',↓awU,awV,awF,Qa,Qb,Qc,Qd,forall_const,↓reduceIte,↓reduceDIte,↓Qe,Qf,Qg,Qh,Qi,Qj,Qk,Ql,Qm,Qn,Qo,Qp,Qq,Qr,Qs,implies_true,Qt,Qu,Qv,Qw,Qx,Qy,Qz,QA,QB,QC,QD,QE,QF,QG,QH,QI,QJ,QK,QL,QM,QN,QO,QP,QQ]
     refine CallC.by (pick_spec t (k+1+1+1+1) 6 ht (by decide) (by decide)) (by rfl) (by rfl) (Nat.le_refl _) ?_
     rw [hd]
     simp (config:={maxSteps:=1000000}) (disch:=((try simp only [awL]);omega)) only [QR,QS,QT,QU,QV,QW,QX,QY,QZ,Q0,Q1,Q2,gs2,row_sign,row_fracs,strs_unf,gs,ls,ls',lf,lf',↓awU,awV,awF,Qa,Qb,Qc,Qd,forall_const,↓reduceIte,↓reduceDIte,↓Qe,Qf,Qg,Qh,Qi,Qj,Qk,Ql,Qm,Qn,Qo,Qp,Qq,Qr,Qs,implies_true,Qt,Qu,Qv,Qw,Qx,Qy,Qz,QA,QB,QC,QD,QE,QF,QG,QH,QI,QJ,QK,QL,QM,QN,QO,QP,QQ]
     first
     | exact ⟨[some 0],rfl,by simp,by simp [HWeak,BWeak,SWeak,AWeak],.inl (by simp [AWeak,SWeak])⟩
     | refine ⟨by rfl,?_⟩
       exact ⟨[some 0],rfl,by simp,by simp [HWeak,BWeak,SWeak,AWeak],.inl (by simp [AWeak,SWeak])⟩
    ·rw [if_neg h4] at tl ek
     rw [tl,ek]
     generalize pk t (k+1+1+1) 3=z at *
     simp (config:={maxSteps:=1000000}) (disch:=((try simp only [awL]);omega)) only [QR,QS,QT,QU,QV,QW,QX,QY,QZ,Q0,Q1,Q2,row_sign,row_fracs,strs_unf,gs,ls,ls',lf,lf',↓awU,awV,awF,Qa,Qb,Qc,Qd,forall_const,↓reduceIte,↓reduceDIte,↓Qe,Qf,Qg,Qh,Qi,Qj,Qk,Ql,Qm,Qn,Qo,Qp,Qq,Qr,Qs,implies_true,Qt,Qu,Qv,Qw,Qx,Qy,Qz,QA,QB,QC,QD,QE,QF,QG,QH,QI,QJ,QK,QL,QM,QN,QO,QP,QQ]
     exact ⟨[some 0],rfl,by simp,by simp [HWeak,BWeak,SWeak,AWeak],.inl (by simp [AWeak,SWeak])⟩
   ·have c3:notDig (r1.getD 0 0)=false:=by unfold notDig;rw [decide_eq_false c1,decide_eq_false c2];rfl
    have hr:48::r1=num2 t k:=by rw [e2,c3,if_neg Bool.false_ne_true]
    have tl:=tail (48::r1) hr
    have lr:(48::r1).length≤4:=by rw [hr];exact l2.2
    simp (config:={maxSteps:=1000000}) (disch:=((try simp only [awL]);omega)) only [QR,QS,QT,QU,QV,QW,QX,QY,QZ,Q0,Q1,Q2,row_sign,row_fracs,strs_unf,gs,ls,ls',lf,lf',↓awU,awV,awF,Qa,Qb,Qc,Qd,forall_const,↓reduceIte,↓reduceDIte,↓Qe,Qf,Qg,Qh,Qi,Qj,Qk,Ql,Qm,Qn,Qo,Qp,Qq,Qr,Qs,implies_true,Qt,Qu,Qv,Qw,Qx,Qy,Qz,QA,QB,QC,QD,QE,QF,QG,QH,QI,QJ,QK,QL,QM,QN,QO,QP,QQ]
    refine CallC.by (pick_spec t (k+1+1+1) 3 ht (by decide) (by decide)) (by rfl) (by rfl) (Nat.le_refl _) ?_
    by_cases h4:pk t (k+1+1+1) 3=0
    ·rw [if_pos h4] at tl ek
     rw [h4,tl,ek]
     obtain ⟨d,hd,hd2⟩:=pk_nat t (k+1+1+1+1) 6 (by decide)
     have gs2:=strs_getD (l:=fracsL) (i:=d) (by omega)
     have lg2:=get_len (l:=fracsL) (m:=9) (by decide) d
     rw [hd,Int.toNat_natCast]
     generalize hX:48::r1=X at *
     simp (config:={maxSteps:=1000000}) (disch:=((try simp only [awL]);omega)) only [QR,QS,QT,QU,QV,QW,QX,QY,QZ,Q0,Q1,Q2,row_sign,row_fracs,strs_unf,gs,ls,ls',lf,lf',↓awU,awV,awF,Qa,Qb,Qc,Qd,forall_const,↓reduceIte,↓reduceDIte,↓Qe,Qf,Qg,Qh,Qi,Qj,Qk,Ql,Qm,Qn,Qo,Qp,Qq,Qr,Qs,implies_true,Qt,Qu,Qv,Qw,Qx,Qy,Qz,QA,QB,QC,QD,QE,QF,QG,QH,QI,QJ,QK,QL,QM,QN,QO,QP,QQ]
     refine CallC.by (pick_spec t (k+1+1+1+1) 6 ht (by decide) (by decide)) (by rfl) (by rfl) (Nat.le_refl _) ?_
     rw [hd]
     simp (config:={maxSteps:=1000000}) (disch:=((try simp only [awL]);omega)) only [QR,QS,QT,QU,QV,QW,QX,QY,QZ,Q0,Q1,Q2,gs2,row_sign,row_fracs,strs_unf,gs,ls,ls',lf,lf',↓awU,awV,awF,Qa,Qb,Qc,Qd,forall_const,↓reduceIte,↓reduceDIte,↓Qe,Qf,Qg,Qh,Qi,Qj,Qk,Ql,Qm,Qn,Qo,Qp,Qq,Qr,Qs,implies_true,Qt,Qu,Qv,Qw,Qx,Qy,Qz,QA,QB,QC,QD,QE,QF,QG,QH,QI,QJ,QK,QL,QM,QN,QO,QP,QQ]
     first
     | exact ⟨[some 0],rfl,by simp,by simp [HWeak,BWeak,SWeak,AWeak],.inl (by simp [AWeak,SWeak])⟩
     | refine ⟨by rfl,?_⟩
       exact ⟨[some 0],rfl,by simp,by simp [HWeak,BWeak,SWeak,AWeak],.inl (by simp [AWeak,SWeak])⟩
    ·rw [if_neg h4] at tl ek
     rw [tl,ek]
     generalize pk t (k+1+1+1) 3=z at *
     simp (config:={maxSteps:=1000000}) (disch:=((try simp only [awL]);omega)) only [QR,QS,QT,QU,QV,QW,QX,QY,QZ,Q0,Q1,Q2,row_sign,row_fracs,strs_unf,gs,ls,ls',lf,lf',↓awU,awV,awF,Qa,Qb,Qc,Qd,forall_const,↓reduceIte,↓reduceDIte,↓Qe,Qf,Qg,Qh,Qi,Qj,Qk,Ql,Qm,Qn,Qo,Qp,Qq,Qr,Qs,implies_true,Qt,Qu,Qv,Qw,Qx,Qy,Qz,QA,QB,QC,QD,QE,QF,QG,QH,QI,QJ,QK,QL,QM,QN,QO,QP,QQ]
     exact ⟨[some 0],rfl,by simp,by simp [HWeak,BWeak,SWeak,AWeak],.inl (by simp [AWeak,SWeak])⟩
 ·rw [if_neg h3] at e2
  generalize pk t (k+1+1) 3=z3 at *
  have hr:r1=num2 t k:=e2.symm
  have tl:=tail (r1) hr
  have lr:(r1).length≤4:=by rw [hr];exact l2.2
  simp (config:={maxSteps:=1000000}) (disch:=((try simp only [awL]);omega)) only [QR,QS,QT,QU,QV,QW,QX,QY,QZ,Q0,Q1,Q2,row_sign,row_fracs,strs_unf,gs,ls,ls',lf,lf',↓awU,awV,awF,Qa,Qb,Qc,Qd,forall_const,↓reduceIte,↓reduceDIte,↓Qe,Qf,Qg,Qh,Qi,Qj,Qk,Ql,Qm,Qn,Qo,Qp,Qq,Qr,Qs,implies_true,Qt,Qu,Qv,Qw,Qx,Qy,Qz,QA,QB,QC,QD,QE,QF,QG,QH,QI,QJ,QK,QL,QM,QN,QO,QP,QQ]
  refine CallC.by (pick_spec t (k+1+1+1) 3 ht (by decide) (by decide)) (by rfl) (by rfl) (Nat.le_refl _) ?_
  by_cases h4:pk t (k+1+1+1) 3=0
  ·rw [if_pos h4] at tl ek
   rw [h4,tl,ek]
   obtain ⟨d,hd,hd2⟩:=pk_nat t (k+1+1+1+1) 6 (by decide)
   have gs2:=strs_getD (l:=fracsL) (i:=d) (by omega)
   have lg2:=get_len (l:=fracsL) (m:=9) (by decide) d
   rw [hd,Int.toNat_natCast]
   simp (config:={maxSteps:=1000000}) (disch:=((try simp only [awL]);omega)) only [QR,QS,QT,QU,QV,QW,QX,QY,QZ,Q0,Q1,Q2,row_sign,row_fracs,strs_unf,gs,ls,ls',lf,lf',↓awU,awV,awF,Qa,Qb,Qc,Qd,forall_const,↓reduceIte,↓reduceDIte,↓Qe,Qf,Qg,Qh,Qi,Qj,Qk,Ql,Qm,Qn,Qo,Qp,Qq,Qr,Qs,implies_true,Qt,Qu,Qv,Qw,Qx,Qy,Qz,QA,QB,QC,QD,QE,QF,QG,QH,QI,QJ,QK,QL,QM,QN,QO,QP,QQ]
   refine CallC.by (pick_spec t (k+1+1+1+1) 6 ht (by decide) (by decide)) (by rfl) (by rfl) (Nat.le_refl _) ?_
   rw [hd]
   simp (config:={maxSteps:=1000000}) (disch:=((try simp only [awL]);omega)) only [QR,QS,QT,QU,QV,QW,QX,QY,QZ,Q0,Q1,Q2,gs2,row_sign,row_fracs,strs_unf,gs,ls,ls',lf,lf',↓awU,awV,awF,Qa,Qb,Qc,Qd,forall_const,↓reduceIte,↓reduceDIte,↓Qe,Qf,Qg,Qh,Qi,Qj,Qk,Ql,Qm,Qn,Qo,Qp,Qq,Qr,Qs,implies_true,Qt,Qu,Qv,Qw,Qx,Qy,Qz,QA,QB,QC,QD,QE,QF,QG,QH,QI,QJ,QK,QL,QM,QN,QO,QP,QQ]
   first
   | exact ⟨[some 0],rfl,by simp,by simp [HWeak,BWeak,SWeak,AWeak],.inl (by simp [AWeak,SWeak])⟩
   | refine ⟨by rfl,?_⟩
     exact ⟨[some 0],rfl,by simp,by simp [HWeak,BWeak,SWeak,AWeak],.inl (by simp [AWeak,SWeak])⟩
  ·rw [if_neg h4] at tl ek
   rw [tl,ek]
   generalize pk t (k+1+1+1) 3=z at *
   simp (config:={maxSteps:=1000000}) (disch:=((try simp only [awL]);omega)) only [QR,QS,QT,QU,QV,QW,QX,QY,QZ,Q0,Q1,Q2,row_sign,row_fracs,strs_unf,gs,ls,ls',lf,lf',↓awU,awV,awF,Qa,Qb,Qc,Qd,forall_const,↓reduceIte,↓reduceDIte,↓Qe,Qf,Qg,Qh,Qi,Qj,Qk,Ql,Qm,Qn,Qo,Qp,Qq,Qr,Qs,implies_true,Qt,Qu,Qv,Qw,Qx,Qy,Qz,QA,QB,QC,QD,QE,QF,QG,QH,QI,QJ,QK,QL,QM,QN,QO,QP,QQ]
   exact ⟨[some 0],rfl,by simp,by simp [HWeak,BWeak,SWeak,AWeak],.inl (by simp [AWeak,SWeak])⟩
end Go.Proofs.YtkgbbdoeodmkgaaGreatDoor
namespace Go.Proofs.YtkgbbdoeodmkgaaGreatDoor
open Go Go.Proofs Go.Abs
variable {G:Globals}
def yearsL:List (List UInt8):=[[50,48,50,52],[49,57,57,57],[50,48,50,54],[49,57,48,48],[48,48,48,49],[57,57,57,57]]
def monthsL:List (List UInt8):=[[48,49],[48,50],[49,50],[49,49],[49,51]]
def daysL:List (List UInt8):=[[48,49],[50,56],[50,57],[51,48],[51,49]]
def dateM (t:List Int) (k:Nat):List UInt8 :=
 let y:=yearsL.getD (pk t k 6).toNat []
 let m:=monthsL.getD (pk t (k+1) 5).toNat []
 let e:=daysL.getD (pk t (k+2) 5).toNat []
 if pk t (k+3) 3=0 then y++[45]++m++[45]++e else if pk t (k+3) 3=1 then y++[47]++m++[47]++e else e++[46]++m++[46]++y
theorem row_years:[D.str (bs [50,48,50,52]),D.str (bs [49,57,57,57]),D.str (bs [50,48,50,54]),D.str (bs [49,57,48,48]),D.str (bs [48,48,48,49]),D.str (bs [57,57,57,57])]=strs yearsL:=rfl
theorem row_months:[D.str (bs [48,49]),D.str (bs [48,50]),D.str (bs [49,50]),D.str (bs [49,49]),D.str (bs [49,51])]=strs monthsL:=rfl
theorem row_days:[D.str (bs [48,49]),D.str (bs [50,56]),D.str (bs [50,57]),D.str (bs [51,48]),D.str (bs [51,49])]=strs daysL:=rfl
set_option maxHeartbeats 4000000 in
set_option maxRecDepth 100000 in
theorem date_spec (t:List Int) (k:Nat) (ht:OkM t):Ctr Tryz.prog G 40 [.ptr 0 0] [DiceM t k] (.d (S (dateM t k))) [DiceM t (k+4)]:=by
 obtain ⟨r,hr⟩:∃ r,r=dateM t k:=⟨_,rfl⟩
 rw [← hr]
 unfold dateM at hr
 refine Ctr.body (M:=M0) hmix Tryz.func40 rfl go40 ?_
 obtain ⟨a,ha,ha2⟩:=pk_nat t k 6 (by decide)
 obtain ⟨b,hb,hb2⟩:=pk_nat t (k+1) 5 (by decide)
 obtain ⟨c,hc,hc2⟩:=pk_nat t (k+2) 5 (by decide)
 obtain ⟨e,he,he2⟩:=pk_nat t (k+3) 3 (by decide)
 rw [ha,hb,hc,he] at hr
 simp only [Int.toNat_natCast] at hr
 have l1:=@strs_length yearsL
 have l2:=@strs_length monthsL
 have l3:=@strs_length daysL
 have n1:yearsL.length=6:=rfl
 have n2:monthsL.length=5:=rfl
 have n3:daysL.length=5:=rfl
 have g1:=strs_getD (l:=yearsL) (i:=a) (by omega)
 have g2:=strs_getD (l:=monthsL) (i:=b) (by omega)
 have g3:=strs_getD (l:=daysL) (i:=c) (by omega)
 have s1:=get_len (l:=yearsL) (m:=4) (by decide) a
 have s2:=get_len (l:=monthsL) (m:=2) (by decide) b
 have s3:=get_len (l:=daysL) (m:=2) (by decide) c
 generalize yearsL.getD a []=y at *
 generalize monthsL.getD b []=m at *
 generalize daysL.getD c []=dd at *
 simp (config:={maxSteps:=1000000}) (disch:=((try simp only [awL]);omega)) only [QR,QS,QT,QU,QV,QW,QX,QY,QZ,Q0,Q1,Q2,row_years,row_months,row_days,strs_unf,l1,l2,l3,n1,n2,n3,Tryz.f40,↓awU,awV,awF,Qa,Qb,Qc,Qd,forall_const,↓reduceIte,↓reduceDIte,↓Qe,Qf,Qg,Qh,Qi,Qj,Qk,Ql,Qm,Qn,Qo,Qp,Qq,Qr,Qs,implies_true,Qt,Qu,Qv,Qw,Qx,Qy,Qz,QA,QB,QC,QD,QE,QF,QG,QH,QI,QJ,QK,QL,QM,QN,QO,QP,QQ]
 refine CallC.by (pick_spec t k 6 ht (by decide) (by decide)) (by rfl) (by rfl) (Nat.le_refl _) ?_
 rw [ha]
 simp (config:={maxSteps:=1000000}) (disch:=((try simp only [awL]);omega)) only [QR,QS,QT,QU,QV,QW,QX,QY,QZ,Q0,Q1,Q2,row_years,row_months,row_days,strs_unf,l1,l2,l3,n1,n2,n3,g1,↓awU,awV,awF,Qa,Qb,Qc,Qd,forall_const,↓reduceIte,↓reduceDIte,↓Qe,Qf,Qg,Qh,Qi,Qj,Qk,Ql,Qm,Qn,Qo,Qp,Qq,Qr,Qs,implies_true,Qt,Qu,Qv,Qw,Qx,Qy,Qz,QA,QB,QC,QD,QE,QF,QG,QH,QI,QJ,QK,QL,QM,QN,QO,QP,QQ]
 refine CallC.by (pick_spec t (k+1) 5 ht (by decide) (by decide)) (by rfl) (by rfl) (Nat.le_refl _) ?_
 rw [hb]
 simp (config:={maxSteps:=1000000}) (disch:=((try simp only [awL]);omega)) only [QR,QS,QT,QU,QV,QW,QX,QY,QZ,Q0,Q1,Q2,row_years,row_months,row_days,strs_unf,l1,l2,l3,n1,n2,n3,g2,↓awU,awV,awF,Qa,Qb,Qc,Qd,forall_const,↓reduceIte,↓reduceDIte,↓Qe,Qf,Qg,Qh,Qi,Qj,Qk,Ql,Qm,Qn,Qo,Qp,Qq,Qr,Qs,implies_true,Qt,Qu,Qv,Qw,Qx,Qy,Qz,QA,QB,QC,QD,QE,QF,QG,QH,QI,QJ,QK,QL,QM,QN,QO,QP,QQ]
 refine CallC.by (pick_spec t (k+1+1) 5 ht (by decide) (by decide)) (by rfl) (by rfl) (Nat.le_refl _) ?_
 rw [hc]
 simp (config:={maxSteps:=1000000}) (disch:=((try simp only [awL]);omega)) only [QR,QS,QT,QU,QV,QW,QX,QY,QZ,Q0,Q1,Q2,row_years,row_months,row_days,strs_unf,l1,l2,l3,n1,n2,n3,g3,↓awU,awV,awF,Qa,Qb,Qc,Qd,forall_const,↓reduceIte,↓reduceDIte,↓Qe,Qf,Qg,Qh,Qi,Qj,Qk,Ql,Qm,Qn,Qo,Qp,Qq,Qr,Qs,implies_true,Qt,Qu,Qv,Qw,Qx,Qy,Qz,QA,QB,QC,QD,QE,QF,QG,QH,QI,QJ,QK,QL,QM,QN,QO,QP,QQ]
 refine CallC.by (pick_spec t (k+1+1+1) 3 ht (by decide) (by decide)) (by rfl) (by rfl) (Nat.le_refl _) ?_
 rw [he]
 rcases (by omega:e=0∨e=1∨e=2) with rfl | rfl | rfl
 all_goals
  simp (config:={maxSteps:=1000000}) (disch:=((try simp only [awL]);omega)) only [QR,QS,QT,QU,QV,QW,QX,QY,QZ,Q0,Q1,Q2,↓awU,awV,awF,Qa,Qb,Qc,Qd,forall_const,↓reduceIte,↓reduceDIte,↓Qe,Qf,Qg,Qh,Qi,Qj,Qk,Ql,Qm,Qn,Qo,Qp,Qq,Qr,Qs,implies_true,Qt,Qu,Qv,Qw,Qx,Qy,Qz,QA,QB,QC,QD,QE,QF,QG,QH,QI,QJ,QK,QL,QM,QN,QO,QP,QQ]
  rw [hr]
  exact ⟨[some 0],rfl,by simp,by simp [HWeak,BWeak,SWeak,AWeak],.inl (by simp [AWeak,SWeak])⟩
def boolsL:List (List UInt8):=[[121,101,115],[110,111],[84,82,85,69],[70,97,108,115,101],[32,121,101,115,32]]
theorem row_bools:[D.str (bs [121,101,115]),D.str (bs [110,111]),D.str (bs [84,82,85,69]),D.str (bs [70,97,108,115,101]),D.str (bs [32,121,101,115,32])]=strs boolsL:=rfl
def unitsL:List (List UInt8):=[[32,107,103],[103],[32,107,109],[109],[32,109,105,110],[37],[32,109,109]]
theorem row_units:[D.str (bs [32,107,103]),D.str (bs [103]),D.str (bs [32,107,109]),D.str (bs [109]),D.str (bs [32,109,105,110]),D.str (bs [37]),D.str (bs [32,109,109])]=strs unitsL:=rfl
def nullsL:List (List UInt8):=[[],[32],[78,65],[45],[110,111,110,101],[63],[110,117,108,108]]
theorem row_nulls:[D.str (bs []),D.str (bs [32]),D.str (bs [78,65]),D.str (bs [45]),D.str (bs [110,111,110,101]),D.str (bs [63]),D.str (bs [110,117,108,108])]=strs nullsL:=rfl
def oddsL:List (List UInt8):=[[97,44,98],[34,113,34],[39],[120,59,121],[108,10,105],[99,13,114],[32,112,97,100,32],[9],[124],[],[195,169],[123],[97,34,98],[13,10]]
theorem row_odds:[D.str (bs [97,44,98]),D.str (bs [34,113,34]),D.str (bs [39]),D.str (bs [120,59,121]),D.str (bs [108,10,105]),D.str (bs [99,13,114]),D.str (bs [32,112,97,100,32]),D.str (bs [9]),D.str (bs [124]),D.str (bs []),D.str (bs [195,169]),D.str (bs [123]),D.str (bs [97,34,98]),D.str (bs [13,10])]=strs oddsL:=rfl
def fieldM (t:List Int) (k c:Nat):List UInt8 :=
 if c=0 then wordsL.getD (pk t k 16).toNat [] else if c=1 then numM t k else if c=2 then dateM t k else if c=3 then boolsL.getD (pk t k 5).toNat [] else
  if c=4 then numM t k++unitsL.getD (pk t (numK t k) 7).toNat [] else if c=5 then nullsL.getD (pk t k 7).toNat [] else oddsL.getD (pk t k 14).toNat []
def fieldK (t:List Int) (k c:Nat):Nat:=if c=1 then numK t k else if c=2 then k+4 else if c=4 then numK t k+1 else k+1
set_option maxHeartbeats 8000000 in
set_option maxRecDepth 100000 in
theorem field_mspec (t:List Int) (k c:Nat) (ht:OkM t) (hc:c≤100):Ctr Tryz.prog G 29 [.ptr 0 0,.d (.int .i64 c)] [DiceM t k] (.d (S (fieldM t k c))) [DiceM t (fieldK t k c)]:=by
 obtain ⟨r,hr⟩:∃ r,r=fieldM t k c:=⟨_,rfl⟩
 obtain ⟨k2,hk⟩:∃ k2,k2=fieldK t k c:=⟨_,rfl⟩
 rw [← hr,← hk]
 unfold fieldM at hr
 unfold fieldK at hk
 refine Ctr.body (M:=M0) hmix Tryz.func29 rfl go29 ?_
 rcases (by omega:c=0∨c=1∨c=2∨c=3∨c=4∨c=5∨5<c) with rfl | rfl | rfl | rfl | rfl | rfl | h
 ·simp only [if_true,if_false,show ¬ (0=1) by decide,show ¬ (0=2) by decide,show ¬ (0=4) by decide] at hr hk
  subst hk
  obtain ⟨a,ha,ha2⟩:=pk_nat t k 16 (by decide)
  rw [ha] at hr
  simp only [Int.toNat_natCast] at hr
  have l1:=@strs_length wordsL
  have n1:wordsL.length=16:=rfl
  have g1:=strs_getD (l:=wordsL) (i:=a) (by omega)
  generalize wordsL.getD a []=y at *
  simp (config:={maxSteps:=1000000}) (disch:=((try simp only [awL]);omega)) only [QR,QS,QT,QU,QV,QW,QX,QY,QZ,Q0,Q1,Q2,strs_unf,l1,n1,Tryz.f29,↓awU,awV,awF,Qa,Qb,Qc,Qd,forall_const,↓reduceIte,↓reduceDIte,↓Qe,Qf,Qg,Qh,Qi,Qj,Qk,Ql,Qm,Qn,Qo,Qp,Qq,Qr,Qs,implies_true,Qt,Qu,Qv,Qw,Qx,Qy,Qz,QA,QB,QC,QD,QE,QF,QG,QH,QI,QJ,QK,QL,QM,QN,QO,QP,QQ]
  refine CallC.of words_spec (by rfl) ?_
  simp (config:={maxSteps:=1000000}) (disch:=((try simp only [awL]);omega)) only [QR,QS,QT,QU,QV,QW,QX,QY,QZ,Q0,Q1,Q2,strs_unf,l1,n1,↓awU,awV,awF,Qa,Qb,Qc,Qd,forall_const,↓reduceIte,↓reduceDIte,↓Qe,Qf,Qg,Qh,Qi,Qj,Qk,Ql,Qm,Qn,Qo,Qp,Qq,Qr,Qs,implies_true,Qt,Qu,Qv,Qw,Qx,Qy,Qz,QA,QB,QC,QD,QE,QF,QG,QH,QI,QJ,QK,QL,QM,QN,QO,QP,QQ]
  refine CallC.of words_spec (by rfl) ?_
  simp (config:={maxSteps:=1000000}) (disch:=((try simp only [awL]);omega)) only [QR,QS,QT,QU,QV,QW,QX,QY,QZ,Q0,Q1,Q2,strs_unf,l1,n1,↓awU,awV,awF,Qa,Qb,Qc,Qd,forall_const,↓reduceIte,↓reduceDIte,↓Qe,Qf,Qg,Qh,Qi,Qj,Qk,Ql,Qm,Qn,Qo,Qp,Qq,Qr,Qs,implies_true,Qt,Qu,Qv,Qw,Qx,Qy,Qz,QA,QB,QC,QD,QE,QF,QG,QH,QI,QJ,QK,QL,QM,QN,QO,QP,QQ]
  refine CallC.by (pick_spec t k 16 ht (by decide) (by decide)) (by rfl) (by rfl) (Nat.le_refl _) ?_
  rw [ha]
  simp (config:={maxSteps:=1000000}) (disch:=((try simp only [awL]);omega)) only [QR,QS,QT,QU,QV,QW,QX,QY,QZ,Q0,Q1,Q2,strs_unf,l1,n1,g1,↓awU,awV,awF,Qa,Qb,Qc,Qd,forall_const,↓reduceIte,↓reduceDIte,↓Qe,Qf,Qg,Qh,Qi,Qj,Qk,Ql,Qm,Qn,Qo,Qp,Qq,Qr,Qs,implies_true,Qt,Qu,Qv,Qw,Qx,Qy,Qz,QA,QB,QC,QD,QE,QF,QG,QH,QI,QJ,QK,QL,QM,QN,QO,QP,QQ]
  rw [hr]
  exact ⟨[some 0],rfl,by simp,by simp [HWeak,BWeak,SWeak,AWeak],.inl (by simp [AWeak,SWeak])⟩
 ·simp only [if_true,if_false,show ¬ (1=0) by decide] at hr hk
  subst hk hr
  simp (config:={maxSteps:=1000000}) (disch:=((try simp only [awL]);omega)) only [QR,QS,QT,QU,QV,QW,QX,QY,QZ,Q0,Q1,Q2,Tryz.f29,↓awU,awV,awF,Qa,Qb,Qc,Qd,forall_const,↓reduceIte,↓reduceDIte,↓Qe,Qf,Qg,Qh,Qi,Qj,Qk,Ql,Qm,Qn,Qo,Qp,Qq,Qr,Qs,implies_true,Qt,Qu,Qv,Qw,Qx,Qy,Qz,QA,QB,QC,QD,QE,QF,QG,QH,QI,QJ,QK,QL,QM,QN,QO,QP,QQ]
  refine CallC.by (number_spec t k ht) (by rfl) (by rfl) (Nat.le_refl _) ?_
  simp (config:={maxSteps:=1000000}) (disch:=((try simp only [awL]);omega)) only [QR,QS,QT,QU,QV,QW,QX,QY,QZ,Q0,Q1,Q2,↓awU,awV,awF,Qa,Qb,Qc,Qd,forall_const,↓reduceIte,↓reduceDIte,↓Qe,Qf,Qg,Qh,Qi,Qj,Qk,Ql,Qm,Qn,Qo,Qp,Qq,Qr,Qs,implies_true,Qt,Qu,Qv,Qw,Qx,Qy,Qz,QA,QB,QC,QD,QE,QF,QG,QH,QI,QJ,QK,QL,QM,QN,QO,QP,QQ]
  exact ⟨[some 0],rfl,by simp,by simp [HWeak,BWeak,SWeak,AWeak],.inl (by simp [AWeak,SWeak])⟩
 ·simp only [if_true,if_false,show ¬ (2=0) by decide,show ¬ (2=1) by decide] at hr hk
  subst hk hr
  simp (config:={maxSteps:=1000000}) (disch:=((try simp only [awL]);omega)) only [QR,QS,QT,QU,QV,QW,QX,QY,QZ,Q0,Q1,Q2,Tryz.f29,↓awU,awV,awF,Qa,Qb,Qc,Qd,forall_const,↓reduceIte,↓reduceDIte,↓Qe,Qf,Qg,Qh,Qi,Qj,Qk,Ql,Qm,Qn,Qo,Qp,Qq,Qr,Qs,implies_true,Qt,Qu,Qv,Qw,Qx,Qy,Qz,QA,QB,QC,QD,QE,QF,QG,QH,QI,QJ,QK,QL,QM,QN,QO,QP,QQ]
  refine CallC.by (date_spec t k ht) (by rfl) (by rfl) (Nat.le_refl _) ?_
  simp (config:={maxSteps:=1000000}) (disch:=((try simp only [awL]);omega)) only [QR,QS,QT,QU,QV,QW,QX,QY,QZ,Q0,Q1,Q2,↓awU,awV,awF,Qa,Qb,Qc,Qd,forall_const,↓reduceIte,↓reduceDIte,↓Qe,Qf,Qg,Qh,Qi,Qj,Qk,Ql,Qm,Qn,Qo,Qp,Qq,Qr,Qs,implies_true,Qt,Qu,Qv,Qw,Qx,Qy,Qz,QA,QB,QC,QD,QE,QF,QG,QH,QI,QJ,QK,QL,QM,QN,QO,QP,QQ]
  exact ⟨[some 0],rfl,by simp,by simp [HWeak,BWeak,SWeak,AWeak],.inl (by simp [AWeak,SWeak])⟩
 ·simp only [if_true,if_false,show ¬ (3=0) by decide,show ¬ (3=1) by decide,show ¬ (3=2) by decide,show ¬ (3=4) by decide] at hr hk
  subst hk
  obtain ⟨a,ha,ha2⟩:=pk_nat t k 5 (by decide)
  rw [ha] at hr
  simp only [Int.toNat_natCast] at hr
  have l1:=@strs_length boolsL
  have n1:boolsL.length=5:=rfl
  have g1:=strs_getD (l:=boolsL) (i:=a) (by omega)
  generalize boolsL.getD a []=y at *
  simp (config:={maxSteps:=1000000}) (disch:=((try simp only [awL]);omega)) only [QR,QS,QT,QU,QV,QW,QX,QY,QZ,Q0,Q1,Q2,row_bools,strs_unf,l1,n1,Tryz.f29,↓awU,awV,awF,Qa,Qb,Qc,Qd,forall_const,↓reduceIte,↓reduceDIte,↓Qe,Qf,Qg,Qh,Qi,Qj,Qk,Ql,Qm,Qn,Qo,Qp,Qq,Qr,Qs,implies_true,Qt,Qu,Qv,Qw,Qx,Qy,Qz,QA,QB,QC,QD,QE,QF,QG,QH,QI,QJ,QK,QL,QM,QN,QO,QP,QQ]
  refine CallC.by (pick_spec t k 5 ht (by decide) (by decide)) (by rfl) (by rfl) (Nat.le_refl _) ?_
  rw [ha]
  simp (config:={maxSteps:=1000000}) (disch:=((try simp only [awL]);omega)) only [QR,QS,QT,QU,QV,QW,QX,QY,QZ,Q0,Q1,Q2,row_bools,strs_unf,l1,n1,g1,↓awU,awV,awF,Qa,Qb,Qc,Qd,forall_const,↓reduceIte,↓reduceDIte,↓Qe,Qf,Qg,Qh,Qi,Qj,Qk,Ql,Qm,Qn,Qo,Qp,Qq,Qr,Qs,implies_true,Qt,Qu,Qv,Qw,Qx,Qy,Qz,QA,QB,QC,QD,QE,QF,QG,QH,QI,QJ,QK,QL,QM,QN,QO,QP,QQ]
  rw [hr]
  exact ⟨[some 0],rfl,by simp,by simp [HWeak,BWeak,SWeak,AWeak],.inl (by simp [AWeak,SWeak])⟩
 ·simp only [if_true,if_false,show ¬ (4=0) by decide,show ¬ (4=1) by decide,show ¬ (4=2) by decide,show ¬ (4=3) by decide] at hr hk
  have nl:=(numM_len t k).2
  obtain ⟨a,ha,ha2⟩:=pk_nat t (numK t k) 7 (by decide)
  rw [ha] at hr
  simp only [Int.toNat_natCast] at hr
  have l1:=@strs_length unitsL
  have n1:unitsL.length=7:=rfl
  have g1:=strs_getD (l:=unitsL) (i:=a) (by omega)
  have s1:=get_len (l:=unitsL) (m:=4) (by decide) a
  generalize unitsL.getD a []=y at *
  simp (config:={maxSteps:=1000000}) (disch:=((try simp only [awL]);omega)) only [QR,QS,QT,QU,QV,QW,QX,QY,QZ,Q0,Q1,Q2,row_units,strs_unf,l1,n1,Tryz.f29,↓awU,awV,awF,Qa,Qb,Qc,Qd,forall_const,↓reduceIte,↓reduceDIte,↓Qe,Qf,Qg,Qh,Qi,Qj,Qk,Ql,Qm,Qn,Qo,Qp,Qq,Qr,Qs,implies_true,Qt,Qu,Qv,Qw,Qx,Qy,Qz,QA,QB,QC,QD,QE,QF,QG,QH,QI,QJ,QK,QL,QM,QN,QO,QP,QQ]
  refine CallC.by (number_spec t k ht) (by rfl) (by rfl) (Nat.le_refl _) ?_
  generalize numK t k=kk at *
  generalize numM t k=nn at *
  subst hk
  simp (config:={maxSteps:=1000000}) (disch:=((try simp only [awL]);omega)) only [QR,QS,QT,QU,QV,QW,QX,QY,QZ,Q0,Q1,Q2,row_units,strs_unf,l1,n1,↓awU,awV,awF,Qa,Qb,Qc,Qd,forall_const,↓reduceIte,↓reduceDIte,↓Qe,Qf,Qg,Qh,Qi,Qj,Qk,Ql,Qm,Qn,Qo,Qp,Qq,Qr,Qs,implies_true,Qt,Qu,Qv,Qw,Qx,Qy,Qz,QA,QB,QC,QD,QE,QF,QG,QH,QI,QJ,QK,QL,QM,QN,QO,QP,QQ]
  refine CallC.by (pick_spec t kk 7 ht (by decide) (by decide)) (by rfl) (by rfl) (Nat.le_refl _) ?_
  rw [ha]
  simp (config:={maxSteps:=1000000}) (disch:=((try simp only [awL]);omega)) only [QR,QS,QT,QU,QV,QW,QX,QY,QZ,Q0,Q1,Q2,row_units,strs_unf,l1,n1,g1,↓awU,awV,awF,Qa,Qb,Qc,Qd,forall_const,↓reduceIte,↓reduceDIte,↓Qe,Qf,Qg,Qh,Qi,Qj,Qk,Ql,Qm,Qn,Qo,Qp,Qq,Qr,Qs,implies_true,Qt,Qu,Qv,Qw,Qx,Qy,Qz,QA,QB,QC,QD,QE,QF,QG,QH,QI,QJ,QK,QL,QM,QN,QO,QP,QQ]
  rw [hr]
  first | exact ⟨[some 0],rfl,by simp,by simp [HWeak,BWeak,SWeak,AWeak],.inl (by simp [AWeak,SWeak])⟩ | (refine ⟨by rfl,?_⟩;exact ⟨[some 0],rfl,by simp,by simp [HWeak,BWeak,SWeak,AWeak],.inl (by simp [AWeak,SWeak])⟩)
 ·simp only [if_true,if_false,show ¬ (5=0) by decide,show ¬ (5=1) by decide,show ¬ (5=2) by decide,show ¬ (5=3) by decide,show ¬ (5=4) by decide] at hr hk
  subst hk
  obtain ⟨a,ha,ha2⟩:=pk_nat t k 7 (by decide)
  rw [ha] at hr
  simp only [Int.toNat_natCast] at hr
  have l1:=@strs_length nullsL
  have n1:nullsL.length=7:=rfl
  have g1:=strs_getD (l:=nullsL) (i:=a) (by omega)
  generalize nullsL.getD a []=y at *
  simp (config:={maxSteps:=1000000}) (disch:=((try simp only [awL]);omega)) only [QR,QS,QT,QU,QV,QW,QX,QY,QZ,Q0,Q1,Q2,row_nulls,strs_unf,l1,n1,Tryz.f29,↓awU,awV,awF,Qa,Qb,Qc,Qd,forall_const,↓reduceIte,↓reduceDIte,↓Qe,Qf,Qg,Qh,Qi,Qj,Qk,Ql,Qm,Qn,Qo,Qp,Qq,Qr,Qs,implies_true,Qt,Qu,Qv,Qw,Qx,Qy,Qz,QA,QB,QC,QD,QE,QF,QG,QH,QI,QJ,QK,QL,QM,QN,QO,QP,QQ]
  refine CallC.by (pick_spec t k 7 ht (by decide) (by decide)) (by rfl) (by rfl) (Nat.le_refl _) ?_
  rw [ha]
  simp (config:={maxSteps:=1000000}) (disch:=((try simp only [awL]);omega)) only [QR,QS,QT,QU,QV,QW,QX,QY,QZ,Q0,Q1,Q2,row_nulls,strs_unf,l1,n1,g1,↓awU,awV,awF,Qa,Qb,Qc,Qd,forall_const,↓reduceIte,↓reduceDIte,↓Qe,Qf,Qg,Qh,Qi,Qj,Qk,Ql,Qm,Qn,Qo,Qp,Qq,Qr,Qs,implies_true,Qt,Qu,Qv,Qw,Qx,Qy,Qz,QA,QB,QC,QD,QE,QF,QG,QH,QI,QJ,QK,QL,QM,QN,QO,QP,QQ]
  rw [hr]
  exact ⟨[some 0],rfl,by simp,by simp [HWeak,BWeak,SWeak,AWeak],.inl (by simp [AWeak,SWeak])⟩
 ·simp only [if_false,show ¬ c=0 by omega,show ¬ c=1 by omega,show ¬ c=2 by omega,show ¬ c=3 by omega,show ¬ c=4 by omega,show ¬ c=5 by omega] at hr hk
  subst hk
  obtain ⟨a,ha,ha2⟩:=pk_nat t k 14 (by decide)
  rw [ha] at hr
  simp only [Int.toNat_natCast] at hr
  have l1:=@strs_length oddsL
  have n1:oddsL.length=14:=rfl
  have g1:=strs_getD (l:=oddsL) (i:=a) (by omega)
  generalize oddsL.getD a []=y at *
  simp (config:={maxSteps:=1000000}) (disch:=((try simp only [awL]);omega)) only [QR,QS,QT,QU,QV,QW,QX,QY,QZ,Q0,Q1,Q2,row_odds,strs_unf,l1,n1,Tryz.f29,↓awU,awV,awF,Qa,Qb,Qc,Qd,forall_const,↓reduceIte,↓reduceDIte,↓Qe,Qf,Qg,Qh,Qi,Qj,Qk,Ql,Qm,Qn,Qo,Qp,Qq,Qr,Qs,implies_true,Qt,Qu,Qv,Qw,Qx,Qy,Qz,QA,QB,QC,QD,QE,QF,QG,QH,QI,QJ,QK,QL,QM,QN,QO,QP,QQ]
  refine CallC.by (pick_spec t k 14 ht (by decide) (by decide)) (by rfl) (by rfl) (Nat.le_refl _) ?_
  rw [ha]
  simp (config:={maxSteps:=1000000}) (disch:=((try simp only [awL]);omega)) only [QR,QS,QT,QU,QV,QW,QX,QY,QZ,Q0,Q1,Q2,row_odds,strs_unf,l1,n1,g1,↓awU,awV,awF,Qa,Qb,Qc,Qd,forall_const,↓reduceIte,↓reduceDIte,↓Qe,Qf,Qg,Qh,Qi,Qj,Qk,Ql,Qm,Qn,Qo,Qp,Qq,Qr,Qs,implies_true,Qt,Qu,Qv,Qw,Qx,Qy,Qz,QA,QB,QC,QD,QE,QF,QG,QH,QI,QJ,QK,QL,QM,QN,QO,QP,QQ]
  rw [hr]
  exact ⟨[some 0],rfl,by simp,by simp [HWeak,BWeak,SWeak,AWeak],.inl (by simp [AWeak,SWeak])⟩
end Go.Proofs.YtkgbbdoeodmkgaaGreatDoor
namespace Go.Proofs.YtkgbbdoeodmkgaaGreatDoor
open Go Go.Proofs Go.Abs
variable {G:Globals}
end Go.Proofs.YtkgbbdoeodmkgaaGreatDoor
namespace Go.Proofs.YtkgbbdoeodmkgaaGreatDoor
open Go Go.Proofs Go.Abs Go.RowKit Go.Shelf
variable {G:Globals}
end Go.Proofs.YtkgbbdoeodmkgaaGreatDoor
namespace Go.Proofs.YtkgbbdoeodmkgaaGreatDoor
open Go Go.Proofs Go.Abs
variable {G:Globals}
theorem cutR_lt {c:UInt8}:∀ {s:List UInt8},c∈s→(cutR c s).length<s.length
 | b::l,h=>by
   by_cases e:b=c
   ·simp [cutR,e]
   ·have:=cutR_lt ((List.mem_cons.1 h).resolve_left fun x=>e x.symm)
    simp only [cutR,e,if_false,List.length_cons];omega
def MY:Muts:=fun k=>k == 3000000
theorem MY_n {k:Nat} (h:k<3000000):MY k=false:=by
 simp only [MY,beq_eq_false_iff_ne];exact Nat.ne_of_lt h
theorem Tdo_cons {x:D} {r:List D} {t:List (D × Bool)} (h:Tdo (x::r) t):(∃ t',t=(x,true)::t'∧Tdo r t')∨t=[(x,false)]:=by
 match t,h with
 | (z,true)::t,h=>exact .inl ⟨t,by rw [h.1],h.2⟩
 | (z,false)::t,h=>exact .inr (by rw [h.1,h.2])
theorem Tdo_nil {t:List (D × Bool)} (h:Tdo [] t):t=[]:=by
 match t,h with
 | [],_=>rfl
theorem strs_get {l:List (List UInt8)} {i:Nat} {x:D} (h:(strs l)[i]? = some x):∃ y,l[i]? = some y∧x=S y:=by
 simp only [strs,List.getElem?_map] at h
 cases e:l[i]? with
 | none=>simp [e] at h
 | some y=>simp [e] at h;exact ⟨y,rfl,h.symm⟩
end Go.Proofs.YtkgbbdoeodmkgaaGreatDoor
namespace Go.Proofs.YtkgbbdoeodmkgaaGreatDoor
open Go Go.Proofs Go.Abs
variable {G:Globals}
theorem take_snoc {s:List UInt8} {a i:Nat} (h1:a≤i) (h2:i<s.length):(s.take (i+1)).drop a=(s.take i).drop a++[s.getD i 0]:=by
 rw [List.take_add_one,List.drop_append_of_le_length (by simp;omega),List.getElem?_eq_getElem h2,List.getD_eq_getElem?_getD,List.getElem?_eq_getElem h2]
 rfl
end Go.Proofs.YtkgbbdoeodmkgaaGreatDoor
namespace Go.Proofs.YtkgbbdoeodmkgaaGreatDoor
open Go Go.Proofs Go.Abs
variable {G:Globals}
end Go.Proofs.YtkgbbdoeodmkgaaGreatDoor
namespace Go.Proofs.YtkgbbdoeodmkgaaGreatDoor
open Go Go.Proofs Go.Abs
variable {G:Globals}
end Go.Proofs.YtkgbbdoeodmkgaaGreatDoor
namespace Go.Proofs.YtkgbbdoeodmkgaaGreatDoor
open Go Go.Proofs Go.Abs
variable {G:Globals}
def MSt:Muts:=fun k=>k == 124
theorem MSt_n {k:Nat} (h:2000000≤k):MSt k=false:=by
 simp only [MSt,beq_eq_false_iff_ne]
 exact Nat.ne_of_gt (Nat.lt_of_lt_of_le (by decide) h)
end Go.Proofs.YtkgbbdoeodmkgaaGreatDoor
namespace Go.Proofs.YtkgbbdoeodmkgaaGreatDoor
open Go Go.Proofs Go.Abs
variable {G:Globals}
end Go.Proofs.YtkgbbdoeodmkgaaGreatDoor
namespace Go.Proofs.YtkgbbdoeodmkgaaGreatDoor
open Go Go.Proofs Go.Abs
variable {G:Globals}
theorem dropW_len (p:UInt8→Bool):∀ l:List UInt8,(l.dropWhile p).length≤l.length
 | []=>Nat.le_refl _
 | x::t=>by
   rw [List.dropWhile_cons]
   split
   ·have:=dropW_len p t;simp;omega
   ·exact Nat.le_refl _
theorem trimB_len (x:List UInt8):(Lib.trimB x 32).length≤x.length:=by
 unfold Lib.trimB Lib.trimLeftB Lib.trimRightB
 refine Nat.le_trans (dropW_len _ _) ?_
 rw [List.length_reverse]
 refine Nat.le_trans (dropW_len _ _) ?_
 simp
end Go.Proofs.YtkgbbdoeodmkgaaGreatDoor
namespace Go.Proofs.YtkgbbdoeodmkgaaGreatDoor
open Go Go.Proofs Go.Abs
variable {G:Globals}
theorem trimR_cons (x c:UInt8) (t:List UInt8):Lib.trimRightB (x::t) c=if Lib.trimRightB t c=[]∧x=c then [] else x::Lib.trimRightB t c:=by
 unfold Lib.trimRightB
 rw [List.reverse_cons,List.dropWhile_append]
 cases h:(t.reverse.dropWhile (· == c)).isEmpty
 ·have hn:¬ t.reverse.dropWhile (· == c)=[]:=by intro e;rw [e] at h;cases h
  rw [if_neg (by decide),if_neg (by rintro ⟨e,_⟩;exact hn (by simpa using e))]
  simp
 ·have hn:t.reverse.dropWhile (· == c)=[]:=List.isEmpty_iff.1 h
  rw [if_pos rfl,hn]
  by_cases hx:x=c
  ·simp [List.dropWhile,hx]
  ·have hb:(x == c)=false:=by simpa using hx
   simp [List.dropWhile,hx,hb]
theorem trim_comm (c:UInt8):∀ l:List UInt8,Lib.trimRightB (Lib.trimLeftB l c) c=Lib.trimB l c
 | []=>rfl
 | x::t=>by
   by_cases hx:x=c
   ·have e:Lib.trimLeftB (x::t) c=Lib.trimLeftB t c:=by simp [Lib.trimLeftB,List.dropWhile,hx]
    rw [e,trim_comm c t,Lib.trimB,Lib.trimB,trimR_cons]
    by_cases h2:Lib.trimRightB t c=[]
    ·rw [if_pos ⟨h2,hx⟩,h2]
    ·rw [if_neg (fun h=>h2 h.1)]
     simp [Lib.trimLeftB,List.dropWhile,hx]
   ·have hb:(x == c)=false:=by simpa using hx
    have e:Lib.trimLeftB (x::t) c=x::t:=by simp [Lib.trimLeftB,List.dropWhile,hb]
    rw [e,Lib.trimB,trimR_cons,if_neg (fun h=>hx h.2)]
    simp [Lib.trimLeftB,List.dropWhile,hb]
theorem trimR_snoc (c:UInt8) (q:List UInt8):Lib.trimRightB (q++[c]) c=Lib.trimRightB q c:=by
 simp [Lib.trimRightB,List.dropWhile]
theorem trimR_stop {b c:UInt8} {q:List UInt8} (h:¬ b=c):Lib.trimRightB (q++[b]) c=q++[b]:=by
 simp [Lib.trimRightB,List.dropWhile,h]
set_option maxHeartbeats 4000000 in
set_option maxRecDepth 100000 in
theorem rtrim_spec (s:List UInt8) (hs:s.length≤9223372036854775807):Ctr Tryz.prog G 13 [.d (S s)] [] (.d (S (Lib.trimB s 32))) []:=by
 rw [← trim_comm]
 obtain ⟨r,hr⟩:∃ r,r=Lib.trimRightB (Lib.trimLeftB s 32) 32:=⟨_,rfl⟩
 rw [← hr]
 refine Ctr.pure (M:=M0) hmix Tryz.func13 rfl go13 ?_
 simp (config:={maxSteps:=1000000}) (disch:=((try simp only [awL]);omega)) only [QR,QS,QT,QU,QV,QW,QX,QY,QZ,Q0,Q1,Q2,Tryz.f13,↓awU,awV,awF,Qa,Qb,Qc,Qd,forall_const,↓reduceIte,↓reduceDIte,↓Qe,Qf,Qg,Qh,Qi,Qj,Qk,Ql,Qm,Qn,Qo,Qp,Qq,Qr,Qs,implies_true,Qt,Qu,Qv,Qw,Qx,Qy,Qz,QA,QB,QC,QD,QE,QF,QG,QH,QI,QJ,QK,QL,QM,QN,QO,QP,QQ]
 refine LoopC.fx 0 (α:=List UInt8) (β:=List UInt8) (fun x=>x.length) (fun x=>[(0,.d (S x))]) (fun _=>[]) (fun x=>x.length≤9223372036854775807∧Lib.trimLeftB s 32=Lib.trimLeftB x 32) 0 (fun y=>[(0,.d (S y))]) (fun _=>[]) (fun y=>y.length≤9223372036854775807∧r=Lib.trimRightB y 32) s ⟨hs,rfl⟩ ?_ ?_ ?_
 ·exact ⟨[],rfl,by simp,by simp [setsA,keepA,SWeak,AWeak],by simp [HWeak,BWeak,SWeak,AWeak]⟩
 ·rintro x ⟨h1,h2⟩
  simp only [awK,Nat.reduceMod,Nat.reduceDiv,reduceIte]
  rcases x with _ | ⟨b,t⟩
  ·simp (config:={maxSteps:=1000000}) (disch:=((try simp only [awL]);omega)) only [QR,QS,QT,QU,QV,QW,QX,QY,QZ,Q0,Q1,Q2,List.length_nil,↓awU,awV,awF,Qa,Qb,Qc,Qd,forall_const,↓reduceIte,↓reduceDIte,↓Qe,Qf,Qg,Qh,Qi,Qj,Qk,Ql,Qm,Qn,Qo,Qp,Qq,Qr,Qs,implies_true,Qt,Qu,Qv,Qw,Qx,Qy,Qz,QA,QB,QC,QD,QE,QF,QG,QH,QI,QJ,QK,QL,QM,QN,QO,QP,QQ]
   exact ⟨[],⟨Nat.zero_le _,by rw [hr,h2];rfl⟩,⟨[],rfl,by simp,by simp [setsA,keepA,SWeak,AWeak],by simp [HWeak,BWeak,SWeak,AWeak]⟩⟩
  ·have gb:(b::t).getD 0 0=b:=rfl
   simp only [List.length_cons] at h1
   by_cases hb:b=32
   ·have hbn:b.toNat=32:=by rw [hb];rfl
    simp (config:={maxSteps:=1000000}) (disch:=((try simp only [awL]);omega)) only [QR,QS,QT,QU,QV,QW,QX,QY,QZ,Q0,Q1,Q2,List.length_cons,gb,hbn,↓awU,awV,awF,Qa,Qb,Qc,Qd,forall_const,↓reduceIte,↓reduceDIte,↓Qe,Qf,Qg,Qh,Qi,Qj,Qk,Ql,Qm,Qn,Qo,Qp,Qq,Qr,Qs,implies_true,Qt,Qu,Qv,Qw,Qx,Qy,Qz,QA,QB,QC,QD,QE,QF,QG,QH,QI,QJ,QK,QL,QM,QN,QO,QP,QQ]
    exact ⟨t,⟨by omega,by rw [h2,hb];rfl⟩,by simp,⟨[],rfl,by simp,by simp [setsA,keepA,SWeak,AWeak],by simp [HWeak,BWeak,SWeak,AWeak]⟩⟩
   ·have hbn:¬ b.toNat=32:=fun e=>hb (UInt8.toNat_inj.1 e)
    have hb2:(b == 32)=false:=by simpa using hb
    simp (config:={maxSteps:=1000000}) (disch:=((try simp only [awL]);omega)) only [QR,QS,QT,QU,QV,QW,QX,QY,QZ,Q0,Q1,Q2,List.length_cons,gb,hbn,↓awU,awV,awF,Qa,Qb,Qc,Qd,forall_const,↓reduceIte,↓reduceDIte,↓Qe,Qf,Qg,Qh,Qi,Qj,Qk,Ql,Qm,Qn,Qo,Qp,Qq,Qr,Qs,implies_true,Qt,Qu,Qv,Qw,Qx,Qy,Qz,QA,QB,QC,QD,QE,QF,QG,QH,QI,QJ,QK,QL,QM,QN,QO,QP,QQ]
    exact ⟨b::t,⟨by simp only [List.length_cons];omega,by rw [hr,h2];simp [Lib.trimLeftB,List.dropWhile,hb2]⟩,⟨[],rfl,by simp,by simp [setsA,keepA,SWeak,AWeak],by simp [HWeak,BWeak,SWeak,AWeak]⟩⟩
 ·rintro y ⟨h1,h2⟩
  simp only [awK,Nat.reduceMod,Nat.reduceDiv,reduceIte]
  simp (config:={maxSteps:=1000000}) (disch:=((try simp only [awL]);omega)) only [QR,QS,QT,QU,QV,QW,QX,QY,QZ,Q0,Q1,Q2,↓awU,awV,awF,Qa,Qb,Qc,Qd,forall_const,↓reduceIte,↓reduceDIte,↓Qe,Qf,Qg,Qh,Qi,Qj,Qk,Ql,Qm,Qn,Qo,Qp,Qq,Qr,Qs,implies_true,Qt,Qu,Qv,Qw,Qx,Qy,Qz,QA,QB,QC,QD,QE,QF,QG,QH,QI,QJ,QK,QL,QM,QN,QO,QP,QQ]
  refine LoopC.fr 0 (α:=List UInt8) (fun x=>x.length) (fun x=>[(0,.d (S x))]) (fun _=>[]) (fun x=>x.length≤9223372036854775807∧r=Lib.trimRightB x 32) y ⟨h1,h2⟩ ?_ ?_
  ·exact ⟨[],rfl,by simp,by simp [setsA,keepA,SWeak,AWeak],by simp [HWeak,BWeak,SWeak,AWeak]⟩
  ·rintro x ⟨h3,h4⟩
   simp only [awK,Nat.reduceMod,Nat.reduceDiv,reduceIte]
   rcases List.eq_nil_or_concat x with rfl | ⟨q,b,rfl⟩
   ·simp (config:={maxSteps:=1000000}) (disch:=((try simp only [awL]);omega)) only [QR,QS,QT,QU,QV,QW,QX,QY,QZ,Q0,Q1,Q2,List.length_nil,↓awU,awV,awF,Qa,Qb,Qc,Qd,forall_const,↓reduceIte,↓reduceDIte,↓Qe,Qf,Qg,Qh,Qi,Qj,Qk,Ql,Qm,Qn,Qo,Qp,Qq,Qr,Qs,implies_true,Qt,Qu,Qv,Qw,Qx,Qy,Qz,QA,QB,QC,QD,QE,QF,QG,QH,QI,QJ,QK,QL,QM,QN,QO,QP,QQ]
    rw [h4];rfl
   ·simp only [List.concat_eq_append] at h3 h4 ⊢
    have hl:(q++[b]).length=q.length+1:=by simp
    have gb:(q++[b]).getD q.length 0=b:=by simp [List.getD_eq_getElem?_getD]
    have tq:(q++[b]).take q.length=q:=by simp
    rw [hl] at h3
    by_cases hb:b=32
    ·have hbn:b.toNat=32:=by rw [hb];rfl
     rw [hb,trimR_snoc] at h4
     simp (config:={maxSteps:=1000000}) (disch:=((try simp only [awL]);omega)) only [QR,QS,QT,QU,QV,QW,QX,QY,QZ,Q0,Q1,Q2,hl,gb,tq,hbn,↓awU,awV,awF,Qa,Qb,Qc,Qd,forall_const,↓reduceIte,↓reduceDIte,↓Qe,Qf,Qg,Qh,Qi,Qj,Qk,Ql,Qm,Qn,Qo,Qp,Qq,Qr,Qs,implies_true,Qt,Qu,Qv,Qw,Qx,Qy,Qz,QA,QB,QC,QD,QE,QF,QG,QH,QI,QJ,QK,QL,QM,QN,QO,QP,QQ]
     exact ⟨q,⟨by omega,h4⟩,by simp,⟨[],rfl,by simp,by simp [setsA,keepA,SWeak,AWeak],by simp [HWeak,BWeak,SWeak,AWeak]⟩⟩
    ·have hbn:¬ b.toNat=32:=fun e=>hb (UInt8.toNat_inj.1 e)
     rw [trimR_stop hb] at h4
     simp (config:={maxSteps:=1000000}) (disch:=((try simp only [awL]);omega)) only [QR,QS,QT,QU,QV,QW,QX,QY,QZ,Q0,Q1,Q2,hl,gb,tq,hbn,↓awU,awV,awF,Qa,Qb,Qc,Qd,forall_const,↓reduceIte,↓reduceDIte,↓Qe,Qf,Qg,Qh,Qi,Qj,Qk,Ql,Qm,Qn,Qo,Qp,Qq,Qr,Qs,implies_true,Qt,Qu,Qv,Qw,Qx,Qy,Qz,QA,QB,QC,QD,QE,QF,QG,QH,QI,QJ,QK,QL,QM,QN,QO,QP,QQ]
     rw [h4]
end Go.Proofs.YtkgbbdoeodmkgaaGreatDoor
namespace Go.Proofs.YtkgbbdoeodmkgaaGreatDoor
open Go Go.Proofs Go.Abs
end Go.Proofs.YtkgbbdoeodmkgaaGreatDoor
namespace Go.Proofs.YtkgbbdoeodmkgaaGreatDoor
open Go Go.Proofs Go.Abs
variable {G:Globals}
end Go.Proofs.YtkgbbdoeodmkgaaGreatDoor
namespace Go.Proofs.YtkgbbdoeodmkgaaGreatDoor
open Go Go.Proofs Go.Abs
variable {G:Globals}
end Go.Proofs.YtkgbbdoeodmkgaaGreatDoor
namespace Go.Proofs.YtkgbbdoeodmkgaaGreatDoor
open Go Go.Proofs Go.Abs
variable {G:Globals}
theorem getD_some {α:Type} {l:List α} {i:Nat} {d:α} (h:i<l.length):l[i]? = some (l.getD i d):=by
 rw [List.getD_eq_getElem?_getD,List.getElem?_eq_getElem h];rfl
end Go.Proofs.YtkgbbdoeodmkgaaGreatDoor
namespace Go.Proofs.YtkgbbdoeodmkgaaGreatDoor
open Go Go.Proofs Go.Abs
variable {G:Globals}
theorem mem_take_succ {l:List (List UInt8)} {i:Nat} {s:List UInt8} (h:i<l.length):s∈l.take (i+1)↔s∈l.take i∨l.getD i []=s:=by
 rw [List.take_add_one,List.getElem?_eq_getElem h,List.getD_eq_getElem?_getD,List.getElem?_eq_getElem h]
 simp only [Option.toList_some,List.mem_append,List.mem_singleton,Option.getD_some]
 exact or_congr_right eq_comm
set_option maxRecDepth 100000 in
theorem has_spec (l:List (List UInt8)) (full:Bool) (s:List UInt8) (hl:l.length≤1000000):Ctr Tryz.prog G 14 [.d (Ss l full),.d (S s)] [] (.d (.bool (decide (s∈l)))) []:=by
 refine Ctr.pure (M:=M0) hmix Tryz.func14 rfl go14 ?_
 simp (config:={maxSteps:=1000000}) (disch:=((try simp only [awL]);omega)) only [QR,QS,QT,QU,QV,QW,QX,QY,QZ,Q0,Q1,Q2,Tryz.f14,↓awU,awV,awF,Qa,Qb,Qc,Qd,forall_const,↓reduceIte,↓reduceDIte,↓Qe,Qf,Qg,Qh,Qi,Qj,Qk,Ql,Qm,Qn,Qo,Qp,Qq,Qr,Qs,implies_true,Qt,Qu,Qv,Qw,Qx,Qy,Qz,QA,QB,QC,QD,QE,QF,QG,QH,QI,QJ,QK,QL,QM,QN,QO,QP,QQ]
 refine LoopC.fr 386 (α:=Nat) (fun i=>l.length - i) (fun i=>[(9,.d (.int .i64 i))]) (fun _=>[]) (fun i=>i≤l.length∧s∉l.take i) 0 ⟨Nat.zero_le _,by simp⟩ ?_ ?_
 ·exact ⟨[],rfl,by simp,by simp [setsA,keepA,SWeak,AWeak],by simp [HWeak,BWeak,SWeak,AWeak]⟩
 ·rintro i ⟨h1,h2⟩
  have sl:=@strs_length l
  simp only [awK,Nat.reduceMod,Nat.reduceDiv,reduceIte]
  rcases Nat.lt_or_ge i l.length with h | h
  ·have g1:=strs_getD h
   have hm:=@mem_take_succ l i s h
   by_cases he:l.getD i []=s
   ·have hin:s∈l:=List.mem_of_mem_take (hm.2 (.inr he))
    rw [decide_eq_true hin]
    rw [he] at g1
    simp (config:={maxSteps:=1000000}) (disch:=((try simp only [awL]);omega)) only [QR,QS,QT,QU,QV,QW,QX,QY,QZ,Q0,Q1,Q2,sl,g1,beq_self_eq_true,↓awU,awV,awF,Qa,Qb,Qc,Qd,forall_const,↓reduceIte,↓reduceDIte,↓Qe,Qf,Qg,Qh,Qi,Qj,Qk,Ql,Qm,Qn,Qo,Qp,Qq,Qr,Qs,implies_true,Qt,Qu,Qv,Qw,Qx,Qy,Qz,QA,QB,QC,QD,QE,QF,QG,QH,QI,QJ,QK,QL,QM,QN,QO,QP,QQ]
    try rfl
   ·have hne:(l.getD i [] == s)=false:=by simpa using he
    simp (config:={maxSteps:=1000000}) (disch:=((try simp only [awL]);omega)) only [QR,QS,QT,QU,QV,QW,QX,QY,QZ,Q0,Q1,Q2,sl,g1,hne,↓awU,awV,awF,Qa,Qb,Qc,Qd,forall_const,↓reduceIte,↓reduceDIte,↓Qe,Qf,Qg,Qh,Qi,Qj,Qk,Ql,Qm,Qn,Qo,Qp,Qq,Qr,Qs,implies_true,Qt,Qu,Qv,Qw,Qx,Qy,Qz,QA,QB,QC,QD,QE,QF,QG,QH,QI,QJ,QK,QL,QM,QN,QO,QP,QQ]
    exact ⟨i+1,⟨h,fun q=>(hm.1 q).elim h2 he⟩,by simp only;omega,⟨[],rfl,by simp,by simp [setsA,keepA,SWeak,AWeak],by simp [HWeak,BWeak,SWeak,AWeak]⟩⟩
  ·obtain rfl:i=l.length:=by omega
   rw [List.take_length] at h2
   rw [decide_eq_false h2]
   simp (config:={maxSteps:=1000000}) (disch:=((try simp only [awL]);omega)) only [QR,QS,QT,QU,QV,QW,QX,QY,QZ,Q0,Q1,Q2,sl,↓awU,awV,awF,Qa,Qb,Qc,Qd,forall_const,↓reduceIte,↓reduceDIte,↓Qe,Qf,Qg,Qh,Qi,Qj,Qk,Ql,Qm,Qn,Qo,Qp,Qq,Qr,Qs,implies_true,Qt,Qu,Qv,Qw,Qx,Qy,Qz,QA,QB,QC,QD,QE,QF,QG,QH,QI,QJ,QK,QL,QM,QN,QO,QP,QQ]
   try rfl
set_option maxRecDepth 100000 in
theorem index_spec (l:Row) (full:Bool) (s:List UInt8) (hl:l.length≤1000000):Ctr Tryz.prog G 51 [.d (Ss l full),.d (S s)] [] (.d (.int .i64 (ixF (fun x=>decide (x=s)) l 0))) []:=by
 obtain ⟨r,hr⟩:∃ r,r=ixF (fun x=>decide (x=s)) l 0:=⟨_,rfl⟩
 rw [← hr]
 refine Ctr.pure (M:=M0) hmix Tryz.func51 rfl go51 ?_
 have sl:=@strs_length l
 simp (config:={maxSteps:=1000000}) (disch:=((try simp only [awL]);omega)) only [QR,QS,QT,QU,QV,QW,QX,QY,QZ,Q0,Q1,Q2,sl,Tryz.f51,↓awU,awV,awF,Qa,Qb,Qc,Qd,forall_const,↓reduceIte,↓reduceDIte,↓Qe,Qf,Qg,Qh,Qi,Qj,Qk,Ql,Qm,Qn,Qo,Qp,Qq,Qr,Qs,implies_true,Qt,Qu,Qv,Qw,Qx,Qy,Qz,QA,QB,QC,QD,QE,QF,QG,QH,QI,QJ,QK,QL,QM,QN,QO,QP,QQ]
 refine LoopC.fr 131 (α:=Nat) (fun i=>l.length - i) (fun i=>[(8,.d (.int .i64 i))]) (fun _=>[]) (fun i=>i≤l.length∧r=ixF (fun x=>decide (x=s)) (l.drop i) i) 0 ⟨Nat.zero_le _,hr⟩ ?_ ?_
 ·exact ⟨[],rfl,by simp,by simp [setsA,keepA,SWeak,AWeak],by simp [HWeak,BWeak,SWeak,AWeak]⟩
 ·rintro i ⟨h1,h2⟩
  simp only [awK,Nat.reduceMod,Nat.reduceDiv,reduceIte]
  rcases Nat.lt_or_ge i l.length with h | h
  ·have g1:=strs_getD h
   rw [ixF_at (d:=[]) h] at h2
   by_cases he:l.getD i []=s
   ·rw [if_pos (by simpa using he)] at h2
    rw [he] at g1
    simp (config:={maxSteps:=1000000}) (disch:=((try simp only [awL]);omega)) only [QR,QS,QT,QU,QV,QW,QX,QY,QZ,Q0,Q1,Q2,sl,g1,beq_self_eq_true,↓awU,awV,awF,Qa,Qb,Qc,Qd,forall_const,↓reduceIte,↓reduceDIte,↓Qe,Qf,Qg,Qh,Qi,Qj,Qk,Ql,Qm,Qn,Qo,Qp,Qq,Qr,Qs,implies_true,Qt,Qu,Qv,Qw,Qx,Qy,Qz,QA,QB,QC,QD,QE,QF,QG,QH,QI,QJ,QK,QL,QM,QN,QO,QP,QQ]
    all_goals rw [h2]
   ·have hne:(l.getD i [] == s)=false:=by simpa using he
    have hne2:(s == l.getD i [])=false:=by simpa using fun e=>he e.symm
    rw [if_neg (by simpa using he)] at h2
    simp (config:={maxSteps:=1000000}) (disch:=((try simp only [awL]);omega)) only [QR,QS,QT,QU,QV,QW,QX,QY,QZ,Q0,Q1,Q2,sl,g1,hne2,↓awU,awV,awF,Qa,Qb,Qc,Qd,forall_const,↓reduceIte,↓reduceDIte,↓Qe,Qf,Qg,Qh,Qi,Qj,Qk,Ql,Qm,Qn,Qo,Qp,Qq,Qr,Qs,implies_true,Qt,Qu,Qv,Qw,Qx,Qy,Qz,QA,QB,QC,QD,QE,QF,QG,QH,QI,QJ,QK,QL,QM,QN,QO,QP,QQ]
    exact ⟨i+1,⟨h,h2⟩,by simp only;omega,⟨[],rfl,by simp,by simp [setsA,keepA,SWeak,AWeak],by simp [HWeak,BWeak,SWeak,AWeak]⟩⟩
  ·rw [List.drop_eq_nil_of_le h] at h2
   simp (config:={maxSteps:=1000000}) (disch:=((try simp only [awL]);omega)) only [QR,QS,QT,QU,QV,QW,QX,QY,QZ,Q0,Q1,Q2,sl,↓awU,awV,awF,Qa,Qb,Qc,Qd,forall_const,↓reduceIte,↓reduceDIte,↓Qe,Qf,Qg,Qh,Qi,Qj,Qk,Ql,Qm,Qn,Qo,Qp,Qq,Qr,Qs,implies_true,Qt,Qu,Qv,Qw,Qx,Qy,Qz,QA,QB,QC,QD,QE,QF,QG,QH,QI,QJ,QK,QL,QM,QN,QO,QP,QQ]
   all_goals (rw [h2];rfl)
set_option maxRecDepth 100000 in
theorem containsL_spec (l:Row) (full:Bool) (s:List UInt8) (hl:l.length≤1000000):Ctr Tryz.prog G 34 [.d (Ss l full),.d (S s)] [] (.d (.bool (decide (s∈l)))) []:=by
 refine Ctr.pure (M:=M0) hmix Tryz.func34 rfl go34 ?_
 simp (config:={maxSteps:=1000000}) (disch:=((try simp only [awL]);omega)) only [QR,QS,QT,QU,QV,QW,QX,QY,QZ,Q0,Q1,Q2,Tryz.f34,↓awU,awV,awF,Qa,Qb,Qc,Qd,forall_const,↓reduceIte,↓reduceDIte,↓Qe,Qf,Qg,Qh,Qi,Qj,Qk,Ql,Qm,Qn,Qo,Qp,Qq,Qr,Qs,implies_true,Qt,Qu,Qv,Qw,Qx,Qy,Qz,QA,QB,QC,QD,QE,QF,QG,QH,QI,QJ,QK,QL,QM,QN,QO,QP,QQ]
 refine CallC.of (index_spec l false s hl) (by rfl) ?_
 have hi:=ixF_any (p:=fun x=>decide (x=s)) l 0 (Int.le_refl _)
 have hm:l.any (fun x=>decide (x=s))=decide (s∈l):=by
  by_cases h:s∈l
  ·rw [decide_eq_true h];exact List.any_eq_true.2 ⟨s,h,by simp⟩
  ·rw [decide_eq_false h]
   cases hx:l.any (fun x=>decide (x=s)) with
   | false=>rfl
   | true =>
    obtain ⟨x,h1,h2⟩:=List.any_eq_true.1 hx
    exact absurd ((of_decide_eq_true h2)▸h1) h
 rw [hm] at hi
 generalize ixF (fun x=>decide (x=s)) l 0=z at *
 rcases (by omega:0≤z∨z<0) with h | h
 ·rw [hi.1 h]
  simp (config:={maxSteps:=1000000}) (disch:=((try simp only [awL]);omega)) only [↓awU,awV,awF,Qa,Qb,Qc,Qd,forall_const,↓reduceIte,↓reduceDIte,↓Qe,Qf,Qg,Qh,Qi,Qj,Qk,Ql,Qm,Qn,Qo,Qp,Qq,Qr,Qs,implies_true,Qt,Qu,Qv,Qw,Qx,Qy,Qz,QA,QB,QC,QD,QE,QF,QG,QH,QI,QJ,QK,QL,QM,QN,QO,QP,QQ]
 ·have:decide (s∈l)=false:=by cases hx:decide (s∈l) with
   | false=>rfl
   | true=>have:=hi.2 hx;omega
  rw [this]
  simp (config:={maxSteps:=1000000}) (disch:=((try simp only [awL]);omega)) only [↓awU,awV,awF,Qa,Qb,Qc,Qd,forall_const,↓reduceIte,↓reduceDIte,↓Qe,Qf,Qg,Qh,Qi,Qj,Qk,Ql,Qm,Qn,Qo,Qp,Qq,Qr,Qs,implies_true,Qt,Qu,Qv,Qw,Qx,Qy,Qz,QA,QB,QC,QD,QE,QF,QG,QH,QI,QJ,QK,QL,QM,QN,QO,QP,QQ]
end Go.Proofs.YtkgbbdoeodmkgaaGreatDoor
namespace Go.Proofs.YtkgbbdoeodmkgaaGreatDoor
open Go Go.Proofs Go.Abs
variable {G:Globals}
end Go.Proofs.YtkgbbdoeodmkgaaGreatDoor
namespace Go.Proofs.YtkgbbdoeodmkgaaGreatDoor
open Go Go.Proofs Go.Abs
variable {G:Globals}
end Go.Proofs.YtkgbbdoeodmkgaaGreatDoor
namespace Go.Proofs.YtkgbbdoeodmkgaaGreatDoor
open Go Go.Proofs Go.Abs Go.RowKit Go.Shelf
variable {G:Globals}
def Tryz.laysJoin_ren:Go.Shelf.Ren:=⟨fun | 156=>32 | 165=>47 | 166=>48 | 169=>49 | 240=>64 | 241=>65 | 276=>98 | 277=>99 | n=>n,fun | 31=>30 | 9=>9 | 3=>3 | 4=>4 | 0=>0 | 20=>20 | 72=>72 | 76=>76 | 70=>70 | 37=>22 | 75=>75 | 127=>94 | 164=>129 | 5=>5 | 80=>66 | n=>n,fun | n=>n⟩
theorem Tryz.laysJoin:Go.Proofs.Lays.n156 Tryz.prog Tryz.laysJoin_ren where
 mixed:=by kernel_rfl
 f156:=Tryz.func32.trans (congrArg some (by kernel_rfl))
 f165:=Tryz.func47.trans (congrArg some (by kernel_rfl))
 f166:=Tryz.func48.trans (congrArg some (by kernel_rfl))
 f169:=Tryz.func49.trans (congrArg some (by kernel_rfl))
 f240:=Tryz.func64.trans (congrArg some (by kernel_rfl))
 f241:=Tryz.func65.trans (congrArg some (by kernel_rfl))
 f276:=Tryz.func98.trans (congrArg some (by kernel_rfl))
 f277:=Tryz.func99.trans (congrArg some (by kernel_rfl))
 t0:=Tryz.underlying0
 a0:=Tryz.isAgg0
 z0:=Tryz.sizeOf0
 v0:=Tryz.zeroValue0
 t3:=Tryz.underlying3
 a3:=Tryz.isAgg3
 z3:=Tryz.sizeOf3
 v3:=Tryz.zeroValue3
 t4:=Tryz.underlying4
 a4:=Tryz.isAgg4
 z4:=Tryz.sizeOf4
 v4:=Tryz.zeroValue4
 t9:=Tryz.underlying9
 a9:=Tryz.isAgg9
 z9:=Tryz.sizeOf9
 v9:=Tryz.zeroValue9
 t20:=Tryz.underlying20
 a20:=Tryz.isAgg20
 z20:=Tryz.sizeOf20
 v20:=Tryz.zeroValue20
 t31:=Tryz.underlying30
 a31:=Tryz.isAgg30
 z31:=Tryz.sizeOf30
 v31:=Tryz.zeroValue30
 t37:=Tryz.underlying22
 a37:=Tryz.isAgg22
 z37:=Tryz.sizeOf22
 v37:=Tryz.zeroValue22
 t70:=Tryz.underlying70
 a70:=Tryz.isAgg70
 z70:=Tryz.sizeOf70
 v70:=Tryz.zeroValue70
 t72:=Tryz.underlying72
 a72:=Tryz.isAgg72
 z72:=Tryz.sizeOf72
 v72:=Tryz.zeroValue72
 t75:=Tryz.underlying75
 a75:=Tryz.isAgg75
 z75:=Tryz.sizeOf75
 v75:=Tryz.zeroValue75
 t76:=Tryz.underlying76
 a76:=Tryz.isAgg76
 z76:=Tryz.sizeOf76
 v76:=Tryz.zeroValue76
 t127:=Tryz.underlying94
 a127:=Tryz.isAgg94
 z127:=Tryz.sizeOf94
 v127:=Tryz.zeroValue94
 t164:=Tryz.underlying129
 a164:=Tryz.isAgg129
 z164:=Tryz.sizeOf129
 v164:=Tryz.zeroValue129
theorem extraJ:Builder.Extra Tryz.prog Tryz.laysJoin_ren where
 sizeBuilder:=by kernel_rfl
 liesBuilder:=by kernel_rfl
 t5:=Tryz.underlying5
 a5:=Tryz.isAgg5
 z5:=Tryz.sizeOf5
 v5:=Tryz.zeroValue5
 infoByte:=by kernel_rfl
 cellsByte:=by kernel_rfl
 sizeByte:=by kernel_rfl
 neB5:=by decide
theorem sl_inv {h:Held} {v:Value} {n:Nat} {full:Bool} {cells:List D} (r:RD h v (.sl n full cells)) (h0:0<n) :
  ∃ (g off cap:Nat) (vs:Nat→Value),v=.slice (some ⟨g,off,none⟩) n cap∧n≤cap∧(∀ (i:Nat) x,cells[i]? = some x→h g (off+i)=some (vs i))∧(∀ (i:Nat) x,cells[i]? = some x→RD h (vs i) x):=by
 cases r with
 | sl0 base full=>omega
 | sl g off n cap full cells vs k1 k2 k3 k4 k5=>exact ⟨g,off,cap,vs,rfl,k1,k3,k4⟩
theorem join_spec (l:Row) (full:Bool) (sep:List UInt8) (h0:0<l.length) (hl:l.length≤1000000) (hlen:(Lib.join l sep).length≤1000000000) :
  Ctr Tryz.prog G 32 [.d (Ss l full),.d (S sep)] [] (.d (S (Lib.join l sep))) []:=by
 refine Ctr.of_calls go32 fun h ρ w vs q r=>?_
 obtain ⟨v,u,rfl,hv,hu⟩:=r.inv2
 rw [hu.str_inv]
 have hd:RD h v (.sl l.length full (strs l)):=by cases hv with | d _ _ hd=>exact hd
 obtain ⟨g,off,cap,vs,rfl,k1,k2,k3⟩:=sl_inv hd h0
 have key:∀ (j:Nat) x,(l.map bs)[j]? = some x→w.cell? ⟨g,off+j,none⟩=some (.string x):=by
  intro j x hx
  rw [List.getElem?_map] at hx
  cases hy:l[j]? with
  | none=>rw [hy] at hx;cases hx
  | some y =>
   rw [hy] at hx
   cases hx
   have hs:(strs l)[j]? = some (S y):=by simp [strs,hy]
   have c1:=q.prom _ _ _ (k2 j _ hs)
   have r1:=k3 j _ hs
   generalize vs j=z at c1 r1
   cases r1
   exact c1
 have hb:g<w.heap.size:=by
  have:=key 0 (bs (l.getD 0 [])) (by rw [List.getElem?_map,List.getD_eq_getElem?_getD,List.getElem?_eq_getElem h0];rfl)
  rcases Nat.lt_or_ge g w.heap.size with h1 | h1
  ·exact h1
  ·simp [World.cell?,h1] at this
 have e1:((l.map bs).map (·.data.toList))=l:=by
  rw [List.map_map]
  conv=>rhs;rw [← List.map_id l]
  rfl
 have e2:(bs sep).data.toList=sep:=rfl
 have:=Any.strings_Join Tryz.laysJoin extraJ g off cap (l.map bs) (bs sep) w key hb (by rw [List.length_map];omega) (by rw [List.length_map];exact k1) (by rw [e1,e2];omega)
 rw [List.length_map,e1,e2] at this
 refine this.mono ?_
 rintro e w' ⟨rfl,hb⟩
 exact ⟨_,rfl,.str _,hb⟩
end Go.Proofs.YtkgbbdoeodmkgaaGreatDoor
namespace Go.Proofs.YtkgbbdoeodmkgaaGreatDoor
open Go Go.Proofs Go.Abs
variable {G:Globals}
def HI (G:Globals):Prop:=∀ n:Nat,n≤1048576→Ctr Tryz.prog G 55 [.d (.int .i64 n)] [] (.d (S (Lib.decDigits n))) []
theorem join_len (sep:List UInt8) (m:Nat) (hs:sep.length≤1):∀ l:Row,(∀ s∈l,s.length≤m)→(Lib.join l sep).length≤l.length*(m+1)
 | [],_=>by simp [Lib.join_nil]
 | [x],h=>by rw [Lib.join_one];have:=h x (by simp);simp;omega
 | x::y::t,h=>by
   have e:Lib.join (x::y::t) sep=x++sep++Lib.join (y::t) sep:=by simp [Lib.join,List.intercalate]
   have i:=join_len sep m hs (y::t) (fun s hm=>h s (List.mem_cons_of_mem _ hm))
   have:=h x (by simp)
   rw [e]
   simp only [List.length_append,List.length_cons] at *
   rw [Nat.succ_mul]
   omega
theorem join_snoc (sep x:List UInt8):∀ l:Row,Lib.join (l++[x]) sep=if l=[] then x else Lib.join l sep++sep++x
 | []=>by rw [if_pos rfl,List.nil_append,Lib.join_one]
 | [y]=>by rw [if_neg (by simp)];simp [Lib.join,List.intercalate]
 | y::z::t=>by
   have e:∀ (a b:List UInt8) (u:Row),Lib.join (a::b::u) sep=a++sep++Lib.join (b::u) sep:=fun a b u=>by simp [Lib.join,List.intercalate]
   have i:=join_snoc sep x (z::t)
   rw [if_neg (by simp)] at i ⊢
   rw [List.cons_append,List.cons_append,e,e,← List.cons_append,i]
   simp
end Go.Proofs.YtkgbbdoeodmkgaaGreatDoor
namespace Go.Proofs.YtkgbbdoeodmkgaaGreatDoor
open Go Go.Proofs Go.Abs
variable {G:Globals}
def natGo (n i:Nat):List UInt8→Option Nat
 | []=>some n
 | c::t=>if c.toNat<48∨57<c.toNat∨68719476736<n∨(0<i∧n=0) then none else natGo (10*n+(c.toNat - 48)) (i+1) t
end Go.Proofs.YtkgbbdoeodmkgaaGreatDoor
namespace Go.Proofs.YtkgbbdoeodmkgaaGreatDoor
open Go Go.Proofs Go.Abs Go.RowKit Go.Shelf
variable {G:Globals}
end Go.Proofs.YtkgbbdoeodmkgaaGreatDoor
namespace Go.Proofs.YtkgbbdoeodmkgaaGreatDoor
open Go Go.Proofs Go.Abs
variable {G:Globals}
end Go.Proofs.YtkgbbdoeodmkgaaGreatDoor
namespace Go.Proofs.YtkgbbdoeodmkgaaGreatDoor
open Go Go.Proofs Go.Abs
variable {G:Globals}
end Go.Proofs.YtkgbbdoeodmkgaaGreatDoor
namespace Go.Proofs.YtkgbbdoeodmkgaaGreatDoor
open Go Go.Proofs Go.Abs
variable {G:Globals}
def prD (k:Nat):List UInt8:=[UInt8.ofNat (48+k / 10),UInt8.ofNat (48+k % 10)]
theorem dd2 {n:Nat} (h:100≤n):Lib.decDigits n=Lib.decDigits (n / 100)++prD (n % 100):=by
 rw [Lib.decDigits,dif_neg (by omega),Lib.decDigits,dif_neg (by omega),Nat.div_div_eq_div_mul,List.append_assoc,prD]
 rw [show n / 10 % 10=n % 100 / 10 by omega,show n % 100 % 10=n % 10 by omega];rfl
theorem dd_one {n:Nat} (h:n<10):Lib.decDigits n=[UInt8.ofNat (48+n)]:=Lib.decDigits_one h
theorem dd_two {n:Nat} (h1:10≤n) (h:n<100):Lib.decDigits n=prD n:=Lib.decDigits_two (by omega) h
theorem dd3 {n:Nat} (h1:100≤n) (h:n<1000):Lib.decDigits n=[UInt8.ofNat (48+n / 100)]++prD (n % 100):=by rw [dd2 h1,dd_one (by omega)]
theorem dd4 {n:Nat} (h1:1000≤n) (h:n<10000):Lib.decDigits n=prD (n / 100)++prD (n % 100):=by rw [dd2 (by omega),dd_two (by omega) (by omega)]
theorem dd5 {n:Nat} (h1:10000≤n) (h:n<100000):Lib.decDigits n=[UInt8.ofNat (48+n / 10000)]++prD (n % 10000 / 100)++prD (n % 10000 % 100):=by
 rw [dd2 (by omega),dd3 (by omega) (by omega),Nat.div_div_eq_div_mul,show n / 100 % 100=n % 10000 / 100 by omega,show n % 10000 % 100=n % 100 by omega]
theorem dd6 {n:Nat} (h1:100000≤n) (h:n<1000000):Lib.decDigits n=prD (n / 10000)++prD (n % 10000 / 100)++prD (n % 10000 % 100):=by
 rw [dd2 (by omega),dd4 (by omega) (by omega),Nat.div_div_eq_div_mul,show n / 100 % 100=n % 10000 / 100 by omega,show n % 10000 % 100=n % 100 by omega]
theorem dd7 {n:Nat} (h1:1000000≤n) (h:n<10000000):Lib.decDigits n=[UInt8.ofNat (48+n / 10000 / 100)]++prD (n / 10000 % 100)++prD (n % 10000 / 100)++prD (n % 10000 % 100):=by
 rw [dd2 (by omega),dd5 (by omega) (by omega),show n % 10000 % 100=n % 100 by omega,show n / 100 / 10000=n / 10000 / 100 by omega,show n / 100 % 10000 / 100=n / 10000 % 100 by omega,show n / 100 % 10000 % 100=n % 10000 / 100 by omega]
theorem sm_at {k:Nat} (h:k<100):(smallsL.getD (k*2) 0).toNat=48+k / 10∧(smallsL.getD (k*2+1) 0).toNat=48+k % 10:=by
 have:∀ k:Fin 100,(smallsL.getD (k.val*2) 0).toNat=48+k.val / 10∧(smallsL.getD (k.val*2+1) 0).toNat=48+k.val % 10:=by decide +kernel
 exact this ⟨k,h⟩
theorem td100 (a:Nat):(a:Int).tdiv 100=((a / 100:Nat):Int):=(Int.ofNat_tdiv a 100).symm
theorem tm100 (a:Nat):(a:Int).tmod 100=((a % 100:Nat):Int):=(Int.ofNat_tmod a 100).symm
theorem td10000 (a:Nat):(a:Int).tdiv 10000=((a / 10000:Nat):Int):=(Int.ofNat_tdiv a 10000).symm
theorem tm10000 (a:Nat):(a:Int).tmod 10000=((a % 10000:Nat):Int):=(Int.ofNat_tmod a 10000).symm
theorem tn2 (k:Nat):((k:Int)*2).toNat=k*2:=by omega
theorem tn3 (k:Nat):((k:Int)*2+1).toNat=k*2+1:=by omega
theorem smA {k:Nat} (h:k<100):(smallsL.getD (k*2) 0).toNat=48+k / 10:=(sm_at h).1
theorem smB {k:Nat} (h:k<100):(smallsL.getD (k*2+1) 0).toNat=48+k % 10:=(sm_at h).2
set_option maxHeartbeats 4000000 in
set_option maxRecDepth 100000 in
theorem fb3_spec (n:Nat) (h1:100≤n) (h:n<1000):Ctr Tryz.prog G 141 [.lsl 0 1 1 3,.d (.int .u64 n)] [.row false (ints .u8 (List.replicate 24 0))] .undef
  [.row false (ints .u8 ([0,((48+n / 100:Nat):Int),((48+n % 100 / 10:Nat):Int),((48+n % 100 % 10:Nat):Int)]++List.replicate 20 0))]:=by
 refine Ctr.body (M:=M0) hmix Tryz.func141 rfl go141 ?_
 simp (config:={maxSteps:=1000000}) (disch:=((try simp only [awL]);omega)) only [QR,QS,QT,QU,QV,QW,QX,QY,QZ,Q0,Q1,Q2,Tryz.f141,↓awU,awV,awF,Qa,Qb,Qc,Qd,forall_const,↓reduceIte,↓reduceDIte,↓Qe,Qf,Qg,Qh,Qi,Qj,Qk,Ql,Qm,Qn,Qo,Qp,Qq,Qr,Qs,implies_true,Qt,Qu,Qv,Qw,Qx,Qy,Qz,QA,QB,QC,QD,QE,QF,QG,QH,QI,QJ,QK,QL,QM,QN,QO,QP,QQ]
 refine LoopC.fx 1 (α:=Unit) (β:=Unit) (fun _=>0) (fun _=>[(1,.d (.int .u64 n)),(4,.d (.int .i64 3))]) (fun _=>[.row false (ints .u8 (List.replicate 24 0))]) (fun _=>True) 1 (fun _=>[(1,.d (.int .u64 n)),(4,.d (.int .i64 3))]) (fun _=>[.row false (ints .u8 (List.replicate 24 0))]) (fun _=>True) () trivial ?_ ?_ ?_
 ·exact ⟨[some 0],rfl,by simp,by simp [setsA,keepA,SWeak,AWeak],by simp [HWeak,BWeak,SWeak,AWeak]⟩
 ·rintro ⟨⟩ -
  simp only [awK,Nat.reduceMod,Nat.reduceDiv,reduceIte]
  simp (config:={maxSteps:=1000000}) (disch:=((try simp only [awL]);omega)) only [QR,QS,QT,QU,QV,QW,QX,QY,QZ,Q0,Q1,Q2,↓awU,awV,awF,Qa,Qb,Qc,Qd,forall_const,↓reduceIte,↓reduceDIte,↓Qe,Qf,Qg,Qh,Qi,Qj,Qk,Ql,Qm,Qn,Qo,Qp,Qq,Qr,Qs,implies_true,Qt,Qu,Qv,Qw,Qx,Qy,Qz,QA,QB,QC,QD,QE,QF,QG,QH,QI,QJ,QK,QL,QM,QN,QO,QP,QQ]
  exact ⟨(),trivial,⟨[some 0],rfl,by simp,by simp [setsA,keepA,SWeak,AWeak],by simp [HWeak,BWeak,SWeak,AWeak]⟩⟩
 ·rintro ⟨⟩ -
  simp only [awK,Nat.reduceMod,Nat.reduceDiv,reduceIte]
  simp (config:={maxSteps:=1000000}) (disch:=((try simp only [awL]);omega)) only [QR,QS,QT,QU,QV,QW,QX,QY,QZ,Q0,Q1,Q2,smalls_eq,smallsL_len,td100,tm100,td10000,tm10000,tn2,tn3,smA,smB,↓awU,awV,awF,Qa,Qb,Qc,Qd,forall_const,↓reduceIte,↓reduceDIte,↓Qe,Qf,Qg,Qh,Qi,Qj,Qk,Ql,Qm,Qn,Qo,Qp,Qq,Qr,Qs,implies_true,Qt,Qu,Qv,Qw,Qx,Qy,Qz,QA,QB,QC,QD,QE,QF,QG,QH,QI,QJ,QK,QL,QM,QN,QO,QP,QQ]
  first | (exact ⟨[some 0],rfl,by simp,by simp [HWeak,BWeak,SWeak,AWeak],.inl (by simp [AWeak,SWeak])⟩) | (refine ⟨by rfl,?_⟩;exact ⟨[some 0],rfl,by simp,by simp [HWeak,BWeak,SWeak,AWeak],.inl (by simp [AWeak,SWeak])⟩) | (refine ⟨by rfl,by rfl,?_⟩;exact ⟨[some 0],rfl,by simp,by simp [HWeak,BWeak,SWeak,AWeak],.inl (by simp [AWeak,SWeak])⟩) | (refine ⟨by rfl,by rfl,by rfl,?_⟩;exact ⟨[some 0],rfl,by simp,by simp [HWeak,BWeak,SWeak,AWeak],.inl (by simp [AWeak,SWeak])⟩)
set_option maxHeartbeats 4000000 in
set_option maxRecDepth 100000 in
theorem fb4_spec (n:Nat) (h1:1000≤n) (h:n<10000):Ctr Tryz.prog G 141 [.lsl 0 1 1 4,.d (.int .u64 n)] [.row false (ints .u8 (List.replicate 24 0))] .undef
  [.row false (ints .u8 ([0,((48+n % 10000 / 100 / 10:Nat):Int),((48+n % 10000 / 100 % 10:Nat):Int),((48+n % 10000 % 100 / 10:Nat):Int),((48+n % 10000 % 100 % 10:Nat):Int)]++List.replicate 19 0))]:=by
 refine Ctr.body (M:=M0) hmix Tryz.func141 rfl go141 ?_
 simp (config:={maxSteps:=1000000}) (disch:=((try simp only [awL]);omega)) only [QR,QS,QT,QU,QV,QW,QX,QY,QZ,Q0,Q1,Q2,Tryz.f141,↓awU,awV,awF,Qa,Qb,Qc,Qd,forall_const,↓reduceIte,↓reduceDIte,↓Qe,Qf,Qg,Qh,Qi,Qj,Qk,Ql,Qm,Qn,Qo,Qp,Qq,Qr,Qs,implies_true,Qt,Qu,Qv,Qw,Qx,Qy,Qz,QA,QB,QC,QD,QE,QF,QG,QH,QI,QJ,QK,QL,QM,QN,QO,QP,QQ]
 refine LoopC.fx 1 (α:=Unit) (β:=Unit) (fun _=>0) (fun _=>[(1,.d (.int .u64 n)),(4,.d (.int .i64 4))]) (fun _=>[.row false (ints .u8 (List.replicate 24 0))]) (fun _=>True) 1 (fun _=>[(1,.d (.int .u64 n)),(4,.d (.int .i64 4))]) (fun _=>[.row false (ints .u8 (List.replicate 24 0))]) (fun _=>True) () trivial ?_ ?_ ?_
 ·exact ⟨[some 0],rfl,by simp,by simp [setsA,keepA,SWeak,AWeak],by simp [HWeak,BWeak,SWeak,AWeak]⟩
 ·rintro ⟨⟩ -
  simp only [awK,Nat.reduceMod,Nat.reduceDiv,reduceIte]
  simp (config:={maxSteps:=1000000}) (disch:=((try simp only [awL]);omega)) only [QR,QS,QT,QU,QV,QW,QX,QY,QZ,Q0,Q1,Q2,↓awU,awV,awF,Qa,Qb,Qc,Qd,forall_const,↓reduceIte,↓reduceDIte,↓Qe,Qf,Qg,Qh,Qi,Qj,Qk,Ql,Qm,Qn,Qo,Qp,Qq,Qr,Qs,implies_true,Qt,Qu,Qv,Qw,Qx,Qy,Qz,QA,QB,QC,QD,QE,QF,QG,QH,QI,QJ,QK,QL,QM,QN,QO,QP,QQ]
  exact ⟨(),trivial,⟨[some 0],rfl,by simp,by simp [setsA,keepA,SWeak,AWeak],by simp [HWeak,BWeak,SWeak,AWeak]⟩⟩
 ·rintro ⟨⟩ -
  simp only [awK,Nat.reduceMod,Nat.reduceDiv,reduceIte]
  simp (config:={maxSteps:=1000000}) (disch:=((try simp only [awL]);omega)) only [QR,QS,QT,QU,QV,QW,QX,QY,QZ,Q0,Q1,Q2,smalls_eq,smallsL_len,td100,tm100,td10000,tm10000,tn2,tn3,smA,smB,↓awU,awV,awF,Qa,Qb,Qc,Qd,forall_const,↓reduceIte,↓reduceDIte,↓Qe,Qf,Qg,Qh,Qi,Qj,Qk,Ql,Qm,Qn,Qo,Qp,Qq,Qr,Qs,implies_true,Qt,Qu,Qv,Qw,Qx,Qy,Qz,QA,QB,QC,QD,QE,QF,QG,QH,QI,QJ,QK,QL,QM,QN,QO,QP,QQ]
  first | (exact ⟨[some 0],rfl,by simp,by simp [HWeak,BWeak,SWeak,AWeak],.inl (by simp [AWeak,SWeak])⟩) | (refine ⟨by rfl,?_⟩;exact ⟨[some 0],rfl,by simp,by simp [HWeak,BWeak,SWeak,AWeak],.inl (by simp [AWeak,SWeak])⟩) | (refine ⟨by rfl,by rfl,?_⟩;exact ⟨[some 0],rfl,by simp,by simp [HWeak,BWeak,SWeak,AWeak],.inl (by simp [AWeak,SWeak])⟩) | (refine ⟨by rfl,by rfl,by rfl,?_⟩;exact ⟨[some 0],rfl,by simp,by simp [HWeak,BWeak,SWeak,AWeak],.inl (by simp [AWeak,SWeak])⟩)
set_option maxHeartbeats 4000000 in
set_option maxRecDepth 100000 in
theorem fb5_spec (n:Nat) (h1:10000≤n) (h:n<100000):Ctr Tryz.prog G 141 [.lsl 0 1 1 5,.d (.int .u64 n)] [.row false (ints .u8 (List.replicate 24 0))] .undef
  [.row false (ints .u8 ([0,((48+n / 10000:Nat):Int),((48+n % 10000 / 100 / 10:Nat):Int),((48+n % 10000 / 100 % 10:Nat):Int),((48+n % 10000 % 100 / 10:Nat):Int),((48+n % 10000 % 100 % 10:Nat):Int)]++List.replicate 18 0))]:=by
 refine Ctr.body (M:=M0) hmix Tryz.func141 rfl go141 ?_
 simp (config:={maxSteps:=1000000}) (disch:=((try simp only [awL]);omega)) only [QR,QS,QT,QU,QV,QW,QX,QY,QZ,Q0,Q1,Q2,Tryz.f141,↓awU,awV,awF,Qa,Qb,Qc,Qd,forall_const,↓reduceIte,↓reduceDIte,↓Qe,Qf,Qg,Qh,Qi,Qj,Qk,Ql,Qm,Qn,Qo,Qp,Qq,Qr,Qs,implies_true,Qt,Qu,Qv,Qw,Qx,Qy,Qz,QA,QB,QC,QD,QE,QF,QG,QH,QI,QJ,QK,QL,QM,QN,QO,QP,QQ]
 refine LoopC.fx 1 (α:=Unit) (β:=Unit) (fun _=>0) (fun _=>[(1,.d (.int .u64 n)),(4,.d (.int .i64 5))]) (fun _=>[.row false (ints .u8 (List.replicate 24 0))]) (fun _=>True) 1 (fun _=>[(1,.d (.int .u64 n)),(4,.d (.int .i64 5))]) (fun _=>[.row false (ints .u8 (List.replicate 24 0))]) (fun _=>True) () trivial ?_ ?_ ?_
 ·exact ⟨[some 0],rfl,by simp,by simp [setsA,keepA,SWeak,AWeak],by simp [HWeak,BWeak,SWeak,AWeak]⟩
 ·rintro ⟨⟩ -
  simp only [awK,Nat.reduceMod,Nat.reduceDiv,reduceIte]
  simp (config:={maxSteps:=1000000}) (disch:=((try simp only [awL]);omega)) only [QR,QS,QT,QU,QV,QW,QX,QY,QZ,Q0,Q1,Q2,↓awU,awV,awF,Qa,Qb,Qc,Qd,forall_const,↓reduceIte,↓reduceDIte,↓Qe,Qf,Qg,Qh,Qi,Qj,Qk,Ql,Qm,Qn,Qo,Qp,Qq,Qr,Qs,implies_true,Qt,Qu,Qv,Qw,Qx,Qy,Qz,QA,QB,QC,QD,QE,QF,QG,QH,QI,QJ,QK,QL,QM,QN,QO,QP,QQ]
  exact ⟨(),trivial,⟨[some 0],rfl,by simp,by simp [setsA,keepA,SWeak,AWeak],by simp [HWeak,BWeak,SWeak,AWeak]⟩⟩
 ·rintro ⟨⟩ -
  simp only [awK,Nat.reduceMod,Nat.reduceDiv,reduceIte]
  simp (config:={maxSteps:=1000000}) (disch:=((try simp only [awL]);omega)) only [QR,QS,QT,QU,QV,QW,QX,QY,QZ,Q0,Q1,Q2,smalls_eq,smallsL_len,td100,tm100,td10000,tm10000,tn2,tn3,smA,smB,↓awU,awV,awF,Qa,Qb,Qc,Qd,forall_const,↓reduceIte,↓reduceDIte,↓Qe,Qf,Qg,Qh,Qi,Qj,Qk,Ql,Qm,Qn,Qo,Qp,Qq,Qr,Qs,implies_true,Qt,Qu,Qv,Qw,Qx,Qy,Qz,QA,QB,QC,QD,QE,QF,QG,QH,QI,QJ,QK,QL,QM,QN,QO,QP,QQ]
  first | (exact ⟨[some 0],rfl,by simp,by simp [HWeak,BWeak,SWeak,AWeak],.inl (by simp [AWeak,SWeak])⟩) | (refine ⟨by rfl,?_⟩;exact ⟨[some 0],rfl,by simp,by simp [HWeak,BWeak,SWeak,AWeak],.inl (by simp [AWeak,SWeak])⟩) | (refine ⟨by rfl,by rfl,?_⟩;exact ⟨[some 0],rfl,by simp,by simp [HWeak,BWeak,SWeak,AWeak],.inl (by simp [AWeak,SWeak])⟩) | (refine ⟨by rfl,by rfl,by rfl,?_⟩;exact ⟨[some 0],rfl,by simp,by simp [HWeak,BWeak,SWeak,AWeak],.inl (by simp [AWeak,SWeak])⟩)
set_option maxHeartbeats 4000000 in
set_option maxRecDepth 100000 in
theorem fb6_spec (n:Nat) (h1:100000≤n) (h:n<1000000):Ctr Tryz.prog G 141 [.lsl 0 1 1 6,.d (.int .u64 n)] [.row false (ints .u8 (List.replicate 24 0))] .undef
  [.row false (ints .u8 ([0,((48+n / 10000 % 100 / 10:Nat):Int),((48+n / 10000 % 100 % 10:Nat):Int),((48+n % 10000 / 100 / 10:Nat):Int),((48+n % 10000 / 100 % 10:Nat):Int),((48+n % 10000 % 100 / 10:Nat):Int),((48+n % 10000 % 100 % 10:Nat):Int)]++List.replicate 17 0))]:=by
 refine Ctr.body (M:=M0) hmix Tryz.func141 rfl go141 ?_
 simp (config:={maxSteps:=1000000}) (disch:=((try simp only [awL]);omega)) only [QR,QS,QT,QU,QV,QW,QX,QY,QZ,Q0,Q1,Q2,Tryz.f141,↓awU,awV,awF,Qa,Qb,Qc,Qd,forall_const,↓reduceIte,↓reduceDIte,↓Qe,Qf,Qg,Qh,Qi,Qj,Qk,Ql,Qm,Qn,Qo,Qp,Qq,Qr,Qs,implies_true,Qt,Qu,Qv,Qw,Qx,Qy,Qz,QA,QB,QC,QD,QE,QF,QG,QH,QI,QJ,QK,QL,QM,QN,QO,QP,QQ]
 refine LoopC.fx 1 (α:=Unit) (β:=Unit) (fun _=>0) (fun _=>[(1,.d (.int .u64 n)),(4,.d (.int .i64 6))]) (fun _=>[.row false (ints .u8 (List.replicate 24 0))]) (fun _=>True) 1 (fun _=>[(1,.d (.int .u64 n)),(4,.d (.int .i64 6))]) (fun _=>[.row false (ints .u8 (List.replicate 24 0))]) (fun _=>True) () trivial ?_ ?_ ?_
 ·exact ⟨[some 0],rfl,by simp,by simp [setsA,keepA,SWeak,AWeak],by simp [HWeak,BWeak,SWeak,AWeak]⟩
 ·rintro ⟨⟩ -
  simp only [awK,Nat.reduceMod,Nat.reduceDiv,reduceIte]
  simp (config:={maxSteps:=1000000}) (disch:=((try simp only [awL]);omega)) only [QR,QS,QT,QU,QV,QW,QX,QY,QZ,Q0,Q1,Q2,↓awU,awV,awF,Qa,Qb,Qc,Qd,forall_const,↓reduceIte,↓reduceDIte,↓Qe,Qf,Qg,Qh,Qi,Qj,Qk,Ql,Qm,Qn,Qo,Qp,Qq,Qr,Qs,implies_true,Qt,Qu,Qv,Qw,Qx,Qy,Qz,QA,QB,QC,QD,QE,QF,QG,QH,QI,QJ,QK,QL,QM,QN,QO,QP,QQ]
  exact ⟨(),trivial,⟨[some 0],rfl,by simp,by simp [setsA,keepA,SWeak,AWeak],by simp [HWeak,BWeak,SWeak,AWeak]⟩⟩
 ·rintro ⟨⟩ -
  simp only [awK,Nat.reduceMod,Nat.reduceDiv,reduceIte]
  simp (config:={maxSteps:=1000000}) (disch:=((try simp only [awL]);omega)) only [QR,QS,QT,QU,QV,QW,QX,QY,QZ,Q0,Q1,Q2,smalls_eq,smallsL_len,td100,tm100,td10000,tm10000,tn2,tn3,smA,smB,↓awU,awV,awF,Qa,Qb,Qc,Qd,forall_const,↓reduceIte,↓reduceDIte,↓Qe,Qf,Qg,Qh,Qi,Qj,Qk,Ql,Qm,Qn,Qo,Qp,Qq,Qr,Qs,implies_true,Qt,Qu,Qv,Qw,Qx,Qy,Qz,QA,QB,QC,QD,QE,QF,QG,QH,QI,QJ,QK,QL,QM,QN,QO,QP,QQ]
  first | (exact ⟨[some 0],rfl,by simp,by simp [HWeak,BWeak,SWeak,AWeak],.inl (by simp [AWeak,SWeak])⟩) | (refine ⟨by rfl,?_⟩;exact ⟨[some 0],rfl,by simp,by simp [HWeak,BWeak,SWeak,AWeak],.inl (by simp [AWeak,SWeak])⟩) | (refine ⟨by rfl,by rfl,?_⟩;exact ⟨[some 0],rfl,by simp,by simp [HWeak,BWeak,SWeak,AWeak],.inl (by simp [AWeak,SWeak])⟩) | (refine ⟨by rfl,by rfl,by rfl,?_⟩;exact ⟨[some 0],rfl,by simp,by simp [HWeak,BWeak,SWeak,AWeak],.inl (by simp [AWeak,SWeak])⟩)
set_option maxHeartbeats 4000000 in
set_option maxRecDepth 100000 in
theorem fb7_spec (n:Nat) (h1:1000000≤n) (h:n<10000000):Ctr Tryz.prog G 141 [.lsl 0 1 1 7,.d (.int .u64 n)] [.row false (ints .u8 (List.replicate 24 0))] .undef
  [.row false (ints .u8 ([0,((48+n / 10000 / 100:Nat):Int),((48+n / 10000 % 100 / 10:Nat):Int),((48+n / 10000 % 100 % 10:Nat):Int),((48+n % 10000 / 100 / 10:Nat):Int),((48+n % 10000 / 100 % 10:Nat):Int),((48+n % 10000 % 100 / 10:Nat):Int),((48+n % 10000 % 100 % 10:Nat):Int)]++List.replicate 16 0))]:=by
 refine Ctr.body (M:=M0) hmix Tryz.func141 rfl go141 ?_
 simp (config:={maxSteps:=1000000}) (disch:=((try simp only [awL]);omega)) only [QR,QS,QT,QU,QV,QW,QX,QY,QZ,Q0,Q1,Q2,Tryz.f141,↓awU,awV,awF,Qa,Qb,Qc,Qd,forall_const,↓reduceIte,↓reduceDIte,↓Qe,Qf,Qg,Qh,Qi,Qj,Qk,Ql,Qm,Qn,Qo,Qp,Qq,Qr,Qs,implies_true,Qt,Qu,Qv,Qw,Qx,Qy,Qz,QA,QB,QC,QD,QE,QF,QG,QH,QI,QJ,QK,QL,QM,QN,QO,QP,QQ]
 refine LoopC.fx 1 (α:=Unit) (β:=Unit) (fun _=>0) (fun _=>[(1,.d (.int .u64 n)),(4,.d (.int .i64 7))]) (fun _=>[.row false (ints .u8 (List.replicate 24 0))]) (fun _=>True) 1 (fun _=>[(1,.d (.int .u64 n)),(4,.d (.int .i64 7))]) (fun _=>[.row false (ints .u8 (List.replicate 24 0))]) (fun _=>True) () trivial ?_ ?_ ?_
 ·exact ⟨[some 0],rfl,by simp,by simp [setsA,keepA,SWeak,AWeak],by simp [HWeak,BWeak,SWeak,AWeak]⟩
 ·rintro ⟨⟩ -
  simp only [awK,Nat.reduceMod,Nat.reduceDiv,reduceIte]
  simp (config:={maxSteps:=1000000}) (disch:=((try simp only [awL]);omega)) only [QR,QS,QT,QU,QV,QW,QX,QY,QZ,Q0,Q1,Q2,↓awU,awV,awF,Qa,Qb,Qc,Qd,forall_const,↓reduceIte,↓reduceDIte,↓Qe,Qf,Qg,Qh,Qi,Qj,Qk,Ql,Qm,Qn,Qo,Qp,Qq,Qr,Qs,implies_true,Qt,Qu,Qv,Qw,Qx,Qy,Qz,QA,QB,QC,QD,QE,QF,QG,QH,QI,QJ,QK,QL,QM,QN,QO,QP,QQ]
  exact ⟨(),trivial,⟨[some 0],rfl,by simp,by simp [setsA,keepA,SWeak,AWeak],by simp [HWeak,BWeak,SWeak,AWeak]⟩⟩
 ·rintro ⟨⟩ -
  simp only [awK,Nat.reduceMod,Nat.reduceDiv,reduceIte]
  simp (config:={maxSteps:=1000000}) (disch:=((try simp only [awL]);omega)) only [QR,QS,QT,QU,QV,QW,QX,QY,QZ,Q0,Q1,Q2,smalls_eq,smallsL_len,td100,tm100,td10000,tm10000,tn2,tn3,smA,smB,↓awU,awV,awF,Qa,Qb,Qc,Qd,forall_const,↓reduceIte,↓reduceDIte,↓Qe,Qf,Qg,Qh,Qi,Qj,Qk,Ql,Qm,Qn,Qo,Qp,Qq,Qr,Qs,implies_true,Qt,Qu,Qv,Qw,Qx,Qy,Qz,QA,QB,QC,QD,QE,QF,QG,QH,QI,QJ,QK,QL,QM,QN,QO,QP,QQ]
  first | (exact ⟨[some 0],rfl,by simp,by simp [HWeak,BWeak,SWeak,AWeak],.inl (by simp [AWeak,SWeak])⟩) | (refine ⟨by rfl,?_⟩;exact ⟨[some 0],rfl,by simp,by simp [HWeak,BWeak,SWeak,AWeak],.inl (by simp [AWeak,SWeak])⟩) | (refine ⟨by rfl,by rfl,?_⟩;exact ⟨[some 0],rfl,by simp,by simp [HWeak,BWeak,SWeak,AWeak],.inl (by simp [AWeak,SWeak])⟩) | (refine ⟨by rfl,by rfl,by rfl,?_⟩;exact ⟨[some 0],rfl,by simp,by simp [HWeak,BWeak,SWeak,AWeak],.inl (by simp [AWeak,SWeak])⟩)
def HP (G:Globals):Prop:=G 5=some (ints .u64 Lib.pow10Tab)
def Tryz.laysLen64_ren:Go.Shelf.Ren:=⟨fun | 129=>155 | n=>n,fun | 53=>110 | 3=>3 | 4=>4 | 46=>127 | 5=>5 | 9=>9 | n=>n,fun | n=>n⟩
theorem Tryz.laysLen64:Go.Proofs.Lays.n129 Tryz.prog Tryz.laysLen64_ren where
 mixed:=by kernel_rfl
 f129:=Tryz.func155.trans (congrArg some (by kernel_rfl))
 t3:=Tryz.underlying3
 a3:=Tryz.isAgg3
 z3:=Tryz.sizeOf3
 v3:=Tryz.zeroValue3
 t4:=Tryz.underlying4
 a4:=Tryz.isAgg4
 z4:=Tryz.sizeOf4
 v4:=Tryz.zeroValue4
 t5:=Tryz.underlying5
 a5:=Tryz.isAgg5
 z5:=Tryz.sizeOf5
 v5:=Tryz.zeroValue5
 t9:=Tryz.underlying9
 a9:=Tryz.isAgg9
 z9:=Tryz.sizeOf9
 v9:=Tryz.zeroValue9
 t46:=Tryz.underlying127
 a46:=Tryz.isAgg127
 z46:=Tryz.sizeOf127
 v46:=Tryz.zeroValue127
 t53:=Tryz.underlying110
 a53:=Tryz.isAgg110
 z53:=Tryz.sizeOf110
 v53:=Tryz.zeroValue110
theorem len64_spec (n:Nat) (h:n<18446744073709551616):Ctr Tryz.prog G 155 [.d (.int .u64 n)] [] (.d (.int .i64 (Lib.bitLen n))) []:=by
 refine Ctr.of_calls go155 fun h ρ w vs q r=>?_
 obtain ⟨v,rfl,hv⟩:=r.inv1
 rw [hv.int_inv]
 refine (Any.bits_Len64 Tryz.laysLen64 n w (by omega) (by omega)).mono ?_
 rintro e w' ⟨rfl,rfl⟩
 exact ⟨_,rfl,.int _ _,.refl _ _⟩
theorem log10_spec (x:Nat) (h:x≤64):Ctr Tryz.prog G 162 [.d (.int .i64 x)] [] (.d (.int .i64 (Lib.l10 x))) []:=by
 refine Ctr.pure (M:=M0) hmix Tryz.func162 rfl go162 ?_
 simp (config:={maxSteps:=1000000}) (disch:=((try simp only [awL]);omega)) only [QR,QS,QT,QU,QV,QW,QX,QY,QZ,Q0,Q1,Q2,Tryz.f162,↓awU,awV,awF,Qa,Qb,Qc,Qd,forall_const,↓reduceIte,↓reduceDIte,↓Qe,Qf,Qg,Qh,Qi,Qj,Qk,Ql,Qm,Qn,Qo,Qp,Qq,Qr,Qs,implies_true,Qt,Qu,Qv,Qw,Qx,Qy,Qz,QA,QB,QC,QD,QE,QF,QG,QH,QI,QJ,QK,QL,QM,QN,QO,QP,QQ]
 unfold Lib.l10;omega
theorem bool2_spec (b:Bool):Ctr Tryz.prog G 163 [.d (.bool b)] [] (.d (.int .i64 (if b=true then 1 else 0))) []:=by
 refine Ctr.pure (M:=M0) hmix Tryz.func163 rfl go163 ?_
 cases b
 ·simp (config:={maxSteps:=1000000}) (disch:=((try simp only [awL]);omega)) only [QR,QS,QT,QU,QV,QW,QX,QY,QZ,Q0,Q1,Q2,Tryz.f163,↓awU,awV,awF,Qa,Qb,Qc,Qd,forall_const,↓reduceIte,↓reduceDIte,↓Qe,Qf,Qg,Qh,Qi,Qj,Qk,Ql,Qm,Qn,Qo,Qp,Qq,Qr,Qs,implies_true,Qt,Qu,Qv,Qw,Qx,Qy,Qz,QA,QB,QC,QD,QE,QF,QG,QH,QI,QJ,QK,QL,QM,QN,QO,QP,QQ]
  try rfl
 ·simp (config:={maxSteps:=1000000}) (disch:=((try simp only [awL]);omega)) only [QR,QS,QT,QU,QV,QW,QX,QY,QZ,Q0,Q1,Q2,Tryz.f163,↓awU,awV,awF,Qa,Qb,Qc,Qd,forall_const,↓reduceIte,↓reduceDIte,↓Qe,Qf,Qg,Qh,Qi,Qj,Qk,Ql,Qm,Qn,Qo,Qp,Qq,Qr,Qs,implies_true,Qt,Qu,Qv,Qw,Qx,Qy,Qz,QA,QB,QC,QD,QE,QF,QG,QH,QI,QJ,QK,QL,QM,QN,QO,QP,QQ]
  try rfl
theorem bitLen_10 {n:Nat} (h2:n<10000000):Lib.bitLen n≤24:=Lib.bitLen_le n 24 (by decide) (by omega)
set_option maxHeartbeats 4000000 in
set_option maxRecDepth 100000 in
theorem numDigits_spec (hP:HP G) (n:Nat) (h1:1≤n) (h2:n<10000000):Ctr Tryz.prog G 140 [.d (.int .u64 n)] [] (.d (.int .i64 (Lib.nDigits n))) []:=by
 refine Ctr.pure (M:=M0) hmix Tryz.func140 rfl go140 ?_
 have hP':G 5=some (ints .u64 Lib.pow10Tab):=hP
 obtain ⟨e1,e2⟩:=Lib.numDigits_eq n h1 (by omega)
 have hb:=bitLen_10 h2
 have g0:=ints_getD (k:=.u64) (d:=.nilp) (l:=Lib.pow10Tab) (i:=Lib.l10 (Lib.bitLen n)) (by rw [Lib.pow10Tab_length];omega)
 rw [Lib.pow10Tab_at _ (by omega)] at g0
 have pl:=@ints_length .u64 Lib.pow10Tab
 rw [Lib.pow10Tab_length] at pl
 simp (config:={maxSteps:=1000000}) (disch:=((try simp only [awL]);omega)) only [QR,QS,QT,QU,QV,QW,QX,QY,QZ,Q0,Q1,Q2,Tryz.f140,↓awU,awV,awF,Qa,Qb,Qc,Qd,forall_const,↓reduceIte,↓reduceDIte,↓Qe,Qf,Qg,Qh,Qi,Qj,Qk,Ql,Qm,Qn,Qo,Qp,Qq,Qr,Qs,implies_true,Qt,Qu,Qv,Qw,Qx,Qy,Qz,QA,QB,QC,QD,QE,QF,QG,QH,QI,QJ,QK,QL,QM,QN,QO,QP,QQ]
 refine CallC.pure (len64_spec n (by omega)) ?_
 simp (config:={maxSteps:=1000000}) (disch:=((try simp only [awL]);omega)) only [QR,QS,QT,QU,QV,QW,QX,QY,QZ,Q0,Q1,Q2,↓awU,awV,awF,Qa,Qb,Qc,Qd,forall_const,↓reduceIte,↓reduceDIte,↓Qe,Qf,Qg,Qh,Qi,Qj,Qk,Ql,Qm,Qn,Qo,Qp,Qq,Qr,Qs,implies_true,Qt,Qu,Qv,Qw,Qx,Qy,Qz,QA,QB,QC,QD,QE,QF,QG,QH,QI,QJ,QK,QL,QM,QN,QO,QP,QQ]
 refine CallC.pure (log10_spec (Lib.bitLen n) (by omega)) ?_
 generalize Lib.l10 (Lib.bitLen n)=q at *
 generalize (10:Nat) ^ q=t at *
 simp (config:={maxSteps:=1000000}) (disch:=((try simp only [awL]);omega)) only [QR,QS,QT,QU,QV,QW,QX,QY,QZ,Q0,Q1,Q2,hP',pl,g0,↓awU,awV,awF,Qa,Qb,Qc,Qd,forall_const,↓reduceIte,↓reduceDIte,↓Qe,Qf,Qg,Qh,Qi,Qj,Qk,Ql,Qm,Qn,Qo,Qp,Qq,Qr,Qs,implies_true,Qt,Qu,Qv,Qw,Qx,Qy,Qz,QA,QB,QC,QD,QE,QF,QG,QH,QI,QJ,QK,QL,QM,QN,QO,QP,QQ]
 refine CallC.pure (bool2_spec _) ?_
 rw [← e1]
 by_cases ht:t≤n
 ·rw [show decide ((t:Int)≤(n:Int))=true from decide_eq_true (by omega),if_pos rfl,if_pos ht]
  simp (config:={maxSteps:=1000000}) (disch:=((try simp only [awL]);omega)) only [QR,QS,QT,QU,QV,QW,QX,QY,QZ,Q0,Q1,Q2,↓awU,awV,awF,Qa,Qb,Qc,Qd,forall_const,↓reduceIte,↓reduceDIte,↓Qe,Qf,Qg,Qh,Qi,Qj,Qk,Ql,Qm,Qn,Qo,Qp,Qq,Qr,Qs,implies_true,Qt,Qu,Qv,Qw,Qx,Qy,Qz,QA,QB,QC,QD,QE,QF,QG,QH,QI,QJ,QK,QL,QM,QN,QO,QP,QQ]
  try rfl
 ·rw [show decide ((t:Int)≤(n:Int))=false from decide_eq_false (by omega),if_neg ht,if_neg (show ¬ (false=true) by decide)]
  simp (config:={maxSteps:=1000000}) (disch:=((try simp only [awL]);omega)) only [QR,QS,QT,QU,QV,QW,QX,QY,QZ,Q0,Q1,Q2,↓awU,awV,awF,Qa,Qb,Qc,Qd,forall_const,↓reduceIte,↓reduceDIte,↓Qe,Qf,Qg,Qh,Qi,Qj,Qk,Ql,Qm,Qn,Qo,Qp,Qq,Qr,Qs,implies_true,Qt,Qu,Qv,Qw,Qx,Qy,Qz,QA,QB,QC,QD,QE,QF,QG,QH,QI,QJ,QK,QL,QM,QN,QO,QP,QQ]
  try rfl
def MI:Muts:=fun k=>k == 141
theorem MI_t:MI 141=true:=rfl
theorem MI_n {k:Nat} (h:k≠141):MI k=false:=by simpa only [MI,beq_eq_false_iff_ne] using h
theorem nd_of {n k m:Nat} (h1:10 ^ k≤n) (h2:n<10 ^ (k+1)) (e:m=k+1):((Lib.nDigits n:Nat):Int)=m:=by rw [Lib.nDigits_unique k n h1 h2,e]
theorem num8 {k:Nat} (h:k<10):((UInt8.ofNat (48+k)).toNat:Int)=((48+k:Nat):Int):=by simp;omega
theorem cut_row (l z:List UInt8):cut (ints .u8 ([0]++(nums l++nums z))) 1 l.length=ints .u8 (nums l):=by
 simp only [cut,ints,nums,List.map_append,List.map_cons,List.map_nil,List.map_map,List.singleton_append,List.drop_succ_cons,List.drop_zero]
 rw [List.take_append_of_le_length (by simp),List.take_of_length_le (by simp)]
theorem row3 {n:Nat} (h1:100≤n) (h:n<1000):ints .u8 ([0,((48+n / 100:Nat):Int),((48+n % 100 / 10:Nat):Int),((48+n % 100 % 10:Nat):Int)]++List.replicate 20 0)=ints .u8 ([0]++(nums (Lib.decDigits n)++nums (List.replicate 20 0))):=by
 rw [dd3 h1 h,prD];simp only [nums,List.map_append,List.map_cons,List.map_nil];rw [num8 (by omega),num8 (by omega),num8 (by omega)];rfl
theorem row4 {n:Nat} (h1:1000≤n) (h:n<10000):ints .u8 ([0,((48+n % 10000 / 100 / 10:Nat):Int),((48+n % 10000 / 100 % 10:Nat):Int),((48+n % 10000 % 100 / 10:Nat):Int),((48+n % 10000 % 100 % 10:Nat):Int)]++List.replicate 19 0)=ints .u8 ([0]++(nums (Lib.decDigits n)++nums (List.replicate 19 0))):=by
 rw [dd4 h1 h,Nat.mod_eq_of_lt h,prD,prD];simp only [nums,List.map_append,List.map_cons,List.map_nil];rw [num8 (by omega),num8 (by omega),num8 (by omega),num8 (by omega)];rfl
theorem row5 {n:Nat} (h1:10000≤n) (h:n<100000):ints .u8 ([0,((48+n / 10000:Nat):Int),((48+n % 10000 / 100 / 10:Nat):Int),((48+n % 10000 / 100 % 10:Nat):Int),((48+n % 10000 % 100 / 10:Nat):Int),((48+n % 10000 % 100 % 10:Nat):Int)]++List.replicate 18 0)=ints .u8 ([0]++(nums (Lib.decDigits n)++nums (List.replicate 18 0))):=by
 rw [dd5 h1 h,prD,prD];simp only [nums,List.map_append,List.map_cons,List.map_nil];rw [num8 (by omega),num8 (by omega),num8 (by omega),num8 (by omega),num8 (by omega)];rfl
theorem row6 {n:Nat} (h1:100000≤n) (h:n<1000000):ints .u8 ([0,((48+n / 10000 % 100 / 10:Nat):Int),((48+n / 10000 % 100 % 10:Nat):Int),((48+n % 10000 / 100 / 10:Nat):Int),((48+n % 10000 / 100 % 10:Nat):Int),((48+n % 10000 % 100 / 10:Nat):Int),((48+n % 10000 % 100 % 10:Nat):Int)]++List.replicate 17 0)=ints .u8 ([0]++(nums (Lib.decDigits n)++nums (List.replicate 17 0))):=by
 rw [dd6 h1 h,Nat.mod_eq_of_lt (show n / 10000<100 by omega),prD,prD,prD];simp only [nums,List.map_append,List.map_cons,List.map_nil];rw [num8 (by omega),num8 (by omega),num8 (by omega),num8 (by omega),num8 (by omega),num8 (by omega)];rfl
theorem row7 {n:Nat} (h1:1000000≤n) (h:n<10000000):ints .u8 ([0,((48+n / 10000 / 100:Nat):Int),((48+n / 10000 % 100 / 10:Nat):Int),((48+n / 10000 % 100 % 10:Nat):Int),((48+n % 10000 / 100 / 10:Nat):Int),((48+n % 10000 / 100 % 10:Nat):Int),((48+n % 10000 % 100 / 10:Nat):Int),((48+n % 10000 % 100 % 10:Nat):Int)]++List.replicate 16 0)=ints .u8 ([0]++(nums (Lib.decDigits n)++nums (List.replicate 16 0))):=by
 rw [dd7 h1 h,prD,prD,prD];simp only [nums,List.map_append,List.map_cons,List.map_nil];rw [num8 (by omega),num8 (by omega),num8 (by omega),num8 (by omega),num8 (by omega),num8 (by omega),num8 (by omega)];rfl
set_option maxHeartbeats 4000000 in
set_option maxRecDepth 100000 in
theorem formatIntN_spec (hP:HP G) (n:Nat) (h1:100≤n) (h2:n<10000000):Ctr Tryz.prog G 118 [.d (.int .i64 n),.d (.int .i64 10)] [] (.d (S (Lib.decDigits n))) []:=by
 refine Ctr.pure (M:=MI) hmix Tryz.func118 rfl go118 ?_
 simp (config:={maxSteps:=1000000}) (disch:=((try simp only [awL]);omega)) only [QR,QS,QT,QU,QV,QW,QX,QY,QZ,Q0,Q1,Q2,MI_t,MI_n,Tryz.f118,↓awU,awV,awF,Qa,Qb,Qc,Qd,forall_const,↓reduceIte,↓reduceDIte,↓Qe,Qf,Qg,Qh,Qi,Qj,Qk,Ql,Qm,Qn,Qo,Qp,Qq,Qr,Qs,implies_true,Qt,Qu,Qv,Qw,Qx,Qy,Qz,QA,QB,QC,QD,QE,QF,QG,QH,QI,QJ,QK,QL,QM,QN,QO,QP,QQ]
 refine CallC.pure (numDigits_spec hP n (by omega) h2) ?_
 have dl:=Lib.decDigits_length n
 rcases (by omega:n<1000∨(1000≤n∧n<10000)∨(10000≤n∧n<100000)∨(100000≤n∧n<1000000)∨1000000≤n) with h | ⟨h3,h4⟩ | ⟨h3,h4⟩ | ⟨h3,h4⟩ | h
 ·have en:((Lib.nDigits n:Nat):Int)=3:=nd_of (k:=2) (by omega) (by omega) rfl
  have dl2:(Lib.decDigits n).length=3:=by omega
  have sp:=fb3_spec (G:=G) n h1 h
  rw [row3 h1 h] at sp
  rw [en]
  simp (config:={maxSteps:=1000000}) (disch:=((try simp only [awL]);omega)) only [QR,QS,QT,QU,QV,QW,QX,QY,QZ,Q0,Q1,Q2,MI_t,MI_n,↓awU,awV,awF,Qa,Qb,Qc,Qd,forall_const,↓reduceIte,↓reduceDIte,↓Qe,Qf,Qg,Qh,Qi,Qj,Qk,Ql,Qm,Qn,Qo,Qp,Qq,Qr,Qs,implies_true,Qt,Qu,Qv,Qw,Qx,Qy,Qz,QA,QB,QC,QD,QE,QF,QG,QH,QI,QJ,QK,QL,QM,QN,QO,QP,QQ]
  generalize Lib.decDigits n=dg at *
  refine CallC.by sp (by rfl) (by rfl) (by simp) ?_
  have cr:=cut_row dg (List.replicate 20 0)
  rw [dl2] at cr
  have rl:(ints .u8 ([0]++(nums dg++nums (List.replicate 20 0)))).length=24:=by rw [ints_length];simp only [List.length_append,nums_length,List.length_replicate,dl2,List.length_cons,List.length_nil]
  generalize ints .u8 ([0]++(nums dg++nums (List.replicate 20 0)))=rw at *
  simp (config:={maxSteps:=1000000}) (disch:=((try simp only [awL]);omega)) only [QR,QS,QT,QU,QV,QW,QX,QY,QZ,Q0,Q1,Q2,MI_t,MI_n,rl,cr,numsOf_ints,strOfNums_nums,↓awU,awV,awF,Qa,Qb,Qc,Qd,forall_const,↓reduceIte,↓reduceDIte,↓Qe,Qf,Qg,Qh,Qi,Qj,Qk,Ql,Qm,Qn,Qo,Qp,Qq,Qr,Qs,implies_true,Qt,Qu,Qv,Qw,Qx,Qy,Qz,QA,QB,QC,QD,QE,QF,QG,QH,QI,QJ,QK,QL,QM,QN,QO,QP,QQ]
  try rfl
 ·have en:((Lib.nDigits n:Nat):Int)=4:=nd_of (k:=3) (by omega) (by omega) rfl
  have dl2:(Lib.decDigits n).length=4:=by omega
  have sp:=fb4_spec (G:=G) n h3 h4
  rw [row4 h3 h4] at sp
  rw [en]
  simp (config:={maxSteps:=1000000}) (disch:=((try simp only [awL]);omega)) only [QR,QS,QT,QU,QV,QW,QX,QY,QZ,Q0,Q1,Q2,MI_t,MI_n,↓awU,awV,awF,Qa,Qb,Qc,Qd,forall_const,↓reduceIte,↓reduceDIte,↓Qe,Qf,Qg,Qh,Qi,Qj,Qk,Ql,Qm,Qn,Qo,Qp,Qq,Qr,Qs,implies_true,Qt,Qu,Qv,Qw,Qx,Qy,Qz,QA,QB,QC,QD,QE,QF,QG,QH,QI,QJ,QK,QL,QM,QN,QO,QP,QQ]
  generalize Lib.decDigits n=dg at *
  refine CallC.by sp (by rfl) (by rfl) (by simp) ?_
  have cr:=cut_row dg (List.replicate 19 0)
  rw [dl2] at cr
  have rl:(ints .u8 ([0]++(nums dg++nums (List.replicate 19 0)))).length=24:=by rw [ints_length];simp only [List.length_append,nums_length,List.length_replicate,dl2,List.length_cons,List.length_nil]
  generalize ints .u8 ([0]++(nums dg++nums (List.replicate 19 0)))=rw at *
  simp (config:={maxSteps:=1000000}) (disch:=((try simp only [awL]);omega)) only [QR,QS,QT,QU,QV,QW,QX,QY,QZ,Q0,Q1,Q2,MI_t,MI_n,rl,cr,numsOf_ints,strOfNums_nums,↓awU,awV,awF,Qa,Qb,Qc,Qd,forall_const,↓reduceIte,↓reduceDIte,↓Qe,Qf,Qg,Qh,Qi,Qj,Qk,Ql,Qm,Qn,Qo,Qp,Qq,Qr,Qs,implies_true,Qt,Qu,Qv,Qw,Qx,Qy,Qz,QA,QB,QC,QD,QE,QF,QG,QH,QI,QJ,QK,QL,QM,QN,QO,QP,QQ]
  try rfl
 ·have en:((Lib.nDigits n:Nat):Int)=5:=nd_of (k:=4) (by omega) (by omega) rfl
  have dl2:(Lib.decDigits n).length=5:=by omega
  have sp:=fb5_spec (G:=G) n h3 h4
  rw [row5 h3 h4] at sp
  rw [en]
  simp (config:={maxSteps:=1000000}) (disch:=((try simp only [awL]);omega)) only [QR,QS,QT,QU,QV,QW,QX,QY,QZ,Q0,Q1,Q2,MI_t,MI_n,↓awU,awV,awF,Qa,Qb,Qc,Qd,forall_const,↓reduceIte,↓reduceDIte,↓Qe,Qf,Qg,Qh,Qi,Qj,Qk,Ql,Qm,Qn,Qo,Qp,Qq,Qr,Qs,implies_true,Qt,Qu,Qv,Qw,Qx,Qy,Qz,QA,QB,QC,QD,QE,QF,QG,QH,QI,QJ,QK,QL,QM,QN,QO,QP,QQ]
  generalize Lib.decDigits n=dg at *
  refine CallC.by sp (by rfl) (by rfl) (by simp) ?_
  have cr:=cut_row dg (List.replicate 18 0)
  rw [dl2] at cr
  have rl:(ints .u8 ([0]++(nums dg++nums (List.replicate 18 0)))).length=24:=by rw [ints_length];simp only [List.length_append,nums_length,List.length_replicate,dl2,List.length_cons,List.length_nil]
  generalize ints .u8 ([0]++(nums dg++nums (List.replicate 18 0)))=rw at *
  simp (config:={maxSteps:=1000000}) (disch:=((try simp only [awL]);omega)) only [QR,QS,QT,QU,QV,QW,QX,QY,QZ,Q0,Q1,Q2,MI_t,MI_n,rl,cr,numsOf_ints,strOfNums_nums,↓awU,awV,awF,Qa,Qb,Qc,Qd,forall_const,↓reduceIte,↓reduceDIte,↓Qe,Qf,Qg,Qh,Qi,Qj,Qk,Ql,Qm,Qn,Qo,Qp,Qq,Qr,Qs,implies_true,Qt,Qu,Qv,Qw,Qx,Qy,Qz,QA,QB,QC,QD,QE,QF,QG,QH,QI,QJ,QK,QL,QM,QN,QO,QP,QQ]
  try rfl
 ·have en:((Lib.nDigits n:Nat):Int)=6:=nd_of (k:=5) (by omega) (by omega) rfl
  have dl2:(Lib.decDigits n).length=6:=by omega
  have sp:=fb6_spec (G:=G) n h3 h4
  rw [row6 h3 h4] at sp
  rw [en]
  simp (config:={maxSteps:=1000000}) (disch:=((try simp only [awL]);omega)) only [QR,QS,QT,QU,QV,QW,QX,QY,QZ,Q0,Q1,Q2,MI_t,MI_n,↓awU,awV,awF,Qa,Qb,Qc,Qd,forall_const,↓reduceIte,↓reduceDIte,↓Qe,Qf,Qg,Qh,Qi,Qj,Qk,Ql,Qm,Qn,Qo,Qp,Qq,Qr,Qs,implies_true,Qt,Qu,Qv,Qw,Qx,Qy,Qz,QA,QB,QC,QD,QE,QF,QG,QH,QI,QJ,QK,QL,QM,QN,QO,QP,QQ]
  generalize Lib.decDigits n=dg at *
  refine CallC.by sp (by rfl) (by rfl) (by simp) ?_
  have cr:=cut_row dg (List.replicate 17 0)
  rw [dl2] at cr
  have rl:(ints .u8 ([0]++(nums dg++nums (List.replicate 17 0)))).length=24:=by rw [ints_length];simp only [List.length_append,nums_length,List.length_replicate,dl2,List.length_cons,List.length_nil]
  generalize ints .u8 ([0]++(nums dg++nums (List.replicate 17 0)))=rw at *
  simp (config:={maxSteps:=1000000}) (disch:=((try simp only [awL]);omega)) only [QR,QS,QT,QU,QV,QW,QX,QY,QZ,Q0,Q1,Q2,MI_t,MI_n,rl,cr,numsOf_ints,strOfNums_nums,↓awU,awV,awF,Qa,Qb,Qc,Qd,forall_const,↓reduceIte,↓reduceDIte,↓Qe,Qf,Qg,Qh,Qi,Qj,Qk,Ql,Qm,Qn,Qo,Qp,Qq,Qr,Qs,implies_true,Qt,Qu,Qv,Qw,Qx,Qy,Qz,QA,QB,QC,QD,QE,QF,QG,QH,QI,QJ,QK,QL,QM,QN,QO,QP,QQ]
  try rfl
 ·have en:((Lib.nDigits n:Nat):Int)=7:=nd_of (k:=6) (by omega) (by omega) rfl
  have dl2:(Lib.decDigits n).length=7:=by omega
  have sp:=fb7_spec (G:=G) n h h2
  rw [row7 h h2] at sp
  rw [en]
  simp (config:={maxSteps:=1000000}) (disch:=((try simp only [awL]);omega)) only [QR,QS,QT,QU,QV,QW,QX,QY,QZ,Q0,Q1,Q2,MI_t,MI_n,↓awU,awV,awF,Qa,Qb,Qc,Qd,forall_const,↓reduceIte,↓reduceDIte,↓Qe,Qf,Qg,Qh,Qi,Qj,Qk,Ql,Qm,Qn,Qo,Qp,Qq,Qr,Qs,implies_true,Qt,Qu,Qv,Qw,Qx,Qy,Qz,QA,QB,QC,QD,QE,QF,QG,QH,QI,QJ,QK,QL,QM,QN,QO,QP,QQ]
  generalize Lib.decDigits n=dg at *
  refine CallC.by sp (by rfl) (by rfl) (by simp) ?_
  have cr:=cut_row dg (List.replicate 16 0)
  rw [dl2] at cr
  have rl:(ints .u8 ([0]++(nums dg++nums (List.replicate 16 0)))).length=24:=by rw [ints_length];simp only [List.length_append,nums_length,List.length_replicate,dl2,List.length_cons,List.length_nil]
  generalize ints .u8 ([0]++(nums dg++nums (List.replicate 16 0)))=rw at *
  simp (config:={maxSteps:=1000000}) (disch:=((try simp only [awL]);omega)) only [QR,QS,QT,QU,QV,QW,QX,QY,QZ,Q0,Q1,Q2,MI_t,MI_n,rl,cr,numsOf_ints,strOfNums_nums,↓awU,awV,awF,Qa,Qb,Qc,Qd,forall_const,↓reduceIte,↓reduceDIte,↓Qe,Qf,Qg,Qh,Qi,Qj,Qk,Ql,Qm,Qn,Qo,Qp,Qq,Qr,Qs,implies_true,Qt,Qu,Qv,Qw,Qx,Qy,Qz,QA,QB,QC,QD,QE,QF,QG,QH,QI,QJ,QK,QL,QM,QN,QO,QP,QQ]
  try rfl
theorem itoaL_dec {n:Nat} (h:n<100):itoaL n=Lib.decDigits n:=by
 unfold itoaL
 split
 ·rw [dd_one (by omega)]
 ·rw [dd_two (by omega) h];rfl
theorem formatIntA_spec (hP:HP G) (n:Nat) (h2:n<10000000):Ctr Tryz.prog G 118 [.d (.int .i64 n),.d (.int .i64 10)] [] (.d (S (Lib.decDigits n))) []:=by
 rcases Nat.lt_or_ge n 100 with h | h
 ·rw [← itoaL_dec h];exact formatInt_spec n h
 ·exact formatIntN_spec hP n h h2
theorem itoaIA_spec (hP:HP G) (n:Nat) (h:n<10000000):Ctr Tryz.prog G 89 [.d (.int .i64 n)] [] (.d (S (Lib.decDigits n))) []:=by
 refine Ctr.pure (M:=M0) hmix Tryz.func89 rfl go89 ?_
 simp (config:={maxSteps:=1000000}) (disch:=((try simp only [awL]);omega)) only [QR,QS,QT,QU,QV,QW,QX,QY,QZ,Q0,Q1,Q2,Tryz.f89,↓awU,awV,awF,Qa,Qb,Qc,Qd,forall_const,↓reduceIte,↓reduceDIte,↓Qe,Qf,Qg,Qh,Qi,Qj,Qk,Ql,Qm,Qn,Qo,Qp,Qq,Qr,Qs,implies_true,Qt,Qu,Qv,Qw,Qx,Qy,Qz,QA,QB,QC,QD,QE,QF,QG,QH,QI,QJ,QK,QL,QM,QN,QO,QP,QQ]
 refine CallC.pure (formatIntA_spec hP n h) ?_
 simp (config:={maxSteps:=1000000}) (disch:=((try simp only [awL]);omega)) only [QR,QS,QT,QU,QV,QW,QX,QY,QZ,Q0,Q1,Q2,↓awU,awV,awF,Qa,Qb,Qc,Qd,forall_const,↓reduceIte,↓reduceDIte,↓Qe,Qf,Qg,Qh,Qi,Qj,Qk,Ql,Qm,Qn,Qo,Qp,Qq,Qr,Qs,implies_true,Qt,Qu,Qv,Qw,Qx,Qy,Qz,QA,QB,QC,QD,QE,QF,QG,QH,QI,QJ,QK,QL,QM,QN,QO,QP,QQ]
 first | done | rfl
theorem itoaA_spec (hP:HP G) (n:Nat) (h:n<10000000):Ctr Tryz.prog G 55 [.d (.int .i64 n)] [] (.d (S (Lib.decDigits n))) []:=by
 refine Ctr.pure (M:=M0) hmix Tryz.func55 rfl go55 ?_
 simp (config:={maxSteps:=1000000}) (disch:=((try simp only [awL]);omega)) only [QR,QS,QT,QU,QV,QW,QX,QY,QZ,Q0,Q1,Q2,Tryz.f55,↓awU,awV,awF,Qa,Qb,Qc,Qd,forall_const,↓reduceIte,↓reduceDIte,↓Qe,Qf,Qg,Qh,Qi,Qj,Qk,Ql,Qm,Qn,Qo,Qp,Qq,Qr,Qs,implies_true,Qt,Qu,Qv,Qw,Qx,Qy,Qz,QA,QB,QC,QD,QE,QF,QG,QH,QI,QJ,QK,QL,QM,QN,QO,QP,QQ]
 refine CallC.pure (itoaIA_spec hP n h) ?_
 simp (config:={maxSteps:=1000000}) (disch:=((try simp only [awL]);omega)) only [QR,QS,QT,QU,QV,QW,QX,QY,QZ,Q0,Q1,Q2,↓awU,awV,awF,Qa,Qb,Qc,Qd,forall_const,↓reduceIte,↓reduceDIte,↓Qe,Qf,Qg,Qh,Qi,Qj,Qk,Ql,Qm,Qn,Qo,Qp,Qq,Qr,Qs,implies_true,Qt,Qu,Qv,Qw,Qx,Qy,Qz,QA,QB,QC,QD,QE,QF,QG,QH,QI,QJ,QK,QL,QM,QN,QO,QP,QQ]
 first | done | rfl
theorem hi_of (hP:HP G):HI G:=fun n hn=>itoaA_spec hP n (by omega)
end Go.Proofs.YtkgbbdoeodmkgaaGreatDoor
namespace Go.Proofs.YtkgbbdoeodmkgaaGreatDoor
open Go Go.Proofs Go.Abs Go.RowKit Go.ChangeShapes Go.WideShapes Go.ChangeAt Go.Shelf Go.Joins Go.Deep
theorem mem_getD' {l:List Int} {i:Nat} {d:Int} (h:i<l.length):l.getD i d∈l:=by
 rw [List.getD_eq_getElem?_getD,List.getElem?_eq_getElem h];exact List.getElem_mem h
theorem own:ownKnob Tryz.prog.godebug=none:=by kernel_rfl
theorem laidOut:laidOutB Tryz.prog=true:=by kernel_rfl
theorem cU8:Tryz.prog.cellsOf 5=1:=by kernel_rfl
theorem cU64:Tryz.prog.cellsOf 110=1:=by kernel_rfl
theorem list_u8 {l:List Int} (h:∀ n∈l,(Lit.int .u8 n).wf=true):∀ i,0≤l.getD i 0∧l.getD i 0≤255:=by
 intro i
 rcases Nat.lt_or_ge i l.length with hi | hi
 ·have:=h _ (mem_getD' (d:=0) hi)
  simp [Lit.wf,IntKind.min,IntKind.max,IntKind.bits,IntKind.signed] at this
  rw [List.getD_eq_getElem?_getD]
  omega
 ·rw [List.getD_eq_getElem?_getD,List.getElem?_eq_none hi];simp
def G1 (_b:Bool):Globals:=fun g=>if g=2 then some firstDs else if g=3 then some accDs else if g=5 then some (ints .u64 Lib.pow10Tab)
 else none
theorem u8types:U8Types Tryz.prog Tryz.laysValid_ren:=U8Types.of196 Tryz.laysValid
theorem u8extra:U8Extra Tryz.prog Tryz.laysValid_ren where
 n3:=by kernel_rfl
 n4:=by kernel_rfl
 y3:=by kernel_rfl
 y4:=by kernel_rfl
 c5:=by kernel_rfl
 c119:=by kernel_rfl
 c138:=by kernel_rfl
theorem first_eq:Rows.laid_unicode_utf8_first=Lib.firstData:=by kernel_rfl
theorem accept_eq:(Rows.laid_unicode_utf8_acceptRanges:DataW Unit)=Lib.acceptData:=by kernel_rfl
theorem pow_eq:(Rows.laid_internal_strconv_uint64pow10:DataW Unit)=Lib.tabData .u64 Lib.pow10Tab:=by kernel_rfl
theorem gPow:Tryz.prog.globalNamed "internal/strconv.uint64pow10" = some 5:=by kernel_rfl
theorem tPow:(Tryz.prog.globals[5]?).map (·.type)=some 176:=by kernel_rfl
theorem cPow:Tryz.prog.cellsOf 176=20:=by kernel_rfl
theorem globOK {X:World} {b:Bool} (h1:Lib.VarReads Tryz.prog X "unicode/utf8.first" Rows.laid_unicode_utf8_first) (h2:Lib.VarReads Tryz.prog X "unicode/utf8.acceptRanges" Rows.laid_unicode_utf8_acceptRanges)
  (h3:Lib.VarReads Tryz.prog X "internal/strconv.uint64pow10" Rows.laid_internal_strconv_uint64pow10)
  (_h4:b=true→True):GlobOK (G1 b) X:=by
 rw [first_eq] at h1
 rw [accept_eq] at h2
 rw [pow_eq] at h3
 obtain ⟨t1,t2⟩:Lib.Utf8Tabs 2 3 X:=utf8Tabs_of_readsT u8types u8extra h1 h2
 intro g ds hg
 unfold G1 at hg
 split at hg
 ·rename_i e;subst e;cases hg
  refine ⟨fun i=>.int .u8 (Lib.firstT i),fun i x hx=>?_,fun i x hx=>?_⟩
  ·have hi:i<256:=by have:=(List.getElem?_eq_some_iff.1 hx).1;simpa [firstDs] using this
   exact t1 i hi
  ·have hi:i<256:=by have:=(List.getElem?_eq_some_iff.1 hx).1;simpa [firstDs] using this
   simp [firstDs,hi] at hx
   subst hx;exact .int _ _
 ·split at hg
  ·rename_i e;subst e;cases hg
   refine ⟨fun i=>.int .u8 ((if i % 2=0 then Lib.accLo (i / 2) else Lib.accHi (i / 2):Nat):Int),fun i x hx=>?_,fun i x hx=>?_⟩
   ·have hi:i<32:=by have:=(List.getElem?_eq_some_iff.1 hx).1;simpa [accDs] using this
    obtain ⟨a,b⟩:=t2 (i / 2) (by omega)
    rcases (by omega:i % 2=0∨i % 2=1) with h0 | h0
    ·show X.cell? ⟨_,i,none⟩=_
     simp only [if_pos h0]
     rw [← a,show 2*(i / 2)=i by omega]
    ·show X.cell? ⟨_,i,none⟩=_
     simp only [if_neg (show ¬ i % 2=0 by omega)]
     rw [← b,show 2*(i / 2)+1=i by omega]
   ·have hi:i<32:=by have:=(List.getElem?_eq_some_iff.1 hx).1;simpa [accDs] using this
    simp only [accDs,List.getElem?_map,List.getElem?_range hi,Option.map_some,Option.some.injEq] at hx
    subst hx;exact .int _ _
  ·split at hg
   ·rename_i e;subst e;cases hg
    obtain ⟨g',t,cs,fuel,p,hg',ht',hvar,hd⟩:=h3
    obtain rfl:=Option.some.inj (gPow.symm.trans hg')
    obtain rfl:=Option.some.inj (tPow.symm.trans ht')
    have hcs:=Lib.cells_of_tab Tryz.underlying176 Tryz.underlying110 cU64 cPow hd
    refine ⟨fun i=>.int .u64 (Lib.pow10Tab.getD i 0),fun i x hx=>?_,fun i x hx=>?_⟩
    ·have hi:i<Lib.pow10Tab.length:=by have:=(List.getElem?_eq_some_iff.1 hx).1;simpa [ints] using this
     show X.cell? ⟨_,i,none⟩=_
     rw [World.var?_cell hg' hvar i,← Array.getElem?_toList,hcs]
     simp [hi]
    ·have hi:i<Lib.pow10Tab.length:=by have:=(List.getElem?_eq_some_iff.1 hx).1;simpa [ints] using this
     simp only [ints,List.getElem?_map,List.getElem?_eq_getElem hi,Option.map_some,Option.some.injEq] at hx
     subst hx
     show RD _ (Value.int .u64 (Lib.pow10Tab.getD i 0)) _
     rw [List.getD_eq_getElem?_getD,List.getElem?_eq_getElem hi]
     exact .int _ _
   ·cases hg
end Go.Proofs.YtkgbbdoeodmkgaaGreatDoor
namespace Go.Proofs.YtkgbbdoeodmkgaaGreatDoor.Num
open Go Go.Proofs Go.Abs
structure Hid (p:Prop):Prop where
 out:p
def B:Nat:=4294967296
def val:List Nat→Nat
 | []=>0
 | d::l=>d+B*val l
def toW (n:Nat):List Nat:=if h:n=0 then [] else n % B::toW (n / B)
termination_by n
decreasing_by exact Nat.div_lt_self (by omega) (by decide)
def Dig (l:List Nat):Prop:=∀ d,d∈l→d<B
theorem toW_zero:toW 0=[]:=by rw [toW];simp
theorem toW_pos {n:Nat} (h:n≠0):toW n=n % B::toW (n / B):=by rw [toW];simp [h]
theorem val_toW (n:Nat):val (toW n)=n:=by
 induction n using Nat.strongRecOn with
 | _ n ih =>
  by_cases h:n=0
  ·subst h;rw [toW_zero];rfl
  ·rw [toW_pos h,val,ih (n / B) (Nat.div_lt_self (by omega) (by decide))]
   exact Nat.mod_add_div n B
theorem dig_toW (n:Nat):Dig (toW n):=by
 induction n using Nat.strongRecOn with
 | _ n ih =>
  by_cases h:n=0
  ·subst h;rw [toW_zero];intro d hd;cases hd
  ·rw [toW_pos h]
   intro d hd
   rcases List.mem_cons.1 hd with rfl | hd
   ·exact Nat.mod_lt _ (by decide)
   ·exact ih (n / B) (Nat.div_lt_self (by omega) (by decide)) d hd
theorem val_append (l m:List Nat):val (l++m)=val l+B ^ l.length*val m:=by
 induction l with
 | nil=>simp [val]
 | cons d l ih=>simp only [List.cons_append,val,ih,List.length_cons,Nat.pow_succ,Nat.mul_add];rw [Nat.add_assoc];congr 2;rw [← Nat.mul_assoc,Nat.mul_comm B]
theorem val_lt {l:List Nat} (h:Dig l):val l<B ^ l.length:=by
 induction l with
 | nil=>simp [val]
 | cons d l ih =>
  have h1:=h d (by simp)
  have h2:=ih fun x hx=>h x (by simp [hx])
  simp only [val,List.length_cons,Nat.pow_succ]
  have:B*(val l+1)≤B*B ^ l.length:=Nat.mul_le_mul_left _ h2
  rw [Nat.mul_comm (B ^ l.length)]
  rw [Nat.mul_add] at this
  omega
theorem Dig.append {l m:List Nat} (h1:Dig l) (h2:Dig m):Dig (l++m):=fun d hd=>by
 rcases List.mem_append.1 hd with h | h
 ·exact h1 d h
 ·exact h2 d h
theorem Dig.take {l:List Nat} (h:Dig l) (n:Nat):Dig (l.take n):=fun d hd=>h d (List.mem_of_mem_take hd)
theorem Dig.drop {l:List Nat} (h:Dig l) (n:Nat):Dig (l.drop n):=fun d hd=>h d (List.mem_of_mem_drop hd)
theorem Dig.getD {l:List Nat} (h:Dig l) (i:Nat):l.getD i 0<B:=by
 rw [List.getD_eq_getElem?_getD]
 cases e:l[i]? with
 | none=>decide
 | some x=>exact h x (List.mem_of_getElem? e)
theorem take_succ' {l:List Nat} {k:Nat} (h:k<l.length):l.take (k+1)=l.take k++[l.getD k 0]:=by
 rw [List.take_add_one,List.getD_eq_getElem?_getD,List.getElem?_eq_getElem h];rfl
theorem val_take_succ {l:List Nat} {k:Nat} (h:k<l.length):val (l.take (k+1))=val (l.take k)+B ^ k*l.getD k 0:=by
 rw [take_succ' h,val_append]
 simp [val,Nat.min_eq_left (Nat.le_of_lt h)]
theorem toW_of {l:List Nat} (h:Dig l) (hl:l=[]∨l.getD (l.length - 1) 0≠0):toW (val l)=l:=by
 induction l with
 | nil=>exact toW_zero
 | cons d l ih =>
  have h1:=h d (by simp)
  have hB:(0:Nat)<B:=by decide
  have hv:val (d::l)≠0:=by
   simp only [val]
   by_cases hn:l=[]
   ·subst hn;simp at hl;simp [val];omega
   ·have h3:=ih (fun x hx=>h x (by simp [hx])) (.inr (by
     rcases hl with h0 | h0
     ·cases h0
     ·have:l.length≠0:=by simpa using hn
      have e:(d::l).length - 1=(l.length - 1)+1:=by simp;omega
      rw [e] at h0;simpa using h0))
    intro h0
    have:val l=0:=by
     have:=Nat.eq_zero_of_add_eq_zero_left h0
     rcases Nat.mul_eq_zero.1 this with h | h
     ·omega
     ·exact h
    rw [this,toW_zero] at h3
    exact hn h3.symm
  rw [toW_pos hv]
  have e1:val (d::l) % B=d:=by simp only [val];rw [Nat.add_mul_mod_self_left];exact Nat.mod_eq_of_lt h1
  have e2:val (d::l) / B=val l:=by simp only [val];rw [Nat.add_mul_div_left _ _ hB,Nat.div_eq_of_lt h1,Nat.zero_add]
  rw [e1,e2]
  by_cases hn:l=[]
  ·subst hn;simp [val,toW_zero]
  ·rw [ih (fun x hx=>h x (by simp [hx])) (.inr (by
     rcases hl with h0 | h0
     ·cases h0
     ·have:l.length≠0:=by simpa using hn
      have e:(d::l).length - 1=(l.length - 1)+1:=by simp;omega
      rw [e] at h0;simpa using h0))]
theorem toW_last {n:Nat} (h:n≠0):(toW n).getD ((toW n).length - 1) 0≠0:=by
 induction n using Nat.strongRecOn with
 | _ n ih =>
  rw [toW_pos h]
  by_cases h2:n / B=0
  ·rw [h2,toW_zero]
   simp
   have:n<B:=by
    rcases Nat.div_eq_zero_iff.1 h2 with h | h
    ·exact absurd h (by decide)
    ·exact h
   rw [Nat.mod_eq_of_lt this];exact h
  ·have:=ih _ (Nat.div_lt_self (by omega) (by decide)) h2
   have hl:(toW (n / B)).length≠0:=by rw [toW_pos h2];simp
   have e:(n % B::toW (n / B)).length - 1=((toW (n / B)).length - 1)+1:=by simp;omega
   rw [e]
   simpa using this
theorem toW_nil {n:Nat}:toW n=[]↔n=0:=by
 constructor
 ·intro h
  have:=val_toW n
  rw [h] at this
  exact this.symm
 ·rintro rfl;exact toW_zero
theorem toW_length_le {n k:Nat} (h:n<B ^ k):(toW n).length≤k:=by
 induction k generalizing n with
 | zero=>have:n=0:=by simpa using h
         subst this;simp [toW_zero]
 | succ k ih =>
  by_cases h0:n=0
  ·subst h0;simp [toW_zero]
  ·rw [toW_pos h0]
   simp only [List.length_cons]
   have:n / B<B ^ k:=by
    rw [Nat.div_lt_iff_lt_mul (by decide)]
    rw [← Nat.pow_succ];exact h
   have:=ih this
   omega
theorem le_of_toW_length {n k:Nat} (h:k<(toW n).length):B ^ k≤n:=by
 by_cases hn:B ^ k≤n
 ·exact hn
 ·have:=toW_length_le (n:=n) (k:=k) (by omega)
  omega
theorem lt_of_toW (n:Nat):n<B ^ (toW n).length:=by
 have:=val_lt (dig_toW n)
 rwa [val_toW] at this
theorem bit31 {n:Nat} (h:n<4294967296):n / 2147483648=(n.testBit 31).toNat:=by
 rw [Nat.testBit_eq_decide_div_mod_eq,show (2:Nat) ^ 31=2147483648 from rfl]
 by_cases h1:n / 2147483648=1
 ·simp [h1]
 ·have:n / 2147483648=0:=by omega
  simp [this]
theorem bit31' {n:Nat} (h:n<4294967296):n.testBit 31=decide (2147483648≤n):=by
 rw [Nat.testBit_eq_decide_div_mod_eq,show (2:Nat) ^ 31=2147483648 from rfl]
 apply decide_eq_decide.2
 omega
theorem borrow {x y c d:Nat} (hx:x<4294967296) (hy:y<4294967296) (hc:c≤1) (hd:d=(x+4294967296 - y - c) % 4294967296) :
  (((4294967295 - x) &&& y) ||| ((4294967295 - (x ^^^ y)) &&& d)) / 2147483648=if x<y+c then 1 else 0:=by
 have hxy:x ^^^ y<2 ^ 32:=Nat.xor_lt_two_pow (by omega) (by omega)
 have hd':d<4294967296:=by omega
 have h1:((4294967295 - x) &&& y)<2 ^ 32:=Nat.and_lt_two_pow _ (by omega)
 have h2:((4294967295 - (x ^^^ y)) &&& d)<2 ^ 32:=Nat.and_lt_two_pow _ (by omega)
 have h3:=Nat.or_lt_two_pow h1 h2
 rw [bit31 (by omega),Nat.testBit_or,Nat.testBit_and,Nat.testBit_and]
 rw [show 4294967295 - x=2 ^ 32 - (x+1) by omega,show 4294967295 - (x ^^^ y)=2 ^ 32 - ((x ^^^ y)+1) by omega,Nat.testBit_two_pow_sub_succ (by omega),Nat.testBit_two_pow_sub_succ hxy,Nat.testBit_xor,
  bit31' hx,bit31' hy,bit31' hd']
 by_cases a:2147483648≤x<;>by_cases b:2147483648≤y<;>by_cases e:2147483648≤d<;>by_cases f:x<y+c<;>simp [a,b,e,f]<;>omega
theorem flip32 {n:Nat} (h:n<4294967296):4294967295 ^^^ n=4294967295 - n:=by
 apply Nat.eq_of_testBit_eq
 intro i
 rw [show 4294967295 - n=2 ^ 32 - (n+1) by omega,Nat.testBit_two_pow_sub_succ (by omega),Nat.testBit_xor,show (4294967295:Nat)=2 ^ 32 - 1 from rfl,Nat.testBit_two_pow_sub_one]
 by_cases hi:i<32
 ·simp [hi]
 ·have:n.testBit i=false:=Nat.testBit_lt_two_pow (Nat.lt_of_lt_of_le h (by
   calc 4294967296=2 ^ 32:=rfl
    _≤2 ^ i:=Nat.pow_le_pow_right (by decide) (by omega)))
  simp [hi,this]
theorem xorMax {n:Nat} (h:n<4294967296):bitsI .xor .u32 4294967295 (n:Int)=((4294967295 - n:Nat):Int):=by
 have:=bi_u32_xor_nat (a:=4294967295) (b:=n) (by omega) h
 rw [flip32 h] at this
 exact this
theorem val_split {l:List Nat} {k:Nat} (h:k<l.length):val l=val (l.take k)+B ^ k*(l.getD k 0+B*val (l.drop (k+1))):=by
 have e:l=l.take k++l.getD k 0::l.drop (k+1):=by
  rw [List.getD_eq_getElem?_getD,List.getElem?_eq_getElem h]
  simp
 conv=>lhs;rw [e]
 rw [val_append]
 simp [val,Nat.min_eq_left (Nat.le_of_lt h)]
theorem val_lt_of {l m:List Nat} {k:Nat} (hl:Dig l) (h1:k<l.length) (h2:k<m.length) (h3:l.drop (k+1)=m.drop (k+1)) (h4:l.getD k 0<m.getD k 0):val l<val m:=by
 rw [val_split h1,val_split h2,h3]
 have h5:=val_lt (hl.take k)
 rw [List.length_take,Nat.min_eq_left (Nat.le_of_lt h1)] at h5
 have h6:B ^ k*(l.getD k 0+1+B*val (m.drop (k+1)))≤B ^ k*(m.getD k 0+B*val (m.drop (k+1))):=Nat.mul_le_mul_left _ (by omega)
 rw [show l.getD k 0+1+B*val (m.drop (k+1))=(l.getD k 0+B*val (m.drop (k+1)))+1 by omega,Nat.mul_add,Nat.mul_one] at h6
 omega
theorem drop_eq {l m:List Nat} {k:Nat} (h1:k<l.length) (h2:k<m.length) (h3:l.drop (k+1)=m.drop (k+1)) (h4:l.getD k 0=m.getD k 0):l.drop k=m.drop k:=by
 rw [List.drop_eq_getElem_cons h1,List.drop_eq_getElem_cons h2,h3]
 simp [List.getD_eq_getElem?_getD,List.getElem?_eq_getElem h1,List.getElem?_eq_getElem h2] at h4
 rw [h4]
theorem toW_len_lt {a b:Nat} (h:(toW a).length<(toW b).length):a<b:=Nat.lt_of_lt_of_le (lt_of_toW a) (le_of_toW_length h)
theorem sub_digit {x y c:Nat} (hx:x<B) (hy:y<B) (hc:c≤1):(x+B - y - c) % B+y+c=x+B*(if x<y+c then 1 else 0):=by
 simp only [B] at *;split<;>omega
theorem lin_sub {o m l P d mk lk c q:Nat} (h1:o+m=l+P*c) (h2:d+mk+c=lk+q):o+P*d+(m+P*mk)=l+P*lk+P*q:=by
 have:=congrArg (P*·) h2
 simp only [Nat.mul_add] at this
 omega
def cmpI (a b:Int):Int:=if a<b then -1 else if b<a then 1 else 0
theorem cmpI_lt {a b:Int} (h:a<b):cmpI a b=-1:=by simp [cmpI,h]
theorem cmpI_gt {a b:Int} (h:b<a):cmpI a b=1:=by simp [cmpI,h,show ¬ a<b by omega]
theorem cmpI_eq {a b:Int} (h:a=b):cmpI a b=0:=by simp [cmpI,h]
theorem cmpI_zero {a b:Int}:cmpI a b=0↔a=b:=by
 refine ⟨fun h=>?_,cmpI_eq⟩
 by_cases h1:a<b
 ·rw [cmpI_lt h1] at h;omega
 ·by_cases h2:b<a
  ·rw [cmpI_gt h2] at h;omega
  ·omega
theorem cmpI_of {a b c d:Int} (h1:a<b→c<d) (h2:b<a→d<c) (h3:a=b→c=d):cmpI a b=cmpI c d:=by
 by_cases h:a<b
 ·rw [cmpI_lt h,cmpI_lt (h1 h)]
 ·by_cases h':b<a
  ·rw [cmpI_gt h',cmpI_gt (h2 h')]
  ·have:a=b:=by omega
   rw [cmpI_eq this,cmpI_eq (h3 this)]
theorem take_val (l:List Nat) (k:Nat):val (l.take (k+1))=val (l.take k)+B ^ k*l.getD k 0:=by
 by_cases h:k<l.length
 ·exact val_take_succ h
 ·rw [List.take_of_length_le (by omega),List.take_of_length_le (by omega),List.getD_eq_getElem?_getD,List.getElem?_eq_none (by omega)]
  simp
theorem minus_step {l m out:List Nat} {k c d q:Nat} (ho:out.length=k) (hv:val out+val (m.take k)=val (l.take k)+B ^ k*c) (h:d+m.getD k 0+c=l.getD k 0+B*q) :
  val (out++[d])+val (m.take (k+1))=val (l.take (k+1))+B ^ (k+1)*q:=by
 have e3:=lin_sub hv h
 have e4:B ^ (k+1)=B ^ k*B:=Nat.pow_succ ..
 rw [take_val l k,take_val m k,val_append,ho,e4,Nat.mul_assoc]
 simpa [val] using e3
theorem minus_end {P o a b c:Nat} (h:o+b=a+P*c) (ho:o<P) (hab:b≤a) (hc:c≤1):o=a - b:=by
 have:c=0∨c=1:=by omega
 rcases this with rfl | rfl
 ·rw [Nat.mul_zero] at h;omega
 ·rw [Nat.mul_one] at h;omega
theorem val_set {l:List Nat} {p d:Nat} (h:p<l.length):val (l.set p d)+B ^ p*l.getD p 0=val l+B ^ p*d:=by
 have h1:=val_split (l:=l.set p d) (k:=p) (by simpa using h)
 have h2:=val_split h
 rw [List.take_set_of_le (Nat.le_refl _),List.drop_set_of_lt (Nat.lt_succ_self p),List.getD_eq_getElem?_getD,List.getElem?_set_self h] at h1
 simp only [Option.getD_some,Nat.mul_add,Nat.succ_eq_add_one] at h1 h2
 omega
theorem Dig.set {l:List Nat} (h:Dig l) {p d:Nat} (hd:d<B):Dig (l.set p d):=fun x hx=>by
 rcases List.mem_or_eq_of_mem_set hx with h1 | h1
 ·exact h x h1
 ·omega
theorem Dig.zeros (n:Nat):Dig (List.replicate n 0):=fun d hd=>by
 have:=List.eq_of_mem_replicate hd
 subst this;decide
theorem val_zeros (n:Nat):val (List.replicate n 0)=0:=by
 induction n with
 | zero=>rfl
 | succ n ih=>simp [List.replicate_succ,val,ih]
theorem mul_digit {x y:Nat} (hx:x<B) (hy:y<B):x*y≤18446744065119617025:=by
 simp only [B] at *
 exact Nat.mul_le_mul (Nat.le_pred_of_lt hx) (Nat.le_pred_of_lt hy)
theorem times_step {q o m:List Nat} {i j c x s:Nat} (hp:i+j<q.length) (hs:s=c+(x*m.getD j 0+q.getD (i+j) 0)) (hv:val q+B ^ (i+j)*c=val o+B ^ i*(x*val (m.take j))) :
  val (q.set (i+j) (s % B))+B ^ (i+(j+1))*(s / B)=val o+B ^ i*(x*val (m.take (j+1))):=by
 have h1:=val_set (l:=q) (p:=i+j) (d:=s % B) hp
 have h2:=Nat.mod_add_div s B
 have h3:B ^ (i+j)*(s % B)+B ^ (i+(j+1))*(s / B)=B ^ (i+j)*s:=by
  rw [← Nat.add_assoc i j 1,Nat.pow_succ,Nat.mul_assoc,← Nat.mul_add,h2]
 have h4:B ^ (i+j)*s=B ^ (i+j)*c+(B ^ i*(x*(B ^ j*m.getD j 0))+B ^ (i+j)*q.getD (i+j) 0):=by
  rw [hs,Nat.mul_add,Nat.mul_add]
  congr 2
  rw [Nat.pow_add,Nat.mul_assoc,Nat.mul_left_comm (B ^ j)]
 have h5:B ^ i*(x*val (m.take (j+1)))=B ^ i*(x*val (m.take j))+B ^ i*(x*(B ^ j*m.getD j 0)):=by
  rw [take_val,Nat.mul_add,Nat.mul_add]
 omega
theorem times_row {q o l:List Nat} {i k c b:Nat} (hp:i+k<q.length) (hz:q.getD (i+k) 0=0) (hv:val q+B ^ (i+k)*c=val o+B ^ i*(l.getD i 0*b)) (ho:val o=val (l.take i)*b) :
  val (q.set (i+k) c)=val (l.take (i+1))*b:=by
 have h1:=val_set (l:=q) (p:=i+k) (d:=c) hp
 rw [hz] at h1
 have h2:val (l.take (i+1))*b=val (l.take i)*b+B ^ i*(l.getD i 0*b):=by rw [take_val,Nat.add_mul,Nat.mul_assoc]
 omega
theorem w_u32 {n:Nat}:IntKind.u32.wrap (n:Int)=((n % 4294967296:Nat):Int):=by simp [IntKind.wrap,IntKind.bits,IntKind.signed]
theorem w_u64 {n:Nat}:IntKind.u64.wrap (n:Int)=((n % 18446744073709551616:Nat):Int):=by simp [IntKind.wrap,IntKind.bits,IntKind.signed]
theorem getD_set_ne {l:List Nat} {p r d:Nat} (h:p≠r):(l.set p d).getD r 0=l.getD r 0:=by
 simp [List.getD_eq_getElem?_getD,List.getElem?_set_ne h]
theorem or_add {h x:Nat} (hx:x<4294967296):h*4294967296 ||| x=h*4294967296+x:=by
 have:=Nat.shiftLeft_add_eq_or_of_lt (i:=32) (a:=h) (b:=x) hx
 rw [Nat.shiftLeft_eq] at this
 exact this.symm
theorem or64 {h x:Nat} (hh:h<4294967296) (hx:x<4294967296):bitsI .or .u64 ((h:Int)*4294967296) (x:Int)=((h*4294967296+x:Nat):Int):=by
 have:=bi_u64_or (a:=((h*4294967296:Nat):Int)) (b:=(x:Int)) (by omega) (by omega) (by omega) (by omega)
 rw [Int.toNat_natCast,Int.toNat_natCast,or_add hx] at this
 exact this
theorem log2_shift {n k:Nat} (h:n / 2 ^ k≠0):n.log2=k+(n / 2 ^ k).log2:=by
 have hp:0<2 ^ k:=Nat.two_pow_pos k
 have hn:n≠0:=by intro h0;subst h0;simp at h
 have h1:=(Nat.log2_eq_iff h).1 rfl
 refine (Nat.log2_eq_iff hn).2 ⟨?_,?_⟩
 ·rw [Nat.pow_add,Nat.mul_comm]
  exact (Nat.le_div_iff_mul_le hp).1 h1.1
 ·rw [Nat.add_assoc,Nat.pow_add,Nat.mul_comm]
  exact (Nat.div_lt_iff_lt_mul hp).1 h1.2
theorem divmod_step {r x d:Nat} (hr:r<d) (hx:x<B):(r*B+x) / d<B:=by
 rw [Nat.div_lt_iff_lt_mul (by omega)]
 have:(r+1)*B≤d*B:=Nat.mul_le_mul_right _ hr
 rw [Nat.add_mul,Nat.one_mul] at this
 rw [Nat.mul_comm B]
 omega
theorem short_step {q l:List Nat} {k r d:Nat} (h:k<l.length) (hv:val (l.drop (k+1))=val q*d+r) :
  val (l.drop k)=val ((r*B+l.getD k 0) / d::q)*d+(r*B+l.getD k 0) % d:=by
 have e:l.drop k=l.getD k 0::l.drop (k+1):=by
  rw [List.drop_eq_getElem_cons h,List.getD_eq_getElem?_getD,List.getElem?_eq_getElem h];rfl
 rw [e,val,hv,val]
 have h1:=Nat.mod_add_div (r*B+l.getD k 0) d
 generalize (r*B+l.getD k 0) / d=a at *
 generalize (r*B+l.getD k 0) % d=b at *
 rw [Nat.mul_comm d a] at h1
 rw [Nat.add_mul,Nat.mul_add,Nat.mul_assoc,Nat.mul_comm B r]
 omega
theorem set_rep {q:List Nat} {k v:Nat}:(0::(List.replicate k 0++q)).set k v=List.replicate k 0++v::q:=by
 have e:0::(List.replicate k 0++q)=List.replicate k 0++0::q:=by
  rw [← List.cons_append,← List.replicate_succ,List.replicate_succ',List.append_assoc];rfl
 rw [e,List.set_append_right _ _ (by simp)]
 simp
def digs:Nat→Nat→List Nat
 | 0,_=>[]
 | k+1,n=>n % B::digs k (n / B)
theorem digs_length (k n:Nat):(digs k n).length=k:=by
 induction k generalizing n with
 | zero=>rfl
 | succ k ih=>simp [digs,ih]
theorem dig_digs (k n:Nat):Dig (digs k n):=by
 induction k generalizing n with
 | zero=>intro d h;cases h
 | succ k ih=>intro d h;rcases List.mem_cons.1 h with rfl | h
              ·exact Nat.mod_lt _ (by decide)
              ·exact ih _ d h
theorem digs_val {l:List Nat} (h:Dig l):digs l.length (val l)=l:=by
 induction l with
 | nil=>rfl
 | cons d l ih =>
  have h1:=h d (by simp)
  have hB:(0:Nat)<B:=by decide
  simp only [List.length_cons,digs,val]
  rw [Nat.add_mul_mod_self_left,Nat.mod_eq_of_lt h1,Nat.add_mul_div_left _ _ hB,Nat.div_eq_of_lt h1,Nat.zero_add,ih fun x hx=>h x (by simp [hx])]
theorem val_digs {k n:Nat} (h:n<B ^ k):val (digs k n)=n:=by
 induction k generalizing n with
 | zero=>have:n=0:=by simpa using h
         subst this;rfl
 | succ k ih =>
  simp only [digs,val]
  rw [ih]
  ·exact Nat.mod_add_div n B
  ·rw [Nat.div_lt_iff_lt_mul (by decide),← Nat.pow_succ];exact h
theorem digs_eq {l:List Nat} {k n:Nat} (h:Dig l) (hk:l.length=k) (hv:val l=n):l=digs k n:=by
 subst hk;subst hv;exact (digs_val h).symm
end Go.Proofs.YtkgbbdoeodmkgaaGreatDoor.Num
namespace Go.Proofs.YtkgbbdoeodmkgaaGreatDoor.Num
open Go Go.Proofs Go.Abs
abbrev W (l:List Nat):D:=.sl l.length false (nats .u32 l)
variable {G:Globals}
abbrev M0:Muts:=fun _=>false
theorem at_spec (l:List Nat) (i:Nat) :
  Ctr Tryz.prog G 108 [.d (W l),.d (.int .i64 i)] [] (.d (.int .u32 (l.getD i 0:Nat))) []:=by
 refine Ctr.pure (M:=M0) hmix Tryz.func108 rfl go108 ?_
 simp (config:={maxSteps:=1000000}) (disch:=((try simp only [awL]);omega)) only [Tryz.f108,↓awU,awV,awF,Qa,Qb,Qc,Qd,forall_const,↓reduceIte,↓reduceDIte,↓Qe,Qf,Qg,Qh,Qi,Qj,Qk,Ql,Qm,Qn,Qo,Qp,Qq,Qr,Qs,implies_true,Qt,Qu,Qv,Qw,Qx,Qy,Qz,QA,QB,QC,QD,QE,QF,QG,QH,QI,QJ,QK,QL,QM,QN,QO,QP,QQ]
 intro h
 rw [List.getD_eq_getElem?_getD,List.getElem?_eq_none (by omega)];rfl
theorem trimmed_spec (l:List Nat) (hd:Dig l) (hl:l.length<2 ^ 60):Ctr Tryz.prog G 106 [.d (W l)] [] (.d (W (toW (val l)))) []:=by
 refine Ctr.pure (M:=M0) hmix Tryz.func106 rfl go106 ?_
 simp only [Tryz.f106,↓awU,awV,awF,Qa,Qb,Qc,Qd,forall_const,↓reduceIte,↓reduceDIte,↓Qe,Qf,Qg,Qh,Qi,Qj,Qk,Ql,Qm,Qn,Qo,Qp,Qq,Qr,Qs,implies_true,Qt,Qu,Qv,Qw,Qx,Qy,Qz,QA,QB,QC,QD,QE,QF,QG,QH,QI,QJ,QK,QL,QM,QN,QO,QP,QQ]
 refine LoopC.inv (α:=Nat) (fun k=>k) (fun k=>mkS 21 [(0,.d (.sl k false (nats .u32 (l.take k))))]) (fun _=>[]) (fun k=>k≤l.length∧val (l.take k)=val l) l.length ⟨Nat.le_refl _,by simp⟩ (.pure ?_) ?_
 ·simp [mkS,SWeak,AWeak]
 ·rintro k ⟨hk,hv⟩
  simp only [mkS,List.foldl,List.replicate,List.set_cons_zero,List.set_cons_succ]
  simp (config:={maxSteps:=1000000}) (disch:=((try simp only [awL]);omega)) only [↓awU,awV,awF,Qa,Qb,Qc,Qd,forall_const,↓reduceIte,↓reduceDIte,↓Qe,Qf,Qg,Qh,Qi,Qj,Qk,Ql,Qm,Qn,Qo,Qp,Qq,Qr,Qs,implies_true,Qt,Qu,Qv,Qw,Qx,Qy,Qz,QA,QB,QC,QD,QE,QF,QG,QH,QI,QJ,QK,QL,QM,QN,QO,QP,QQ]
  refine ⟨fun h=>⟨fun h0=>⟨k - 1,⟨by omega,?_⟩,Nat.sub_lt (by omega) (by decide),.pure ?_⟩,fun h0=>?_⟩,fun h=>?_⟩
  ·have e:((k:Int) - 1).toNat=k - 1:=by omega
   rw [e,List.getD_eq_getElem?_getD,List.getElem?_take,if_pos (by omega),← List.getD_eq_getElem?_getD] at h0
   have:=val_take_succ (l:=l) (k:=k - 1) (by omega)
   rw [show k - 1+1=k by omega,hv] at this
   rw [this,show l.getD (k - 1) 0=0 by omega];simp
  ·have e:((k:Int) - 1).toNat=k - 1:=by omega
   simp [SWeak,AWeak,e,List.take_take]
  ·have e:((k:Int) - 1).toNat=k - 1:=by omega
   rw [e] at h0
   have:=toW_of (hd.take k) (.inr (by rw [show (l.take k).length - 1=k - 1 by simp;omega];omega))
   rw [hv] at this
   rw [this];simp [W,hk,Nat.min_eq_left]
  ·have:k=0:=by omega
   subst this
   have:val l=0:=by rw [← hv];rfl
   rw [this,toW_zero];rfl
theorem isNaN_int (a:Int):Ctr Tryz.prog G 172 [.d (.int .i64 a)] [] (.d (.bool false)) []:=by
 refine Ctr.pure (M:=M0) hmix Tryz.func172 rfl go172 ?_
 simp (config:={maxSteps:=1000000}) (disch:=((try simp only [awL]);omega)) only [Tryz.f172,↓awU,awV,awF,Qa,Qb,Qc,Qd,forall_const,↓reduceIte,↓reduceDIte,↓Qe,Qf,Qg,Qh,Qi,Qj,Qk,Ql,Qm,Qn,Qo,Qp,Qq,Qr,Qs,implies_true,Qt,Qu,Qv,Qw,Qx,Qy,Qz,QA,QB,QC,QD,QE,QF,QG,QH,QI,QJ,QK,QL,QM,QN,QO,QP,QQ]
theorem isNaN_u32 (a:Int):Ctr Tryz.prog G 173 [.d (.int .u32 a)] [] (.d (.bool false)) []:=by
 refine Ctr.pure (M:=M0) hmix Tryz.func173 rfl go173 ?_
 simp (config:={maxSteps:=1000000}) (disch:=((try simp only [awL]);omega)) only [Tryz.f173,↓awU,awV,awF,Qa,Qb,Qc,Qd,forall_const,↓reduceIte,↓reduceDIte,↓Qe,Qf,Qg,Qh,Qi,Qj,Qk,Ql,Qm,Qn,Qo,Qp,Qq,Qr,Qs,implies_true,Qt,Qu,Qv,Qw,Qx,Qy,Qz,QA,QB,QC,QD,QE,QF,QG,QH,QI,QJ,QK,QL,QM,QN,QO,QP,QQ]
theorem cmp_int (a b:Int):Ctr Tryz.prog G 158 [.d (.int .i64 a),.d (.int .i64 b)] [] (.d (.int .i64 (cmpI a b))) []:=by
 refine Ctr.pure (M:=M0) hmix Tryz.func158 rfl go158 ?_
 simp (config:={maxSteps:=1000000}) (disch:=((try simp only [awL]);omega)) only [Tryz.f158,↓awU,awV,awF,Qa,Qb,Qc,Qd,forall_const,↓reduceIte,↓reduceDIte,↓Qe,Qf,Qg,Qh,Qi,Qj,Qk,Ql,Qm,Qn,Qo,Qp,Qq,Qr,Qs,implies_true,Qt,Qu,Qv,Qw,Qx,Qy,Qz,QA,QB,QC,QD,QE,QF,QG,QH,QI,QJ,QK,QL,QM,QN,QO,QP,QQ]
 refine CallC.pure (isNaN_int _) ?_
 simp (config:={maxSteps:=1000000}) (disch:=((try simp only [awL]);omega)) only [↓awU,awV,awF,Qa,Qb,Qc,Qd,forall_const,↓reduceIte,↓reduceDIte,↓Qe,Qf,Qg,Qh,Qi,Qj,Qk,Ql,Qm,Qn,Qo,Qp,Qq,Qr,Qs,implies_true,Qt,Qu,Qv,Qw,Qx,Qy,Qz,QA,QB,QC,QD,QE,QF,QG,QH,QI,QJ,QK,QL,QM,QN,QO,QP,QQ]
 refine CallC.pure (isNaN_int _) ?_
 simp (config:={maxSteps:=1000000}) (disch:=((try simp only [awL]);omega)) only [↓awU,awV,awF,Qa,Qb,Qc,Qd,forall_const,↓reduceIte,↓reduceDIte,↓Qe,Qf,Qg,Qh,Qi,Qj,Qk,Ql,Qm,Qn,Qo,Qp,Qq,Qr,Qs,implies_true,Qt,Qu,Qv,Qw,Qx,Qy,Qz,QA,QB,QC,QD,QE,QF,QG,QH,QI,QJ,QK,QL,QM,QN,QO,QP,QQ]
 refine ⟨fun h=>(cmpI_lt h).symm,fun h=>⟨fun h'=>(cmpI_gt h').symm,fun h'=>(cmpI_eq (by omega)).symm⟩⟩
theorem cmp_u32 (a b:Int):Ctr Tryz.prog G 159 [.d (.int .u32 a),.d (.int .u32 b)] [] (.d (.int .i64 (cmpI a b))) []:=by
 refine Ctr.pure (M:=M0) hmix Tryz.func159 rfl go159 ?_
 simp (config:={maxSteps:=1000000}) (disch:=((try simp only [awL]);omega)) only [Tryz.f159,↓awU,awV,awF,Qa,Qb,Qc,Qd,forall_const,↓reduceIte,↓reduceDIte,↓Qe,Qf,Qg,Qh,Qi,Qj,Qk,Ql,Qm,Qn,Qo,Qp,Qq,Qr,Qs,implies_true,Qt,Qu,Qv,Qw,Qx,Qy,Qz,QA,QB,QC,QD,QE,QF,QG,QH,QI,QJ,QK,QL,QM,QN,QO,QP,QQ]
 refine CallC.pure (isNaN_u32 _) ?_
 simp (config:={maxSteps:=1000000}) (disch:=((try simp only [awL]);omega)) only [↓awU,awV,awF,Qa,Qb,Qc,Qd,forall_const,↓reduceIte,↓reduceDIte,↓Qe,Qf,Qg,Qh,Qi,Qj,Qk,Ql,Qm,Qn,Qo,Qp,Qq,Qr,Qs,implies_true,Qt,Qu,Qv,Qw,Qx,Qy,Qz,QA,QB,QC,QD,QE,QF,QG,QH,QI,QJ,QK,QL,QM,QN,QO,QP,QQ]
 refine CallC.pure (isNaN_u32 _) ?_
 simp (config:={maxSteps:=1000000}) (disch:=((try simp only [awL]);omega)) only [↓awU,awV,awF,Qa,Qb,Qc,Qd,forall_const,↓reduceIte,↓reduceDIte,↓Qe,Qf,Qg,Qh,Qi,Qj,Qk,Ql,Qm,Qn,Qo,Qp,Qq,Qr,Qs,implies_true,Qt,Qu,Qv,Qw,Qx,Qy,Qz,QA,QB,QC,QD,QE,QF,QG,QH,QI,QJ,QK,QL,QM,QN,QO,QP,QQ]
 refine ⟨fun h=>(cmpI_lt h).symm,fun h=>⟨fun h'=>(cmpI_gt h').symm,fun h'=>(cmpI_eq (by omega)).symm⟩⟩
theorem add32 (x y c:Nat) (hx:x<B) (hy:y<B) (hc:c≤1):Ctr Tryz.prog G 107 [.d (.int .u32 x),.d (.int .u32 y),.d (.int .u32 c)] []
  (.d (.tup [.int .u32 ((x+y+c) % B:Nat),.int .u32 ((x+y+c) / B:Nat)])) []:=by
 refine Ctr.pure (M:=M0) hmix Tryz.func107 rfl go107 ?_
 simp only [B] at *
 simp (config:={maxSteps:=1000000}) (disch:=((try simp only [awL]);omega)) only [Tryz.f107,↓awU,awV,awF,Qa,Qb,Qc,Qd,forall_const,↓reduceIte,↓reduceDIte,↓Qe,Qf,Qg,Qh,Qi,Qj,Qk,Ql,Qm,Qn,Qo,Qp,Qq,Qr,Qs,implies_true,Qt,Qu,Qv,Qw,Qx,Qy,Qz,QA,QB,QC,QD,QE,QF,QG,QH,QI,QJ,QK,QL,QM,QN,QO,QP,QQ]
 rw [show IntKind.u32.wrap ((x+y+c:Nat):Int)=(((x+y+c) % 4294967296:Nat):Int) by simp [IntKind.wrap,IntKind.bits,IntKind.signed]]
 simp
theorem sub32 (x y c:Nat) (hx:x<B) (hy:y<B) (hc:c≤1):Ctr Tryz.prog G 161 [.d (.int .u32 x),.d (.int .u32 y),.d (.int .u32 c)] []
  (.d (.tup [.int .u32 ((x+B - y - c) % B:Nat),.int .u32 ((if x<y+c then 1 else 0:Nat):Int)])) []:=by
 refine Ctr.pure (M:=M0) hmix Tryz.func161 rfl go161 ?_
 simp only [B] at *
 simp (config:={maxSteps:=1000000}) (disch:=((try simp only [awL]);omega)) only [Tryz.f161,↓awU,awV,awF,Qa,Qb,Qc,Qd,forall_const,↓reduceIte,↓reduceDIte,↓Qe,Qf,Qg,Qh,Qi,Qj,Qk,Ql,Qm,Qn,Qo,Qp,Qq,Qr,Qs,implies_true,Qt,Qu,Qv,Qw,Qx,Qy,Qz,QA,QB,QC,QD,QE,QF,QG,QH,QI,QJ,QK,QL,QM,QN,QO,QP,QQ]
 have e1:IntKind.u32.wrap (IntKind.u32.wrap ((x:Int) - (y:Int)) - (c:Int))=(((x+4294967296 - y - c) % 4294967296:Nat):Int):=by
  simp [IntKind.wrap,IntKind.bits,IntKind.signed];omega
 have hxy:x ^^^ y<2 ^ 32:=Nat.xor_lt_two_pow (by omega) (by omega)
 have h1:((4294967295 - x) &&& y)<2 ^ 32:=Nat.and_lt_two_pow _ (by omega)
 have h2:((4294967295 - (x ^^^ y)) &&& ((x+4294967296 - y - c) % 4294967296))<2 ^ 32:=Nat.and_lt_two_pow _ (by omega)
 rw [e1,bi_u32_xor_nat hx hy,xorMax hx,xorMax hxy,bi_u32_and_nat (by omega) hy,bi_u32_and_nat (by omega) (by omega),bi_u32_or_nat h1 h2]
 have:=borrow hx hy hc rfl
 rw [← this]
 rfl
end Go.Proofs.YtkgbbdoeodmkgaaGreatDoor.Num
namespace Go.Proofs.YtkgbbdoeodmkgaaGreatDoor.Num
open Go Go.Proofs Go.Abs
variable {G:Globals}
theorem compare_spec (a b:Nat) (ha:(toW a).length<2 ^ 40) (hb:(toW b).length<2 ^ 40) :
  Ctr Tryz.prog G 130 [.d (W (toW a)),.d (W (toW b))] [] (.d (.int .i64 (cmpI a b))) []:=by
 have da:=dig_toW a
 have db:=dig_toW b
 have va:=val_toW a
 have vb:=val_toW b
 have la:=@toW_len_lt a b
 have lb:=@toW_len_lt b a
 generalize toW a=l at *
 generalize toW b=m at *
 refine Ctr.pure (M:=M0) hmix Tryz.func130 rfl go130 ?_
 simp (config:={maxSteps:=1000000}) (disch:=((try simp only [awL]);omega)) only [Tryz.f130,↓awU,awV,awF,Qa,Qb,Qc,Qd,forall_const,↓reduceIte,↓reduceDIte,↓Qe,Qf,Qg,Qh,Qi,Qj,Qk,Ql,Qm,Qn,Qo,Qp,Qq,Qr,Qs,implies_true,Qt,Qu,Qv,Qw,Qx,Qy,Qz,QA,QB,QC,QD,QE,QF,QG,QH,QI,QJ,QK,QL,QM,QN,QO,QP,QQ]
 refine CallC.pure (cmp_int _ _) ?_
 simp (config:={maxSteps:=1000000}) (disch:=((try simp only [awL]);omega)) only [↓awU,awV,awF,Qa,Qb,Qc,Qd,forall_const,↓reduceIte,↓reduceDIte,↓Qe,Qf,Qg,Qh,Qi,Qj,Qk,Ql,Qm,Qn,Qo,Qp,Qq,Qr,Qs,implies_true,Qt,Qu,Qv,Qw,Qx,Qy,Qz,QA,QB,QC,QD,QE,QF,QG,QH,QI,QJ,QK,QL,QM,QN,QO,QP,QQ]
 refine ⟨fun h=>?_,fun h=>?_⟩
 ·refine cmpI_of (fun h=>?_) (fun h=>?_) (fun h'=>absurd (cmpI_eq h') h)
  ·have:=la (by omega);omega
  ·have:=lb (by omega);omega
 ·have e:l.length=m.length:=by have:=cmpI_zero.1 h;omega
  refine LoopC.inv (α:=Nat) (fun k=>k) (fun k=>mkS 35 [(0,.d (W l)),(1,.d (W m)),(6,.d (.int .i64 ((k:Int) - 1)))]) (fun _=>[]) (fun k=>k≤l.length∧l.drop k=m.drop k) l.length ⟨Nat.le_refl _,by rw [List.drop_length,e,List.drop_length]⟩ (.pure ?_) ?_
  ·simp [mkS,SWeak,AWeak]
  ·rintro k ⟨hk,hv⟩
   simp only [mkS,List.foldl,List.replicate,List.set_cons_zero,List.set_cons_succ]
   simp (config:={maxSteps:=1000000}) (disch:=((try simp only [awL]);omega)) only [↓awU,awV,awF,Qa,Qb,Qc,Qd,forall_const,↓reduceIte,↓reduceDIte,↓Qe,Qf,Qg,Qh,Qi,Qj,Qk,Ql,Qm,Qn,Qo,Qp,Qq,Qr,Qs,implies_true,Qt,Qu,Qv,Qw,Qx,Qy,Qz,QA,QB,QC,QD,QE,QF,QG,QH,QI,QJ,QK,QL,QM,QN,QO,QP,QQ]
   refine ⟨fun h=>?_,fun h=>?_⟩
   ·have e1:((k:Int) - 1).toNat=k - 1:=by omega
    refine CallC.pure (cmp_u32 _ _) ?_
    simp (config:={maxSteps:=1000000}) (disch:=((try simp only [awL]);omega)) only [↓awU,awV,awF,Qa,Qb,Qc,Qd,forall_const,↓reduceIte,↓reduceDIte,↓Qe,Qf,Qg,Qh,Qi,Qj,Qk,Ql,Qm,Qn,Qo,Qp,Qq,Qr,Qs,implies_true,Qt,Qu,Qv,Qw,Qx,Qy,Qz,QA,QB,QC,QD,QE,QF,QG,QH,QI,QJ,QK,QL,QM,QN,QO,QP,QQ]
    refine ⟨by rfl,fun h1=>?_,fun h1=>?_⟩
    ·rw [e1,← va,← vb]
     rw [e1] at h1
     refine cmpI_of (fun h2=>?_) (fun h2=>?_) (fun h'=>absurd (cmpI_eq h') h1)
     ·have:=val_lt_of (k:=k - 1) da (by omega) (by omega) (by rw [show k - 1+1=k by omega];exact hv) (by omega:l.getD (k - 1) 0<m.getD (k - 1) 0)
      omega
     ·have:=val_lt_of (k:=k - 1) db (by omega) (by omega) (by rw [show k - 1+1=k by omega];exact hv.symm) (by omega:m.getD (k - 1) 0<l.getD (k - 1) 0)
      omega
    ·rw [e1] at h1
     have h2:=cmpI_zero.1 h1
     refine ⟨k - 1,⟨by omega,drop_eq (by omega) (by omega) (by rw [show k - 1+1=k by omega];exact hv) (by omega)⟩,Nat.sub_lt (by omega) (by decide),.pure ?_⟩
     simp [SWeak,AWeak]
     omega
   ·have:k=0:=by omega
    subst this
    simp only [List.drop_zero] at hv
    rw [← va,← vb,hv]
    exact (cmpI_eq rfl).symm
end Go.Proofs.YtkgbbdoeodmkgaaGreatDoor.Num
namespace Go.Proofs.YtkgbbdoeodmkgaaGreatDoor.Num
open Go Go.Proofs Go.Abs
variable {G:Globals}
theorem plus_spec (a b:Nat) (ha:(toW a).length<2 ^ 40) (hb:(toW b).length<2 ^ 40) :
  Ctr Tryz.prog G 79 [.d (W (toW a)),.d (W (toW b))] [] (.d (W (toW (a+b)))) []:=by
 have da:=dig_toW a
 have db:=dig_toW b
 have va:=val_toW a
 have vb:=val_toW b
 generalize toW a=l at *
 generalize toW b=m at *
 refine Ctr.pure (M:=M0) hmix Tryz.func79 rfl go79 ?_
 simp (config:={maxSteps:=1000000}) (disch:=((try simp only [awL]);omega)) only [Tryz.f79,↓awU,awV,awF,Qa,Qb,Qc,Qd,forall_const,↓reduceIte,↓reduceDIte,↓Qe,Qf,Qg,Qh,Qi,Qj,Qk,Ql,Qm,Qn,Qo,Qp,Qq,Qr,Qs,implies_true,Qt,Qu,Qv,Qw,Qx,Qy,Qz,QA,QB,QC,QD,QE,QF,QG,QH,QI,QJ,QK,QL,QM,QN,QO,QP,QQ]
 refine LoopC.inv (α:=Nat × List Nat × Nat) (fun x=>max l.length m.length - x.1) (fun x=>mkS 45 [(0,.d (W l)),(1,.d (W m)),(5,.lsl 0 1 0 x.1),(6,.d (.int .u32 x.2.2)),(20,.d (.int .i64 (max l.length m.length:Nat))),(21,.d (.int .i64 x.1))])
  (fun x=>[.row false (nats .u32 x.2.1)]) (fun x=>x.1≤max l.length m.length∧x.2.1.length=x.1∧Dig x.2.1∧x.2.2≤1∧val x.2.1+B ^ x.1*x.2.2=val (l.take x.1)+val (m.take x.1)) (0,[],0) ⟨by simp,rfl,by simp [Dig],by simp,by simp [val]⟩ ?_ ?_
 ·refine ⟨[some 0],rfl,by simp,by simp [mkS,SWeak,AWeak],by simp [HWeak,BWeak]⟩
 ·rintro ⟨k,out,c⟩ ⟨hk,ho,hd,hc,hv⟩
  simp only at hk ho hd hc hv
  simp only [mkS,List.foldl,List.replicate,List.set_cons_zero,List.set_cons_succ]
  simp (config:={maxSteps:=1000000}) (disch:=((try simp only [awL]);omega)) only [↓awU,awV,awF,Qa,Qb,Qc,Qd,forall_const,↓reduceIte,↓reduceDIte,↓Qe,Qf,Qg,Qh,Qi,Qj,Qk,Ql,Qm,Qn,Qo,Qp,Qq,Qr,Qs,implies_true,Qt,Qu,Qv,Qw,Qx,Qy,Qz,QA,QB,QC,QD,QE,QF,QG,QH,QI,QJ,QK,QL,QM,QN,QO,QP,QQ]
  refine ⟨fun h=>?_,fun h=>?_⟩
  ·refine CallC.pure (at_spec l k) ?_
   simp (config:={maxSteps:=1000000}) (disch:=((try simp only [awL]);omega)) only [↓awU,awV,awF,Qa,Qb,Qc,Qd,forall_const,↓reduceIte,↓reduceDIte,↓Qe,Qf,Qg,Qh,Qi,Qj,Qk,Ql,Qm,Qn,Qo,Qp,Qq,Qr,Qs,implies_true,Qt,Qu,Qv,Qw,Qx,Qy,Qz,QA,QB,QC,QD,QE,QF,QG,QH,QI,QJ,QK,QL,QM,QN,QO,QP,QQ]
   refine CallC.pure (at_spec m k) ?_
   simp (config:={maxSteps:=1000000}) (disch:=((try simp only [awL]);omega)) only [↓awU,awV,awF,Qa,Qb,Qc,Qd,forall_const,↓reduceIte,↓reduceDIte,↓Qe,Qf,Qg,Qh,Qi,Qj,Qk,Ql,Qm,Qn,Qo,Qp,Qq,Qr,Qs,implies_true,Qt,Qu,Qv,Qw,Qx,Qy,Qz,QA,QB,QC,QD,QE,QF,QG,QH,QI,QJ,QK,QL,QM,QN,QO,QP,QQ]
   refine CallC.pure (add32 _ _ _ (da.getD k) (db.getD k) hc) ?_
   simp (config:={maxSteps:=1000000}) (disch:=((try simp only [awL]);omega)) only [↓awU,awV,awF,Qa,Qb,Qc,Qd,forall_const,↓reduceIte,↓reduceDIte,↓Qe,Qf,Qg,Qh,Qi,Qj,Qk,Ql,Qm,Qn,Qo,Qp,Qq,Qr,Qs,implies_true,Qt,Qu,Qv,Qw,Qx,Qy,Qz,QA,QB,QC,QD,QE,QF,QG,QH,QI,QJ,QK,QL,QM,QN,QO,QP,QQ]
   refine ⟨(k+1,out++[(l.getD k 0+m.getD k 0+c) % B],(l.getD k 0+m.getD k 0+c) / B),⟨by omega,by simp [ho],hd.append ?_,?_,?_⟩,by simp only;omega,[some 2],rfl,by simp,?_,?_⟩
   ·intro x hx;simp at hx;subst hx;exact Nat.mod_lt _ (by decide)
   ·have h1:=da.getD k
    have h2:=db.getD k
    simp only [B] at *;omega
   ·have e1:val (l.take (k+1))=val (l.take k)+B ^ k*l.getD k 0:=take_val l k
    have e2:val (m.take (k+1))=val (m.take k)+B ^ k*m.getD k 0:=take_val m k
    simp only [e1,e2,val_append,ho,val,Nat.mul_zero,Nat.add_zero]
    have e3:=Nat.mod_add_div (l.getD k 0+m.getD k 0+c) B
    have e4:B ^ (k+1)=B ^ k*B:=Nat.pow_succ ..
    rw [e4,Nat.mul_assoc,Nat.add_assoc,← Nat.mul_add,e3]
    simp only [Nat.mul_add]
    omega
   ·simp [SWeak,AWeak]
   ·simp [HWeak,BWeak,nats_push]
  ·have ek:k=max l.length m.length:=by omega
   have e:(D.sl (k+1) false (nats .u32 (out++[c])))=W (out++[c]):=by simp [W,ho]
   have hv':val (out++[c])=a+b:=by
    rw [List.take_of_length_le (by omega),List.take_of_length_le (by omega)] at hv
    rw [val_append,ho]
    simp [val,hv,va,vb]
   rw [e]
   refine CallC.frozen (trimmed_spec _ (hd.append ?_) ?_) ?_
   ·intro x hx;simp at hx;subst hx;simp only [B];omega
   ·simp [ho];omega
   ·rw [hv']
    simp (config:={maxSteps:=1000000}) (disch:=((try simp only [awL]);omega)) only [↓awU,awV,awF,Qa,Qb,Qc,Qd,forall_const,↓reduceIte,↓reduceDIte,↓Qe,Qf,Qg,Qh,Qi,Qj,Qk,Ql,Qm,Qn,Qo,Qp,Qq,Qr,Qs,implies_true,Qt,Qu,Qv,Qw,Qx,Qy,Qz,QA,QB,QC,QD,QE,QF,QG,QH,QI,QJ,QK,QL,QM,QN,QO,QP,QQ]
end Go.Proofs.YtkgbbdoeodmkgaaGreatDoor.Num
