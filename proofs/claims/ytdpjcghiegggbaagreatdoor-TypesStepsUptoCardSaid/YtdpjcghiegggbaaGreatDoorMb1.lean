/-
  Facts of the program: its types, and which functions are Go text: each by the kernel.
-/
import Derived.Test.YtdpjcghiegggbaaGreatDoorLa3
import Derived.Test.YtdpjcghiegggbaaGreatDoorChecked
import Derived.KernelRfl
import Derived.Lib.ValidLaws
import Derived.Shelf.Unicode.ValidAny
import Derived.Ground.NamesProg
import Derived.Lib.DecodeN
import Derived.Shelf.Strings.OnBuilder
import Derived.Lib.Strings
import Derived.Lib.Slices
import Derived.Lib.Walk
import Derived.Lib.Bytealg
import Derived.Shelf.Strings.Trim
import Derived.Shelf.Strings.Replace
import Derived.Shelf.Strings.Repeat
import Derived.Shelf.Strings.Builder1
set_option linter.all false
open Go.Abs renaming HWeak→HW,BWeak→BW,SWeak→SW,AWeak→AW,setsA→sA,keepA→kA
open Go.Proofs.Tryz renaming prog→TP
set_option maxHeartbeats 4000000
set_option maxRecDepth 1000000
open Go.Abs renaming ofVal→Qa,ofVal0→Qb,isShift→Qc,aggK→Qd,purePost→Qe,combine→Qf,idsA→Qg,cellsA→Qh,numsOf→Qi,srcA→Qj,calleeA→Qk,refsA→Ql,isScalar→Qm,scalarD→Qn,scalar0→Qo,putL→Qr,unfA→Qs,sidsB→QJ,keyKD→QL,isIntK→QM,aggD→QN,aggL→QO,eqKs→QP,boxRow→QQ
open Go.Abs.AV renaming one→Qp
open Go.Abs.D renaming one→Qq
open Go.IntKind renaming signed→Qt
open Nat renaming reduceAdd→Qu,reduceSub→Qv,reduceMul→Qw,reducePow→Qx,reduceDiv→Qy,reduceMod→Qz,reduceEqDiff→QI,reduceBEq→QK
open Int renaming reduceAdd→QA,reduceSub→QB,reduceMul→QC,reducePow→QD,reduceNeg→QE,reduceToNat→QF,reduceLT→QG,reduceLE→QH
namespace Go.Proofs.YtdpjcghiegggbaaGreatDoor
open Go Go.Proofs Go.Abs
theorem ti2:tiOf TP 2=some ⟨.int .i64,1,8,[.int .i64 0]⟩:=by kernel_rfl
theorem ie2:intE TP 2=some .i64:=by kernel_rfl
theorem it2:intT TP 2=some .i64:=by kernel_rfl
theorem st2:isStrT TP 2=false:=by kernel_rfl
theorem ti3:tiOf TP 3=some ⟨.int .i64,1,8,[.int .i64 0]⟩:=by kernel_rfl
theorem ie3:intE TP 3=some .i64:=by kernel_rfl
theorem it3:intT TP 3=some .i64:=by kernel_rfl
theorem st3:isStrT TP 3=false:=by kernel_rfl
theorem ti4:tiOf TP 4=some ⟨.bool,1,1,[.bool false]⟩:=by kernel_rfl
theorem bt4:isBoolT TP 4=true:=by kernel_rfl
theorem ti5:tiOf TP 5=some ⟨.int .u8,1,1,[.int .u8 0]⟩:=by kernel_rfl
theorem ie5:intE TP 5=some .u8:=by kernel_rfl
theorem it5:intT TP 5=some .u8:=by kernel_rfl
theorem st5:isStrT TP 5=false:=by kernel_rfl
theorem ti6:tiOf TP 6=some ⟨.int .u8,1,1,[.int .u8 0]⟩:=by kernel_rfl
theorem ie6:intE TP 6=some .u8:=by kernel_rfl
theorem it6:intT TP 6=some .u8:=by kernel_rfl
theorem st6:isStrT TP 6=false:=by kernel_rfl
theorem ti8:tiOf TP 8=some ⟨.struct [(0,2,1),(1,3,1),(2,4,1),(3,6,1)],4,24,[.int .i64 0,.int .i64 0,.bool false,.int .u8 0]⟩:=by kernel_rfl
theorem sf8_0:structF TP 8 0=some (0,2,1):=by kernel_rfl
theorem sf8_1:structF TP 8 1=some (1,3,1):=by kernel_rfl
theorem sf8_2:structF TP 8 2=some (2,4,1):=by kernel_rfl
theorem sf8_3:structF TP 8 3=some (3,6,1):=by kernel_rfl
theorem ti9:tiOf TP 9=some ⟨.string,1,16,[.str .empty]⟩:=by kernel_rfl
theorem st9:isStrT TP 9=true:=by kernel_rfl
theorem ap9:appendable TP 9=true:=by kernel_rfl
theorem it9:intT TP 9=none:=by kernel_rfl
theorem ti10:tiOf TP 10=some ⟨.string,1,16,[.str .empty]⟩:=by kernel_rfl
theorem st10:isStrT TP 10=true:=by kernel_rfl
theorem ap10:appendable TP 10=true:=by kernel_rfl
theorem it10:intT TP 10=none:=by kernel_rfl
theorem ti11:tiOf TP 11=some ⟨.string,1,16,[.str .empty]⟩:=by kernel_rfl
theorem st11:isStrT TP 11=true:=by kernel_rfl
theorem ap11:appendable TP 11=true:=by kernel_rfl
theorem it11:intT TP 11=none:=by kernel_rfl
theorem ti12:tiOf TP 12=some ⟨.int .u64,1,8,[.int .u64 0]⟩:=by kernel_rfl
theorem ie12:intE TP 12=some .u64:=by kernel_rfl
theorem it12:intT TP 12=some .u64:=by kernel_rfl
theorem st12:isStrT TP 12=false:=by kernel_rfl
theorem ti14:tiOf TP 14=some ⟨.struct [(0,9,1),(1,12,1)],2,24,[.str .empty,.int .u64 0]⟩:=by kernel_rfl
theorem sf14_0:structF TP 14 0=some (0,9,1):=by kernel_rfl
theorem sf14_1:structF TP 14 1=some (1,12,1):=by kernel_rfl
theorem ti15:tiOf TP 15=some ⟨.ptr 228,1,8,[.nilp]⟩:=by kernel_rfl
theorem ti16:tiOf TP 16=some ⟨.ptr 231,1,8,[.nilp]⟩:=by kernel_rfl
theorem ti17:tiOf TP 17=some ⟨.ptr 238,1,8,[.nilp]⟩:=by kernel_rfl
theorem ti19:tiOf TP 19=some ⟨.struct [(0,17,1)],1,8,[.nilp]⟩:=by kernel_rfl
theorem sf19_0:structF TP 19 0=some (0,17,1):=by kernel_rfl
theorem ti20:tiOf TP 20=some ⟨.other,1,16,[.nili]⟩:=by kernel_rfl
theorem ti21:tiOf TP 21=some ⟨.int .i32,1,4,[.int .i32 0]⟩:=by kernel_rfl
theorem ie21:intE TP 21=some .i32:=by kernel_rfl
theorem it21:intT TP 21=some .i32:=by kernel_rfl
theorem st21:isStrT TP 21=false:=by kernel_rfl
theorem ti22:tiOf TP 22=some ⟨.slice 5,1,24,[.sl 0 true []]⟩:=by kernel_rfl
theorem se22:sliceElem TP 22=some (5,⟨.int .u8,1,1,[.int .u8 0]⟩):=by kernel_rfl
theorem sz22:isSliceT TP 22=true:=by kernel_rfl
theorem ap22:appendable TP 22=true:=by kernel_rfl
theorem st22:isStrT TP 22=false:=by kernel_rfl
theorem ti31:tiOf TP 31=some ⟨.ptr 85,1,8,[.nilp]⟩:=by kernel_rfl
theorem ti33:tiOf TP 33=some ⟨.array 2 9,2,32,[.str .empty,.str .empty]⟩:=by kernel_rfl
theorem se33:sliceElem TP 33=none:=by kernel_rfl
theorem ae33:arrayE TP 33=some (2,9,1):=by kernel_rfl
theorem ti36:tiOf TP 36=some ⟨.slice 33,1,24,[.sl 0 true []]⟩:=by kernel_rfl
theorem se36:sliceElem TP 36=some (33,⟨.array 2 9,2,32,[.str .empty,.str .empty]⟩):=by kernel_rfl
theorem sz36:isSliceT TP 36=true:=by kernel_rfl
theorem ap36:appendable TP 36=true:=by kernel_rfl
theorem st36:isStrT TP 36=false:=by kernel_rfl
theorem ti37:tiOf TP 37=some ⟨.slice 106,1,24,[.sl 0 true []]⟩:=by kernel_rfl
theorem se37:sliceElem TP 37=some (106,⟨.int .u32,1,4,[.int .u32 0]⟩):=by kernel_rfl
theorem sz37:isSliceT TP 37=true:=by kernel_rfl
theorem ap37:appendable TP 37=true:=by kernel_rfl
theorem st37:isStrT TP 37=false:=by kernel_rfl
theorem ti39:tiOf TP 39=some ⟨.struct [(0,4,1),(1,37,1)],2,32,[.bool false,.sl 0 true []]⟩:=by kernel_rfl
theorem sf39_0:structF TP 39 0=some (0,4,1):=by kernel_rfl
theorem sf39_1:structF TP 39 1=some (1,37,1):=by kernel_rfl
theorem ti41:tiOf TP 41=some ⟨.struct [(0,39,2),(2,39,2)],4,64,[.bool false,.sl 0 true [],.bool false,.sl 0 true []]⟩:=by kernel_rfl
theorem sf41_0:structF TP 41 0=some (0,39,2):=by kernel_rfl
theorem sf41_1:structF TP 41 1=some (2,39,2):=by kernel_rfl
theorem ti46:tiOf TP 46=some ⟨.slice 51,1,24,[.sl 0 true []]⟩:=by kernel_rfl
theorem se46:sliceElem TP 46=some (51,⟨.struct [(0,4,1),(1,9,1)],2,24,[.bool false,.str .empty]⟩):=by kernel_rfl
theorem sz46:isSliceT TP 46=true:=by kernel_rfl
theorem ap46:appendable TP 46=true:=by kernel_rfl
theorem st46:isStrT TP 46=false:=by kernel_rfl
theorem ti48:tiOf TP 48=some ⟨.struct [(0,9,1),(1,46,1)],2,40,[.str .empty,.sl 0 true []]⟩:=by kernel_rfl
theorem sf48_0:structF TP 48 0=some (0,9,1):=by kernel_rfl
theorem sf48_1:structF TP 48 1=some (1,46,1):=by kernel_rfl
theorem ti51:tiOf TP 51=some ⟨.struct [(0,4,1),(1,9,1)],2,24,[.bool false,.str .empty]⟩:=by kernel_rfl
theorem eq51:eqT TP 51=some [2,1]:=by kernel_rfl
theorem sf51_0:structF TP 51 0=some (0,4,1):=by kernel_rfl
theorem sf51_1:structF TP 51 1=some (1,9,1):=by kernel_rfl
theorem ti52:tiOf TP 52=some ⟨.slice 55,1,24,[.sl 0 true []]⟩:=by kernel_rfl
theorem se52:sliceElem TP 52=some (55,⟨.struct [(0,9,1),(1,3,1),(2,3,1)],3,32,[.str .empty,.int .i64 0,.int .i64 0]⟩):=by kernel_rfl
theorem sz52:isSliceT TP 52=true:=by kernel_rfl
theorem ap52:appendable TP 52=true:=by kernel_rfl
theorem st52:isStrT TP 52=false:=by kernel_rfl
theorem ti55:tiOf TP 55=some ⟨.struct [(0,9,1),(1,3,1),(2,3,1)],3,32,[.str .empty,.int .i64 0,.int .i64 0]⟩:=by kernel_rfl
theorem eq55:eqT TP 55=some [1,0,0]:=by kernel_rfl
theorem sf55_0:structF TP 55 0=some (0,9,1):=by kernel_rfl
theorem sf55_1:structF TP 55 1=some (1,3,1):=by kernel_rfl
theorem sf55_2:structF TP 55 2=some (2,3,1):=by kernel_rfl
theorem ti56:tiOf TP 56=some ⟨.int .i64,1,8,[.int .i64 0]⟩:=by kernel_rfl
theorem ie56:intE TP 56=some .i64:=by kernel_rfl
theorem it56:intT TP 56=some .i64:=by kernel_rfl
theorem st56:isStrT TP 56=false:=by kernel_rfl
theorem ti61:tiOf TP 61=some ⟨.slice 9,1,24,[.sl 0 true []]⟩:=by kernel_rfl
theorem se61:sliceElem TP 61=some (9,⟨.string,1,16,[.str .empty]⟩):=by kernel_rfl
theorem sz61:isSliceT TP 61=true:=by kernel_rfl
theorem ap61:appendable TP 61=true:=by kernel_rfl
theorem st61:isStrT TP 61=false:=by kernel_rfl
theorem ti62:tiOf TP 62=some ⟨.slice 3,1,24,[.sl 0 true []]⟩:=by kernel_rfl
theorem se62:sliceElem TP 62=some (3,⟨.int .i64,1,8,[.int .i64 0]⟩):=by kernel_rfl
theorem sz62:isSliceT TP 62=true:=by kernel_rfl
theorem ap62:appendable TP 62=true:=by kernel_rfl
theorem st62:isStrT TP 62=false:=by kernel_rfl
theorem ti65:tiOf TP 65=some ⟨.slice 48,1,24,[.sl 0 true []]⟩:=by kernel_rfl
theorem se65:sliceElem TP 65=some (48,⟨.struct [(0,9,1),(1,46,1)],2,40,[.str .empty,.sl 0 true []]⟩):=by kernel_rfl
theorem sz65:isSliceT TP 65=true:=by kernel_rfl
theorem ap65:appendable TP 65=true:=by kernel_rfl
theorem st65:isStrT TP 65=false:=by kernel_rfl
theorem ti71:tiOf TP 71=some ⟨.slice 41,1,24,[.sl 0 true []]⟩:=by kernel_rfl
theorem se71:sliceElem TP 71=some (41,⟨.struct [(0,39,2),(2,39,2)],4,64,[.bool false,.sl 0 true [],.bool false,.sl 0 true []]⟩):=by kernel_rfl
theorem sz71:isSliceT TP 71=true:=by kernel_rfl
theorem ap71:appendable TP 71=true:=by kernel_rfl
theorem st71:isStrT TP 71=false:=by kernel_rfl
theorem ti76:tiOf TP 76=some ⟨.func,1,8,[.nilf]⟩:=by kernel_rfl
theorem ti77:tiOf TP 77=some ⟨.func,1,8,[.nilf]⟩:=by kernel_rfl
theorem ti79:tiOf TP 79=some ⟨.struct [(0,9,1),(1,76,1),(2,77,1)],3,32,[.str .empty,.nilf,.nilf]⟩:=by kernel_rfl
theorem zo79:zeroOf TP 79=some (.agg [.str .empty,.nilf,.nilf]):=by kernel_rfl
theorem sf79_0:structF TP 79 0=some (0,9,1):=by kernel_rfl
theorem sf79_1:structF TP 79 1=some (1,76,1):=by kernel_rfl
theorem sf79_2:structF TP 79 2=some (2,77,1):=by kernel_rfl
theorem ti81:tiOf TP 81=some ⟨.map 3 79,1,8,[.nilm]⟩:=by kernel_rfl
theorem ti85:tiOf TP 85=some ⟨.struct [(0,22,1),(1,3,1)],2,32,[.sl 0 true [],.int .i64 0]⟩:=by kernel_rfl
theorem sf85_0:structF TP 85 0=some (0,22,1):=by kernel_rfl
theorem sf85_1:structF TP 85 1=some (1,3,1):=by kernel_rfl
theorem ti90:tiOf TP 90=some ⟨.array 5 3,5,40,[.int .i64 0,.int .i64 0,.int .i64 0,.int .i64 0,.int .i64 0]⟩:=by kernel_rfl
theorem se90:sliceElem TP 90=none:=by kernel_rfl
theorem ae90:arrayE TP 90=some (5,3,1):=by kernel_rfl
theorem ti92:tiOf TP 92=some ⟨.func,1,8,[.nilf]⟩:=by kernel_rfl
theorem ti94:tiOf TP 94=some ⟨.func,1,8,[.nilf]⟩:=by kernel_rfl
theorem ti106:tiOf TP 106=some ⟨.int .u32,1,4,[.int .u32 0]⟩:=by kernel_rfl
theorem ie106:intE TP 106=some .u32:=by kernel_rfl
theorem it106:intT TP 106=some .u32:=by kernel_rfl
theorem st106:isStrT TP 106=false:=by kernel_rfl
theorem ti121:tiOf TP 121=some ⟨.slice 106,1,24,[.sl 0 true []]⟩:=by kernel_rfl
theorem se121:sliceElem TP 121=some (106,⟨.int .u32,1,4,[.int .u32 0]⟩):=by kernel_rfl
theorem sz121:isSliceT TP 121=true:=by kernel_rfl
theorem ap121:appendable TP 121=true:=by kernel_rfl
theorem st121:isStrT TP 121=false:=by kernel_rfl
theorem ti124:tiOf TP 124=some ⟨.int .u64,1,8,[.int .u64 0]⟩:=by kernel_rfl
theorem ie124:intE TP 124=some .u64:=by kernel_rfl
theorem it124:intT TP 124=some .u64:=by kernel_rfl
theorem st124:isStrT TP 124=false:=by kernel_rfl
theorem ti127:tiOf TP 127=some ⟨.ptr 9,1,8,[.nilp]⟩:=by kernel_rfl
theorem ti128:tiOf TP 128=some ⟨.array 3 127,3,24,[.nilp,.nilp,.nilp]⟩:=by kernel_rfl
theorem se128:sliceElem TP 128=none:=by kernel_rfl
theorem ae128:arrayE TP 128=some (3,127,1):=by kernel_rfl
theorem ti129:tiOf TP 129=some ⟨.struct [(0,9,1),(1,128,3)],4,40,[.str .empty,.nilp,.nilp,.nilp]⟩:=by kernel_rfl
theorem sf129_0:structF TP 129 0=some (0,9,1):=by kernel_rfl
theorem sf129_1:structF TP 129 1=some (1,128,3):=by kernel_rfl
theorem ti130:tiOf TP 130=some ⟨.slice 129,1,24,[.sl 0 true []]⟩:=by kernel_rfl
theorem se130:sliceElem TP 130=some (129,⟨.struct [(0,9,1),(1,128,3)],4,40,[.str .empty,.nilp,.nilp,.nilp]⟩):=by kernel_rfl
theorem sz130:isSliceT TP 130=true:=by kernel_rfl
theorem ap130:appendable TP 130=true:=by kernel_rfl
theorem st130:isStrT TP 130=false:=by kernel_rfl
theorem ti133:tiOf TP 133=some ⟨.array 3 3,3,24,[.int .i64 0,.int .i64 0,.int .i64 0]⟩:=by kernel_rfl
theorem se133:sliceElem TP 133=none:=by kernel_rfl
theorem ae133:arrayE TP 133=some (3,3,1):=by kernel_rfl
theorem ti135:tiOf TP 135=some ⟨.other,1,16,[.nili]⟩:=by kernel_rfl
theorem ti140:tiOf TP 140=some ⟨.array 256 4,256,256,[.bool false,.bool false,.bool false,.bool false,.bool false,.bool false,.bool false,.bool false,.bool false,.bool false,.bool false,.bool false,.bool false,.bool false,.bool false,.bool false,.bool false,.bool false,.bool false,.bool false,.bool false,.bool false,.bool false,.bool false,.bool false,.bool false,.bool false,.bool false,.bool false,.bool false,.bool false,.bool false,.bool false,.bool false,.bool false,.bool false,.bool false,.bool false,.bool false,.bool false,.bool false,.bool false,.bool false,.bool false,.bool false,.bool false,.bool false,.bool false,.bool false,.bool false,.bool false,.bool false,.bool false,.bool false,.bool false,.bool false,.bool false,.bool false,.bool false,.bool false,.bool false,.bool false,.bool false,.bool false,.bool false,.bool false,.bool false,.bool false,.bool false,.bool false,.bool false,.bool false,.bool false,.bool false,.bool false,.bool false,.bool false,.bool false,.bool false,.bool false,.bool false,.bool false,.bool false,.bool false,.bool false,.bool false,.bool false,.bool false,.bool false,.bool false,.bool false,.bool false,.bool false,.bool false,.bool false,.bool false,.bool false,.bool false,.bool false,.bool false,.bool false,.bool false,.bool false,.bool false,.bool false,.bool false,.bool false,.bool false,.bool false,.bool false,.bool false,.bool false,.bool false,.bool false,.bool false,.bool false,.bool false,.bool false,.bool false,.bool false,.bool false,.bool false,.bool false,.bool false,.bool false,.bool false,.bool false,.bool false,.bool false,.bool false,.bool false,.bool false,.bool false,.bool false,.bool false,.bool false,.bool false,.bool false,.bool false,.bool false,.bool false,.bool false,.bool false,.bool false,.bool false,.bool false,.bool false,.bool false,.bool false,.bool false,.bool false,.bool false,.bool false,.bool false,.bool false,.bool false,.bool false,.bool false,.bool false,.bool false,.bool false,.bool false,.bool false,.bool false,.bool false,.bool false,.bool false,.bool false,.bool false,.bool false,.bool false,.bool false,.bool false,.bool false,.bool false,.bool false,.bool false,.bool false,.bool false,.bool false,.bool false,.bool false,.bool false,.bool false,.bool false,.bool false,.bool false,.bool false,.bool false,.bool false,.bool false,.bool false,.bool false,.bool false,.bool false,.bool false,.bool false,.bool false,.bool false,.bool false,.bool false,.bool false,.bool false,.bool false,.bool false,.bool false,.bool false,.bool false,.bool false,.bool false,.bool false,.bool false,.bool false,.bool false,.bool false,.bool false,.bool false,.bool false,.bool false,.bool false,.bool false,.bool false,.bool false,.bool false,.bool false,.bool false,.bool false,.bool false,.bool false,.bool false,.bool false,.bool false,.bool false,.bool false,.bool false,.bool false,.bool false,.bool false,.bool false,.bool false,.bool false,.bool false,.bool false,.bool false,.bool false,.bool false,.bool false,.bool false,.bool false,.bool false,.bool false,.bool false,.bool false,.bool false,.bool false,.bool false]⟩:=by kernel_rfl
theorem se140:sliceElem TP 140=none:=by kernel_rfl
theorem ae140:arrayE TP 140=some (256,4,1):=by kernel_rfl
theorem ti144:tiOf TP 144=some ⟨.ptr 140,1,8,[.nilp]⟩:=by kernel_rfl
theorem ti148:tiOf TP 148=some ⟨.int .u64,1,8,[.int .u64 0]⟩:=by kernel_rfl
theorem ie148:intE TP 148=some .u64:=by kernel_rfl
theorem it148:intT TP 148=some .u64:=by kernel_rfl
theorem st148:isStrT TP 148=false:=by kernel_rfl
theorem ti166:tiOf TP 166=some ⟨.array 24 5,24,24,[.int .u8 0,.int .u8 0,.int .u8 0,.int .u8 0,.int .u8 0,.int .u8 0,.int .u8 0,.int .u8 0,.int .u8 0,.int .u8 0,.int .u8 0,.int .u8 0,.int .u8 0,.int .u8 0,.int .u8 0,.int .u8 0,.int .u8 0,.int .u8 0,.int .u8 0,.int .u8 0,.int .u8 0,.int .u8 0,.int .u8 0,.int .u8 0]⟩:=by kernel_rfl
theorem se166:sliceElem TP 166=none:=by kernel_rfl
theorem ae166:arrayE TP 166=some (24,5,1):=by kernel_rfl
theorem ti181:tiOf TP 181=some ⟨.ptr 183,1,8,[.nilp]⟩:=by kernel_rfl
theorem ti183:tiOf TP 183=some ⟨.struct [(0,181,1),(1,22,1)],2,32,[.nilp,.sl 0 true []]⟩:=by kernel_rfl
theorem sf183_0:structF TP 183 0=some (0,181,1):=by kernel_rfl
theorem sf183_1:structF TP 183 1=some (1,22,1):=by kernel_rfl
theorem ti186:tiOf TP 186=some ⟨.int .i64,1,8,[.int .i64 0]⟩:=by kernel_rfl
theorem ie186:intE TP 186=some .i64:=by kernel_rfl
theorem it186:intT TP 186=some .i64:=by kernel_rfl
theorem st186:isStrT TP 186=false:=by kernel_rfl
theorem ti189:tiOf TP 189=some ⟨.ptr 207,1,8,[.nilp]⟩:=by kernel_rfl
theorem ti194:tiOf TP 194=some ⟨.array 20 124,20,160,[.int .u64 0,.int .u64 0,.int .u64 0,.int .u64 0,.int .u64 0,.int .u64 0,.int .u64 0,.int .u64 0,.int .u64 0,.int .u64 0,.int .u64 0,.int .u64 0,.int .u64 0,.int .u64 0,.int .u64 0,.int .u64 0,.int .u64 0,.int .u64 0,.int .u64 0,.int .u64 0]⟩:=by kernel_rfl
theorem se194:sliceElem TP 194=none:=by kernel_rfl
theorem ae194:arrayE TP 194=some (20,124,1):=by kernel_rfl
theorem ti195:tiOf TP 195=some ⟨.array 65 5,65,65,[.int .u8 0,.int .u8 0,.int .u8 0,.int .u8 0,.int .u8 0,.int .u8 0,.int .u8 0,.int .u8 0,.int .u8 0,.int .u8 0,.int .u8 0,.int .u8 0,.int .u8 0,.int .u8 0,.int .u8 0,.int .u8 0,.int .u8 0,.int .u8 0,.int .u8 0,.int .u8 0,.int .u8 0,.int .u8 0,.int .u8 0,.int .u8 0,.int .u8 0,.int .u8 0,.int .u8 0,.int .u8 0,.int .u8 0,.int .u8 0,.int .u8 0,.int .u8 0,.int .u8 0,.int .u8 0,.int .u8 0,.int .u8 0,.int .u8 0,.int .u8 0,.int .u8 0,.int .u8 0,.int .u8 0,.int .u8 0,.int .u8 0,.int .u8 0,.int .u8 0,.int .u8 0,.int .u8 0,.int .u8 0,.int .u8 0,.int .u8 0,.int .u8 0,.int .u8 0,.int .u8 0,.int .u8 0,.int .u8 0,.int .u8 0,.int .u8 0,.int .u8 0,.int .u8 0,.int .u8 0,.int .u8 0,.int .u8 0,.int .u8 0,.int .u8 0,.int .u8 0]⟩:=by kernel_rfl
theorem se195:sliceElem TP 195=none:=by kernel_rfl
theorem ae195:arrayE TP 195=some (65,5,1):=by kernel_rfl
theorem ti203:tiOf TP 203=some ⟨.ptr 5,1,8,[.nilp]⟩:=by kernel_rfl
theorem ti207:tiOf TP 207=some ⟨.struct [(0,9,1),(1,9,1),(2,135,1)],3,48,[.str .empty,.str .empty,.nili]⟩:=by kernel_rfl
theorem sf207_0:structF TP 207 0=some (0,9,1):=by kernel_rfl
theorem sf207_1:structF TP 207 1=some (1,9,1):=by kernel_rfl
theorem sf207_2:structF TP 207 2=some (2,135,1):=by kernel_rfl
theorem ti209:tiOf TP 209=some ⟨.array 256 5,256,256,[.int .u8 0,.int .u8 0,.int .u8 0,.int .u8 0,.int .u8 0,.int .u8 0,.int .u8 0,.int .u8 0,.int .u8 0,.int .u8 0,.int .u8 0,.int .u8 0,.int .u8 0,.int .u8 0,.int .u8 0,.int .u8 0,.int .u8 0,.int .u8 0,.int .u8 0,.int .u8 0,.int .u8 0,.int .u8 0,.int .u8 0,.int .u8 0,.int .u8 0,.int .u8 0,.int .u8 0,.int .u8 0,.int .u8 0,.int .u8 0,.int .u8 0,.int .u8 0,.int .u8 0,.int .u8 0,.int .u8 0,.int .u8 0,.int .u8 0,.int .u8 0,.int .u8 0,.int .u8 0,.int .u8 0,.int .u8 0,.int .u8 0,.int .u8 0,.int .u8 0,.int .u8 0,.int .u8 0,.int .u8 0,.int .u8 0,.int .u8 0,.int .u8 0,.int .u8 0,.int .u8 0,.int .u8 0,.int .u8 0,.int .u8 0,.int .u8 0,.int .u8 0,.int .u8 0,.int .u8 0,.int .u8 0,.int .u8 0,.int .u8 0,.int .u8 0,.int .u8 0,.int .u8 0,.int .u8 0,.int .u8 0,.int .u8 0,.int .u8 0,.int .u8 0,.int .u8 0,.int .u8 0,.int .u8 0,.int .u8 0,.int .u8 0,.int .u8 0,.int .u8 0,.int .u8 0,.int .u8 0,.int .u8 0,.int .u8 0,.int .u8 0,.int .u8 0,.int .u8 0,.int .u8 0,.int .u8 0,.int .u8 0,.int .u8 0,.int .u8 0,.int .u8 0,.int .u8 0,.int .u8 0,.int .u8 0,.int .u8 0,.int .u8 0,.int .u8 0,.int .u8 0,.int .u8 0,.int .u8 0,.int .u8 0,.int .u8 0,.int .u8 0,.int .u8 0,.int .u8 0,.int .u8 0,.int .u8 0,.int .u8 0,.int .u8 0,.int .u8 0,.int .u8 0,.int .u8 0,.int .u8 0,.int .u8 0,.int .u8 0,.int .u8 0,.int .u8 0,.int .u8 0,.int .u8 0,.int .u8 0,.int .u8 0,.int .u8 0,.int .u8 0,.int .u8 0,.int .u8 0,.int .u8 0,.int .u8 0,.int .u8 0,.int .u8 0,.int .u8 0,.int .u8 0,.int .u8 0,.int .u8 0,.int .u8 0,.int .u8 0,.int .u8 0,.int .u8 0,.int .u8 0,.int .u8 0,.int .u8 0,.int .u8 0,.int .u8 0,.int .u8 0,.int .u8 0,.int .u8 0,.int .u8 0,.int .u8 0,.int .u8 0,.int .u8 0,.int .u8 0,.int .u8 0,.int .u8 0,.int .u8 0,.int .u8 0,.int .u8 0,.int .u8 0,.int .u8 0,.int .u8 0,.int .u8 0,.int .u8 0,.int .u8 0,.int .u8 0,.int .u8 0,.int .u8 0,.int .u8 0,.int .u8 0,.int .u8 0,.int .u8 0,.int .u8 0,.int .u8 0,.int .u8 0,.int .u8 0,.int .u8 0,.int .u8 0,.int .u8 0,.int .u8 0,.int .u8 0,.int .u8 0,.int .u8 0,.int .u8 0,.int .u8 0,.int .u8 0,.int .u8 0,.int .u8 0,.int .u8 0,.int .u8 0,.int .u8 0,.int .u8 0,.int .u8 0,.int .u8 0,.int .u8 0,.int .u8 0,.int .u8 0,.int .u8 0,.int .u8 0,.int .u8 0,.int .u8 0,.int .u8 0,.int .u8 0,.int .u8 0,.int .u8 0,.int .u8 0,.int .u8 0,.int .u8 0,.int .u8 0,.int .u8 0,.int .u8 0,.int .u8 0,.int .u8 0,.int .u8 0,.int .u8 0,.int .u8 0,.int .u8 0,.int .u8 0,.int .u8 0,.int .u8 0,.int .u8 0,.int .u8 0,.int .u8 0,.int .u8 0,.int .u8 0,.int .u8 0,.int .u8 0,.int .u8 0,.int .u8 0,.int .u8 0,.int .u8 0,.int .u8 0,.int .u8 0,.int .u8 0,.int .u8 0,.int .u8 0,.int .u8 0,.int .u8 0,.int .u8 0,.int .u8 0,.int .u8 0,.int .u8 0,.int .u8 0,.int .u8 0,.int .u8 0,.int .u8 0,.int .u8 0,.int .u8 0,.int .u8 0,.int .u8 0,.int .u8 0,.int .u8 0,.int .u8 0,.int .u8 0,.int .u8 0,.int .u8 0,.int .u8 0,.int .u8 0,.int .u8 0,.int .u8 0]⟩:=by kernel_rfl
theorem se209:sliceElem TP 209=none:=by kernel_rfl
theorem ae209:arrayE TP 209=some (256,5,1):=by kernel_rfl
theorem ti211:tiOf TP 211=some ⟨.struct [(0,5,1),(1,5,1)],2,2,[.int .u8 0,.int .u8 0]⟩:=by kernel_rfl
theorem sf211_0:structF TP 211 0=some (0,5,1):=by kernel_rfl
theorem sf211_1:structF TP 211 1=some (1,5,1):=by kernel_rfl
theorem ti212:tiOf TP 212=some ⟨.array 16 211,32,32,[.int .u8 0,.int .u8 0,.int .u8 0,.int .u8 0,.int .u8 0,.int .u8 0,.int .u8 0,.int .u8 0,.int .u8 0,.int .u8 0,.int .u8 0,.int .u8 0,.int .u8 0,.int .u8 0,.int .u8 0,.int .u8 0,.int .u8 0,.int .u8 0,.int .u8 0,.int .u8 0,.int .u8 0,.int .u8 0,.int .u8 0,.int .u8 0,.int .u8 0,.int .u8 0,.int .u8 0,.int .u8 0,.int .u8 0,.int .u8 0,.int .u8 0,.int .u8 0]⟩:=by kernel_rfl
theorem se212:sliceElem TP 212=none:=by kernel_rfl
theorem ae212:arrayE TP 212=some (16,211,2):=by kernel_rfl
theorem ti214:tiOf TP 214=some ⟨.slice 39,1,24,[.sl 0 true []]⟩:=by kernel_rfl
theorem se214:sliceElem TP 214=some (39,⟨.struct [(0,4,1),(1,37,1)],2,32,[.bool false,.sl 0 true []]⟩):=by kernel_rfl
theorem sz214:isSliceT TP 214=true:=by kernel_rfl
theorem ap214:appendable TP 214=true:=by kernel_rfl
theorem st214:isStrT TP 214=false:=by kernel_rfl
theorem ti222:tiOf TP 222=some ⟨.ptr 224,1,8,[.nilp]⟩:=by kernel_rfl
theorem ti224:tiOf TP 224=some ⟨.struct [(0,9,1)],1,16,[.str .empty]⟩:=by kernel_rfl
theorem sf224_0:structF TP 224 0=some (0,9,1):=by kernel_rfl
theorem ti225:tiOf TP 225=some ⟨.array 32 5,32,32,[.int .u8 0,.int .u8 0,.int .u8 0,.int .u8 0,.int .u8 0,.int .u8 0,.int .u8 0,.int .u8 0,.int .u8 0,.int .u8 0,.int .u8 0,.int .u8 0,.int .u8 0,.int .u8 0,.int .u8 0,.int .u8 0,.int .u8 0,.int .u8 0,.int .u8 0,.int .u8 0,.int .u8 0,.int .u8 0,.int .u8 0,.int .u8 0,.int .u8 0,.int .u8 0,.int .u8 0,.int .u8 0,.int .u8 0,.int .u8 0,.int .u8 0,.int .u8 0]⟩:=by kernel_rfl
theorem se225:sliceElem TP 225=none:=by kernel_rfl
theorem ae225:arrayE TP 225=some (32,5,1):=by kernel_rfl
theorem ti226:tiOf TP 226=some ⟨.array 64 5,64,64,[.int .u8 0,.int .u8 0,.int .u8 0,.int .u8 0,.int .u8 0,.int .u8 0,.int .u8 0,.int .u8 0,.int .u8 0,.int .u8 0,.int .u8 0,.int .u8 0,.int .u8 0,.int .u8 0,.int .u8 0,.int .u8 0,.int .u8 0,.int .u8 0,.int .u8 0,.int .u8 0,.int .u8 0,.int .u8 0,.int .u8 0,.int .u8 0,.int .u8 0,.int .u8 0,.int .u8 0,.int .u8 0,.int .u8 0,.int .u8 0,.int .u8 0,.int .u8 0,.int .u8 0,.int .u8 0,.int .u8 0,.int .u8 0,.int .u8 0,.int .u8 0,.int .u8 0,.int .u8 0,.int .u8 0,.int .u8 0,.int .u8 0,.int .u8 0,.int .u8 0,.int .u8 0,.int .u8 0,.int .u8 0,.int .u8 0,.int .u8 0,.int .u8 0,.int .u8 0,.int .u8 0,.int .u8 0,.int .u8 0,.int .u8 0,.int .u8 0,.int .u8 0,.int .u8 0,.int .u8 0,.int .u8 0,.int .u8 0,.int .u8 0,.int .u8 0]⟩:=by kernel_rfl
theorem se226:sliceElem TP 226=none:=by kernel_rfl
theorem ae226:arrayE TP 226=some (64,5,1):=by kernel_rfl
theorem ti228:tiOf TP 228=some ⟨.struct [(0,17,1),(1,17,1),(2,17,1),(3,9,1)],4,40,[.nilp,.nilp,.nilp,.str .empty]⟩:=by kernel_rfl
theorem sf228_0:structF TP 228 0=some (0,17,1):=by kernel_rfl
theorem sf228_1:structF TP 228 1=some (1,17,1):=by kernel_rfl
theorem sf228_2:structF TP 228 2=some (2,17,1):=by kernel_rfl
theorem sf228_3:structF TP 228 3=some (3,9,1):=by kernel_rfl
theorem ti229:tiOf TP 229=some ⟨.array 0 16,0,0,[]⟩:=by kernel_rfl
theorem se229:sliceElem TP 229=none:=by kernel_rfl
theorem ae229:arrayE TP 229=some (0,16,1):=by kernel_rfl
theorem ti231:tiOf TP 231=some ⟨.struct [(0,229,0)],0,0,[]⟩:=by kernel_rfl
theorem sf231_0:structF TP 231 0=some (0,229,0):=by kernel_rfl
theorem ti232:tiOf TP 232=some ⟨.int .u8,1,1,[.int .u8 0]⟩:=by kernel_rfl
theorem ie232:intE TP 232=some .u8:=by kernel_rfl
theorem it232:intT TP 232=some .u8:=by kernel_rfl
theorem st232:isStrT TP 232=false:=by kernel_rfl
theorem ti233:tiOf TP 233=some ⟨.int .u8,1,1,[.int .u8 0]⟩:=by kernel_rfl
theorem ie233:intE TP 233=some .u8:=by kernel_rfl
theorem it233:intT TP 233=some .u8:=by kernel_rfl
theorem st233:isStrT TP 233=false:=by kernel_rfl
theorem ti234:tiOf TP 234=some ⟨.func,1,8,[.nilf]⟩:=by kernel_rfl
theorem ti235:tiOf TP 235=some ⟨.int .i32,1,4,[.int .i32 0]⟩:=by kernel_rfl
theorem ie235:intE TP 235=some .i32:=by kernel_rfl
theorem it235:intT TP 235=some .i32:=by kernel_rfl
theorem st235:isStrT TP 235=false:=by kernel_rfl
theorem ti236:tiOf TP 236=some ⟨.int .i32,1,4,[.int .i32 0]⟩:=by kernel_rfl
theorem ie236:intE TP 236=some .i32:=by kernel_rfl
theorem it236:intT TP 236=some .i32:=by kernel_rfl
theorem st236:isStrT TP 236=false:=by kernel_rfl
theorem ti238:tiOf TP 238=some ⟨.struct [(0,12,1),(1,12,1),(2,106,1),(3,232,1),(4,5,1),(5,5,1),(6,233,1),(7,234,1),(8,203,1),(9,235,1),(10,236,1)],11,48,[.int .u64 0,.int .u64 0,.int .u32 0,.int .u8 0,.int .u8 0,.int .u8 0,.int .u8 0,.nilf,.nilp,.int .i32 0,.int .i32 0]⟩:=by kernel_rfl
theorem sf238_0:structF TP 238 0=some (0,12,1):=by kernel_rfl
theorem sf238_1:structF TP 238 1=some (1,12,1):=by kernel_rfl
theorem sf238_2:structF TP 238 2=some (2,106,1):=by kernel_rfl
theorem sf238_3:structF TP 238 3=some (3,232,1):=by kernel_rfl
theorem sf238_4:structF TP 238 4=some (4,5,1):=by kernel_rfl
theorem sf238_5:structF TP 238 5=some (5,5,1):=by kernel_rfl
theorem sf238_6:structF TP 238 6=some (6,233,1):=by kernel_rfl
theorem sf238_7:structF TP 238 7=some (7,234,1):=by kernel_rfl
theorem sf238_8:structF TP 238 8=some (8,203,1):=by kernel_rfl
theorem sf238_9:structF TP 238 9=some (9,235,1):=by kernel_rfl
theorem sf238_10:structF TP 238 10=some (10,236,1):=by kernel_rfl
theorem gf76:funT TP 76=true:=by kernel_rfl
theorem if135:ifcT TP 135=true:=by kernel_rfl
theorem go6:goFn TP 6=true:=by kernel_rfl
theorem go8:goFn TP 8=true:=by kernel_rfl
theorem go10:goFn TP 10=true:=by kernel_rfl
theorem go12:goFn TP 12=true:=by kernel_rfl
theorem go13:goFn TP 13=true:=by kernel_rfl
theorem go14:goFn TP 14=true:=by kernel_rfl
theorem go15:goFn TP 15=true:=by kernel_rfl
theorem go16:goFn TP 16=true:=by kernel_rfl
theorem go17:goFn TP 17=true:=by kernel_rfl
theorem go19:goFn TP 19=true:=by kernel_rfl
theorem go20:goFn TP 20=true:=by kernel_rfl
theorem go21:goFn TP 21=true:=by kernel_rfl
theorem go22:goFn TP 22=true:=by kernel_rfl
theorem go23:goFn TP 23=true:=by kernel_rfl
theorem go24:goFn TP 24=true:=by kernel_rfl
theorem go25:goFn TP 25=true:=by kernel_rfl
theorem go26:goFn TP 26=true:=by kernel_rfl
theorem go27:goFn TP 27=true:=by kernel_rfl
theorem go28:goFn TP 28=true:=by kernel_rfl
theorem go29:goFn TP 29=true:=by kernel_rfl
theorem go30:goFn TP 30=true:=by kernel_rfl
theorem go31:goFn TP 31=true:=by kernel_rfl
theorem go32:goFn TP 32=true:=by kernel_rfl
theorem go33:goFn TP 33=true:=by kernel_rfl
theorem go34:goFn TP 34=true:=by kernel_rfl
theorem go36:goFn TP 36=true:=by kernel_rfl
theorem go37:goFn TP 37=true:=by kernel_rfl
theorem go38:goFn TP 38=true:=by kernel_rfl
theorem go39:goFn TP 39=true:=by kernel_rfl
theorem go40:goFn TP 40=true:=by kernel_rfl
theorem go41:goFn TP 41=true:=by kernel_rfl
theorem go42:goFn TP 42=true:=by kernel_rfl
theorem go43:goFn TP 43=true:=by kernel_rfl
theorem go45:goFn TP 45=true:=by kernel_rfl
theorem go46:goFn TP 46=true:=by kernel_rfl
theorem go47:goFn TP 47=true:=by kernel_rfl
theorem go48:goFn TP 48=true:=by kernel_rfl
theorem go49:goFn TP 49=true:=by kernel_rfl
theorem go50:goFn TP 50=true:=by kernel_rfl
theorem go51:goFn TP 51=true:=by kernel_rfl
theorem go52:goFn TP 52=true:=by kernel_rfl
theorem go53:goFn TP 53=true:=by kernel_rfl
theorem go54:goFn TP 54=true:=by kernel_rfl
theorem go55:goFn TP 55=true:=by kernel_rfl
theorem go56:goFn TP 56=true:=by kernel_rfl
theorem go57:goFn TP 57=true:=by kernel_rfl
theorem go58:goFn TP 58=true:=by kernel_rfl
theorem go59:goFn TP 59=true:=by kernel_rfl
theorem go60:goFn TP 60=true:=by kernel_rfl
theorem go61:goFn TP 61=true:=by kernel_rfl
theorem go62:goFn TP 62=true:=by kernel_rfl
theorem go63:goFn TP 63=true:=by kernel_rfl
theorem go64:goFn TP 64=true:=by kernel_rfl
theorem go65:goFn TP 65=true:=by kernel_rfl
theorem go66:goFn TP 66=true:=by kernel_rfl
theorem go67:goFn TP 67=true:=by kernel_rfl
theorem go68:goFn TP 68=true:=by kernel_rfl
theorem go69:goFn TP 69=true:=by kernel_rfl
theorem go70:goFn TP 70=true:=by kernel_rfl
theorem go71:goFn TP 71=true:=by kernel_rfl
theorem go72:goFn TP 72=true:=by kernel_rfl
theorem go73:goFn TP 73=true:=by kernel_rfl
theorem go74:goFn TP 74=true:=by kernel_rfl
theorem go75:goFn TP 75=true:=by kernel_rfl
theorem go76:goFn TP 76=true:=by kernel_rfl
theorem go77:goFn TP 77=true:=by kernel_rfl
theorem go78:goFn TP 78=true:=by kernel_rfl
theorem go79:goFn TP 79=true:=by kernel_rfl
theorem go80:goFn TP 80=true:=by kernel_rfl
theorem go81:goFn TP 81=true:=by kernel_rfl
theorem go82:goFn TP 82=true:=by kernel_rfl
theorem go83:goFn TP 83=true:=by kernel_rfl
theorem go84:goFn TP 84=true:=by kernel_rfl
theorem go85:goFn TP 85=true:=by kernel_rfl
theorem go86:goFn TP 86=true:=by kernel_rfl
theorem go87:goFn TP 87=true:=by kernel_rfl
theorem go88:goFn TP 88=true:=by kernel_rfl
theorem go89:goFn TP 89=true:=by kernel_rfl
theorem go90:goFn TP 90=true:=by kernel_rfl
theorem go91:goFn TP 91=true:=by kernel_rfl
theorem go92:goFn TP 92=true:=by kernel_rfl
theorem go93:goFn TP 93=true:=by kernel_rfl
theorem go94:goFn TP 94=true:=by kernel_rfl
theorem go95:goFn TP 95=true:=by kernel_rfl
theorem go96:goFn TP 96=true:=by kernel_rfl
theorem go97:goFn TP 97=true:=by kernel_rfl
theorem go98:goFn TP 98=true:=by kernel_rfl
theorem go99:goFn TP 99=true:=by kernel_rfl
theorem go100:goFn TP 100=true:=by kernel_rfl
theorem go101:goFn TP 101=true:=by kernel_rfl
theorem go102:goFn TP 102=true:=by kernel_rfl
theorem go103:goFn TP 103=true:=by kernel_rfl
theorem go104:goFn TP 104=true:=by kernel_rfl
theorem go105:goFn TP 105=true:=by kernel_rfl
theorem go106:goFn TP 106=true:=by kernel_rfl
theorem go107:goFn TP 107=true:=by kernel_rfl
theorem go108:goFn TP 108=true:=by kernel_rfl
theorem go109:goFn TP 109=true:=by kernel_rfl
theorem go110:goFn TP 110=true:=by kernel_rfl
theorem go113:goFn TP 113=true:=by kernel_rfl
theorem go114:goFn TP 114=true:=by kernel_rfl
theorem go115:goFn TP 115=true:=by kernel_rfl
theorem go118:goFn TP 118=true:=by kernel_rfl
theorem go119:goFn TP 119=true:=by kernel_rfl
theorem go120:goFn TP 120=true:=by kernel_rfl
theorem go121:goFn TP 121=true:=by kernel_rfl
theorem go122:goFn TP 122=true:=by kernel_rfl
theorem go124:goFn TP 124=true:=by kernel_rfl
theorem go125:goFn TP 125=true:=by kernel_rfl
theorem go126:goFn TP 126=true:=by kernel_rfl
theorem go127:goFn TP 127=true:=by kernel_rfl
theorem go128:goFn TP 128=true:=by kernel_rfl
theorem go129:goFn TP 129=true:=by kernel_rfl
theorem go130:goFn TP 130=true:=by kernel_rfl
theorem go131:goFn TP 131=true:=by kernel_rfl
theorem go132:goFn TP 132=true:=by kernel_rfl
theorem go133:goFn TP 133=true:=by kernel_rfl
theorem go134:goFn TP 134=true:=by kernel_rfl
theorem go135:goFn TP 135=true:=by kernel_rfl
theorem go136:goFn TP 136=true:=by kernel_rfl
theorem go139:goFn TP 139=true:=by kernel_rfl
theorem go143:goFn TP 143=true:=by kernel_rfl
theorem go144:goFn TP 144=true:=by kernel_rfl
theorem go145:goFn TP 145=true:=by kernel_rfl
theorem go148:goFn TP 148=true:=by kernel_rfl
theorem go149:goFn TP 149=true:=by kernel_rfl
theorem go150:goFn TP 150=true:=by kernel_rfl
theorem go151:goFn TP 151=true:=by kernel_rfl
theorem go152:goFn TP 152=true:=by kernel_rfl
theorem go153:goFn TP 153=true:=by kernel_rfl
theorem go154:goFn TP 154=true:=by kernel_rfl
theorem go155:goFn TP 155=true:=by kernel_rfl
theorem go156:goFn TP 156=true:=by kernel_rfl
theorem go157:goFn TP 157=true:=by kernel_rfl
theorem go159:goFn TP 159=true:=by kernel_rfl
theorem go174:goFn TP 174=true:=by kernel_rfl
theorem go175:goFn TP 175=true:=by kernel_rfl
theorem go176:goFn TP 176=true:=by kernel_rfl
theorem go180:goFn TP 180=true:=by kernel_rfl
theorem go181:goFn TP 181=true:=by kernel_rfl
theorem go185:goFn TP 185=true:=by kernel_rfl
theorem go186:goFn TP 186=true:=by kernel_rfl
theorem go187:goFn TP 187=true:=by kernel_rfl
theorem go188:goFn TP 188=true:=by kernel_rfl
theorem go202:goFn TP 202=true:=by kernel_rfl
theorem go205:goFn TP 205=true:=by kernel_rfl
set_option linter.defProp false in
def awF :=
 (And.intro (And.intro (And.intro (And.intro (And.intro (And.intro (And.intro (And.intro ti2
 ie2)
 (And.intro it2
 st2))
 (And.intro (And.intro ti3
 ie3)
 (And.intro it3
 st3)))
 (And.intro (And.intro (And.intro ti4
 bt4)
 (And.intro ti5
 ie5))
 (And.intro (And.intro it5
 st5)
 (And.intro ti6
 ie6))))
 (And.intro (And.intro (And.intro (And.intro it6
 st6)
 (And.intro ti8
 sf8_0))
 (And.intro (And.intro sf8_1
 sf8_2)
 (And.intro sf8_3
 ti9)))
 (And.intro (And.intro (And.intro st9
 ap9)
 (And.intro it9
 ti10))
 (And.intro (And.intro st10
 ap10)
 (And.intro it10
 ti11)))))
 (And.intro (And.intro (And.intro (And.intro (And.intro st11
 ap11)
 (And.intro it11
 ti12))
 (And.intro (And.intro ie12
 it12)
 (And.intro st12
 ti14)))
 (And.intro (And.intro (And.intro sf14_0
 sf14_1)
 (And.intro ti15
 ti16))
 (And.intro (And.intro ti17
 ti19)
 (And.intro sf19_0
 ti20))))
 (And.intro (And.intro (And.intro (And.intro ti21
 ie21)
 (And.intro it21
 st21))
 (And.intro (And.intro ti22
 se22)
 (And.intro sz22
 ap22)))
 (And.intro (And.intro (And.intro st22
 ti31)
 (And.intro ti33
 se33))
 (And.intro (And.intro ae33
 ti36)
 (And.intro se36
 (And.intro sz36
 ap36)))))))
 (And.intro (And.intro (And.intro (And.intro (And.intro (And.intro st36
 ti37)
 (And.intro se37
 sz37))
 (And.intro (And.intro ap37
 st37)
 (And.intro ti39
 sf39_0)))
 (And.intro (And.intro (And.intro sf39_1
 ti41)
 (And.intro sf41_0
 sf41_1))
 (And.intro (And.intro ti46
 se46)
 (And.intro sz46
 ap46))))
 (And.intro (And.intro (And.intro (And.intro st46
 ti48)
 (And.intro sf48_0
 sf48_1))
 (And.intro (And.intro ti51
 eq51)
 (And.intro sf51_0
 sf51_1)))
 (And.intro (And.intro (And.intro ti52
 se52)
 (And.intro sz52
 ap52))
 (And.intro (And.intro st52
 ti55)
 (And.intro eq55
 (And.intro sf55_0
 sf55_1))))))
 (And.intro (And.intro (And.intro (And.intro (And.intro sf55_2
 ti56)
 (And.intro ie56
 it56))
 (And.intro (And.intro st56
 ti61)
 (And.intro se61
 sz61)))
 (And.intro (And.intro (And.intro ap61
 st61)
 (And.intro ti62
 se62))
 (And.intro (And.intro sz62
 ap62)
 (And.intro st62
 ti65))))
 (And.intro (And.intro (And.intro (And.intro se65
 sz65)
 (And.intro ap65
 st65))
 (And.intro (And.intro ti71
 se71)
 (And.intro sz71
 ap71)))
 (And.intro (And.intro (And.intro st71
 ti76)
 (And.intro ti77
 ti79))
 (And.intro (And.intro zo79
 sf79_0)
 (And.intro sf79_1
 (And.intro sf79_2
 ti81))))))))
 (And.intro (And.intro (And.intro (And.intro (And.intro (And.intro (And.intro ti85
 sf85_0)
 (And.intro sf85_1
 ti90))
 (And.intro (And.intro se90
 ae90)
 (And.intro ti92
 ti94)))
 (And.intro (And.intro (And.intro ti106
 ie106)
 (And.intro it106
 st106))
 (And.intro (And.intro ti121
 se121)
 (And.intro sz121
 ap121))))
 (And.intro (And.intro (And.intro (And.intro st121
 ti124)
 (And.intro ie124
 it124))
 (And.intro (And.intro st124
 ti127)
 (And.intro ti128
 se128)))
 (And.intro (And.intro (And.intro ae128
 ti129)
 (And.intro sf129_0
 sf129_1))
 (And.intro (And.intro ti130
 se130)
 (And.intro sz130
 (And.intro ap130
 st130))))))
 (And.intro (And.intro (And.intro (And.intro (And.intro ti133
 se133)
 (And.intro ae133
 ti135))
 (And.intro (And.intro ti140
 se140)
 (And.intro ae140
 ti144)))
 (And.intro (And.intro (And.intro ti148
 ie148)
 (And.intro it148
 st148))
 (And.intro (And.intro ti166
 se166)
 (And.intro ae166
 ti181))))
 (And.intro (And.intro (And.intro (And.intro ti183
 sf183_0)
 (And.intro sf183_1
 ti186))
 (And.intro (And.intro ie186
 it186)
 (And.intro st186
 ti189)))
 (And.intro (And.intro (And.intro ti194
 se194)
 (And.intro ae194
 ti195))
 (And.intro (And.intro se195
 ae195)
 (And.intro ti203
 (And.intro ti207
 sf207_0)))))))
 (And.intro (And.intro (And.intro (And.intro (And.intro (And.intro sf207_1
 sf207_2)
 (And.intro ti209
 se209))
 (And.intro (And.intro ae209
 ti211)
 (And.intro sf211_0
 sf211_1)))
 (And.intro (And.intro (And.intro ti212
 se212)
 (And.intro ae212
 ti214))
 (And.intro (And.intro se214
 sz214)
 (And.intro ap214
 st214))))
 (And.intro (And.intro (And.intro (And.intro ti222
 ti224)
 (And.intro sf224_0
 ti225))
 (And.intro (And.intro se225
 ae225)
 (And.intro ti226
 se226)))
 (And.intro (And.intro (And.intro ae226
 ti228)
 (And.intro sf228_0
 sf228_1))
 (And.intro (And.intro sf228_2
 sf228_3)
 (And.intro ti229
 (And.intro se229
 ae229))))))
 (And.intro (And.intro (And.intro (And.intro (And.intro ti231
 sf231_0)
 (And.intro ti232
 ie232))
 (And.intro (And.intro it232
 st232)
 (And.intro ti233
 ie233)))
 (And.intro (And.intro (And.intro it233
 st233)
 (And.intro ti234
 ti235))
 (And.intro (And.intro ie235
 it235)
 (And.intro st235
 ti236))))
 (And.intro (And.intro (And.intro (And.intro ie236
 it236)
 (And.intro st236
 ti238))
 (And.intro (And.intro sf238_0
 sf238_1)
 (And.intro sf238_2
 sf238_3)))
 (And.intro (And.intro (And.intro sf238_4
 sf238_5)
 (And.intro sf238_6
 sf238_7))
 (And.intro (And.intro sf238_8
 sf238_9)
 (And.intro sf238_10
 (And.intro gf76
 if135)))))))))
theorem hmix:Tryz.prog.follows .mixedOrders=true:=by kernel_rfl
end Go.Proofs.YtdpjcghiegggbaaGreatDoor
namespace Go.Proofs.YtdpjcghiegggbaaGreatDoor.Num
open Go Go.Proofs Go.Abs
structure Hid (p:Prop):Prop where
 out:p
def B:Nat:=4294967296
def val:List Nat→Nat
 | []=>0
 | d::l=>d+B*val l
def toW (n:Nat):List Nat:=if h:n=0 then [] else n % B::toW (n / B)
termination_by n
decreasing_by exact Nat.div_lt_self (by omega) (by decide)
def Dig (l:List Nat):Prop:=∀ d,d∈l→d<B
theorem toW_zero:toW 0=[]:=by rw [toW];simp
theorem toW_pos {n:Nat} (h:n≠0):toW n=n % B::toW (n / B):=by rw [toW];simp [h]
theorem val_toW (n:Nat):val (toW n)=n:=by
 induction n using Nat.strongRecOn with
 | _ n ih =>
  by_cases h:n=0
  ·subst h;rw [toW_zero];rfl
  ·rw [toW_pos h,val,ih (n / B) (Nat.div_lt_self (by omega) (by decide))]
   exact Nat.mod_add_div n B
theorem dig_toW (n:Nat):Dig (toW n):=by
 induction n using Nat.strongRecOn with
 | _ n ih =>
  by_cases h:n=0
  ·subst h;rw [toW_zero];intro d hd;cases hd
  ·rw [toW_pos h]
   intro d hd
   rcases List.mem_cons.1 hd with rfl | hd
   ·exact Nat.mod_lt _ (by decide)
   ·exact ih (n / B) (Nat.div_lt_self (by omega) (by decide)) d hd
theorem val_append (l m:List Nat):val (l++m)=val l+B ^ l.length*val m:=by
 induction l with
 | nil=>simp [val]
 | cons d l ih=>simp only [List.cons_append,val,ih,List.length_cons,Nat.pow_succ,Nat.mul_add];rw [Nat.add_assoc];congr 2;rw [← Nat.mul_assoc,Nat.mul_comm B]
theorem val_lt {l:List Nat} (h:Dig l):val l<B ^ l.length:=by
 induction l with
 | nil=>simp [val]
 | cons d l ih =>
  have h1:=h d (by simp)
  have h2:=ih fun x hx=>h x (by simp [hx])
  simp only [val,List.length_cons,Nat.pow_succ]
  have:B*(val l+1)≤B*B ^ l.length:=Nat.mul_le_mul_left _ h2
  rw [Nat.mul_comm (B ^ l.length)]
  rw [Nat.mul_add] at this
  omega
theorem Dig.append {l m:List Nat} (h1:Dig l) (h2:Dig m):Dig (l++m):=fun d hd=>by
 rcases List.mem_append.1 hd with h | h
 ·exact h1 d h
 ·exact h2 d h
theorem Dig.take {l:List Nat} (h:Dig l) (n:Nat):Dig (l.take n):=fun d hd=>h d (List.mem_of_mem_take hd)
theorem Dig.drop {l:List Nat} (h:Dig l) (n:Nat):Dig (l.drop n):=fun d hd=>h d (List.mem_of_mem_drop hd)
theorem Dig.getD {l:List Nat} (h:Dig l) (i:Nat):l.getD i 0<B:=by
 rw [List.getD_eq_getElem?_getD]
 cases e:l[i]? with
 | none=>decide
 | some x=>exact h x (List.mem_of_getElem? e)
theorem take_succ' {l:List Nat} {k:Nat} (h:k<l.length):l.take (k+1)=l.take k++[l.getD k 0]:=by
 rw [List.take_add_one,List.getD_eq_getElem?_getD,List.getElem?_eq_getElem h];rfl
theorem val_take_succ {l:List Nat} {k:Nat} (h:k<l.length):val (l.take (k+1))=val (l.take k)+B ^ k*l.getD k 0:=by
 rw [take_succ' h,val_append]
 simp [val,Nat.min_eq_left (Nat.le_of_lt h)]
theorem toW_of {l:List Nat} (h:Dig l) (hl:l=[]∨l.getD (l.length - 1) 0≠0):toW (val l)=l:=by
 induction l with
 | nil=>exact toW_zero
 | cons d l ih =>
  have h1:=h d (by simp)
  have hB:(0:Nat)<B:=by decide
  have hv:val (d::l)≠0:=by
   simp only [val]
   by_cases hn:l=[]
   ·subst hn;simp at hl;simp [val];omega
   ·have h3:=ih (fun x hx=>h x (by simp [hx])) (.inr (by
     rcases hl with h0 | h0
     ·cases h0
     ·have:l.length≠0:=by simpa using hn
      have e:(d::l).length - 1=(l.length - 1)+1:=by simp;omega
      rw [e] at h0;simpa using h0))
    intro h0
    have:val l=0:=by
     have:=Nat.eq_zero_of_add_eq_zero_left h0
     rcases Nat.mul_eq_zero.1 this with h | h
     ·omega
     ·exact h
    rw [this,toW_zero] at h3
    exact hn h3.symm
  rw [toW_pos hv]
  have e1:val (d::l) % B=d:=by simp only [val];rw [Nat.add_mul_mod_self_left];exact Nat.mod_eq_of_lt h1
  have e2:val (d::l) / B=val l:=by simp only [val];rw [Nat.add_mul_div_left _ _ hB,Nat.div_eq_of_lt h1,Nat.zero_add]
  rw [e1,e2]
  by_cases hn:l=[]
  ·subst hn;simp [val,toW_zero]
  ·rw [ih (fun x hx=>h x (by simp [hx])) (.inr (by
     rcases hl with h0 | h0
     ·cases h0
     ·have:l.length≠0:=by simpa using hn
      have e:(d::l).length - 1=(l.length - 1)+1:=by simp;omega
      rw [e] at h0;simpa using h0))]
theorem toW_last {n:Nat} (h:n≠0):(toW n).getD ((toW n).length - 1) 0≠0:=by
 induction n using Nat.strongRecOn with
 | _ n ih =>
  rw [toW_pos h]
  by_cases h2:n / B=0
  ·rw [h2,toW_zero]
   simp
   have:n<B:=by
    rcases Nat.div_eq_zero_iff.1 h2 with h | h
    ·exact absurd h (by decide)
    ·exact h
   rw [Nat.mod_eq_of_lt this];exact h
  ·have:=ih _ (Nat.div_lt_self (by omega) (by decide)) h2
   have hl:(toW (n / B)).length≠0:=by rw [toW_pos h2];simp
   have e:(n % B::toW (n / B)).length - 1=((toW (n / B)).length - 1)+1:=by simp;omega
   rw [e]
   simpa using this
theorem toW_nil {n:Nat}:toW n=[]↔n=0:=by
 constructor
 ·intro h
  have:=val_toW n
  rw [h] at this
  exact this.symm
 ·rintro rfl;exact toW_zero
theorem toW_length_le {n k:Nat} (h:n<B ^ k):(toW n).length≤k:=by
 induction k generalizing n with
 | zero=>have:n=0:=by simpa using h
         subst this;simp [toW_zero]
 | succ k ih =>
  by_cases h0:n=0
  ·subst h0;simp [toW_zero]
  ·rw [toW_pos h0]
   simp only [List.length_cons]
   have:n / B<B ^ k:=by
    rw [Nat.div_lt_iff_lt_mul (by decide)]
    rw [← Nat.pow_succ];exact h
   have:=ih this
   omega
theorem le_of_toW_length {n k:Nat} (h:k<(toW n).length):B ^ k≤n:=by
 by_cases hn:B ^ k≤n
 ·exact hn
 ·have:=toW_length_le (n:=n) (k:=k) (by omega)
  omega
theorem lt_of_toW (n:Nat):n<B ^ (toW n).length:=by
 have:=val_lt (dig_toW n)
 rwa [val_toW] at this
theorem bit31 {n:Nat} (h:n<4294967296):n / 2147483648=(n.testBit 31).toNat:=by
 rw [Nat.testBit_eq_decide_div_mod_eq,show (2:Nat) ^ 31=2147483648 from rfl]
 by_cases h1:n / 2147483648=1
 ·simp [h1]
 ·have:n / 2147483648=0:=by omega
  simp [this]
theorem bit31' {n:Nat} (h:n<4294967296):n.testBit 31=decide (2147483648≤n):=by
 rw [Nat.testBit_eq_decide_div_mod_eq,show (2:Nat) ^ 31=2147483648 from rfl]
 apply decide_eq_decide.2
 omega
theorem borrow {x y c d:Nat} (hx:x<4294967296) (hy:y<4294967296) (hc:c≤1) (hd:d=(x+4294967296 - y - c) % 4294967296) :
  (((4294967295 - x) &&& y) ||| ((4294967295 - (x ^^^ y)) &&& d)) / 2147483648=if x<y+c then 1 else 0:=by
 have hxy:x ^^^ y<2 ^ 32:=Nat.xor_lt_two_pow (by omega) (by omega)
 have hd':d<4294967296:=by omega
 have h1:((4294967295 - x) &&& y)<2 ^ 32:=Nat.and_lt_two_pow _ (by omega)
 have h2:((4294967295 - (x ^^^ y)) &&& d)<2 ^ 32:=Nat.and_lt_two_pow _ (by omega)
 have h3:=Nat.or_lt_two_pow h1 h2
 rw [bit31 (by omega),Nat.testBit_or,Nat.testBit_and,Nat.testBit_and]
 rw [show 4294967295 - x=2 ^ 32 - (x+1) by omega,show 4294967295 - (x ^^^ y)=2 ^ 32 - ((x ^^^ y)+1) by omega,Nat.testBit_two_pow_sub_succ (by omega),Nat.testBit_two_pow_sub_succ hxy,Nat.testBit_xor,
  bit31' hx,bit31' hy,bit31' hd']
 by_cases a:2147483648≤x<;>by_cases b:2147483648≤y<;>by_cases e:2147483648≤d<;>by_cases f:x<y+c<;>simp [a,b,e,f]<;>omega
theorem flip32 {n:Nat} (h:n<4294967296):4294967295 ^^^ n=4294967295 - n:=by
 apply Nat.eq_of_testBit_eq
 intro i
 rw [show 4294967295 - n=2 ^ 32 - (n+1) by omega,Nat.testBit_two_pow_sub_succ (by omega),Nat.testBit_xor,show (4294967295:Nat)=2 ^ 32 - 1 from rfl,Nat.testBit_two_pow_sub_one]
 by_cases hi:i<32
 ·simp [hi]
 ·have:n.testBit i=false:=Nat.testBit_lt_two_pow (Nat.lt_of_lt_of_le h (by
   calc 4294967296=2 ^ 32:=rfl
    _≤2 ^ i:=Nat.pow_le_pow_right (by decide) (by omega)))
  simp [hi,this]
theorem xorMax {n:Nat} (h:n<4294967296):bitsI .xor .u32 4294967295 (n:Int)=((4294967295 - n:Nat):Int):=by
 have:=bi_u32_xor_nat (a:=4294967295) (b:=n) (by omega) h
 rw [flip32 h] at this
 exact this
theorem val_split {l:List Nat} {k:Nat} (h:k<l.length):val l=val (l.take k)+B ^ k*(l.getD k 0+B*val (l.drop (k+1))):=by
 have e:l=l.take k++l.getD k 0::l.drop (k+1):=by
  rw [List.getD_eq_getElem?_getD,List.getElem?_eq_getElem h]
  simp
 conv=>lhs;rw [e]
 rw [val_append]
 simp [val,Nat.min_eq_left (Nat.le_of_lt h)]
theorem val_lt_of {l m:List Nat} {k:Nat} (hl:Dig l) (h1:k<l.length) (h2:k<m.length) (h3:l.drop (k+1)=m.drop (k+1)) (h4:l.getD k 0<m.getD k 0):val l<val m:=by
 rw [val_split h1,val_split h2,h3]
 have h5:=val_lt (hl.take k)
 rw [List.length_take,Nat.min_eq_left (Nat.le_of_lt h1)] at h5
 have h6:B ^ k*(l.getD k 0+1+B*val (m.drop (k+1)))≤B ^ k*(m.getD k 0+B*val (m.drop (k+1))):=Nat.mul_le_mul_left _ (by omega)
 rw [show l.getD k 0+1+B*val (m.drop (k+1))=(l.getD k 0+B*val (m.drop (k+1)))+1 by omega,Nat.mul_add,Nat.mul_one] at h6
 omega
theorem drop_eq {l m:List Nat} {k:Nat} (h1:k<l.length) (h2:k<m.length) (h3:l.drop (k+1)=m.drop (k+1)) (h4:l.getD k 0=m.getD k 0):l.drop k=m.drop k:=by
 rw [List.drop_eq_getElem_cons h1,List.drop_eq_getElem_cons h2,h3]
 simp [List.getD_eq_getElem?_getD,List.getElem?_eq_getElem h1,List.getElem?_eq_getElem h2] at h4
 rw [h4]
theorem toW_len_lt {a b:Nat} (h:(toW a).length<(toW b).length):a<b:=Nat.lt_of_lt_of_le (lt_of_toW a) (le_of_toW_length h)
theorem sub_digit {x y c:Nat} (hx:x<B) (hy:y<B) (hc:c≤1):(x+B - y - c) % B+y+c=x+B*(if x<y+c then 1 else 0):=by
 simp only [B] at *;split<;>omega
theorem lin_sub {o m l P d mk lk c q:Nat} (h1:o+m=l+P*c) (h2:d+mk+c=lk+q):o+P*d+(m+P*mk)=l+P*lk+P*q:=by
 have:=congrArg (P*·) h2
 simp only [Nat.mul_add] at this
 omega
def cmpI (a b:Int):Int:=if a<b then -1 else if b<a then 1 else 0
theorem cmpI_lt {a b:Int} (h:a<b):cmpI a b=-1:=by simp [cmpI,h]
theorem cmpI_gt {a b:Int} (h:b<a):cmpI a b=1:=by simp [cmpI,h,show ¬ a<b by omega]
theorem cmpI_eq {a b:Int} (h:a=b):cmpI a b=0:=by simp [cmpI,h]
theorem cmpI_zero {a b:Int}:cmpI a b=0↔a=b:=by
 refine ⟨fun h=>?_,cmpI_eq⟩
 by_cases h1:a<b
 ·rw [cmpI_lt h1] at h;omega
 ·by_cases h2:b<a
  ·rw [cmpI_gt h2] at h;omega
  ·omega
theorem cmpI_of {a b c d:Int} (h1:a<b→c<d) (h2:b<a→d<c) (h3:a=b→c=d):cmpI a b=cmpI c d:=by
 by_cases h:a<b
 ·rw [cmpI_lt h,cmpI_lt (h1 h)]
 ·by_cases h':b<a
  ·rw [cmpI_gt h',cmpI_gt (h2 h')]
  ·have:a=b:=by omega
   rw [cmpI_eq this,cmpI_eq (h3 this)]
theorem take_val (l:List Nat) (k:Nat):val (l.take (k+1))=val (l.take k)+B ^ k*l.getD k 0:=by
 by_cases h:k<l.length
 ·exact val_take_succ h
 ·rw [List.take_of_length_le (by omega),List.take_of_length_le (by omega),List.getD_eq_getElem?_getD,List.getElem?_eq_none (by omega)]
  simp
theorem minus_step {l m out:List Nat} {k c d q:Nat} (ho:out.length=k) (hv:val out+val (m.take k)=val (l.take k)+B ^ k*c) (h:d+m.getD k 0+c=l.getD k 0+B*q) :
  val (out++[d])+val (m.take (k+1))=val (l.take (k+1))+B ^ (k+1)*q:=by
 have e3:=lin_sub hv h
 have e4:B ^ (k+1)=B ^ k*B:=Nat.pow_succ ..
 rw [take_val l k,take_val m k,val_append,ho,e4,Nat.mul_assoc]
 simpa [val] using e3
theorem minus_end {P o a b c:Nat} (h:o+b=a+P*c) (ho:o<P) (hab:b≤a) (hc:c≤1):o=a - b:=by
 have:c=0∨c=1:=by omega
 rcases this with rfl | rfl
 ·rw [Nat.mul_zero] at h;omega
 ·rw [Nat.mul_one] at h;omega
theorem val_set {l:List Nat} {p d:Nat} (h:p<l.length):val (l.set p d)+B ^ p*l.getD p 0=val l+B ^ p*d:=by
 have h1:=val_split (l:=l.set p d) (k:=p) (by simpa using h)
 have h2:=val_split h
 rw [List.take_set_of_le (Nat.le_refl _),List.drop_set_of_lt (Nat.lt_succ_self p),List.getD_eq_getElem?_getD,List.getElem?_set_self h] at h1
 simp only [Option.getD_some,Nat.mul_add,Nat.succ_eq_add_one] at h1 h2
 omega
theorem Dig.set {l:List Nat} (h:Dig l) {p d:Nat} (hd:d<B):Dig (l.set p d):=fun x hx=>by
 rcases List.mem_or_eq_of_mem_set hx with h1 | h1
 ·exact h x h1
 ·omega
theorem Dig.zeros (n:Nat):Dig (List.replicate n 0):=fun d hd=>by
 have:=List.eq_of_mem_replicate hd
 subst this;decide
theorem val_zeros (n:Nat):val (List.replicate n 0)=0:=by
 induction n with
 | zero=>rfl
 | succ n ih=>simp [List.replicate_succ,val,ih]
theorem mul_digit {x y:Nat} (hx:x<B) (hy:y<B):x*y≤18446744065119617025:=by
 simp only [B] at *
 exact Nat.mul_le_mul (Nat.le_pred_of_lt hx) (Nat.le_pred_of_lt hy)
theorem times_step {q o m:List Nat} {i j c x s:Nat} (hp:i+j<q.length) (hs:s=c+(x*m.getD j 0+q.getD (i+j) 0)) (hv:val q+B ^ (i+j)*c=val o+B ^ i*(x*val (m.take j))) :
  val (q.set (i+j) (s % B))+B ^ (i+(j+1))*(s / B)=val o+B ^ i*(x*val (m.take (j+1))):=by
 have h1:=val_set (l:=q) (p:=i+j) (d:=s % B) hp
 have h2:=Nat.mod_add_div s B
 have h3:B ^ (i+j)*(s % B)+B ^ (i+(j+1))*(s / B)=B ^ (i+j)*s:=by
  rw [← Nat.add_assoc i j 1,Nat.pow_succ,Nat.mul_assoc,← Nat.mul_add,h2]
 have h4:B ^ (i+j)*s=B ^ (i+j)*c+(B ^ i*(x*(B ^ j*m.getD j 0))+B ^ (i+j)*q.getD (i+j) 0):=by
  rw [hs,Nat.mul_add,Nat.mul_add]
  congr 2
  rw [Nat.pow_add,Nat.mul_assoc,Nat.mul_left_comm (B ^ j)]
 have h5:B ^ i*(x*val (m.take (j+1)))=B ^ i*(x*val (m.take j))+B ^ i*(x*(B ^ j*m.getD j 0)):=by
  rw [take_val,Nat.mul_add,Nat.mul_add]
 omega
theorem times_row {q o l:List Nat} {i k c b:Nat} (hp:i+k<q.length) (hz:q.getD (i+k) 0=0) (hv:val q+B ^ (i+k)*c=val o+B ^ i*(l.getD i 0*b)) (ho:val o=val (l.take i)*b) :
  val (q.set (i+k) c)=val (l.take (i+1))*b:=by
 have h1:=val_set (l:=q) (p:=i+k) (d:=c) hp
 rw [hz] at h1
 have h2:val (l.take (i+1))*b=val (l.take i)*b+B ^ i*(l.getD i 0*b):=by rw [take_val,Nat.add_mul,Nat.mul_assoc]
 omega
theorem w_u32 {n:Nat}:IntKind.u32.wrap (n:Int)=((n % 4294967296:Nat):Int):=by simp [IntKind.wrap,IntKind.bits,IntKind.signed]
theorem w_u64 {n:Nat}:IntKind.u64.wrap (n:Int)=((n % 18446744073709551616:Nat):Int):=by simp [IntKind.wrap,IntKind.bits,IntKind.signed]
theorem getD_set_ne {l:List Nat} {p r d:Nat} (h:p≠r):(l.set p d).getD r 0=l.getD r 0:=by
 simp [List.getD_eq_getElem?_getD,List.getElem?_set_ne h]
theorem or_add {h x:Nat} (hx:x<4294967296):h*4294967296 ||| x=h*4294967296+x:=by
 have:=Nat.shiftLeft_add_eq_or_of_lt (i:=32) (a:=h) (b:=x) hx
 rw [Nat.shiftLeft_eq] at this
 exact this.symm
theorem or64 {h x:Nat} (hh:h<4294967296) (hx:x<4294967296):bitsI .or .u64 ((h:Int)*4294967296) (x:Int)=((h*4294967296+x:Nat):Int):=by
 have:=bi_u64_or (a:=((h*4294967296:Nat):Int)) (b:=(x:Int)) (by omega) (by omega) (by omega) (by omega)
 rw [Int.toNat_natCast,Int.toNat_natCast,or_add hx] at this
 exact this
theorem log2_shift {n k:Nat} (h:n / 2 ^ k≠0):n.log2=k+(n / 2 ^ k).log2:=by
 have hp:0<2 ^ k:=Nat.two_pow_pos k
 have hn:n≠0:=by intro h0;subst h0;simp at h
 have h1:=(Nat.log2_eq_iff h).1 rfl
 refine (Nat.log2_eq_iff hn).2 ⟨?_,?_⟩
 ·rw [Nat.pow_add,Nat.mul_comm]
  exact (Nat.le_div_iff_mul_le hp).1 h1.1
 ·rw [Nat.add_assoc,Nat.pow_add,Nat.mul_comm]
  exact (Nat.div_lt_iff_lt_mul hp).1 h1.2
theorem divmod_step {r x d:Nat} (hr:r<d) (hx:x<B):(r*B+x) / d<B:=by
 rw [Nat.div_lt_iff_lt_mul (by omega)]
 have:(r+1)*B≤d*B:=Nat.mul_le_mul_right _ hr
 rw [Nat.add_mul,Nat.one_mul] at this
 rw [Nat.mul_comm B]
 omega
theorem short_step {q l:List Nat} {k r d:Nat} (h:k<l.length) (hv:val (l.drop (k+1))=val q*d+r) :
  val (l.drop k)=val ((r*B+l.getD k 0) / d::q)*d+(r*B+l.getD k 0) % d:=by
 have e:l.drop k=l.getD k 0::l.drop (k+1):=by
  rw [List.drop_eq_getElem_cons h,List.getD_eq_getElem?_getD,List.getElem?_eq_getElem h];rfl
 rw [e,val,hv,val]
 have h1:=Nat.mod_add_div (r*B+l.getD k 0) d
 generalize (r*B+l.getD k 0) / d=a at *
 generalize (r*B+l.getD k 0) % d=b at *
 rw [Nat.mul_comm d a] at h1
 rw [Nat.add_mul,Nat.mul_add,Nat.mul_assoc,Nat.mul_comm B r]
 omega
theorem set_rep {q:List Nat} {k v:Nat}:(0::(List.replicate k 0++q)).set k v=List.replicate k 0++v::q:=by
 have e:0::(List.replicate k 0++q)=List.replicate k 0++0::q:=by
  rw [← List.cons_append,← List.replicate_succ,List.replicate_succ',List.append_assoc];rfl
 rw [e,List.set_append_right _ _ (by simp)]
 simp
def digs:Nat→Nat→List Nat
 | 0,_=>[]
 | k+1,n=>n % B::digs k (n / B)
theorem digs_length (k n:Nat):(digs k n).length=k:=by
 induction k generalizing n with
 | zero=>rfl
 | succ k ih=>simp [digs,ih]
theorem dig_digs (k n:Nat):Dig (digs k n):=by
 induction k generalizing n with
 | zero=>intro d h;cases h
 | succ k ih =>
  intro d h
  rcases List.mem_cons.1 h with rfl | h
  ·exact Nat.mod_lt _ (by decide)
  ·exact ih _ d h
theorem digs_val {l:List Nat} (h:Dig l):digs l.length (val l)=l:=by
 induction l with
 | nil=>rfl
 | cons d l ih =>
  have h1:=h d (by simp)
  have hB:(0:Nat)<B:=by decide
  simp only [List.length_cons,digs,val]
  rw [Nat.add_mul_mod_self_left,Nat.mod_eq_of_lt h1,Nat.add_mul_div_left _ _ hB,Nat.div_eq_of_lt h1,Nat.zero_add,ih fun x hx=>h x (by simp [hx])]
theorem val_digs {k n:Nat} (h:n<B ^ k):val (digs k n)=n:=by
 induction k generalizing n with
 | zero=>have:n=0:=by simpa using h
         subst this;rfl
 | succ k ih =>
  simp only [digs,val]
  rw [ih]
  ·exact Nat.mod_add_div n B
  ·rw [Nat.div_lt_iff_lt_mul (by decide),← Nat.pow_succ];exact h
theorem digs_eq {l:List Nat} {k n:Nat} (h:Dig l) (hk:l.length=k) (hv:val l=n):l=digs k n:=by
 subst hk;subst hv;exact (digs_val h).symm
abbrev W (l:List Nat):D:=.sl l.length false (nats .u32 l)
variable {G:Globals}
abbrev M0:Muts:=fun _=>false
theorem at_spec (l:List Nat) (i:Nat) :
  Ctr TP G 132 [.d (W l),.d (.int .i64 i)] [] (.d (.int .u32 (l.getD i 0:Nat))) []:=by
 refine Ctr.pure (M:=M0) hmix Tryz.func132 rfl go132 ?_
 simp (config:={maxSteps:=1000000}) (disch:=(try simp only [awL]);omega) only [Tryz.f132,↓awU,awV,awX,awF,↓reduceIte,↓reduceDIte,↓Qe,Qu,Qv,Qw,Qx,Qy,Qz,QA,QB,QC,QD,QE,QF,QG,QH,QI,QK]
 intro h
 rw [List.getD_eq_getElem?_getD,List.getElem?_eq_none (by omega)];rfl
theorem trimmed_spec (l:List Nat) (hd:Dig l) (hl:l.length<2 ^ 60):Ctr TP G 130 [.d (W l)] [] (.d (W (toW (val l)))) []:=by
 refine Ctr.pure (M:=M0) hmix Tryz.func130 rfl go130 ?_
 simp only [Tryz.f130,↓awU,awV,awF,Qa,Qb,Qc,Qd,forall_const,↓reduceIte,↓reduceDIte,↓Qe,Qf,Qg,Qh,Qi,Qj,Qk,Ql,Qm,Qn,Qo,Qp,Qq,Qr,Qs,implies_true,Qt,Qu,Qv,Qw,Qx,Qy,Qz,QA,QB,QC,QD,QE,QF,QG,QH,QI,QJ,QK,QL,QM,QN,QO,QP,QQ]
 refine LoopC.inv (α:=Nat) (fun k=>k) (fun k=>mkS 21 [(0,.d (.sl k false (nats .u32 (l.take k))))]) (fun _=>[]) (fun k=>k≤l.length∧val (l.take k)=val l) l.length ⟨Nat.le_refl _,by simp⟩ (.pure ?_) ?_
 ·simp [mkS,SW,AW]
 ·rintro k ⟨hk,hv⟩
  simp only [mkS,List.foldl,List.replicate,List.set_cons_zero,List.set_cons_succ]
  simp (config:={maxSteps:=1000000}) (disch:=(try simp only [awL]);omega) only [↓awU,awV,awX,awF,↓reduceIte,↓reduceDIte,↓Qe,Qu,Qv,Qw,Qx,Qy,Qz,QA,QB,QC,QD,QE,QF,QG,QH,QI,QK]
  refine ⟨fun h=>⟨fun h0=>⟨k - 1,⟨by omega,?_⟩,Nat.sub_lt (by omega) (by decide),.pure ?_⟩,fun h0=>?_⟩,fun h=>?_⟩
  ·have e:((k:Int) - 1).toNat=k - 1:=by omega
   rw [e,List.getD_eq_getElem?_getD,List.getElem?_take,if_pos (by omega),← List.getD_eq_getElem?_getD] at h0
   have:=val_take_succ (l:=l) (k:=k - 1) (by omega)
   rw [show k - 1+1=k by omega,hv] at this
   rw [this,show l.getD (k - 1) 0=0 by omega];simp
  ·have e:((k:Int) - 1).toNat=k - 1:=by omega
   simp [SW,AW,e,List.take_take]
  ·have e:((k:Int) - 1).toNat=k - 1:=by omega
   rw [e] at h0
   have:=toW_of (hd.take k) (.inr (by rw [show (l.take k).length - 1=k - 1 by simp;omega];omega))
   rw [hv] at this
   rw [this];simp [W,hk,Nat.min_eq_left]
  ·have:k=0:=by omega
   subst this
   have:val l=0:=by rw [← hv];rfl
   rw [this,toW_zero];rfl
theorem isNaN_int (a:Int):Ctr TP G 83 [.d (.int .i64 a)] [] (.d (.bool false)) []:=by
 refine Ctr.pure (M:=M0) hmix Tryz.func83 rfl go83 ?_
 simp (config:={maxSteps:=1000000}) (disch:=(try simp only [awL]);omega) only [Tryz.f83,↓awU,awV,awX,awF,↓reduceIte,↓reduceDIte,↓Qe,Qu,Qv,Qw,Qx,Qy,Qz,QA,QB,QC,QD,QE,QF,QG,QH,QI,QK]
theorem isNaN_u32 (a:Int):Ctr TP G 205 [.d (.int .u32 a)] [] (.d (.bool false)) []:=by
 refine Ctr.pure (M:=M0) hmix Tryz.func205 rfl go205 ?_
 simp (config:={maxSteps:=1000000}) (disch:=(try simp only [awL]);omega) only [Tryz.f205,↓awU,awV,awX,awF,↓reduceIte,↓reduceDIte,↓Qe,Qu,Qv,Qw,Qx,Qy,Qz,QA,QB,QC,QD,QE,QF,QG,QH,QI,QK]
theorem cmp_int (a b:Int):Ctr TP G 50 [.d (.int .i64 a),.d (.int .i64 b)] [] (.d (.int .i64 (cmpI a b))) []:=by
 refine Ctr.pure (M:=M0) hmix Tryz.func50 rfl go50 ?_
 simp (config:={maxSteps:=1000000}) (disch:=(try simp only [awL]);omega) only [Tryz.f50,↓awU,awV,awX,awF,↓reduceIte,↓reduceDIte,↓Qe,Qu,Qv,Qw,Qx,Qy,Qz,QA,QB,QC,QD,QE,QF,QG,QH,QI,QK]
 refine CallC.pure (isNaN_int _) ?_
 simp (config:={maxSteps:=1000000}) (disch:=(try simp only [awL]);omega) only [↓awU,awV,awX,awF,↓reduceIte,↓reduceDIte,↓Qe,Qu,Qv,Qw,Qx,Qy,Qz,QA,QB,QC,QD,QE,QF,QG,QH,QI,QK]
 refine CallC.pure (isNaN_int _) ?_
 simp (config:={maxSteps:=1000000}) (disch:=(try simp only [awL]);omega) only [↓awU,awV,awX,awF,↓reduceIte,↓reduceDIte,↓Qe,Qu,Qv,Qw,Qx,Qy,Qz,QA,QB,QC,QD,QE,QF,QG,QH,QI,QK]
 refine ⟨fun h=>(cmpI_lt h).symm,fun h=>⟨fun h'=>(cmpI_gt h').symm,fun h'=>(cmpI_eq (by omega)).symm⟩⟩
theorem cmp_u32 (a b:Int):Ctr TP G 185 [.d (.int .u32 a),.d (.int .u32 b)] [] (.d (.int .i64 (cmpI a b))) []:=by
 refine Ctr.pure (M:=M0) hmix Tryz.func185 rfl go185 ?_
 simp (config:={maxSteps:=1000000}) (disch:=(try simp only [awL]);omega) only [Tryz.f185,↓awU,awV,awX,awF,↓reduceIte,↓reduceDIte,↓Qe,Qu,Qv,Qw,Qx,Qy,Qz,QA,QB,QC,QD,QE,QF,QG,QH,QI,QK]
 refine CallC.pure (isNaN_u32 _) ?_
 simp (config:={maxSteps:=1000000}) (disch:=(try simp only [awL]);omega) only [↓awU,awV,awX,awF,↓reduceIte,↓reduceDIte,↓Qe,Qu,Qv,Qw,Qx,Qy,Qz,QA,QB,QC,QD,QE,QF,QG,QH,QI,QK]
 refine CallC.pure (isNaN_u32 _) ?_
 simp (config:={maxSteps:=1000000}) (disch:=(try simp only [awL]);omega) only [↓awU,awV,awX,awF,↓reduceIte,↓reduceDIte,↓Qe,Qu,Qv,Qw,Qx,Qy,Qz,QA,QB,QC,QD,QE,QF,QG,QH,QI,QK]
 refine ⟨fun h=>(cmpI_lt h).symm,fun h=>⟨fun h'=>(cmpI_gt h').symm,fun h'=>(cmpI_eq (by omega)).symm⟩⟩
theorem add32 (x y c:Nat) (hx:x<B) (hy:y<B) (hc:c≤1):Ctr TP G 131 [.d (.int .u32 x),.d (.int .u32 y),.d (.int .u32 c)] []
  (.d (.tup [.int .u32 ((x+y+c) % B:Nat),.int .u32 ((x+y+c) / B:Nat)])) []:=by
 refine Ctr.pure (M:=M0) hmix Tryz.func131 rfl go131 ?_
 simp only [B] at *
 simp (config:={maxSteps:=1000000}) (disch:=(try simp only [awL]);omega) only [Tryz.f131,↓awU,awV,awX,awF,↓reduceIte,↓reduceDIte,↓Qe,Qu,Qv,Qw,Qx,Qy,Qz,QA,QB,QC,QD,QE,QF,QG,QH,QI,QK]
 rw [show IntKind.u32.wrap ((x+y+c:Nat):Int)=(((x+y+c) % 4294967296:Nat):Int) by simp [IntKind.wrap,IntKind.bits,IntKind.signed]]
 simp
theorem sub32 (x y c:Nat) (hx:x<B) (hy:y<B) (hc:c≤1):Ctr TP G 188 [.d (.int .u32 x),.d (.int .u32 y),.d (.int .u32 c)] []
  (.d (.tup [.int .u32 ((x+B - y - c) % B:Nat),.int .u32 ((if x<y+c then 1 else 0:Nat):Int)])) []:=by
 refine Ctr.pure (M:=M0) hmix Tryz.func188 rfl go188 ?_
 simp only [B] at *
 simp (config:={maxSteps:=1000000}) (disch:=(try simp only [awL]);omega) only [Tryz.f188,↓awU,awV,awX,awF,↓reduceIte,↓reduceDIte,↓Qe,Qu,Qv,Qw,Qx,Qy,Qz,QA,QB,QC,QD,QE,QF,QG,QH,QI,QK]
 have e1:IntKind.u32.wrap (IntKind.u32.wrap ((x:Int) - (y:Int)) - (c:Int))=(((x+4294967296 - y - c) % 4294967296:Nat):Int):=by
  simp [IntKind.wrap,IntKind.bits,IntKind.signed];omega
 have hxy:x ^^^ y<2 ^ 32:=Nat.xor_lt_two_pow (by omega) (by omega)
 have h1:((4294967295 - x) &&& y)<2 ^ 32:=Nat.and_lt_two_pow _ (by omega)
 have h2:((4294967295 - (x ^^^ y)) &&& ((x+4294967296 - y - c) % 4294967296))<2 ^ 32:=Nat.and_lt_two_pow _ (by omega)
 rw [e1,bi_u32_xor_nat hx hy,xorMax hx,xorMax hxy,bi_u32_and_nat (by omega) hy,bi_u32_and_nat (by omega) (by omega),bi_u32_or_nat h1 h2]
 have:=borrow hx hy hc rfl
 rw [← this]
 rfl
end Go.Proofs.YtdpjcghiegggbaaGreatDoor.Num
namespace Go.Proofs.YtdpjcghiegggbaaGreatDoor.Num
open Go Go.Proofs Go.Abs
variable {G:Globals}
theorem compare_spec (a b:Nat) (ha:(toW a).length<2 ^ 40) (hb:(toW b).length<2 ^ 40) :
  Ctr TP G 153 [.d (W (toW a)),.d (W (toW b))] [] (.d (.int .i64 (cmpI a b))) []:=by
 have da:=dig_toW a
 have db:=dig_toW b
 have va:=val_toW a
 have vb:=val_toW b
 have la:=@toW_len_lt a b
 have lb:=@toW_len_lt b a
 generalize toW a=l at *
 generalize toW b=m at *
 refine Ctr.pure (M:=M0) hmix Tryz.func153 rfl go153 ?_
 simp (config:={maxSteps:=1000000}) (disch:=(try simp only [awL]);omega) only [Tryz.f153,↓awU,awV,awX,awF,↓reduceIte,↓reduceDIte,↓Qe,Qu,Qv,Qw,Qx,Qy,Qz,QA,QB,QC,QD,QE,QF,QG,QH,QI,QK]
 refine CallC.pure (cmp_int _ _) ?_
 simp (config:={maxSteps:=1000000}) (disch:=(try simp only [awL]);omega) only [↓awU,awV,awX,awF,↓reduceIte,↓reduceDIte,↓Qe,Qu,Qv,Qw,Qx,Qy,Qz,QA,QB,QC,QD,QE,QF,QG,QH,QI,QK]
 refine ⟨fun h=>?_,fun h=>?_⟩
 ·refine cmpI_of (fun h=>?_) (fun h=>?_) (fun h'=>absurd (cmpI_eq h') h)
  ·have:=la (by omega);omega
  ·have:=lb (by omega);omega
 ·have e:l.length=m.length:=by have:=cmpI_zero.1 h;omega
  refine LoopC.inv (α:=Nat) (fun k=>k) (fun k=>mkS 35 [(0,.d (W l)),(1,.d (W m)),(6,.d (.int .i64 ((k:Int) - 1)))]) (fun _=>[]) (fun k=>k≤l.length∧l.drop k=m.drop k) l.length ⟨Nat.le_refl _,by rw [List.drop_length,e,List.drop_length]⟩ (.pure ?_) ?_
  ·simp [mkS,SW,AW]
  ·rintro k ⟨hk,hv⟩
   simp only [mkS,List.foldl,List.replicate,List.set_cons_zero,List.set_cons_succ]
   simp (config:={maxSteps:=1000000}) (disch:=(try simp only [awL]);omega) only [↓awU,awV,awX,awF,↓reduceIte,↓reduceDIte,↓Qe,Qu,Qv,Qw,Qx,Qy,Qz,QA,QB,QC,QD,QE,QF,QG,QH,QI,QK]
   refine ⟨fun h=>?_,fun h=>?_⟩
   ·have e1:((k:Int) - 1).toNat=k - 1:=by omega
    refine CallC.pure (cmp_u32 _ _) ?_
    simp (config:={maxSteps:=1000000}) (disch:=(try simp only [awL]);omega) only [↓awU,awV,awX,awF,↓reduceIte,↓reduceDIte,↓Qe,Qu,Qv,Qw,Qx,Qy,Qz,QA,QB,QC,QD,QE,QF,QG,QH,QI,QK]
    refine ⟨by rfl,fun h1=>?_,fun h1=>?_⟩
    ·rw [e1,← va,← vb]
     rw [e1] at h1
     refine cmpI_of (fun h2=>?_) (fun h2=>?_) (fun h'=>absurd (cmpI_eq h') h1)
     ·have:=val_lt_of (k:=k - 1) da (by omega) (by omega) (by rw [show k - 1+1=k by omega];exact hv) (by omega:l.getD (k - 1) 0<m.getD (k - 1) 0)
      omega
     ·have:=val_lt_of (k:=k - 1) db (by omega) (by omega) (by rw [show k - 1+1=k by omega];exact hv.symm) (by omega:m.getD (k - 1) 0<l.getD (k - 1) 0)
      omega
    ·rw [e1] at h1
     have h2:=cmpI_zero.1 h1
     refine ⟨k - 1,⟨by omega,drop_eq (by omega) (by omega) (by rw [show k - 1+1=k by omega];exact hv) (by omega)⟩,Nat.sub_lt (by omega) (by decide),.pure ?_⟩
     simp [SW,AW]
     omega
   ·have:k=0:=by omega
    subst this
    simp only [List.drop_zero] at hv
    rw [← va,← vb,hv]
    exact (cmpI_eq rfl).symm
theorem plus_spec (a b:Nat) (ha:(toW a).length<2 ^ 40) (hb:(toW b).length<2 ^ 40) :
  Ctr TP G 100 [.d (W (toW a)),.d (W (toW b))] [] (.d (W (toW (a+b)))) []:=by
 have da:=dig_toW a
 have db:=dig_toW b
 have va:=val_toW a
 have vb:=val_toW b
 generalize toW a=l at *
 generalize toW b=m at *
 refine Ctr.pure (M:=M0) hmix Tryz.func100 rfl go100 ?_
 simp (config:={maxSteps:=1000000}) (disch:=(try simp only [awL]);omega) only [Tryz.f100,↓awU,awV,awX,awF,↓reduceIte,↓reduceDIte,↓Qe,Qu,Qv,Qw,Qx,Qy,Qz,QA,QB,QC,QD,QE,QF,QG,QH,QI,QK]
 refine LoopC.inv (α:=Nat × List Nat × Nat) (fun x=>max l.length m.length - x.1) (fun x=>mkS 45 [(0,.d (W l)),(1,.d (W m)),(5,.lsl 0 1 0 x.1),(6,.d (.int .u32 x.2.2)),(20,.d (.int .i64 (max l.length m.length:Nat))),(21,.d (.int .i64 x.1))])
  (fun x=>[.row false (nats .u32 x.2.1)]) (fun x=>x.1≤max l.length m.length∧x.2.1.length=x.1∧Dig x.2.1∧x.2.2≤1∧val x.2.1+B ^ x.1*x.2.2=val (l.take x.1)+val (m.take x.1)) (0,[],0) ⟨by simp,rfl,by simp [Dig],by simp,by simp [val]⟩ ?_ ?_
 ·refine ⟨[some 0],rfl,by simp,by simp [mkS,SW,AW],by simp [HW,BW]⟩
 ·rintro ⟨k,out,c⟩ ⟨hk,ho,hd,hc,hv⟩
  simp only at hk ho hd hc hv
  simp only [mkS,List.foldl,List.replicate,List.set_cons_zero,List.set_cons_succ]
  simp (config:={maxSteps:=1000000}) (disch:=(try simp only [awL]);omega) only [↓awU,awV,awX,awF,↓reduceIte,↓reduceDIte,↓Qe,Qu,Qv,Qw,Qx,Qy,Qz,QA,QB,QC,QD,QE,QF,QG,QH,QI,QK]
  refine ⟨fun h=>?_,fun h=>?_⟩
  ·refine CallC.pure (at_spec l k) ?_
   simp (config:={maxSteps:=1000000}) (disch:=(try simp only [awL]);omega) only [↓awU,awV,awX,awF,↓reduceIte,↓reduceDIte,↓Qe,Qu,Qv,Qw,Qx,Qy,Qz,QA,QB,QC,QD,QE,QF,QG,QH,QI,QK]
   refine CallC.pure (at_spec m k) ?_
   simp (config:={maxSteps:=1000000}) (disch:=(try simp only [awL]);omega) only [↓awU,awV,awX,awF,↓reduceIte,↓reduceDIte,↓Qe,Qu,Qv,Qw,Qx,Qy,Qz,QA,QB,QC,QD,QE,QF,QG,QH,QI,QK]
   refine CallC.pure (add32 _ _ _ (da.getD k) (db.getD k) hc) ?_
   simp (config:={maxSteps:=1000000}) (disch:=(try simp only [awL]);omega) only [↓awU,awV,awX,awF,↓reduceIte,↓reduceDIte,↓Qe,Qu,Qv,Qw,Qx,Qy,Qz,QA,QB,QC,QD,QE,QF,QG,QH,QI,QK]
   refine ⟨(k+1,out++[(l.getD k 0+m.getD k 0+c) % B],(l.getD k 0+m.getD k 0+c) / B),⟨by omega,by simp [ho],hd.append ?_,?_,?_⟩,by simp only;omega,[some 2],rfl,by simp,?_,?_⟩
   ·intro x hx;simp at hx;subst hx;exact Nat.mod_lt _ (by decide)
   ·have h1:=da.getD k
    have h2:=db.getD k
    simp only [B] at *;omega
   ·have e1:val (l.take (k+1))=val (l.take k)+B ^ k*l.getD k 0:=take_val l k
    have e2:val (m.take (k+1))=val (m.take k)+B ^ k*m.getD k 0:=take_val m k
    simp only [e1,e2,val_append,ho,val,Nat.mul_zero,Nat.add_zero]
    have e3:=Nat.mod_add_div (l.getD k 0+m.getD k 0+c) B
    have e4:B ^ (k+1)=B ^ k*B:=Nat.pow_succ ..
    rw [e4,Nat.mul_assoc,Nat.add_assoc,← Nat.mul_add,e3]
    simp only [Nat.mul_add]
    omega
   ·simp [SW,AW]
   ·simp [HW,BW,nats_push]
  ·have ek:k=max l.length m.length:=by omega
   have e:(D.sl (k+1) false (nats .u32 (out++[c])))=W (out++[c]):=by simp [W,ho]
   have hv':val (out++[c])=a+b:=by
    rw [List.take_of_length_le (by omega),List.take_of_length_le (by omega)] at hv
    rw [val_append,ho]
    simp [val,hv,va,vb]
   rw [e]
   refine CallC.frozen (trimmed_spec _ (hd.append ?_) ?_) ?_
   ·intro x hx;simp at hx;subst hx;simp only [B];omega
   ·simp [ho];omega
   ·rw [hv']
    simp (config:={maxSteps:=1000000}) (disch:=(try simp only [awL]);omega) only [↓awU,awV,awX,awF,↓reduceIte,↓reduceDIte,↓Qe,Qu,Qv,Qw,Qx,Qy,Qz,QA,QB,QC,QD,QE,QF,QG,QH,QI,QK]
theorem times_spec (a b:Nat) (ha:(toW a).length<2 ^ 40) (hb:(toW b).length<2 ^ 40) :
  Ctr TP G 99 [.d (W (toW a)),.d (W (toW b))] [] (.d (W (toW (a*b)))) []:=by
 have da:=dig_toW a
 have db:=dig_toW b
 have va:=val_toW a
 have vb:=val_toW b
 generalize toW a=l at *
 generalize toW b=m at *
 refine Ctr.pure (M:=M0) hmix Tryz.func99 rfl go99 ?_
 simp (config:={maxSteps:=1000000}) (disch:=(try simp only [awL]);omega) only [Tryz.f99,↓awU,awV,awX,awF,↓reduceIte,↓reduceDIte,↓Qe,Qu,Qv,Qw,Qx,Qy,Qz,QA,QB,QC,QD,QE,QF,QG,QH,QI,QK]
 refine LoopC.inv (α:=Nat × List Nat) (fun x=>l.length - x.1) (fun x=>mkS 67 [(0,.d (W l)),(1,.d (W m)),(5,.lsl 0 1 0 (l.length+m.length)),(17,.d (W l)),(18,.d (.int .i64 l.length)),(19,.d (.int .i64 x.1))])
  (fun x=>[.row false (nats .u32 x.2)]) (fun x=>x.1≤l.length∧x.2.length=l.length+m.length∧Dig x.2∧val x.2=val (l.take x.1)*b∧∀ p,x.1+m.length≤p→x.2.getD p 0=0) (0,List.replicate (l.length+m.length) 0)
  ⟨by simp,by simp,Dig.zeros _,by simp [val_zeros,val],fun p _=>by simp only [List.getD_eq_getElem?_getD,List.getElem?_replicate];split<;>rfl⟩ ?_ ?_
 ·refine ⟨[some 0],rfl,by simp,by simp [mkS,SW,AW],by simp [HW,BW]⟩
 ·rintro ⟨i,o⟩ ⟨hi,ho,hd,hv,hz⟩
  simp only at hi ho hd hv hz
  simp only [mkS,List.foldl,List.replicate,List.set_cons_zero,List.set_cons_succ]
  simp (config:={maxSteps:=1000000}) (disch:=(try simp only [awL]);omega) only [↓awU,awV,awX,awF,↓reduceIte,↓reduceDIte,↓Qe,Qu,Qv,Qw,Qx,Qy,Qz,QA,QB,QC,QD,QE,QF,QG,QH,QI,QK]
  refine ⟨fun h=>?_,fun h=>?_⟩
  ·refine LoopC.inv (α:=Nat × List Nat × Nat) (fun x=>m.length - x.1) (fun x=>mkS 67 [(0,.d (W l)),(1,.d (W m)),(5,.lsl 0 1 0 (l.length+m.length)),(17,.d (W l)),(18,.d (.int .i64 l.length)),(19,.d (.int .i64 i)),
     (6,.d (.int .i64 i)),(7,.d (.int .u32 (l.getD i 0:Nat))),(8,.d (.int .u64 x.2.2)),(24,.d (W m)),(25,.d (.int .i64 m.length)),(26,.d (.int .i64 x.1))])
    (fun x=>[.row false (nats .u32 x.2.1)]) (fun x=>x.1≤m.length∧x.2.1.length=l.length+m.length∧Dig x.2.1∧x.2.2<B∧val x.2.1+B ^ (i+x.1)*x.2.2=val o+B ^ i*(l.getD i 0*val (m.take x.1))∧∀ p,i+m.length≤p→x.2.1.getD p 0=0) (0,o,0)
    ⟨by simp,ho,hd,by simp [B],by simp [val],hz⟩ ?_ ?_
   ·refine ⟨[some 0],rfl,by simp,by simp [mkS,SW,AW],by simp [HW,BW]⟩
   ·rintro ⟨j,q,c⟩ ⟨hj,hq,hdq,hc,hvq,hzq⟩
    simp only at hj hq hdq hc hvq hzq
    replace hv:=Hid.mk hv
    replace hvq:=Hid.mk hvq
    have p1:=mul_digit (da.getD i) (db.getD j)
    have p2:=hdq.getD (i+j)
    have p3:c<4294967296:=hc
    have p4:q.getD (i+j) 0<4294967296:=p2
    have p5:l.getD i 0<4294967296:=da.getD i
    have p6:m.getD j 0<4294967296:=db.getD j
    simp only [mkS,List.foldl,List.replicate,List.set_cons_zero,List.set_cons_succ]
    simp (config:={maxSteps:=1000000}) (disch:=(try simp only [awL]);omega) only [↓awU,awV,awX,awF,↓reduceIte,↓reduceDIte,↓Qe,Qu,Qv,Qw,Qx,Qy,Qz,QA,QB,QC,QD,QE,QF,QG,QH,QI,QK]
    refine ⟨fun h1=>?_,fun h1=>?_⟩
    ·simp only [w_u32,nats_set]
     have hsl:c+(l.getD i 0*m.getD j 0+q.getD (i+j) 0)<B*B:=by simp only [B];omega
     generalize hg:c+(l.getD i 0*m.getD j 0+q.getD (i+j) 0)=s at hsl ⊢
     refine ⟨(j+1,q.set (i+j) (s % B),s / B),⟨by simp only;omega,by simp [hq],hdq.set (Nat.mod_lt _ (by decide)),(Nat.div_lt_iff_lt_mul (by decide)).2 hsl,times_step (by omega) hg.symm hvq.out,fun p hp=>?_⟩,
      by simp only;omega,[some 0],rfl,by simp,by simp [SW,AW,B],by simp [HW,BW,w_u32,nats_set,B]⟩
     rw [getD_set_ne (by omega)];exact hzq p hp
    ·have ej:j=m.length:=by omega
     have hvq:=hvq.out
     rw [ej,List.take_of_length_le (Nat.le_refl _),vb] at hvq
     refine ⟨(i+1,q.set (i+m.length) c),⟨by simp only;omega,by simp [hq],hdq.set hc,times_row (by omega) (hzq _ (Nat.le_refl _)) hvq hv.out,fun p hp=>?_⟩,
      by simp only;omega,[some 0],rfl,by simp,by simp [SW,AW],by simp [HW,BW]⟩
     rw [getD_set_ne (by omega)];exact hzq p (by omega)
  ·have e:(D.sl (l.length+m.length) false (nats .u32 o))=W o:=by simp [W,ho]
   have ei:i=l.length:=by omega
   rw [e]
   refine CallC.frozen (trimmed_spec _ hd ?_) ?_
   ·omega
   ·rw [hv,ei,List.take_of_length_le (Nat.le_refl _),va]
    simp (config:={maxSteps:=1000000}) (disch:=(try simp only [awL]);omega) only [↓awU,awV,awX,awF,↓reduceIte,↓reduceDIte,↓Qe,Qu,Qv,Qw,Qx,Qy,Qz,QA,QB,QC,QD,QE,QF,QG,QH,QI,QK]
theorem div32 (h x d:Nat) (hh:h<d) (hd:d<B) (hx:x<B):Ctr TP G 186 [.d (.int .u32 h),.d (.int .u32 x),.d (.int .u32 d)] []
  (.d (.tup [.int .u32 ((h*B+x) / d:Nat),.int .u32 ((h*B+x) % d:Nat)])) []:=by
 refine Ctr.pure (M:=M0) hmix Tryz.func186 rfl go186 ?_
 have hq:=divmod_step hh hx
 simp only [B] at *
 simp (config:={maxSteps:=1000000}) (disch:=(try simp only [awL]);omega) only [Tryz.f186,↓awU,awV,awX,awF,↓reduceIte,↓reduceDIte,↓Qe,Qu,Qv,Qw,Qx,Qy,Qz,QA,QB,QC,QD,QE,QF,QG,QH,QI,QK]
 refine ⟨by rfl,?_⟩
 have hm:(h*4294967296+x) % d<d:=Nat.mod_lt _ (by omega)
 rw [or64 (by omega) hx,← Int.ofNat_tdiv,← Int.ofNat_tmod,w_u64,w_u32,w_u32,Nat.mod_eq_of_lt (a:=(h*4294967296+x) / d) (by omega),Nat.mod_eq_of_lt hq,Nat.mod_eq_of_lt (by omega)]
theorem natural_spec (n:Nat) (hn:n<18446744073709551616):Ctr TP G 101 [.d (.int .u64 n)] [] (.d (W (toW n))) []:=by
 refine Ctr.pure (M:=M0) hmix Tryz.func101 rfl go101 ?_
 simp (config:={maxSteps:=1000000}) (disch:=(try simp only [awL]);omega) only [Tryz.f101,↓awU,awV,awX,awF,↓reduceIte,↓reduceDIte,↓Qe,Qu,Qv,Qw,Qx,Qy,Qz,QA,QB,QC,QD,QE,QF,QG,QH,QI,QK]
 refine CallC.frozenE (trimmed_spec [n % B,n / B] ?_ (by simp)) ?_ ?_
 ·intro x hx
  simp only [List.mem_cons,List.not_mem_nil,or_false] at hx
  rcases hx with rfl | rfl
  ·exact Nat.mod_lt _ (by decide)
  ·simp only [B];omega
 ·rw [w_u32];rfl
 ·have:val [n % B,n / B]=n:=by simp only [val,Nat.mul_zero,Nat.add_zero];exact Nat.mod_add_div n B
  rw [this]
  simp (config:={maxSteps:=1000000}) (disch:=(try simp only [awL]);omega) only [↓awU,awV,awX,awF,↓reduceIte,↓reduceDIte,↓Qe,Qu,Qv,Qw,Qx,Qy,Qz,QA,QB,QC,QD,QE,QF,QG,QH,QI,QK]
def len8:List UInt8:=[0,1,2,2,3,3,3,3,4,4,4,4,4,4,4,4,5,5,5,5,5,5,5,5,5,5,5,5,5,5,5,5,6,6,6,6,6,6,6,6,6,6,6,6,6,6,6,6,6,6,6,6,6,6,6,6,6,6,6,6,6,6,6,6,7,7,7,7,7,7,7,7,7,7,7,7,7,7,7,7,7,7,7,7,7,7,7,7,7,7,7,7,7,7,7,7,7,7,7,7,7,7,7,7,7,7,7,7,7,7,7,7,7,7,7,7,7,7,7,7,7,7,7,7,7,7,7,7,8,8,8,8,8,8,8,8,8,8,8,8,8,8,8,8,8,8,8,8,8,8,8,8,8,8,8,8,8,8,8,8,8,8,8,8,8,8,8,8,8,8,8,8,8,8,8,8,8,8,8,8,8,8,8,8,8,8,8,8,8,8,8,8,8,8,8,8,8,8,8,8,8,8,8,8,8,8,8,8,8,8,8,8,8,8,8,8,8,8,8,8,8,8,8,8,8,8,8,8,8,8,8,8,8,8,8,8,8,8,8,8,8,8,8,8,8,8,8,8,8,8,8,8,8,8,8,8]
theorem len8_tab (s:ByteArray) (hs:s.data.toList=len8):s.size=256∧∀ i,i<256→byteAt s i=((if i=0 then 0 else i.log2+1:Nat):Int):=by
 refine ⟨by rw [ByteArray.size,← Array.length_toList,hs];decide +kernel,fun i hi=>?_⟩
 have:∀ i:Fin 256,((len8.getD i.val 0).toNat:Int)=((if i.val=0 then 0 else i.val.log2+1:Nat):Int):=by decide +kernel
 unfold byteAt
 rw [hs]
 exact this ⟨i,hi⟩
theorem size_len8 {s:ByteArray} (h:s.data.toList=len8):s.size=256:=(len8_tab s h).1
theorem byte_len8 {s:ByteArray} {i:Int} (h:s.data.toList=len8) (h0:0≤i) (h1:i<256):byteAt s i.toNat=((if i.toNat=0 then 0 else i.toNat.log2+1:Nat):Int):=(len8_tab s h).2 _ (by omega)
theorem len32 (n:Nat) (hn:n<B):Ctr TP G 187 [.d (.int .u32 n)] [] (.d (.int .i64 (if n=0 then 0 else n.log2+1:Nat))) []:=by
 refine Ctr.pure (M:=M0) hmix Tryz.func187 rfl go187 ?_
 simp only [B] at *
 have l24:(256:Int)≤n / 65536→n≠0∧(n / 65536 / 256)≠0∧n.log2=24+(n / 65536 / 256).log2:=fun h=>by
  have h1:n / 2 ^ 24≠0:=by omega
  have:=log2_shift h1
  rw [show (2:Nat) ^ 24=65536*256 from rfl,← Nat.div_div_eq_div_mul] at this
  exact ⟨by omega,by omega,this⟩
 have l16:(65536:Int)≤n→n≠0∧(n / 65536)≠0∧n.log2=16+(n / 65536).log2:=fun h=>by
  have h1:n / 2 ^ 16≠0:=by omega
  exact ⟨by omega,by omega,log2_shift h1⟩
 have l8:(256:Int)≤n→n≠0∧(n / 256)≠0∧n.log2=8+(n / 256).log2:=fun h=>by
  have h1:n / 2 ^ 8≠0:=by omega
  exact ⟨by omega,by omega,log2_shift h1⟩
 simp (config:={maxSteps:=1000000}) (disch:=(try simp only [awL]);omega) only [Tryz.f187,↓awU,awV,awX,awF,↓reduceIte,↓reduceDIte,↓Qe,Qu,Qv,Qw,Qx,Qy,Qz,QA,QB,QC,QD,QE,QF,QG,QH,QI,QK]
 refine ⟨fun h1=>⟨fun h2=>?_,fun h2=>?_⟩,fun h1=>⟨fun h2=>?_,fun h2=>?_⟩⟩
 ·obtain ⟨a,b,c⟩:=l24 h2
  have h8:=(Nat.log2_lt (k:=8) b).2 (by omega)
  rw [size_len8 (by decide +kernel),byte_len8 (by decide +kernel) (by omega) (by omega),show ((n:Int) / 65536 / 256).toNat=n / 65536 / 256 by omega,if_neg b]
  generalize hz:(n / 65536 / 256).log2+1=z
  rw [wr_i64 (x:=(z:Int)) (by omega) (by omega),wr_i64 (by omega) (by omega)]
  omega
 ·obtain ⟨a,b,c⟩:=l16 h1
  have h8:=(Nat.log2_lt (k:=8) b).2 (by omega)
  rw [size_len8 (by decide +kernel),byte_len8 (by decide +kernel) (by omega) (by omega),show ((n:Int) / 65536).toNat=n / 65536 by omega,if_neg b]
  generalize hz:(n / 65536).log2+1=z
  rw [wr_i64 (x:=(z:Int)) (by omega) (by omega),wr_i64 (by omega) (by omega)]
  omega
 ·obtain ⟨a,b,c⟩:=l8 h2
  have h8:=(Nat.log2_lt (k:=8) b).2 (by omega)
  rw [size_len8 (by decide +kernel),byte_len8 (by decide +kernel) (by omega) (by omega),show ((n:Int) / 256).toNat=n / 256 by omega,if_neg b]
  generalize hz:(n / 256).log2+1=z
  rw [wr_i64 (x:=(z:Int)) (by omega) (by omega),wr_i64 (by omega) (by omega)]
  omega
 ·rw [size_len8 (by decide +kernel),(len8_tab _ (by decide +kernel)).2 n (by omega)]
  have h8:(if n=0 then 0 else n.log2+1:Nat)≤8:=by
   split
   ·omega
   ·rename_i h;have:=(Nat.log2_lt (k:=8) h).2 (by omega);omega
  generalize (if n=0 then 0 else n.log2+1:Nat)=z at *
  rw [wr_i64 (x:=(z:Int)) (by omega) (by omega),wr_i64 (by omega) (by omega)]
  omega
theorem lz32 (n:Nat) (h0:n≠0) (hn:n<B):Ctr TP G 155 [.d (.int .u32 n)] [] (.d (.int .i64 (31 - n.log2:Nat))) []:=by
 refine Ctr.pure (M:=M0) hmix Tryz.func155 rfl go155 ?_
 have h8:=(Nat.log2_lt (k:=32) h0).2 hn
 simp (config:={maxSteps:=1000000}) (disch:=(try simp only [awL]);omega) only [Tryz.f155,↓awU,awV,awX,awF,↓reduceIte,↓reduceDIte,↓Qe,Qu,Qv,Qw,Qx,Qy,Qz,QA,QB,QC,QD,QE,QF,QG,QH,QI,QK]
 refine CallC.pure (len32 n hn) ?_
 rw [if_neg h0]
 simp (config:={maxSteps:=1000000}) (disch:=(try simp only [awL]);omega) only [↓awU,awV,awX,awF,↓reduceIte,↓reduceDIte,↓Qe,Qu,Qv,Qw,Qx,Qy,Qz,QA,QB,QC,QD,QE,QF,QG,QH,QI,QK]
theorem short_spec (a d:Nat) (hd:0<d) (hdB:d<B) (ha:(toW a).length<2 ^ 40) :
  Ctr TP G 154 [.d (W (toW a)),.d (.int .u32 d)] [] (.d (.tup [W (toW (a / d)),.int .u32 (a % d:Nat)])) []:=by
 have da:=dig_toW a
 have va:=val_toW a
 generalize toW a=l at *
 refine Ctr.pure (M:=M0) hmix Tryz.func154 rfl go154 ?_
 simp (config:={maxSteps:=1000000}) (disch:=(try simp only [awL]);omega) only [Tryz.f154,↓awU,awV,awX,awF,↓reduceIte,↓reduceDIte,↓Qe,Qu,Qv,Qw,Qx,Qy,Qz,QA,QB,QC,QD,QE,QF,QG,QH,QI,QK]
 refine LoopC.fr 67 (α:=Nat × List Nat × Nat) (fun x=>x.1) (fun x=>[(7,.d (.int .u32 x.2.2)),(8,.d (.int .i64 ((x.1:Int) - 1)))])
  (fun x=>[.row false (nats .u32 (List.replicate x.1 0++x.2.1))]) (fun x=>x.1≤l.length∧x.2.1.length+x.1=l.length∧Dig x.2.1∧x.2.2<d∧val (l.drop x.1)=val x.2.1*d+x.2.2) (l.length,[],0) ⟨by simp,by simp,by simp [Dig],hd,by simp [val]⟩ ?_ ?_
 ·exact ⟨[some 0],rfl,by simp,by simp [sA,kA,SW,AW],by simp [HW,BW,SW,AW]⟩
 ·rintro ⟨k,q,r⟩ ⟨hk,hq,hdq,hr,hv⟩
  simp only at hk hq hdq hr hv
  rcases k with _ | k
  ·simp (config:={maxSteps:=1000000}) (disch:=(try simp only [awL]);omega) only [↓awU,awV,awX,awF,↓reduceIte,↓reduceDIte,↓Qe,Qu,Qv,Qw,Qx,Qy,Qz,QA,QB,QC,QD,QE,QF,QG,QH,QI,QK]
   simp only [Nat.add_zero] at hq
   rw [List.drop_zero,va] at hv
   have e:D.sl l.length false (nats .u32 ([]++q))=W q:=by simp [W,hq]
   refine CallC.frozenE (trimmed_spec q hdq (by omega)) (by rw [← e];simp [List.replicate]) ?_
   have e1:a / d=val q:=by rw [hv,Nat.mul_comm];rw [Nat.mul_add_div hd,Nat.div_eq_of_lt hr];rfl
   have e2:a % d=r:=by rw [hv,Nat.mul_comm,Nat.mul_add_mod,Nat.mod_eq_of_lt hr]
   rw [e1,e2]
   simp (config:={maxSteps:=1000000}) (disch:=(try simp only [awL]);omega) only [↓awU,awV,awX,awF,↓reduceIte,↓reduceDIte,↓Qe,Qu,Qv,Qw,Qx,Qy,Qz,QA,QB,QC,QD,QE,QF,QG,QH,QI,QK]
  ·simp (config:={maxSteps:=1000000}) (disch:=(try simp only [awL]);omega) only [↓awU,awV,awX,awF,↓reduceIte,↓reduceDIte,↓Qe,Qu,Qv,Qw,Qx,Qy,Qz,QA,QB,QC,QD,QE,QF,QG,QH,QI,QK]
   refine CallC.pure (div32 r _ d hr hdB (da.getD k)) ?_
   simp (config:={maxSteps:=1000000}) (disch:=(try simp only [awL]);omega) only [↓awU,awV,awX,awF,↓reduceIte,↓reduceDIte,↓Qe,Qu,Qv,Qw,Qx,Qy,Qz,QA,QB,QC,QD,QE,QF,QG,QH,QI,QK]
   refine ⟨(k,(r*B+l.getD k 0) / d::q,(r*B+l.getD k 0) % d),⟨by simp only;omega,by simp;omega,fun x hx=>?_,Nat.mod_lt _ hd,short_step (by omega) hv⟩,by simp only;omega,
    [some 0],rfl,by simp,by simp [SW,AW],by simp [HW,BW,set_rep]⟩
   rcases List.mem_cons.1 hx with rfl | hx
   ·exact divmod_step hr (da.getD k)
   ·exact hdq x hx
end Go.Proofs.YtdpjcghiegggbaaGreatDoor.Num
namespace Go.Proofs.YtdpjcghiegggbaaGreatDoor.Num
open Go Go.Proofs Go.Abs
theorem kn_first {U V P top u3 lu d1 d2 lv g:Nat} (hU:U=(top*B+u3)*P+lu) (hlu:lu<P) (hV:V=(d1*B+d2)*P+lv) (hu3:u3<B) (hUV:U<V*B)
  (hg:top<(g+1)*d1∨g+1=B):U<(g+1)*V:=by
 rcases hg with hg | hg
 ·have h1:(top+1)*(B*P)≤((g+1)*d1)*(B*P):=Nat.mul_le_mul_right _ hg
  have h2:U<(top+1)*(B*P):=by
   have h3:(u3+1)*P≤B*P:=Nat.mul_le_mul_right _ hu3
   rw [hU,Nat.add_mul,Nat.add_mul,Nat.one_mul,Nat.mul_assoc]
   rw [Nat.add_mul,Nat.one_mul] at h3
   omega
  have h4:((g+1)*d1)*(B*P)≤(g+1)*V:=by
   rw [Nat.mul_assoc]
   refine Nat.mul_le_mul_left _ ?_
   rw [hV,Nat.add_mul,← Nat.mul_assoc]
   omega
  omega
 ·rw [hg,Nat.mul_comm];exact hUV
theorem kn_down {U V P top u3 lu d1 d2 lv g rest:Nat} (hU:U=(top*B+u3)*P+lu) (hlu:lu<P) (hV:V=(d1*B+d2)*P+lv)
  (hr:g*d1+rest=top) (hgt:rest*B+u3<g*d2):U<g*V:=by
 have h1:U<(top*B+u3+1)*P:=by rw [hU,Nat.add_mul (top*B+u3),Nat.one_mul];omega
 have h2:(top*B+u3+1)*P≤(g*(d1*B+d2))*P:=by
  refine Nat.mul_le_mul_right _ ?_
  rw [← hr,Nat.mul_add,Nat.add_mul,Nat.mul_assoc]
  omega
 have h3:(g*(d1*B+d2))*P≤g*V:=by
  rw [Nat.mul_assoc]
  refine Nat.mul_le_mul_left _ ?_
  omega
 omega
theorem kn_exit {U V P top u3 lu d1 d2 lv g rest:Nat} (hU:U=(top*B+u3)*P+lu) (hV:V=(d1*B+d2)*P+lv) (hlv:lv<P) (hd1:1≤d1) (hd2:d2<B) (hg:g<B)
  (hr:g*d1+rest=top) (hle:B≤rest∨g*d2≤rest*B+u3):g*V<U+V:=by
 have hle:g*d2≤rest*B+u3:=by
  rcases hle with h | h
  ·have h1:g*d2≤B*B:=Nat.mul_le_mul (Nat.le_of_lt hg) (Nat.le_of_lt hd2)
   have h2:B*B≤rest*B:=Nat.mul_le_mul_right _ h
   omega
  ·exact h
 have h1:(g*(d1*B+d2))*P≤(top*B+u3)*P:=by
  refine Nat.mul_le_mul_right _ ?_
  rw [← hr,Nat.mul_add,Nat.add_mul,Nat.mul_assoc]
  omega
 have h2:g*V=(g*(d1*B+d2))*P+g*lv:=by rw [hV,Nat.mul_add,Nat.mul_assoc]
 have h3:B*P≤V:=by
  rw [hV,Nat.add_mul,Nat.mul_assoc]
  have:1*(B*P)≤d1*(B*P):=Nat.mul_le_mul_right _ hd1
  omega
 have h4:g*lv<B*P:=by
  have h5:g*lv≤g*P:=Nat.mul_le_mul_left _ (Nat.le_of_lt hlv)
  have h6:(g+1)*P≤B*P:=Nat.mul_le_mul_right _ hg
  rw [Nat.add_mul,Nat.one_mul] at h6
  omega
 omega
theorem val_top2 {d:List Nat} {n:Nat} (h:d.length=n+2):val d=(d.getD (n+1) 0*B+d.getD n 0)*B ^ n+val (d.take n):=by
 have e:d=d.take (n+2):=by rw [← h,List.take_length]
 rw [e,take_val d (n+1),take_val d n,← e]
 rw [Nat.pow_succ,Nat.add_mul,Nat.mul_assoc (B ^ n),Nat.mul_comm (B ^ n) (d.getD n 0),Nat.mul_comm (B ^ n),Nat.mul_comm B (d.getD _ 0)]
 omega
theorem val_top3 {u:List Nat} {n:Nat} (h:u.length=n+3):val u=((u.getD (n+2) 0*B+u.getD (n+1) 0)*B+u.getD n 0)*B ^ n+val (u.take n):=by
 have e:u=u.take (n+3):=by rw [← h,List.take_length]
 rw [e,take_val u (n+2),take_val u (n+1),take_val u n,← e]
 generalize u.getD n 0=a
 generalize u.getD (n+1) 0=b
 generalize u.getD (n+2) 0=c
 have e1:B ^ (n+1)*b=b*B*B ^ n:=by rw [Nat.pow_succ,Nat.mul_assoc,Nat.mul_comm (B ^ n),Nat.mul_comm B b]
 have e2:B ^ (n+2)*c=c*B*B*B ^ n:=by rw [Nat.pow_succ,Nat.pow_succ];generalize B ^ n=p;ac_rfl
 rw [e1,e2,Nat.add_mul,Nat.add_mul,Nat.add_mul,Nat.mul_comm (B ^ n) a]
 omega
theorem take_lt {l:List Nat} (h:Dig l) (n:Nat):val (l.take n)<B ^ n:=by
 have h1:=val_lt (h.take n)
 have h2:(l.take n).length≤n:=by simp;omega
 exact Nat.lt_of_lt_of_le h1 (Nat.pow_le_pow_right (by decide) h2)
theorem dg_step {done u d:List Nat} {i g c b dig low c' b':Nat} (hi:done.length=i) (h1:dig+low+b=u.getD i 0+B*b') (h2:low+B*c'=c+g*d.getD i 0)
  (hv:val done+g*val (d.take i)=val (u.take i)+B ^ i*(c+b)):val (done++[dig])+g*val (d.take (i+1))=val (u.take (i+1))+B ^ (i+1)*(c'+b'):=by
 rw [val_append,hi,take_val d i,take_val u i]
 simp only [val,Nat.mul_zero,Nat.add_zero]
 have e1:g*(val (d.take i)+B ^ i*d.getD i 0)=g*val (d.take i)+B ^ i*(g*d.getD i 0):=by rw [Nat.mul_add,Nat.mul_left_comm g]
 have e2:B ^ (i+1)*(c'+b')=B ^ i*(B*c'+B*b'):=by rw [Nat.pow_succ,Nat.mul_assoc,Nat.mul_add]
 have e3:B ^ i*(dig+g*d.getD i 0+c+b)=B ^ i*(u.getD i 0+(B*c'+B*b')):=by congr 1;omega
 rw [e1,e2]
 simp only [Nat.mul_add] at e3 hv ⊢
 omega
theorem ab_step {done u d:List Nat} {i a s:Nat} (hi:done.length=i) (hs:s=u.getD i 0+d.getD i 0+a) (hv:val done+B ^ i*a=val (u.take i)+val (d.take i)) :
  val (done++[s % B])+B ^ (i+1)*(s / B)=val (u.take (i+1))+val (d.take (i+1)):=by
 rw [val_append,hi,take_val d i,take_val u i]
 simp only [val,Nat.mul_zero,Nat.add_zero]
 have e2:B ^ (i+1)*(s / B)=B ^ i*(B*(s / B)):=by rw [Nat.pow_succ,Nat.mul_assoc]
 have e3:B ^ i*(s % B+B*(s / B))=B ^ i*(u.getD i 0+d.getD i 0+a):=by rw [Nat.mod_add_div,hs]
 rw [e2]
 simp only [Nat.mul_add] at e3 ⊢
 omega
theorem dg_fit {U V g r P:Nat} (h1:U<(g+1)*V) (hv:r+g*V=U+P*0):U / V=g∧U % V=r:=by
 rw [Nat.mul_zero,Nat.add_zero] at hv
 rw [Nat.add_mul,Nat.one_mul] at h1
 have hr:r<V:=by omega
 subst hv
 refine ⟨?_,?_⟩
 ·rw [Nat.mul_comm g,Nat.add_mul_div_left _ _ (by omega),Nat.div_eq_of_lt hr,Nat.zero_add]
 ·rw [Nat.mul_comm g,Nat.add_mul_mod_self_left,Nat.mod_eq_of_lt hr]
theorem dg_back {U V g r P r3 x3 dn a:Nat} (h2:g*V<U+V) (hV:V<P) (hr:r<P) (hv:r+g*V=U+P*1) (hb:dn+x3=r+V - 0) (h3:r3=dn+x3∨r3+P=dn+x3) (hr3:r3<P) (ha:a=g):U / V=g - 1∧U % V=r3:=by
 subst ha
 rw [Nat.mul_one] at hv
 rcases Nat.eq_zero_or_pos a with h0 | h0
 ·subst h0;omega
 obtain ⟨m,rfl⟩:∃ m,a=m+1:=⟨a - 1,by omega⟩
 rw [Nat.add_mul,Nat.one_mul] at hv h2
 have e:r3+m*V=U:=by omega
 have hlt:r3<V:=by omega
 rw [Nat.add_sub_cancel]
 subst e
 refine ⟨?_,?_⟩
 ·rw [Nat.mul_comm m,Nat.add_mul_div_left _ _ (by omega),Nat.div_eq_of_lt hlt,Nat.zero_add]
 ·rw [Nat.mul_comm m,Nat.add_mul_mod_self_left,Nat.mod_eq_of_lt hlt]
theorem or_low {a c sh:Nat} (ha:a<2 ^ sh):a ||| c*2 ^ sh=a+c*2 ^ sh:=by
 have:=Nat.shiftLeft_add_eq_or_of_lt (i:=sh) (a:=c) (b:=a) ha
 rw [Nat.shiftLeft_eq] at this
 rw [Nat.or_comm,← this,Nat.add_comm]
theorem low_mul {x sh:Nat} (h:sh<32):x*2 ^ sh % 4294967296=x % 2 ^ (32 - sh)*2 ^ sh:=by
 have:(4294967296:Nat)=2 ^ (32 - sh)*2 ^ sh:=by rw [← Nat.pow_add,show 32 - sh+sh=32 by omega]
 rw [this,Nat.mul_mod_mul_right]
theorem sh_step {q l:List Nat} {k c x sh:Nat} (hq:q.length=k) (hx:l.getD k 0=x) (hv:val q+B ^ k*c=val (l.take k)*2 ^ sh) :
  val (q++[c+x*2 ^ sh % B])+B ^ (k+1)*(x*2 ^ sh / B)=val (l.take (k+1))*2 ^ sh:=by
 rw [val_append,hq,take_val l k,hx]
 simp only [val,Nat.mul_zero,Nat.add_zero]
 have h1:=Nat.mod_add_div (x*2 ^ sh) B
 have e1:B ^ (k+1)*(x*2 ^ sh / B)=B ^ k*(B*(x*2 ^ sh / B)):=by rw [Nat.pow_succ,Nat.mul_assoc]
 have e2:(val (l.take k)+B ^ k*x)*2 ^ sh=val (l.take k)*2 ^ sh+B ^ k*(x*2 ^ sh):=by rw [Nat.add_mul,Nat.mul_assoc]
 rw [e1,e2,← hv]
 have e3:B ^ k*(x*2 ^ sh % B+B*(x*2 ^ sh / B))=B ^ k*(x*2 ^ sh):=by rw [h1]
 simp only [Nat.mul_add] at e3 ⊢
 omega
end Go.Proofs.YtdpjcghiegggbaaGreatDoor.Num
namespace Go.Proofs.YtdpjcghiegggbaaGreatDoor.Num
open Go Go.Proofs Go.Abs
variable {G:Globals}
theorem app_getD {pre u post:List Nat} {i j:Nat} (hj:pre.length=j) (hi:i<u.length):(pre++(u++post)).getD (j+i) 0=u.getD i 0:=by
 subst hj
 simp only [List.getD_eq_getElem?_getD]
 rw [List.getElem?_append_right (by omega),List.getElem?_append_left (by omega),Nat.add_sub_cancel_left]
def win (pre done u post:List Nat):List Nat:=pre++(done++(u.drop done.length++post))
theorem win_nil {pre u post:List Nat}:win pre [] u post=pre++(u++post):=rfl
theorem win_length {pre done u post:List Nat} (h:done.length≤u.length):(win pre done u post).length=pre.length+u.length+post.length:=by simp [win];omega
theorem win_getD {pre done u post:List Nat} (h:done.length<u.length):(win pre done u post).getD (pre.length+done.length) 0=u.getD done.length 0:=by
 unfold win
 simp only [List.getD_eq_getElem?_getD]
 rw [List.getElem?_append_right (by omega),Nat.add_sub_cancel_left,List.getElem?_append_right (by omega),Nat.sub_self,List.getElem?_append_left (by simp;omega),List.getElem?_drop,Nat.add_zero]
theorem win_set {pre done u post:List Nat} {v:Nat} (h:done.length<u.length):(win pre done u post).set (pre.length+done.length) v=win pre (done++[v]) u post:=by
 unfold win
 rw [List.set_append_right _ _ (by omega),Nat.add_sub_cancel_left,List.set_append_right _ _ (by omega),Nat.sub_self,List.drop_eq_getElem_cons h,List.cons_append,List.set_cons_zero,List.length_append,List.length_singleton,List.append_assoc]
 rfl
theorem digit_spec (pre u post d ex:List Nat) (n:Nat) (hd:d.length=n+2) (hu:u.length=n+3) (dd:Dig d) (du:Dig u) (hUV:val u<val d*B) (hn:2147483648≤d.getD (n+1) 0) (hl:pre.length+u.length+post.length<2 ^ 40) :
  Ctr TP G 157 [.lsl 0 1 pre.length (n+3),.lsl 1 1 0 (n+2)] [.row false (nats .u32 (pre++(u++post))),.row false (nats .u32 (d++ex))] (.d (.int .u32 (val u / val d:Nat)))
   [.row false (nats .u32 (pre++(digs (n+3) (val u % val d)++post))),.row false (nats .u32 (d++ex))]:=by
 refine Ctr.body (M:=M0) hmix Tryz.func157 rfl go157 ?_
 have de:∀ i,i<n+2→(d++ex).getD i 0=d.getD i 0:=fun i hi=>by simp only [List.getD_eq_getElem?_getD];rw [List.getElem?_append_left (by omega)]
 have dl:(d++ex).length=n+2+ex.length:=by simp;omega
 generalize hrow:d++ex=dr at *
 have g1:(pre++(u++post)).getD (pre.length+(n+2)) 0=u.getD (n+2) 0:=app_getD rfl (by omega)
 have g2:(pre++(u++post)).getD (pre.length+(n+1)) 0=u.getD (n+1) 0:=app_getD rfl (by omega)
 have g3:(pre++(u++post)).getD (pre.length+n) 0=u.getD n 0:=app_getD rfl (by omega)
 have p1:u.getD (n+2) 0<4294967296:=du.getD _
 have p2:u.getD (n+1) 0<4294967296:=du.getD _
 have p3:u.getD n 0<4294967296:=du.getD _
 have q1:d.getD (n+1) 0<4294967296:=dd.getD _
 have q2:d.getD n 0<4294967296:=dd.getD _
 have hpl:(pre++(u++post)).length=pre.length+u.length+post.length:=by simp;omega
 generalize ho:pre++(u++post)=o at *
 have hU:=val_top3 hu
 have hV:=val_top2 hd
 have hlu:=take_lt du n
 have hlv:=take_lt dd n
 rw [show n+3=(n+2)+1 from rfl]
 generalize ht:u.getD (n+2) 0*B+u.getD (n+1) 0=top at hU
 have ht':u.getD (n+2) 0*4294967296+u.getD (n+1) 0=top:=by simpa only [B] using ht
 have htl:top<18446744073709551616:=by omega
 have hqt:=Nat.div_le_self top (d.getD (n+1) 0)
 have eg:(if (4294967295:Int)<((top / d.getD (n+1) 0:Nat):Int) then (4294967295:Int) else ((top / d.getD (n+1) 0:Nat):Int))=((min (top / d.getD (n+1) 0) 4294967295:Nat):Int):=by
  split<;>omega
 have hg0:min (top / d.getD (n+1) 0) 4294967295*d.getD (n+1) 0≤top:=Nat.le_trans (Nat.mul_le_mul_right _ (Nat.min_le_left _ _)) (Nat.div_mul_le_self _ _)
 have hg1:top<(min (top / d.getD (n+1) 0) 4294967295+1)*d.getD (n+1) 0∨min (top / d.getD (n+1) 0) 4294967295+1=B:=by
  by_cases h:top / d.getD (n+1) 0≤4294967295
  ·rw [Nat.min_eq_left h];left
   rw [Nat.mul_comm];exact Nat.lt_mul_div_succ top (by omega)
  ·right;rw [Nat.min_eq_right (by omega)];rfl
 have hg2:min (top / d.getD (n+1) 0) 4294967295<B:=by simp only [B];omega
 have hK:=kn_first (g:=min (top / d.getD (n+1) 0) 4294967295) hU hlu hV p3 hUV hg1
 generalize hg:min (top / d.getD (n+1) 0) 4294967295=g0 at *
 have hr0:((top:Nat):Int) - ((g0*d.getD (n+1) 0:Nat):Int)=((top - g0*d.getD (n+1) 0:Nat):Int):=by omega
 simp (config:={maxSteps:=1000000}) (disch:=(try simp only [awL]);omega) only [Tryz.f157,hd,dl,de,or64,g1,g2,g3,ht',← Int.ofNat_tdiv,eg,hr0,↓awU,awV,awX,awF,↓reduceIte,↓reduceDIte,↓Qe,Qu,Qv,Qw,Qx,Qy,Qz,QA,QB,QC,QD,QE,QF,QG,QH,QI,QK]
 refine ⟨by rfl,?_⟩
 refine LoopC.fx 35 (α:=Nat × Nat) (β:=Nat) (fun x=>x.1) (fun x=>[(7,.d (.int .u64 x.1)),(8,.d (.int .u64 x.2))])
  (fun _=>[.row false (nats .u32 o),.row false (nats .u32 dr)]) (fun x=>x.1<B∧val u<(x.1+1)*val d∧x.1*d.getD (n+1) 0+x.2=top)
  35 (fun g=>[(7,.d (.int .u64 g))]) (fun _=>[.row false (nats .u32 o),.row false (nats .u32 dr)]) (fun g=>g<B∧val u<(g+1)*val d∧g*val d<val u+val d) (g0,top - g0*d.getD (n+1) 0) ⟨hg2,hK,by simp only;omega⟩ ?_ ?_ ?_
 ·exact ⟨[some 0,some 1],rfl,by simp,by simp [sA,kA,SW,AW],by simp [HW,BW,SW,AW]⟩
 ·rintro ⟨g,r⟩ ⟨hgB,hgU,hgr⟩
  simp only at hgB hgU hgr
  simp only [awK,Nat.reduceMod,Nat.reduceDiv,reduceIte]
  have hE:∀ {g r},g<B→g*d.getD (n+1) 0+r=top→(B≤r∨g*d.getD n 0≤r*B+u.getD n 0)→g*val d<val u+val d :=
   fun a b c=>kn_exit hU hV hlv (by omega) q2 a b c
  have hD:∀ {g r},g*d.getD (n+1) 0+r=top→r*B+u.getD n 0<g*d.getD n 0→val u<g*val d:=fun a b=>kn_down hU hlu hV a b
  clear hU hV hlu hlv hUV hK hg1 eg hr0 hg0 hg2 hqt hg
  replace hgU:=Hid.mk hgU
  rcases g with _ | g
  ·simp (config:={maxSteps:=1000000}) (disch:=(try simp only [awL]);omega) only [dl,de,or64,g1,g2,g3,ht',Int.zero_mul,↓awU,awV,awX,awF,↓reduceIte,↓reduceDIte,↓Qe,Qu,Qv,Qw,Qx,Qy,Qz,QA,QB,QC,QD,QE,QF,QG,QH,QI,QK]
   have e0:0*val d<val u+val d:=hE hgB hgr (.inr (by simp))
   exact ⟨fun h=>⟨by rfl,0,⟨by decide,hgU.out,e0⟩,⟨[some 0,some 1],rfl,by simp,by simp [sA,kA,SW,AW],by simp [HW,BW,SW,AW]⟩⟩,fun h=>⟨by rfl,0,⟨by decide,hgU.out,e0⟩,⟨[some 0,some 1],rfl,by simp,by simp [sA,kA,SW,AW],by simp [HW,BW,SW,AW]⟩⟩⟩
  ·have hgd:(g+1)*d.getD n 0≤18446744065119617025:=mul_digit hgB (dd.getD n)
   have hgB':g+1<4294967296:=by simpa only [B] using hgB
   simp (config:={maxSteps:=1000000}) (disch:=(try simp only [awL]);omega) only [dl,de,or64,g1,g2,g3,ht',↓awU,awV,awX,awF,↓reduceIte,↓reduceDIte,↓Qe,Qu,Qv,Qw,Qx,Qy,Qz,QA,QB,QC,QD,QE,QF,QG,QH,QI,QK]
   refine ⟨fun h=>⟨by rfl,fun h2=>⟨(g,r+d.getD (n+1) 0),⟨?_,hD hgr (by simp only [B];omega),?_⟩,by simp only;omega,⟨[some 0,some 1],rfl,by simp,by simp [sA,kA,SW,AW],by simp [HW,BW,SW,AW]⟩⟩,
    fun h2=>⟨g+1,⟨hgB,hgU.out,hE hgB hgr (.inr (by simp only [B];omega))⟩,⟨[some 0,some 1],rfl,by simp,by simp [sA,kA,SW,AW],by simp [HW,BW,SW,AW]⟩⟩⟩,fun h=>⟨by rfl,g+1,⟨hgB,hgU.out,hE hgB hgr (.inl (by simp only [B];omega))⟩,⟨[some 0,some 1],rfl,by simp,by simp [sA,kA,SW,AW],by simp [HW,BW,SW,AW]⟩⟩⟩
   ·simp only;omega
   ·simp only
    rw [Nat.add_mul,Nat.one_mul] at hgr
    omega
 ·rintro g ⟨hgB,hgU,hgV⟩
  simp only [awK,Nat.reduceMod,Nat.reduceDiv,reduceIte]
  clear eg hr0 hg0 hg2 hqt hg hK hg1
  replace hU:=Hid.mk hU
  replace hV:=Hid.mk hV
  replace hlu:=Hid.mk hlu
  replace hlv:=Hid.mk hlv
  replace hgU:=Hid.mk hgU
  replace hgV:=Hid.mk hgV
  replace hUV:=Hid.mk hUV
  replace ht:=Hid.mk ht
  have hgB':g<4294967296:=by simpa only [B] using hgB
  simp (config:={maxSteps:=1000000}) (disch:=(try simp only [awL]);omega) only [dl,de,↓awU,awV,awX,awF,↓reduceIte,↓reduceDIte,↓Qe,Qu,Qv,Qw,Qx,Qy,Qz,QA,QB,QC,QD,QE,QF,QG,QH,QI,QK]
  refine LoopC.fx 14507109835375550096474275 (α:=List Nat × Nat × Nat) (β:=List Nat × Nat × Nat) (fun x=>n+2 - x.1.length) (fun x=>[(9,.d (.int .u32 x.2.1)),(10,.d (.int .u64 x.2.2)),(84,.d (.int .i64 x.1.length))])
   (fun x=>[.row false (nats .u32 (win pre x.1 u post)),.row false (nats .u32 dr)]) (fun x=>x.1.length≤n+2∧Dig x.1∧x.2.1≤1∧x.2.2<B∧val x.1+g*val (d.take x.1.length)=val (u.take x.1.length)+B ^ x.1.length*(x.2.2+x.2.1))
   163 (fun x=>[(9,.d (.int .u32 x.2.1)),(10,.d (.int .u64 x.2.2))]) (fun x=>[.row false (nats .u32 (win pre x.1 u post)),.row false (nats .u32 dr)]) (fun x=>x.1.length=n+2∧Dig x.1∧x.2.1≤1∧x.2.2<B∧val x.1+g*val d=val (u.take (n+2))+B ^ (n+2)*(x.2.2+x.2.1))
   ([],0,0) ⟨by simp,by simp [Dig],by simp,by simp [B],by simp [val]⟩ ?_ ?_ ?_
  ·exact ⟨[some 0,some 1],rfl,by simp,by simp [sA,kA,SW,AW],by simp [HW,BW,win_nil,ho]⟩
  ·rintro ⟨done,b,c⟩ ⟨hi,hdd,hb,hc,hv⟩
   simp only at hi hdd hb hc hv
   simp only [awK,Nat.reduceMod,Nat.reduceDiv,reduceIte]
   replace hv:=Hid.mk hv
   have w1:(win pre done u post).getD (pre.length+done.length) 0=u.getD done.length 0:=win_getD (by omega)
   have w3:(win pre done u post).length=pre.length+u.length+post.length:=win_length (by omega)
   have hcB:c<4294967296:=by simpa only [B] using hc
   have m1:g*d.getD done.length 0≤18446744065119617025:=mul_digit hgB (dd.getD _)
   have m2:u.getD done.length 0<4294967296:=du.getD _
   have m3:d.getD done.length 0<4294967296:=dd.getD _
   simp (config:={maxSteps:=1000000}) (disch:=(try simp only [awL]);omega) only [w1,w3,hd,dl,de,w_u32,↓awU,awV,awX,awF,↓reduceIte,↓reduceDIte,↓Qe,Qu,Qv,Qw,Qx,Qy,Qz,QA,QB,QC,QD,QE,QF,QG,QH,QI,QK]
   refine ⟨fun h=>?_,fun h=>?_⟩
   ·refine CallC.pure (sub32 _ _ _ (du.getD _) (Nat.mod_lt _ (by decide)) hb) ?_
    have w2:∀ v,(win pre done u post).set (pre.length+done.length) v=win pre (done++[v]) u post:=fun v=>win_set (by omega)
    simp (config:={maxSteps:=1000000}) (disch:=(try simp only [awL]);omega) only [w1,w2,w3,hd,dl,de,↓awU,awV,awX,awF,↓reduceIte,↓reduceDIte,↓Qe,Qu,Qv,Qw,Qx,Qy,Qz,QA,QB,QC,QD,QE,QF,QG,QH,QI,QK]
    have hsl:c+g*d.getD done.length 0<B*B:=by simp only [B];omega
    rw [show (4294967296:Nat)=B from rfl]
    refine ⟨(done++[(u.getD done.length 0+B - (c+g*d.getD done.length 0) % B - b) % B],if u.getD done.length 0<(c+g*d.getD done.length 0) % B+b then 1 else 0,(c+g*d.getD done.length 0) / B),
     ⟨by simp;omega,hdd.append ?_,by simp only;split<;>omega,(Nat.div_lt_iff_lt_mul (by decide)).2 hsl,?_⟩,by simp;omega,[some 0,some 1],rfl,by simp,by simp [SW,AW,B],by simp [HW,BW]⟩
    ·intro x hx;simp at hx;subst hx;exact Nat.mod_lt _ (by decide)
    ·have:=dg_step (d:=d) (g:=g) rfl (sub_digit (du.getD done.length) (Nat.mod_lt (c+g*d.getD done.length 0) (show 0<B by decide)) hb) (Nat.mod_add_div (c+g*d.getD done.length 0) B) hv.out
     simpa using this
   ·have hi':done.length=n+2:=by omega
    have hv:=hv.out
    rw [hi',List.take_of_length_le (l:=d) (by omega)] at hv
    exact ⟨(done,b,c),⟨hi',hdd,hb,hc,hv⟩,⟨[some 0,some 1],rfl,by simp,by simp [sA,kA,SW,AW],by simp [HW,BW,SW,AW]⟩⟩
  ·rintro ⟨done,b,c⟩ ⟨hi,hdd,hb,hc,hv⟩
   simp only at hi hdd hb hc hv
   simp only [awK,Nat.reduceMod,Nat.reduceDiv,reduceIte]
   replace hv:=Hid.mk hv
   have w1:(win pre done u post).getD (pre.length+(n+2)) 0=u.getD (n+2) 0:=by rw [← hi];exact win_getD (by omega)
   have w3:(win pre done u post).length=pre.length+u.length+post.length:=win_length (by omega)
   have w2:∀ v,(win pre done u post).set (pre.length+(n+2)) v=win pre (done++[v]) u post:=fun v=>by rw [← hi];exact win_set (by omega)
   have hcB:c<4294967296:=by simpa only [B] using hc
   simp (config:={maxSteps:=1000000}) (disch:=(try simp only [awL]);omega) only [w1,w2,w3,hd,dl,de,↓awU,awV,awX,awF,↓reduceIte,↓reduceDIte,↓Qe,Qu,Qv,Qw,Qx,Qy,Qz,QA,QB,QC,QD,QE,QF,QG,QH,QI,QK]
   refine CallC.pure (sub32 _ _ _ (du.getD _) hc hb) ?_
   by_cases hbb:u.getD (n+2) 0<c+b
   ·rw [if_pos hbb]
    simp (config:={maxSteps:=1000000}) (disch:=(try simp only [awL]);omega) only [w1,w2,w3,hd,dl,de,↓awU,awV,awX,awF,↓reduceIte,↓reduceDIte,↓Qe,Qu,Qv,Qw,Qx,Qy,Qz,QA,QB,QC,QD,QE,QF,QG,QH,QI,QK]
    have h1:=sub_digit (du.getD (n+2)) hc hb
    rw [if_pos hbb] at h1
    have dz:d.getD (n+2) 0=0:=by rw [List.getD_eq_getElem?_getD,List.getElem?_eq_none (by omega)];rfl
    have h2:=dg_step (d:=d) (g:=g) (c:=c) (c':=0) hi h1 (by rw [dz];simp) (by rw [List.take_of_length_le (l:=d) (by omega)];exact hv.out)
    generalize hdig:(u.getD (n+2) 0+B - c - b) % B=dig at h1 h2 ⊢
    have hdB:dig<B:=by rw [← hdig];exact Nat.mod_lt _ (by decide)
    rw [List.take_of_length_le (l:=d) (by omega),List.take_of_length_le (l:=u) (by omega),Nat.zero_add] at h2
    generalize hu':done++[dig]=u' at h2 ⊢
    have lu':u'.length=n+3:=by rw [← hu'];simp;omega
    have du':Dig u':=by rw [← hu'];exact hdd.append (by intro x hx;simp at hx;omega)
    have vu':=val_lt du'
    rw [lu'] at vu'
    obtain ⟨m,rfl⟩:∃ m,g=m+1:=by
     rcases g with _ | m
     ·rw [Nat.zero_mul,Nat.mul_one] at h2
      have:B ^ (n+2+1)=B ^ (n+3):=rfl
      omega
     ·exact ⟨m,rfl⟩
    have ew:win pre u' u post=win pre [] u' post:=by
     simp [win,lu',List.drop_of_length_le (l:=u) (i:=n+3) (by omega)]
    rw [ew]
    clear w1 w2 w3 hv hb hc hcB hbb h1
    replace h2:=Hid.mk h2
    replace vu':=Hid.mk vu'
    refine LoopC.fx 4083388403051261561560495289181218537633 (α:=List Nat × Nat) (β:=List Nat × Nat) (fun x=>n+2 - x.1.length) (fun x=>[(13,.d (.int .u32 x.2)),(132,.d (.int .i64 x.1.length))])
     (fun x=>[.row false (nats .u32 (win pre x.1 u' post)),.row false (nats .u32 dr)]) (fun x=>x.1.length≤n+2∧Dig x.1∧x.2≤1∧val x.1+B ^ x.1.length*x.2=val (u'.take x.1.length)+val (d.take x.1.length))
     161 (fun x=>[(13,.d (.int .u32 x.2))]) (fun x=>[.row false (nats .u32 (win pre x.1 u' post)),.row false (nats .u32 dr)]) (fun x=>x.1.length=n+2∧Dig x.1∧x.2≤1∧val x.1+B ^ (n+2)*x.2=val (u'.take (n+2))+val d)
     ([],0) ⟨by simp,by simp [Dig],by simp,by simp [val]⟩ ?_ ?_ ?_
    ·exact ⟨[some 0,some 1],rfl,by simp,by simp [sA,kA,SW,AW],by simp [HW,BW,SW,AW]⟩
    ·rintro ⟨done2,a⟩ ⟨hi2,hd2,ha,hv2⟩
     simp only at hi2 hd2 ha hv2
     simp only [awK,Nat.reduceMod,Nat.reduceDiv,reduceIte]
     replace hv2:=Hid.mk hv2
     have w1:(win pre done2 u' post).getD (pre.length+done2.length) 0=u'.getD done2.length 0:=win_getD (by omega)
     have w3:(win pre done2 u' post).length=pre.length+u'.length+post.length:=win_length (by omega)
     simp (config:={maxSteps:=1000000}) (disch:=(try simp only [awL]);omega) only [w1,w3,hd,dl,de,↓awU,awV,awX,awF,↓reduceIte,↓reduceDIte,↓Qe,Qu,Qv,Qw,Qx,Qy,Qz,QA,QB,QC,QD,QE,QF,QG,QH,QI,QK]
     refine ⟨fun h=>?_,fun h=>?_⟩
     ·refine CallC.pure (add32 _ _ _ (du'.getD _) (dd.getD _) ha) ?_
      have w2:∀ v,(win pre done2 u' post).set (pre.length+done2.length) v=win pre (done2++[v]) u' post:=fun v=>win_set (by omega)
      have a1:=du'.getD done2.length
      have a2:=dd.getD done2.length
      simp (config:={maxSteps:=1000000}) (disch:=(try simp only [awL]);omega) only [w1,w2,w3,hd,dl,de,↓awU,awV,awX,awF,↓reduceIte,↓reduceDIte,↓Qe,Qu,Qv,Qw,Qx,Qy,Qz,QA,QB,QC,QD,QE,QF,QG,QH,QI,QK]
      refine ⟨(done2++[(u'.getD done2.length 0+d.getD done2.length 0+a) % B],(u'.getD done2.length 0+d.getD done2.length 0+a) / B),
       ⟨by simp;omega,hd2.append ?_,by simp only [B] at *;omega,?_⟩,by simp;omega,[some 0,some 1],rfl,by simp,by simp [SW,AW],by simp [HW,BW]⟩
      ·intro x hx;simp at hx;subst hx;exact Nat.mod_lt _ (by decide)
      ·have:=ab_step (u:=u') (d:=d) rfl rfl hv2.out
       simpa using this
     ·have hi':done2.length=n+2:=by omega
      have hv2:=hv2.out
      rw [hi',List.take_of_length_le (l:=d) (by omega)] at hv2
      exact ⟨(done2,a),⟨hi',hd2,ha,hv2⟩,⟨[some 0,some 1],rfl,by simp,by simp [sA,kA,SW,AW],by simp [HW,BW,SW,AW]⟩⟩
    ·rintro ⟨done2,a⟩ ⟨hi2,hd2,ha,hv2⟩
     simp only at hi2 hd2 ha hv2
     simp only [awK,Nat.reduceMod,Nat.reduceDiv,reduceIte]
     replace hv2:=Hid.mk hv2
     have w1:(win pre done2 u' post).getD (pre.length+(n+2)) 0=u'.getD (n+2) 0:=by rw [← hi2];exact win_getD (by omega)
     have w3:(win pre done2 u' post).length=pre.length+u'.length+post.length:=win_length (by omega)
     have w2:∀ v,(win pre done2 u' post).set (pre.length+(n+2)) v=win pre (done2++[v]) u' post:=fun v=>by rw [← hi2];exact win_set (by omega)
     have a1:=du'.getD (n+2)
     simp (config:={maxSteps:=1000000}) (disch:=(try simp only [awL]);omega) only [w1,w2,w3,hd,dl,de,w_u32,cast_add,nats_set,↓awU,awV,awX,awF,↓reduceIte,↓reduceDIte,↓Qe,Qu,Qv,Qw,Qx,Qy,Qz,QA,QB,QC,QD,QE,QF,QG,QH,QI,QK]
     rw [show (4294967296:Nat)=B from rfl]
     have hB0:0<B:=by decide
     have h3:=Nat.mod_add_div (u'.getD (n+2) 0+a) B
     have hq:(u'.getD (n+2) 0+a) / B=0∨(u'.getD (n+2) 0+a) / B=1:=by simp only [B] at *;omega
     have du3:Dig (done2++[(u'.getD (n+2) 0+a) % B]):=hd2.append (by intro x hx;simp at hx;subst hx;exact Nat.mod_lt _ hB0)
     have l3:(done2++[(u'.getD (n+2) 0+a) % B]).length=n+3:=by simp;omega
     have v3:=val_lt du3
     rw [l3] at v3
     have hu3:val u'=val (u'.take (n+2))+B ^ (n+2)*u'.getD (n+2) 0:=by
      have:=take_val u' (n+2)
      rwa [List.take_of_length_le (l:=u') (by omega)] at this
     have e3:val (done2++[(u'.getD (n+2) 0+a) % B])+B ^ (n+3)*((u'.getD (n+2) 0+a) / B)=val u'+val d:=by
      rw [val_append,hi2,hu3]
      simp only [val,Nat.mul_zero,Nat.add_zero]
      have e4:B ^ (n+3)*((u'.getD (n+2) 0+a) / B)=B ^ (n+2)*(B*((u'.getD (n+2) 0+a) / B)):=by rw [Nat.pow_succ,Nat.mul_assoc]
      have e5:B ^ (n+2)*((u'.getD (n+2) 0+a) % B)+B ^ (n+2)*(B*((u'.getD (n+2) 0+a) / B))=B ^ (n+2)*u'.getD (n+2) 0+B ^ (n+2)*a:=by rw [← Nat.mul_add,h3,Nat.mul_add]
      have e6:=hv2.out
      omega
     generalize hr3:done2++[(u'.getD (n+2) 0+a) % B]=r3 at *
     generalize (u'.getD (n+2) 0+a) / B=z at *
     have hV:=val_lt dd
     have hVP:val d<B ^ (n+3):=Nat.lt_of_lt_of_le hV (Nat.pow_le_pow_right hB0 (by omega))
     have hb:=dg_back (U:=val u) (V:=val d) (g:=m+1) (r:=val u') (P:=B ^ (n+3)) (r3:=val r3) (x3:=0) (dn:=val u'+val d) hgV.out hVP vu'.out h2.out (by omega)
      (by rcases hq with rfl | rfl
          ·left;rw [Nat.mul_zero] at e3;omega
          ·right;rw [Nat.mul_one] at e3;omega) v3 rfl
     rw [hb.1,hb.2,Nat.add_sub_cancel,← digs_eq du3 l3 rfl]
     have ew3:win pre r3 u' post=pre++(r3++post):=by simp [win,l3,List.drop_of_length_le (l:=u') (i:=n+3) (by omega)]
     rw [ew3]
     exact ⟨[some 0,some 1],rfl,by simp,by simp [HW,BW,SW,AW],.inl (by simp [AW,SW])⟩
   ·rw [if_neg hbb]
    simp (config:={maxSteps:=1000000}) (disch:=(try simp only [awL]);omega) only [w1,w2,w3,hd,dl,de,↓awU,awV,awX,awF,↓reduceIte,↓reduceDIte,↓Qe,Qu,Qv,Qw,Qx,Qy,Qz,QA,QB,QC,QD,QE,QF,QG,QH,QI,QK]
    have h1:=sub_digit (du.getD (n+2)) hc hb
    rw [if_neg hbb] at h1
    have dz:d.getD (n+2) 0=0:=by rw [List.getD_eq_getElem?_getD,List.getElem?_eq_none (by omega)];rfl
    have h2:=dg_step (d:=d) (g:=g) (c:=c) (c':=0) hi h1 (by rw [dz];simp) (by rw [List.take_of_length_le (l:=d) (by omega)];exact hv.out)
    generalize hdig:(u.getD (n+2) 0+B - c - b) % B=dig at h1 h2 ⊢
    have hdB:dig<B:=by rw [← hdig];exact Nat.mod_lt _ (by decide)
    rw [List.take_of_length_le (l:=d) (by omega),List.take_of_length_le (l:=u) (by omega),Nat.zero_add] at h2
    generalize hu':done++[dig]=u' at h2 ⊢
    have lu':u'.length=n+3:=by rw [← hu'];simp;omega
    have du':Dig u':=by rw [← hu'];exact hdd.append (by intro x hx;simp at hx;omega)
    have hb:=dg_fit hgU.out h2
    rw [hb.1,hb.2,← digs_eq du' lu' rfl]
    have ew3:win pre u' u post=pre++(u'++post):=by simp [win,lu',List.drop_of_length_le (l:=u) (i:=n+3) (by omega)]
    rw [ew3]
    exact ⟨[some 0,some 1],rfl,by simp,by simp [HW,BW,SW,AW],.inl (by simp [AW,SW])⟩
theorem mid_getD {q r:List Nat} {c k:Nat} (h:q.length=k):(q++c::r).getD k 0=c:=by subst h;simp [List.getD_eq_getElem?_getD]
theorem mid_set {q r:List Nat} {c k v:Nat} (h:q.length=k):(q++c::r).set k v=q++v::r:=by subst h;simp
theorem mid_set1 {q r:List Nat} {c d k v:Nat} (h:q.length=k):(q++c::d::r).set (k+1) v=q++c::v::r:=by
 subst h;rw [List.set_append_right _ _ (by omega),Nat.add_sub_cancel_left];rfl
theorem shifted_spec (l:List Nat) (sh:Nat) (hl:Dig l) (hs:sh<32) (hll:l.length<2 ^ 40) :
  Ctr TP G 156 [.d (W l),.d (.int .i64 sh)] [] (.lsl 0 1 0 (l.length+1)) [.row false (nats .u32 (digs (l.length+1) (val l*2 ^ sh)))]:=by
 refine Ctr.body (M:=M0) hmix Tryz.func156 rfl go156 ?_
 simp (config:={maxSteps:=1000000}) (disch:=(try simp only [awL]);omega) only [Tryz.f156,↓awU,awV,awX,awF,↓reduceIte,↓reduceDIte,↓Qe,Qu,Qv,Qw,Qx,Qy,Qz,QA,QB,QC,QD,QE,QF,QG,QH,QI,QK]
 have hm:(2:Int) ^ sh=((2 ^ sh:Nat):Int):=by simp
 have hmb:2 ^ sh≤2147483648:=Nat.pow_le_pow_right (by decide) (show sh≤31 by omega)
 have hmp:0<2 ^ sh:=Nat.two_pow_pos sh
 refine LoopC.fr 24610 (α:=Nat × List Nat × Nat) (fun x=>l.length - x.1) (fun x=>[(15,.d (.int .i64 x.1))])
  (fun x=>[.row false (nats .u32 (x.2.1++x.2.2::List.replicate (l.length - x.1) 0))]) (fun x=>x.1≤l.length∧x.2.1.length=x.1∧Dig x.2.1∧x.2.2<2 ^ sh∧val x.2.1+B ^ x.1*x.2.2=val (l.take x.1)*2 ^ sh) (0,[],0) ⟨Nat.zero_le _,rfl,(fun x hx=>by cases hx),hmp,(Nat.zero_mul _).symm▸rfl⟩ ?_ ?_
 ·exact ⟨[some 0],rfl,by simp,by simp [sA,kA,SW,AW],by simp [HW,BW,List.replicate_succ]⟩
 ·rintro ⟨k,q,c⟩ ⟨hk,hq,hd,hc,hv⟩
  simp only at hk hq hd hc hv
  simp only [awK,Nat.reduceMod,Nat.reduceDiv,reduceIte]
  replace hv:=Hid.mk hv
  have hx:l.getD k 0<4294967296:=hl.getD k
  have hxm:l.getD k 0*2 ^ sh≤4294967295*2147483648:=Nat.mul_le_mul (by omega) hmb
  have c1:∀ r,(q++c::r).getD k 0=c:=fun r=>mid_getD hq
  have c2:∀ r v,(q++c::r).set k v=q++v::r:=fun r v=>mid_set hq
  have c3:∀ a d r v,(q++a::d::r).set (k+1) v=q++a::v::r:=fun a d r v=>mid_set1 hq
  have hor:c ||| (l.getD k 0*2 ^ sh % 4294967296)=c+l.getD k 0*2 ^ sh % 4294967296:=by rw [low_mul hs,or_low hc]
  have hlow:l.getD k 0*2 ^ sh % 4294967296<4294967296:=Nat.mod_lt _ (by decide)
  have hmin:min sh 64=sh:=by omega
  simp (config:={maxSteps:=1000000}) (disch:=(try simp only [awL]);omega) only [hm,hmin,c1,c2,hor,bi_u32_or_nat,w_u32,Nat.zero_lt_succ,↓awU,awV,awX,awF,↓reduceIte,↓reduceDIte,↓Qe,Qu,Qv,Qw,Qx,Qy,Qz,QA,QB,QC,QD,QE,QF,QG,QH,QI,QK]
  refine ⟨fun h=>?_,fun h=>?_⟩
  ·have er:List.replicate (l.length - k) 0=0::List.replicate (l.length - (k+1)) 0:=by rw [← List.replicate_succ];congr 1;omega
   rw [er]
   have ei:((l.getD k 0*2 ^ sh:Nat):Int) / 4294967296=((l.getD k 0*2 ^ sh / B:Nat):Int):=by simp only [B];omega
   rw [ei,nats_set,c3]
   refine ⟨(k+1,q++[c+l.getD k 0*2 ^ sh % B],l.getD k 0*2 ^ sh / B),⟨by simp only;omega,by simp [hq],hd.append ?_,?_,sh_step hq rfl hv.out⟩,by simp only;omega,[some 0],rfl,by simp,by simp [SW,AW],?_⟩
   ·intro x hx
    simp only [List.mem_cons,List.not_mem_nil,or_false] at hx
    subst hx
    show c+l.getD k 0*2 ^ sh % 4294967296<2 ^ 32
    rw [← hor]
    exact Nat.or_lt_two_pow (by omega) hlow
   ·simp only
    rw [Nat.div_lt_iff_lt_mul (by decide),Nat.mul_comm (2 ^ sh)]
    exact Nat.mul_lt_mul_of_pos_right hx hmp
   ·have e2:(q++[c+l.getD k 0*2 ^ sh % B])++l.getD k 0*2 ^ sh / B::List.replicate (l.length - (k+1)) 0=q++(c+l.getD k 0*2 ^ sh % 4294967296)::l.getD k 0*2 ^ sh / B::List.replicate (l.length - (k+1)) 0:=by
     rw [List.append_assoc];rfl
    simp only [e2]
    simp [HW,BW]
  ·have ek:k=l.length:=by omega
   have hv:=hv.out
   subst ek
   rw [List.take_of_length_le (Nat.le_refl _)] at hv
   have hcB:c<B:=Nat.lt_of_lt_of_le hc (by simp only [B];omega)
   rw [Nat.sub_self,List.replicate_zero,← digs_eq (l:=q++[c]) (hd.append (by intro x hx;simp only [List.mem_cons,List.not_mem_nil,or_false] at hx;subst hx;exact hcB)) (by simp [hq]) (by rw [val_append,hq];simpa [val] using hv)]
   exact ⟨[some 0],rfl,by simp,by simp [HW,BW,SW,AW],.inl (by simp [AW,SW])⟩
theorem clone_spec (l:List Nat) (hl:l.length<2 ^ 40):Ctr TP G 98 [.d (W l)] [] (.d (W l)) []:=by
 refine Ctr.of_body Tryz.func98 rfl go98 rfl ?_
 refine Tri.seq (Tri.of_awp (M:=M0) hmix _ _ _ _ ?_)
 simp (config:={maxSteps:=1000000}) (disch:=(try simp only [awL]);omega) only [aseq_normal,Tryz.f98,↓awU,awV,awX,awF,↓reduceIte,↓reduceDIte,↓Qe,Qu,Qv,Qw,Qx,Qy,Qz,QA,QB,QC,QD,QE,QF,QG,QH,QI,QK]
 refine Tri.seq (Tri.seq (Tri.nilRegion (e:=106) (by kernel_rfl) rfl ?_ ?_))
 ·simp
 intro b hb
 simp only [aseq_normal]
 refine Tri.of_awp (M:=M0) hmix _ _ _ _ ?_
 cases b
 ·simp (config:={maxSteps:=1000000}) (disch:=(try simp only [awL]);omega) only [aseq_normal,Tryz.f98,aseq_ret,↓awU,awV,awX,awF,↓reduceIte,↓reduceDIte,↓Qe,Qu,Qv,Qw,Qx,Qy,Qz,QA,QB,QC,QD,QE,QF,QG,QH,QI,QK]
  refine Tri.of_awp (M:=M0) hmix _ _ _ _ ?_
  simp (config:={maxSteps:=1000000}) (disch:=(try simp only [awL]);omega) only [aseq_normal,Tryz.f98,aseq_ret,↓awU,awV,awX,awF,↓reduceIte,↓reduceDIte,↓Qe,Qu,Qv,Qw,Qx,Qy,Qz,QA,QB,QC,QD,QE,QF,QG,QH,QI,QK]
  refine ⟨[],rfl,List.nodup_nil,trivial,.inr ⟨W l,?_,by simp [W,unf_sl],rfl⟩⟩
  simp [sealA,W,cut_nats]
 ·simp (config:={maxSteps:=1000000}) (disch:=(try simp only [awL]);omega) only [aseq_normal,Tryz.f98,aseq_ret,↓awU,awV,awX,awF,↓reduceIte,↓reduceDIte,↓Qe,Qu,Qv,Qw,Qx,Qy,Qz,QA,QB,QC,QD,QE,QF,QG,QH,QI,QK]
  have h0:l=[]:=List.length_eq_zero_iff.1 (hb rfl)
  subst h0
  exact ⟨[],rfl,List.nodup_nil,trivial,.inr ⟨.sl 0 true [],rfl,rfl,rfl⟩⟩
theorem toW_take {o:List Nat} (hd:Dig o) {k:Nat} (hk:k≤o.length) (h:k=0∨o.getD (k - 1) 0≠0):toW (val (o.take k))=o.take k:=by
 refine toW_of (hd.take k) ?_
 rcases h with rfl | h
 ·left;simp
 ·rcases Nat.eq_zero_or_pos k with rfl | hp
  ·left;simp
  ·right
   have e:(o.take k).length - 1=k - 1:=by simp;omega
   rw [e,List.getD_eq_getElem?_getD,List.getElem?_take,if_pos (by omega),← List.getD_eq_getElem?_getD]
   exact h
theorem trimmed_ref (o:List Nat) (n:Nat) (hd:Dig o) (hn:n≤o.length) (hl:o.length<2 ^ 60) :
  Ctr TP G 130 [.lsl 0 1 0 n] [.row false (nats .u32 o)] (.lsl 0 1 0 (toW (val (o.take n))).length) [.row false (nats .u32 o)]:=by
 refine Ctr.body (M:=M0) hmix Tryz.func130 rfl go130 ?_
 simp (config:={maxSteps:=1000000}) (disch:=(try simp only [awL]);omega) only [Tryz.f130,↓awU,awV,awX,awF,↓reduceIte,↓reduceDIte,↓Qe,Qu,Qv,Qw,Qx,Qy,Qz,QA,QB,QC,QD,QE,QF,QG,QH,QI,QK]
 refine LoopC.fr 0 (α:=Nat) (fun k=>k) (fun k=>[(0,.lsl 0 1 0 k)]) (fun _=>[.row false (nats .u32 o)]) (fun k=>k≤n∧val (o.take k)=val (o.take n)) n ⟨Nat.le_refl _,rfl⟩ ?_ ?_
 ·exact ⟨[some 0],rfl,by simp,by simp [sA,kA,SW,AW],by simp [HW,BW,SW,AW]⟩
 ·rintro k ⟨hk,hv⟩
  simp only [awK,Nat.reduceMod,Nat.reduceDiv,reduceIte]
  rcases k with _ | k
  ·simp (config:={maxSteps:=1000000}) (disch:=(try simp only [awL]);omega) only [↓awU,awV,awX,awF,↓reduceIte,↓reduceDIte,↓Qe,Qu,Qv,Qw,Qx,Qy,Qz,QA,QB,QC,QD,QE,QF,QG,QH,QI,QK]
   have:toW (val (o.take n))=[]:=by rw [← hv];exact toW_zero
   rw [this]
   exact ⟨[some 0],rfl,by simp,by simp [HW,BW,SW,AW],.inl (by simp [AW,SW])⟩
  ·simp (config:={maxSteps:=1000000}) (disch:=(try simp only [awL]);omega) only [↓awU,awV,awX,awF,↓reduceIte,↓reduceDIte,↓Qe,Qu,Qv,Qw,Qx,Qy,Qz,QA,QB,QC,QD,QE,QF,QG,QH,QI,QK]
   refine ⟨fun h=>⟨k,⟨by omega,?_⟩,Nat.lt_succ_self _,⟨[some 0],rfl,by simp,by simp [sA,kA,SW,AW],by simp [HW,BW,SW,AW]⟩⟩,fun h=>?_⟩
   ·rw [← hv,take_val o k,show o.getD k 0=0 by omega];simp
   ·have:=toW_take hd (k:=k+1) (by omega) (.inr (by simpa using h))
    rw [hv] at this
    rw [this]
    have e:(o.take (k+1)).length=k+1:=by simp;omega
    rw [e]
    exact ⟨[some 0],rfl,by simp,by simp [HW,BW,SW,AW],.inl (by simp [AW,SW])⟩
end Go.Proofs.YtdpjcghiegggbaaGreatDoor.Num
namespace Go.Proofs.YtdpjcghiegggbaaGreatDoor.Num
open Go Go.Proofs Go.Abs
theorem digs_split (i k n:Nat):digs (i+k) n=digs i n++digs k (n / B ^ i):=by
 induction i generalizing n with
 | zero=>simp [digs]
 | succ i ih =>
  rw [Nat.add_right_comm i 1 k]
  simp only [digs,List.cons_append]
  rw [ih,Nat.div_div_eq_div_mul,Nat.pow_succ,Nat.mul_comm B]
theorem digs_zero (k:Nat):digs k 0=List.replicate k 0:=by
 induction k with
 | zero=>rfl
 | succ k ih=>simp [digs,List.replicate_succ,ih]
theorem digs_zeros {k z n:Nat} (h:n<B ^ k):digs (k+z) n=digs k n++List.replicate z 0:=by
 rw [digs_split,Nat.div_eq_of_lt h,digs_zero]
theorem digs_take {i k n:Nat} (h:i≤k):(digs k n).take i=digs i n:=by
 obtain ⟨z,rfl⟩:∃ z,k=i+z:=⟨k - i,by omega⟩
 rw [digs_split,List.take_left' (digs_length i n)]
theorem digs_getD {i k n:Nat} (h:i<k):(digs k n).getD i 0=n / B ^ i % B:=by
 obtain ⟨z,rfl⟩:∃ z,k=i+(z+1):=⟨k - i - 1,by omega⟩
 rw [digs_split,digs]
 have:=digs_length i n
 rw [List.getD_eq_getElem?_getD,List.getElem?_append_right (by omega),this,Nat.sub_self]
 rfl
theorem digs_succ (i n:Nat):digs (i+1) n=digs i n++[n / B ^ i % B]:=by rw [digs_split];rfl
theorem toW_digs (n:Nat):toW n=digs (toW n).length n:=digs_eq (dig_toW n) rfl (val_toW n)
theorem norm_facts {m:List Nat} {k s:Nat} (hm:Dig m) (hl:m.length=k+2) (ht:m.getD (k+1) 0≠0) (hs:s=31 - (m.getD (k+1) 0).log2) :
  s<32∧val m*2 ^ s<B ^ (k+2)∧2147483648≤(digs (k+2) (val m*2 ^ s)).getD (k+1) 0:=by
 have htB:=hm.getD (k+1)
 have hv:val m=val (m.take (k+1))+B ^ (k+1)*m.getD (k+1) 0:=by
  have:=take_val m (k+1)
  rwa [List.take_of_length_le (by omega)] at this
 have hlo:=take_lt hm (k+1)
 generalize m.getD (k+1) 0=t at *
 have he:=(Nat.log2_eq_iff ht).1 rfl
 have he32:=(Nat.log2_lt (k:=32) ht).2 htB
 have hp:2 ^ (t.log2+1)*2 ^ s=B:=by
  rw [← Nat.pow_add,hs,show t.log2+1+(31 - t.log2)=32 by omega];rfl
 have hp':2 ^ t.log2*2 ^ s=2147483648:=by
  rw [← Nat.pow_add,hs,show t.log2+(31 - t.log2)=31 by omega]
 have h1:2147483648≤t*2 ^ s:=by rw [← hp'];exact Nat.mul_le_mul_right _ he.1
 have h2:(t+1)*2 ^ s≤B:=by rw [← hp];exact Nat.mul_le_mul_right _ he.2
 have h3:val m*2 ^ s<B ^ (k+2):=by
  have e1:val m+1≤B ^ (k+1)*(t+1):=by have:=Nat.mul_add (B ^ (k+1)) t 1;omega
  have e2:(val m+1)*2 ^ s≤B ^ (k+1)*(t+1)*2 ^ s:=Nat.mul_le_mul_right _ e1
  have e3:B ^ (k+1)*(t+1)*2 ^ s≤B ^ (k+1)*B:=by rw [Nat.mul_assoc];exact Nat.mul_le_mul_left _ h2
  rw [Nat.add_mul,Nat.one_mul] at e2
  have:0<2 ^ s:=Nat.two_pow_pos s
  rw [Nat.pow_succ]
  omega
 refine ⟨by omega,h3,?_⟩
 rw [digs_getD (by omega)]
 have hB:0<B ^ (k+1):=Nat.pow_pos (by decide)
 have e4:val m*2 ^ s / B ^ (k+1)<B:=by
  rw [Nat.div_lt_iff_lt_mul hB,Nat.mul_comm B,← Nat.pow_succ];exact h3
 rw [Nat.mod_eq_of_lt e4]
 refine Nat.le_trans h1 ((Nat.le_div_iff_mul_le hB).2 ?_)
 rw [Nat.mul_right_comm]
 refine Nat.mul_le_mul_right _ ?_
 rw [hv,Nat.mul_comm];omega
theorem ov_step {U V j Q r:Nat} (h:U / B ^ (j+1)=Q*V+r) (hr:r<V) :
  U / B ^ j % B+B*r<V*B∧U / B ^ j=(B*Q+(U / B ^ j % B+B*r) / V)*V+(U / B ^ j % B+B*r) % V:=by
 have hx:U / B ^ j % B<B:=Nat.mod_lt _ (by decide)
 refine ⟨?_,?_⟩
 ·have:B*(r+1)≤B*V:=Nat.mul_le_mul_left _ hr
  rw [Nat.mul_add,Nat.mul_one] at this
  rw [Nat.mul_comm V]
  omega
 ·have h1:=Nat.mod_add_div (U / B ^ j) B
  rw [Nat.div_div_eq_div_mul,← Nat.pow_succ,h,Nat.mul_add] at h1
  have h2:=Nat.mod_add_div (U / B ^ j % B+B*r) V
  rw [Nat.add_mul,Nat.mul_assoc]
  rw [Nat.mul_comm V] at h2
  omega
theorem unshift {r s i:Nat} (hs:s<32):((r / B ^ (i+1) % B)*B+r / B ^ i % B) / 2 ^ s % B=r / 2 ^ s / B ^ i % B:=by
 have hB:B=2 ^ (32 - s)*2 ^ s:=by rw [← Nat.pow_add,show 32 - s+s=32 by omega];rfl
 have e1:r / 2 ^ s / B ^ i=r / B ^ i / 2 ^ s:=by rw [Nat.div_div_eq_div_mul,Nat.mul_comm,← Nat.div_div_eq_div_mul]
 have e2:r / B ^ (i+1)=r / B ^ i / B:=by rw [Nat.div_div_eq_div_mul,Nat.pow_succ]
 rw [e1,e2]
 generalize r / B ^ i=y
 have h1:=Nat.mod_add_div y B
 have h2:=Nat.mod_add_div (y / B) B
 generalize hc:y / B / B=c at *
 generalize hh:y / B % B=h at *
 generalize hl:y % B=l at *
 have hp:0<2 ^ s:=Nat.two_pow_pos s
 have e3:y=(h*B+l)+2 ^ s*(c*B*2 ^ (32 - s)):=by
  have:2 ^ s*(c*B*2 ^ (32 - s))=B*(B*c):=by
   conv=>rhs;arg 1;rw [hB]
   ac_rfl
  rw [this,← h1,← h2,Nat.mul_add,Nat.mul_comm B h]
  omega
 rw [e3,Nat.add_mul_div_left _ _ hp,Nat.mul_right_comm,Nat.add_mul_mod_self_right]
theorem trim_len {l:List Nat} (h:Dig l):(toW (val l)).length≤l.length:=toW_length_le (val_lt h)
theorem take_trim {l:List Nat} (h:Dig l):l.take (toW (val l)).length=toW (val l):=by
 conv=>lhs;arg 2;rw [← digs_val h]
 rw [digs_take (trim_len h),← toW_digs]
def backRow (N s r i:Nat):List Nat:=digs i (r / 2 ^ s)++(digs N r).drop i
theorem backRow_length {N s r i:Nat} (h:i≤N):(backRow N s r i).length=N:=by simp [backRow,digs_length];omega
theorem backRow_zero {N s r:Nat}:backRow N s r 0=digs N r:=rfl
theorem backRow_getD {N s r i:Nat} (h:i<N):(backRow N s r i).getD i 0=r / B ^ i % B:=by
 have hl:=digs_length i (r / 2 ^ s)
 rw [backRow,List.getD_eq_getElem?_getD,List.getElem?_append_right (by omega),hl,Nat.sub_self,List.getElem?_drop,Nat.add_zero,← List.getD_eq_getElem?_getD,digs_getD h]
theorem backRow_next {N s r i kk:Nat} (hk:kk≤N) (hr:r<B ^ kk):((backRow N s r i).take kk).getD (i+1) 0=r / B ^ (i+1) % B:=by
 have hl:=digs_length i (r / 2 ^ s)
 rw [List.getD_eq_getElem?_getD,List.getElem?_take]
 split
 ·rename_i h
  rw [backRow,List.getElem?_append_right (by omega),hl,List.getElem?_drop,show i+(i+1 - i)=i+1 by omega,← List.getD_eq_getElem?_getD,digs_getD (by omega)]
 ·rename_i h
  have:r<B ^ (i+1):=Nat.lt_of_lt_of_le hr (Nat.pow_le_pow_right (by decide) (by omega))
  rw [Nat.div_eq_of_lt this];rfl
theorem backRow_set {N s r i:Nat} (h:i<N):(backRow N s r i).set i (r / 2 ^ s / B ^ i % B)=backRow N s r (i+1):=by
 have hl:=digs_length i (r / 2 ^ s)
 have hl2:=digs_length N r
 rw [backRow,List.set_append_right _ _ (by omega),hl,Nat.sub_self,List.drop_eq_getElem_cons (by omega),List.set_cons_zero,backRow,digs_succ,List.append_assoc]
 rfl
theorem dig_backRow {N s r i:Nat}:Dig (backRow N s r i):=(dig_digs _ _).append ((dig_digs _ _).drop _)
theorem backRow_take {N s r i:Nat}:(backRow N s r i).take i=digs i (r / 2 ^ s):=by
 rw [backRow,List.take_left' (digs_length _ _)]
theorem unscale {a b p q r:Nat} (hp:0<p) (h:a*p=q*(b*p)+r) (hr:r<b*p):a / b=q∧a % b=r / p∧r / p≤r:=by
 have h1:r % p=0:=by
  have:=congrArg (· % p) h
  simp only [Nat.mul_mod_left] at this
  rw [← Nat.mul_assoc,Nat.mul_add_mod_self_right] at this
  exact this.symm
 obtain ⟨c,rfl⟩:=Nat.dvd_of_mod_eq_zero h1
 rw [Nat.mul_comm p c] at h hr
 have hc:c<b:=Nat.lt_of_mul_lt_mul_right hr
 have ha:a=q*b+c:=by
  rw [← Nat.mul_assoc,← Nat.add_mul] at h
  exact Nat.eq_of_mul_eq_mul_right hp h
 rw [Nat.mul_div_cancel_left _ hp]
 refine ⟨?_,?_,Nat.le_mul_of_pos_left _ hp⟩
 ·rw [ha,Nat.mul_comm q,Nat.mul_add_div (by omega),Nat.div_eq_of_lt hc,Nat.add_zero]
 ·rw [ha,Nat.mul_comm q,Nat.mul_add_mod_self_left,Nat.mod_eq_of_lt hc]
theorem ov_start {l:List Nat} {k z s V:Nat} (hl:Dig l) (hz:l.length=k+2+z) (hs:s<32) (n3:2147483648≤(digs (k+2) V).getD (k+1) 0):val l*2 ^ s / B ^ (z+1)<V:=by
 have hB:∀ i,0<B ^ i:=fun i=>Nat.pow_pos (by decide)
 rw [digs_getD (by omega)] at n3
 have h1:2147483648≤V / B ^ (k+1):=Nat.le_trans n3 (Nat.mod_le _ _)
 have h2:2147483648*B ^ (k+1)≤V:=(Nat.le_div_iff_mul_le (hB _)).1 h1
 have h3:=val_lt hl
 rw [hz] at h3
 have h4:2 ^ s≤2147483648:=Nat.pow_le_pow_right (by decide) (show s≤31 by omega)
 rw [Nat.div_lt_iff_lt_mul (hB _)]
 have h5:val l*2 ^ s<B ^ (k+2+z)*2 ^ s:=Nat.mul_lt_mul_of_pos_right h3 (Nat.two_pow_pos s)
 have h6:B ^ (k+2+z)*2 ^ s≤B ^ (k+2+z)*2147483648:=Nat.mul_le_mul_left _ h4
 have h7:B ^ (k+2+z)*2147483648=2147483648*B ^ (k+1)*B ^ (z+1):=by rw [Nat.mul_comm,Nat.mul_assoc,← Nat.pow_add];congr 2;omega
 have h8:2147483648*B ^ (k+1)*B ^ (z+1)≤V*B ^ (z+1):=Nat.mul_le_mul_right _ h2
 omega
end Go.Proofs.YtdpjcghiegggbaaGreatDoor.Num
namespace Go.Proofs.YtdpjcghiegggbaaGreatDoor.Num
open Go Go.Proofs Go.Abs
variable {G:Globals}
def M1:Muts:=fun f=>f == 157 || f == 130
theorem M1_a:M1 153=false:=rfl
theorem M1_b:M1 98=false:=rfl
theorem M1_c:M1 154=false:=rfl
theorem M1_d:M1 155=false:=rfl
theorem M1_e:M1 156=false:=rfl
theorem M1_f:M1 132=false:=rfl
theorem M1_g:M1 157=true:=rfl
theorem M1_h:M1 130=true:=rfl
theorem over_spec (a b:Nat) (hb:b≠0) (ha:(toW a).length<2 ^ 38) (hb':(toW b).length<2 ^ 38) :
  Ctr TP G 134 [.d (W (toW a)),.d (W (toW b))] [] (.d (.tup [W (toW (a / b)),W (toW (a % b))])) []:=by
 have da:=dig_toW a
 have db:=dig_toW b
 have va:=val_toW a
 have vb:=val_toW b
 have tb:=toW_last hb
 have hcmp:cmpI (a:Int) b<0↔a<b:=by
  unfold cmpI;split
  ·omega
  ·split<;>omega
 refine Ctr.pure (M:=M1) hmix Tryz.func134 rfl go134 ?_
 simp (config:={maxSteps:=1000000}) (disch:=(try simp only [awL]);omega) only [Tryz.f134,M1_a,M1_b,M1_c,M1_d,M1_e,M1_f,M1_g,M1_h,↓awU,awV,awX,awF,↓reduceIte,↓reduceDIte,↓Qe,Qu,Qv,Qw,Qx,Qy,Qz,QA,QB,QC,QD,QE,QF,QG,QH,QI,QK]
 refine CallC.pure (compare_spec a b (by omega) (by omega)) ?_
 simp (config:={maxSteps:=1000000}) (disch:=(try simp only [awL]);omega) only [M1_a,M1_b,M1_c,M1_d,M1_e,M1_f,M1_g,M1_h,hcmp,↓awU,awV,awX,awF,↓reduceIte,↓reduceDIte,↓Qe,Qu,Qv,Qw,Qx,Qy,Qz,QA,QB,QC,QD,QE,QF,QG,QH,QI,QK]
 refine ⟨fun h=>?_,fun h=>⟨fun h1=>?_,fun h1=>?_⟩⟩
 ·rw [Nat.div_eq_of_lt h,Nat.mod_eq_of_lt h,toW_zero]
  refine CallC.pure (clone_spec (toW a) (by omega)) ?_
  simp (config:={maxSteps:=1000000}) (disch:=(try simp only [awL]);omega) only [↓awU,awV,awX,awF,↓reduceIte,↓reduceDIte,↓Qe,Qu,Qv,Qw,Qx,Qy,Qz,QA,QB,QC,QD,QE,QF,QG,QH,QI,QK]
  rfl
 ·have h1:(toW b).length=1:=by omega
  have hb1:(toW b).getD 0 0=b:=by
   have:=take_val (toW b) 0
   rw [List.take_of_length_le (by omega),vb] at this
   simpa [val] using this.symm
  have hbB:b<B:=by rw [← hb1];exact db.getD 0
  rw [hb1]
  refine CallC.pure (short_spec a b (by omega) hbB (by omega)) ?_
  simp (config:={maxSteps:=1000000}) (disch:=(try simp only [awL]);omega) only [M1_a,M1_b,M1_c,M1_d,M1_e,M1_f,M1_g,M1_h,↓awU,awV,awX,awF,↓reduceIte,↓reduceDIte,↓Qe,Qu,Qv,Qw,Qx,Qy,Qz,QA,QB,QC,QD,QE,QF,QG,QH,QI,QK]
  have dr:Dig [a % b]:=by intro x hx;simp at hx;subst hx;exact Nat.lt_trans (Nat.mod_lt _ (by omega)) hbB
  refine CallC.by (trimmed_ref [a % b] 1 dr (by simp) (by simp)) rfl rfl (Nat.le_refl _) ?_
  simp (config:={maxSteps:=1000000}) (disch:=(try simp only [awL]);omega) only [M1_a,M1_b,M1_c,M1_d,M1_e,M1_f,M1_g,M1_h,↓awU,awV,awX,awF,↓reduceIte,↓reduceDIte,↓Qe,Qu,Qv,Qw,Qx,Qy,Qz,QA,QB,QC,QD,QE,QF,QG,QH,QI,QK]
  have vr:val [a % b]=a % b:=by simp [val]
  have tr:=take_trim dr
  rw [vr] at tr
  rw [vr,tr]
 ·generalize hl:toW a=l at *
  generalize hm:toW b=m at *
  obtain ⟨k,hk⟩:∃ k,m.length=k+2:=⟨m.length - 2,by
   have:m.length≠0:=by
    intro h0
    have:=List.length_eq_zero_iff.1 h0
    subst this
    exact hb vb.symm
   omega⟩
  rw [hk,show k+2 - 1=k+1 from rfl] at tb
  have mB:=db.getD (k+1)
  obtain ⟨z,hz⟩:∃ z,l.length=k+2+z:=⟨l.length - (k+2),by
   have h2:¬ l.length<m.length:=by
    intro h3;rw [← hl,← hm] at h3
    exact h (toW_len_lt h3)
   omega⟩
  have e1:(l.length:Int) - ((k+2:Nat):Int)+1=((z+1:Nat):Int):=by omega
  simp (config:={maxSteps:=1000000}) (disch:=(try simp only [awL]);omega) only [M1_a,M1_b,M1_c,M1_d,M1_e,M1_f,M1_g,M1_h,hk,↓awU,awV,awX,awF,↓reduceIte,↓reduceDIte,↓Qe,Qu,Qv,Qw,Qx,Qy,Qz,QA,QB,QC,QD,QE,QF,QG,QH,QI,QK]
  refine CallC.pure (lz32 _ tb mB) ?_
  obtain ⟨n1,n2,n3⟩:=norm_facts db hk tb rfl
  generalize hs:31 - (m.getD (k+1) 0).log2=s at *
  simp (config:={maxSteps:=1000000}) (disch:=(try simp only [awL]);omega) only [M1_a,M1_b,M1_c,M1_d,M1_e,M1_f,M1_g,M1_h,hk,↓awU,awV,awX,awF,↓reduceIte,↓reduceDIte,↓Qe,Qu,Qv,Qw,Qx,Qy,Qz,QA,QB,QC,QD,QE,QF,QG,QH,QI,QK]
  refine CallC.by (shifted_spec l s da n1 (by omega)) rfl rfl (by simp) ?_
  simp (config:={maxSteps:=1000000}) (disch:=(try simp only [awL]);omega) only [M1_a,M1_b,M1_c,M1_d,M1_e,M1_f,M1_g,M1_h,hk,↓awU,awV,awX,awF,↓reduceIte,↓reduceDIte,↓Qe,Qu,Qv,Qw,Qx,Qy,Qz,QA,QB,QC,QD,QE,QF,QG,QH,QI,QK]
  refine CallC.by (shifted_spec m s db n1 (by omega)) (by rw [W,hk]) rfl (by simp) ?_
  simp (config:={maxSteps:=1000000}) (disch:=(try simp only [awL]);omega) only [e1,M1_a,M1_b,M1_c,M1_d,M1_e,M1_f,M1_g,M1_h,hk,↓awU,awV,awX,awF,↓reduceIte,↓reduceDIte,↓Qe,Qu,Qv,Qw,Qx,Qy,Qz,QA,QB,QC,QD,QE,QF,QG,QH,QI,QK]
  refine ⟨by rfl,?_⟩
  have hVz:val m*2 ^ s<B ^ (k+2+1):=Nat.lt_of_lt_of_le n2 (Nat.pow_le_pow_right (by decide) (by omega))
  generalize hU:val l*2 ^ s=U at *
  generalize hV:val m*2 ^ s=V at *
  refine LoopC.fx 7936 (α:=Nat × Nat × List Nat) (β:=Nat × List Nat) (fun x=>x.1) (fun x=>[(13,.d (.int .i64 ((x.1:Int) - 1)))])
   (fun x=>[.row false (nats .u32 (digs x.1 U++digs (l.length+1 - x.1) x.2.1)),.row false (nats .u32 (digs (k+2+1) V)),.row false (nats .u32 (List.replicate x.1 0++x.2.2))])
   (fun x=>x.1≤z+1∧x.2.2.length+x.1=z+1∧Dig x.2.2∧x.2.1<V∧U / B ^ x.1=val x.2.2*V+x.2.1)
   5888 (fun _=>[]) (fun x=>[.row false (nats .u32 (digs (l.length+1) x.1)),.row false (nats .u32 (digs (k+2+1) V)),.row false (nats .u32 x.2)])
   (fun x=>x.2.length=z+1∧Dig x.2∧x.1<V∧U=val x.2*V+x.1) (z+1,U / B ^ (z+1),[]) ⟨Nat.le_refl _,by simp,(fun x hx=>by cases hx),?_,by simp [val]⟩ ?_ ?_ ?_
  ·rw [← hU];exact ov_start da hz n1 n3
  ·refine ⟨[some 0,some 1,some 2],rfl,by simp,by simp [sA,kA,SW,AW],?_⟩
   have:digs (l.length+1) U=digs (z+1) U++digs (l.length+1 - (z+1)) (U / B ^ (z+1)):=by rw [← digs_split];congr 1;omega
   simp [HW,BW,this,List.replicate_succ]
  ·rintro ⟨i,r,qd⟩ ⟨hi,hq,hdq,hr,hv⟩
   simp only at hi hq hdq hr hv
   simp only [awK,Nat.reduceMod,Nat.reduceDiv,reduceIte]
   rcases i with _ | j
   ·simp (config:={maxSteps:=1000000}) (disch:=(try simp only [awL]);omega) only [M1_a,M1_b,M1_c,M1_d,M1_e,M1_f,M1_g,M1_h,hk,↓awU,awV,awX,awF,↓reduceIte,↓reduceDIte,↓Qe,Qu,Qv,Qw,Qx,Qy,Qz,QA,QB,QC,QD,QE,QF,QG,QH,QI,QK]
    rw [Nat.pow_zero,Nat.div_one] at hv
    exact ⟨(r,qd),⟨by simpa using hq,hdq,hr,hv⟩,[some 0,some 1,some 2],rfl,by simp,by simp [SW,AW],by simp [HW,BW,digs]⟩
   ·have e2:j+(k+2)+1 - j=k+3:=by omega
    simp (config:={maxSteps:=1000000}) (disch:=(try simp only [awL]);omega) only [M1_a,M1_b,M1_c,M1_d,M1_e,M1_f,M1_g,M1_h,hk,e2,↓awU,awV,awX,awF,↓reduceIte,↓reduceDIte,↓Qe,Qu,Qv,Qw,Qx,Qy,Qz,QA,QB,QC,QD,QE,QF,QG,QH,QI,QK]
    obtain ⟨hw,hq2⟩:=ov_step hv hr
    have hrB:r<B ^ (k+2):=Nat.lt_trans hr n2
    have eu:digs (j+1) U++digs (l.length+1 - (j+1)) r=digs j U++((U / B ^ j % B::digs (k+2) r)++List.replicate (z - j) 0):=by
     rw [digs_succ,List.append_assoc,show l.length+1 - (j+1)=(k+2)+(z - j) by omega,digs_zeros hrB];rfl
    have ed:digs (k+2+1) V=digs (k+2) V++[0]:=digs_zeros (z:=1) n2
    have du:Dig (U / B ^ j % B::digs (k+2) r):=fun x hx=>by
     rcases List.mem_cons.1 hx with rfl | hx
     ·exact Nat.mod_lt _ (by decide)
     ·exact dig_digs _ _ x hx
    have vu:val (U / B ^ j % B::digs (k+2) r)=U / B ^ j % B+B*r:=by rw [val,val_digs hrB]
    have vd:val (digs (k+2) V)=V:=val_digs n2
    have hds:=digit_spec (G:=G) (digs j U) (U / B ^ j % B::digs (k+2) r) (List.replicate (z - j) 0) (digs (k+2) V) [0] k (digs_length _ _) (by simp [digs_length]) (dig_digs _ _) du (by rw [vu,vd];exact hw) n3 (by simp [digs_length];omega)
    rw [digs_length,vu,vd] at hds
    refine CallC.by hds rfl (by rw [eu,ed]) (Nat.le_refl _) ?_
    have hr':(U / B ^ j % B+B*r) % V<V:=Nat.mod_lt _ (by omega)
    have hqB:(U / B ^ j % B+B*r) / V<B:=(Nat.div_lt_iff_lt_mul (by omega)).2 (by have:=hw;rw [Nat.mul_comm V] at this;exact this)
    generalize hgq:(U / B ^ j % B+B*r) / V=q1 at *
    generalize hgr:(U / B ^ j % B+B*r) % V=r1 at *
    have er:digs (l.length+1 - j) r1=digs (k+3) r1++List.replicate (z - j) 0:=by
     rw [show l.length+1 - j=(k+3)+(z - j) by omega,digs_zeros]
     exact Nat.lt_of_lt_of_le (Nat.lt_trans hr' n2) (Nat.pow_le_pow_right (by decide) (by omega))
    simp (config:={maxSteps:=1000000}) (disch:=(try simp only [awL]);omega) only [M1_a,M1_b,M1_c,M1_d,M1_e,M1_f,M1_g,M1_h,hk,e2,↓awU,awV,awX,awF,↓reduceIte,↓reduceDIte,↓Qe,Qu,Qv,Qw,Qx,Qy,Qz,QA,QB,QC,QD,QE,QF,QG,QH,QI,QK]
    refine ⟨(j,r1,q1::qd),⟨by simp only;omega,by simp;omega,?_,hr',by rw [val];rw [Nat.add_comm q1];exact hq2⟩,by simp,[some 0,some 1,some 2],rfl,by simp,by simp [SW,AW],?_⟩
    ·intro x hx
     rcases List.mem_cons.1 hx with rfl | hx
     ·exact hqB
     ·exact hdq x hx
    ·simp [HW,BW,er,ed,set_rep]
  ·rintro ⟨r,qd⟩ ⟨hq,hdq,hr,hv⟩
   simp only at hq hdq hr hv
   simp only [awK,Nat.reduceMod,Nat.reduceDiv,reduceIte]
   simp (config:={maxSteps:=1000000}) (disch:=(try simp only [awL]);omega) only [M1_a,M1_b,M1_c,M1_d,M1_e,M1_f,M1_g,M1_h,hk,↓awU,awV,awX,awF,↓reduceIte,↓reduceDIte,↓Qe,Qu,Qv,Qw,Qx,Qy,Qz,QA,QB,QC,QD,QE,QF,QG,QH,QI,QK]
   have hrB:r<B ^ (k+2):=Nat.lt_trans hr n2
   have vt:val ((digs (l.length+1) r).take (k+2))=r:=by rw [digs_take (by omega),val_digs hrB]
   have ht:=trimmed_ref (G:=G) (digs (l.length+1) r) (k+2) (dig_digs _ _) (by rw [digs_length];omega) (by rw [digs_length];omega)
   rw [vt] at ht
   refine CallC.by ht rfl rfl (Nat.le_refl _) ?_
   have hkk:(toW r).length≤k+2:=toW_length_le hrB
   have hrk:=lt_of_toW r
   generalize (toW r).length=kk at *
   simp (config:={maxSteps:=1000000}) (disch:=(try simp only [awL]);omega) only [M1_a,M1_b,M1_c,M1_d,M1_e,M1_f,M1_g,M1_h,hk,↓awU,awV,awX,awF,↓reduceIte,↓reduceDIte,↓Qe,Qu,Qv,Qw,Qx,Qy,Qz,QA,QB,QC,QD,QE,QF,QG,QH,QI,QK]
   have hm2:(2:Int) ^ s=((2 ^ s:Nat):Int):=by simp
   have hmin:min s 64=s:=by omega
   refine LoopC.fx 77371252455336267181216256 (α:=Nat) (β:=Unit) (fun i=>kk - i) (fun i=>[(87,.d (.int .i64 i))])
    (fun i=>[.row false (nats .u32 (backRow (l.length+1) s r i)),.row false (nats .u32 (digs (k+2+1) V)),.row false (nats .u32 qd)]) (fun i=>i≤kk)
    20480 (fun _=>[]) (fun _=>[.row false (nats .u32 (backRow (l.length+1) s r kk)),.row false (nats .u32 (digs (k+2+1) V)),.row false (nats .u32 qd)]) (fun _=>True) 0 (Nat.zero_le _) ?_ ?_ ?_
   ·exact ⟨[some 0,some 1,some 2],rfl,by simp,by simp [sA,kA,SW,AW],by simp [HW,BW,backRow_zero]⟩
   ·intro i hi
    simp only [awK,Nat.reduceMod,Nat.reduceDiv,reduceIte]
    have b1:=backRow_length (s:=s) (r:=r) (show i≤l.length+1 by omega)
    simp (config:={maxSteps:=1000000}) (disch:=(try simp only [awL]);omega) only [M1_a,M1_b,M1_c,M1_d,M1_e,M1_f,M1_g,M1_h,hk,b1,↓awU,awV,awX,awF,↓reduceIte,↓reduceDIte,↓Qe,Qu,Qv,Qw,Qx,Qy,Qz,QA,QB,QC,QD,QE,QF,QG,QH,QI,QK]
    refine ⟨fun h5=>?_,fun h5=>?_⟩
    ·refine CallC.frozenE (at_spec ((backRow (l.length+1) s r i).take kk) (i+1)) (by simp [W,b1];omega) ?_
     rw [backRow_next (by omega) hrk]
     have b3:=backRow_getD (N:=l.length+1) (s:=s) (r:=r) (i:=i) (by omega)
     have hun:=unshift (r:=r) (i:=i) n1
     have bs:=backRow_set (N:=l.length+1) (s:=s) (r:=r) (i:=i) (by omega)
     have g1:r / B ^ (i+1) % B<4294967296:=Nat.mod_lt _ (by decide)
     have g2:r / B ^ i % B<4294967296:=Nat.mod_lt _ (by decide)
     generalize r / B ^ (i+1) % B=hi' at *
     generalize r / B ^ i % B=lo at *
     simp (config:={maxSteps:=1000000}) (disch:=(try simp only [awL]);omega) only [M1_a,M1_b,M1_c,M1_d,M1_e,M1_f,M1_g,M1_h,hk,b1,b3,or64,hmin,hm2,fdiv_nat,w_u32,↓awU,awV,awX,awF,↓reduceIte,↓reduceDIte,↓Qe,Qu,Qv,Qw,Qx,Qy,Qz,QA,QB,QC,QD,QE,QF,QG,QH,QI,QK]
     have hun':(hi'*4294967296+lo) / 2 ^ s % 4294967296=r / 2 ^ s / B ^ i % B:=hun
     rw [hun',bs]
     exact ⟨i+1,by omega,by simp only;omega,[some 0,some 1,some 2],rfl,by simp,by simp [SW,AW],by simp [HW,BW]⟩
    ·have:i=kk:=by omega
     subst this
     exact ⟨(),trivial,[some 0,some 1,some 2],rfl,by simp,by simp [SW,AW],by simp [HW,BW]⟩
   ·rintro ⟨⟩ -
    simp only [awK,Nat.reduceMod,Nat.reduceDiv,reduceIte]
    simp (config:={maxSteps:=1000000}) (disch:=(try simp only [awL]);omega) only [M1_a,M1_b,M1_c,M1_d,M1_e,M1_f,M1_g,M1_h,hk,↓awU,awV,awX,awF,↓reduceIte,↓reduceDIte,↓Qe,Qu,Qv,Qw,Qx,Qy,Qz,QA,QB,QC,QD,QE,QF,QG,QH,QI,QK]
    have hq1:=trimmed_ref (G:=G) qd (z+1) hdq (by omega) (by omega)
    rw [List.take_of_length_le (by omega)] at hq1
    refine CallC.by hq1 rfl rfl (Nat.le_refl _) ?_
    simp (config:={maxSteps:=1000000}) (disch:=(try simp only [awL]);omega) only [M1_a,M1_b,M1_c,M1_d,M1_e,M1_f,M1_g,M1_h,hk,↓awU,awV,awX,awF,↓reduceIte,↓reduceDIte,↓Qe,Qu,Qv,Qw,Qx,Qy,Qz,QA,QB,QC,QD,QE,QF,QG,QH,QI,QK]
    have hus:=unscale (a:=a) (b:=b) (Nat.two_pow_pos s) (by rw [← va,← vb,hU,hV];exact hv) (by rw [← vb,hV];exact hr)
    have vt2:val ((backRow (l.length+1) s r kk).take kk)=r / 2 ^ s:=by rw [backRow_take,val_digs (Nat.lt_of_le_of_lt hus.2.2 hrk)]
    have hr1:=trimmed_ref (G:=G) (backRow (l.length+1) s r kk) kk dig_backRow (by rw [backRow_length (by omega)];omega) (by rw [backRow_length (by omega)];omega)
    have htr:=take_trim (dig_digs kk (r / 2 ^ s))
    have htl:=trim_len (dig_digs kk (r / 2 ^ s))
    rw [val_digs (Nat.lt_of_le_of_lt hus.2.2 hrk)] at htr htl
    rw [digs_length] at htl
    rw [vt2] at hr1
    refine CallC.by hr1 rfl rfl (Nat.le_refl _) ?_
    have htq:=take_trim hdq
    have b1:=backRow_length (s:=s) (r:=r) (show kk≤l.length+1 by omega)
    have hlq:=trim_len hdq
    simp (config:={maxSteps:=1000000}) (disch:=(try simp only [awL]);omega) only [M1_a,M1_b,M1_c,M1_d,M1_e,M1_f,M1_g,M1_h,hk,b1,↓awU,awV,awX,awF,↓reduceIte,↓reduceDIte,↓Qe,Qu,Qv,Qw,Qx,Qy,Qz,QA,QB,QC,QD,QE,QF,QG,QH,QI,QK]
    have e5:(backRow (l.length+1) s r kk).take (toW (r / 2 ^ s)).length=toW (r / 2 ^ s):=by
     have:=congrArg (List.take (toW (r / 2 ^ s)).length) (backRow_take (N:=l.length+1) (s:=s) (r:=r) (i:=kk))
     rw [List.take_take,Nat.min_eq_left htl,htr] at this
     exact this
    rw [e5,htq,hus.1,hus.2.1]
theorem toW_len_mono {a b:Nat} (h:a≤b):(toW a).length≤(toW b).length:=by
 by_cases h2:(toW b).length<(toW a).length
 ·have:=toW_len_lt h2;omega
 ·omega
theorem common_spec (a b:Nat) (ha:(toW a).length<2 ^ 38) (hb:(toW b).length<2 ^ 38) :
  Ctr TP G 133 [.d (W (toW a)),.d (W (toW b))] [] (.d (W (toW (Nat.gcd a b)))) []:=by
 refine Ctr.pure (M:=M0) hmix Tryz.func133 rfl go133 ?_
 simp (config:={maxSteps:=1000000}) (disch:=(try simp only [awL]);omega) only [Tryz.f133,↓awU,awV,awX,awF,↓reduceIte,↓reduceDIte,↓Qe,Qu,Qv,Qw,Qx,Qy,Qz,QA,QB,QC,QD,QE,QF,QG,QH,QI,QK]
 refine LoopC.fr 0 (α:=Nat × Nat) (fun x=>x.2) (fun x=>[(0,.d (W (toW x.1))),(1,.d (W (toW x.2)))]) (fun _=>[]) (fun x=>Nat.gcd x.1 x.2=Nat.gcd a b∧(toW x.1).length<2 ^ 38∧(toW x.2).length<2 ^ 38) (a,b) ⟨rfl,ha,hb⟩ ?_ ?_
 ·exact ⟨[],rfl,by simp,by simp [sA,kA,SW,AW],by simp [HW,BW,SW,AW]⟩
 ·rintro ⟨x,y⟩ ⟨hg,hx,hy⟩
  simp only at hg hx hy
  simp only [awK,Nat.reduceMod,Nat.reduceDiv,reduceIte]
  by_cases h0:y=0
  ·subst h0
   rw [Nat.gcd_zero_right] at hg
   subst hg
   have e:toW 0=[]:=toW_zero
   rw [e]
   simp (config:={maxSteps:=1000000}) (disch:=(try simp only [awL]);omega) only [↓awU,awV,awX,awF,↓reduceIte,↓reduceDIte,↓Qe,Qu,Qv,Qw,Qx,Qy,Qz,QA,QB,QC,QD,QE,QF,QG,QH,QI,QK]
  ·have hp:0<(toW y).length:=by
    rcases Nat.eq_zero_or_pos (toW y).length with h | h
    ·exact absurd (toW_nil.1 (List.length_eq_zero_iff.1 h)) h0
    ·exact h
   simp (config:={maxSteps:=1000000}) (disch:=(try simp only [awL]);omega) only [↓awU,awV,awX,awF,↓reduceIte,↓reduceDIte,↓Qe,Qu,Qv,Qw,Qx,Qy,Qz,QA,QB,QC,QD,QE,QF,QG,QH,QI,QK]
   refine CallC.pure (over_spec x y h0 hx hy) ?_
   simp (config:={maxSteps:=1000000}) (disch:=(try simp only [awL]);omega) only [↓awU,awV,awX,awF,↓reduceIte,↓reduceDIte,↓Qe,Qu,Qv,Qw,Qx,Qy,Qz,QA,QB,QC,QD,QE,QF,QG,QH,QI,QK]
   have hlt:=Nat.mod_lt x (Nat.pos_of_ne_zero h0)
   refine ⟨(y,x % y),⟨by rw [← hg,Nat.gcd_comm x y];rw [Nat.gcd_comm y (x % y)];exact (Nat.gcd_rec y x).symm,hy,?_⟩,hlt,⟨[],rfl,by simp,by simp [sA,kA,SW,AW],by simp [HW,BW,SW,AW]⟩⟩
   have:=toW_len_mono (Nat.le_of_lt hlt)
   simp only;omega
abbrev bigL (n:Int):List D:=[.bool (decide (n<0)),W (toW n.natAbs)]
abbrev Big (n:Int):D:=.agg (bigL n)
abbrev Frac (x:Rat):D:=.agg [.bool (decide (x.num<0)),W (toW x.num.natAbs),.bool false,W (toW x.den)]
abbrev sz (n:Int):Nat:=(toW n.natAbs).length
theorem sz_pos {n:Nat}:0<(toW n).length↔n≠0:=by
 rw [Nat.pos_iff_ne_zero,ne_eq,List.length_eq_zero_iff,toW_nil]
theorem signed_spec (neg:Bool) (n:Nat) (hn:(toW n).length<2 ^ 38):Ctr TP G 103 [.d (.bool neg),.d (W (toW n))] [] (.d (Big (if neg then -(n:Int) else n))) []:=by
 refine Ctr.pure (M:=M0) hmix Tryz.func103 rfl go103 ?_
 cases neg
 ·simp (config:={maxSteps:=1000000}) (disch:=(try simp only [awL]);omega) only [Tryz.f103,↓awU,awV,awX,awF,↓reduceIte,↓reduceDIte,↓Qe,Qu,Qv,Qw,Qx,Qy,Qz,QA,QB,QC,QD,QE,QF,QG,QH,QI,QK]
  simp [Big,bigL,W]
 ·simp (config:={maxSteps:=1000000}) (disch:=(try simp only [awL]);omega) only [Tryz.f103,↓awU,awV,awX,awF,↓reduceIte,↓reduceDIte,↓Qe,Qu,Qv,Qw,Qx,Qy,Qz,QA,QB,QC,QD,QE,QF,QG,QH,QI,QK]
  have:=@sz_pos n
  simp [Big,bigL,W]
  omega
theorem fromInt_spec (n:Int) (h1:-9223372036854775808≤n) (h2:n≤9223372036854775807):Ctr TP G 150 [.d (.int .i64 n)] [] (.d (Big n)) []:=by
 refine Ctr.pure (M:=M0) hmix Tryz.func150 rfl go150 ?_
 have hl:(toW n.natAbs).length≤2:=toW_length_le (by simp only [B];omega)
 simp (config:={maxSteps:=1000000}) (disch:=(try simp only [awL]);omega) only [Tryz.f150,↓awU,awV,awX,awF,↓reduceIte,↓reduceDIte,↓Qe,Qu,Qv,Qw,Qx,Qy,Qz,QA,QB,QC,QD,QE,QF,QG,QH,QI,QK]
 refine ⟨fun h=>?_,fun h=>?_⟩
 ·have e:IntKind.u64.wrap (0 - IntKind.u64.wrap n)=((n.natAbs:Nat):Int):=by simp [IntKind.wrap,IntKind.bits,IntKind.signed];omega
  rw [e]
  refine CallC.pure (natural_spec _ (by omega)) ?_
  simp (config:={maxSteps:=1000000}) (disch:=(try simp only [awL]);omega) only [↓awU,awV,awX,awF,↓reduceIte,↓reduceDIte,↓Qe,Qu,Qv,Qw,Qx,Qy,Qz,QA,QB,QC,QD,QE,QF,QG,QH,QI,QK]
  refine CallC.pure (signed_spec true _ (by omega)) ?_
  rw [if_pos rfl,show -((n.natAbs:Nat):Int)=n by omega]
  simp (config:={maxSteps:=1000000}) (disch:=(try simp only [awL]);omega) only [↓awU,awV,awX,awF,↓reduceIte,↓reduceDIte,↓Qe,Qu,Qv,Qw,Qx,Qy,Qz,QA,QB,QC,QD,QE,QF,QG,QH,QI,QK]
  simp [h]
 ·have e:n=((n.natAbs:Nat):Int):=by omega
  have e2:D.int IntKind.u64 n=D.int .u64 ((n.natAbs:Nat):Int):=by rw [← e]
  rw [e2]
  refine CallC.pure (natural_spec _ (by omega)) ?_
  simp (config:={maxSteps:=1000000}) (disch:=(try simp only [awL]);omega) only [↓awU,awV,awX,awF,↓reduceIte,↓reduceDIte,↓Qe,Qu,Qv,Qw,Qx,Qy,Qz,QA,QB,QC,QD,QE,QF,QG,QH,QI,QK]
  refine CallC.pure (signed_spec false _ (by omega)) ?_
  rw [if_neg (by decide),← e]
  simp (config:={maxSteps:=1000000}) (disch:=(try simp only [awL]);omega) only [↓awU,awV,awX,awF,↓reduceIte,↓reduceDIte,↓Qe,Qu,Qv,Qw,Qx,Qy,Qz,QA,QB,QC,QD,QE,QF,QG,QH,QI,QK]
  simp [h]
theorem validBig_spec (n:Int):Ctr TP G 202 [.d (Big n)] [] (.d (.bool (decide (sz n≤256)))) []:=by
 refine Ctr.pure (M:=M0) hmix Tryz.func202 rfl go202 ?_
 by_cases hn:n=0
 ·subst hn
  have e:toW (0:Int).natAbs=[]:=toW_zero
  simp only [Big,bigL,sz,e]
  simp (config:={maxSteps:=1000000}) (disch:=(try simp only [awL]);omega) only [Tryz.f202,↓awU,awV,awX,awF,↓reduceIte,↓reduceDIte,↓Qe,Qu,Qv,Qw,Qx,Qy,Qz,QA,QB,QC,QD,QE,QF,QG,QH,QI,QK]
 ·have h0:=(@sz_pos n.natAbs).2 (by omega)
  have hl:=@toW_last n.natAbs (by omega)
  simp only [Big,bigL,sz]
  obtain ⟨m,hm⟩:∃ m,(toW n.natAbs).length=m+1:=⟨(toW n.natAbs).length - 1,by omega⟩
  rw [hm,Nat.add_sub_cancel] at hl
  have hl':¬ (((toW n.natAbs).getD m 0:Nat):Int)=0:=by omega
  by_cases h256:m+1≤256
  ·simp (config:={maxSteps:=1000000}) (disch:=(try simp only [awL]);omega) only [Tryz.f202,hm,hl',↓awU,awV,awX,awF,↓reduceIte,↓reduceDIte,↓Qe,Qu,Qv,Qw,Qx,Qy,Qz,QA,QB,QC,QD,QE,QF,QG,QH,QI,QK]
  ·simp (config:={maxSteps:=1000000}) (disch:=(try simp only [awL]);omega) only [Tryz.f202,hm,↓awU,awV,awX,awF,↓reduceIte,↓reduceDIte,↓Qe,Qu,Qv,Qw,Qx,Qy,Qz,QA,QB,QC,QD,QE,QF,QG,QH,QI,QK]
theorem times_len {a b:Nat}:(toW (a*b)).length≤(toW a).length+(toW b).length:=by
 refine toW_length_le ?_
 rw [Nat.pow_add]
 exact Nat.mul_lt_mul'' (lt_of_toW a) (lt_of_toW b)
theorem plus_len {a b:Nat}:(toW (a+b)).length≤max (toW a).length (toW b).length+1:=by
 refine toW_length_le ?_
 have h1:=Nat.lt_of_lt_of_le (lt_of_toW a) (Nat.pow_le_pow_right (show 0<B by decide) (Nat.le_max_left (toW a).length (toW b).length))
 have h2:=Nat.lt_of_lt_of_le (lt_of_toW b) (Nat.pow_le_pow_right (show 0<B by decide) (Nat.le_max_right (toW a).length (toW b).length))
 generalize max (toW a).length (toW b).length=k at *
 have h3:B ^ k*2≤B ^ k*B:=Nat.mul_le_mul_left _ (by decide)
 rw [Nat.pow_succ]
 omega
theorem bigs_spec (a b:Int):Ctr TP G 180 [.d (.sl 2 false (bigL a++bigL b))] [] (.d (.bool (decide (sz a≤256∧sz b≤256)))) []:=by
 refine Ctr.pure (M:=M0) hmix Tryz.func180 rfl go180 ?_
 simp (config:={maxSteps:=1000000}) (disch:=(try simp only [awL]);omega) only [Tryz.f180,↓awU,awV,awX,awF,↓reduceIte,↓reduceDIte,↓Qe,Qu,Qv,Qw,Qx,Qy,Qz,QA,QB,QC,QD,QE,QF,QG,QH,QI,QK]
 refine LoopC.fr 96 (α:=Nat) (fun k=>2 - k) (fun k=>[(7,.d (.int .i64 k))]) (fun _=>[]) (fun k=>k≤2∧(0<k→sz a≤256)∧(1<k→sz b≤256)) 0 ⟨by omega,by omega,by omega⟩ ?_ ?_
 ·exact ⟨[],rfl,by simp,by simp [sA,kA,SW,AW],by simp [HW,BW,SW,AW]⟩
 ·rintro k ⟨hk,ha,hb⟩
  simp only [awK,Nat.reduceMod,Nat.reduceDiv,reduceIte]
  rcases k with _ | _ | _ | k
  ·simp (config:={maxSteps:=1000000}) (disch:=(try simp only [awL]);omega) only [↓awU,awV,awX,awF,↓reduceIte,↓reduceDIte,↓Qe,Qu,Qv,Qw,Qx,Qy,Qz,QA,QB,QC,QD,QE,QF,QG,QH,QI,QK]
   refine CallC.pure (validBig_spec a) ?_
   by_cases h:sz a≤256
   ·rw [decide_eq_true h]
    simp (config:={maxSteps:=1000000}) (disch:=(try simp only [awL]);omega) only [↓awU,awV,awX,awF,↓reduceIte,↓reduceDIte,↓Qe,Qu,Qv,Qw,Qx,Qy,Qz,QA,QB,QC,QD,QE,QF,QG,QH,QI,QK]
    exact ⟨1,by simp,by simp only;omega,⟨[],rfl,by simp,by simp [sA,kA,SW,AW],by simp [HW,BW,SW,AW]⟩⟩
   ·rw [decide_eq_false h]
    simp (config:={maxSteps:=1000000}) (disch:=(try simp only [awL]);omega) only [↓awU,awV,awX,awF,↓reduceIte,↓reduceDIte,↓Qe,Qu,Qv,Qw,Qx,Qy,Qz,QA,QB,QC,QD,QE,QF,QG,QH,QI,QK]
    try simp [h]
  ·have ha:=ha (by omega)
   simp (config:={maxSteps:=1000000}) (disch:=(try simp only [awL]);omega) only [↓awU,awV,awX,awF,↓reduceIte,↓reduceDIte,↓Qe,Qu,Qv,Qw,Qx,Qy,Qz,QA,QB,QC,QD,QE,QF,QG,QH,QI,QK]
   refine CallC.pure (validBig_spec b) ?_
   by_cases h:sz b≤256
   ·rw [decide_eq_true h]
    simp (config:={maxSteps:=1000000}) (disch:=(try simp only [awL]);omega) only [↓awU,awV,awX,awF,↓reduceIte,↓reduceDIte,↓Qe,Qu,Qv,Qw,Qx,Qy,Qz,QA,QB,QC,QD,QE,QF,QG,QH,QI,QK]
    exact ⟨2,by simp,by simp only;omega,⟨[],rfl,by simp,by simp [sA,kA,SW,AW],by simp [HW,BW,SW,AW]⟩⟩
   ·rw [decide_eq_false h]
    simp (config:={maxSteps:=1000000}) (disch:=(try simp only [awL]);omega) only [↓awU,awV,awX,awF,↓reduceIte,↓reduceDIte,↓Qe,Qu,Qv,Qw,Qx,Qy,Qz,QA,QB,QC,QD,QE,QF,QG,QH,QI,QK]
    try simp [h]
  ·have ha:=ha (by omega)
   have hb:=hb (by omega)
   simp (config:={maxSteps:=1000000}) (disch:=(try simp only [awL]);omega) only [↓awU,awV,awX,awF,↓reduceIte,↓reduceDIte,↓Qe,Qu,Qv,Qw,Qx,Qy,Qz,QA,QB,QC,QD,QE,QF,QG,QH,QI,QK]
  ·exact absurd hk (by omega)
theorem sign_mul {n d:Int} (hd:d≠0):d.sign*n=if ¬ decide (n<0)=decide (d<0) then -((n.natAbs:Nat):Int) else ((n.natAbs:Nat):Int):=by
 rcases Int.lt_or_gt_of_ne hd with h | h
 ·rw [Int.sign_eq_neg_one_of_neg h]
  by_cases hn:n<0<;>simp [hn,h]<;>omega
 ·rw [Int.sign_eq_one_of_pos h]
  by_cases hn:n<0<;>simp [hn,show ¬ d<0 by omega]<;>omega
theorem neg_div {m g:Nat} (h:g ∣ m):(-((m:Nat):Int)) / (g:Int)=-((m / g:Nat):Int):=by
 rw [Int.neg_ediv_of_dvd (Int.natCast_dvd_natCast.2 h)];rfl
theorem div_len {a b:Nat}:(toW (a / b)).length≤(toW a).length:=toW_len_mono (Nat.div_le_self _ _)
theorem reduced_spec (n d:Int) (hd:d≠0) (hn:sz n<2 ^ 36) (hds:sz d<2 ^ 36):Ctr TP G 102 [.d (Big n),.d (Big d)] [] (.d (Frac (Rat.divInt n d))) []:=by
 simp only [sz] at hn hds
 have hg0:Nat.gcd n.natAbs d.natAbs≠0:=by
  intro h;exact hd (Int.natAbs_eq_zero.1 (Nat.gcd_eq_zero_iff.1 h).2)
 have hgl:(toW (Nat.gcd n.natAbs d.natAbs)).length≤(toW d.natAbs).length:=toW_len_mono (Nat.gcd_le_right _ (by omega))
 have hx:=@div_len n.natAbs (Nat.gcd n.natAbs d.natAbs)
 have hy:=@div_len d.natAbs (Nat.gcd n.natAbs d.natAbs)
 have e1:(Rat.divInt n d).num=if ¬ decide (n<0)=decide (d<0) then -((n.natAbs / Nat.gcd n.natAbs d.natAbs:Nat):Int) else ((n.natAbs / Nat.gcd n.natAbs d.natAbs:Nat):Int):=by
  rw [Rat.num_divInt,sign_mul hd,Int.gcd,Nat.gcd_comm d.natAbs]
  split
  ·exact neg_div (Nat.gcd_dvd_left _ _)
  ·rfl
 have e2:(Rat.divInt n d).den=d.natAbs / Nat.gcd n.natAbs d.natAbs:=by
  rw [Rat.den_divInt,if_neg hd,Int.gcd,Nat.gcd_comm d.natAbs]
 refine Ctr.pure (M:=M0) hmix Tryz.func102 rfl go102 ?_
 simp (config:={maxSteps:=1000000}) (disch:=(try simp only [awL]);omega) only [Tryz.f102,↓awU,awV,awX,awF,↓reduceIte,↓reduceDIte,↓Qe,Qu,Qv,Qw,Qx,Qy,Qz,QA,QB,QC,QD,QE,QF,QG,QH,QI,QK]
 refine CallC.pure (common_spec _ _ (by omega) (by omega)) ?_
 generalize Nat.gcd n.natAbs d.natAbs=g at *
 simp (config:={maxSteps:=1000000}) (disch:=(try simp only [awL]);omega) only [↓awU,awV,awX,awF,↓reduceIte,↓reduceDIte,↓Qe,Qu,Qv,Qw,Qx,Qy,Qz,QA,QB,QC,QD,QE,QF,QG,QH,QI,QK]
 refine CallC.pure (over_spec _ g hg0 (by omega) (by omega)) ?_
 simp (config:={maxSteps:=1000000}) (disch:=(try simp only [awL]);omega) only [↓awU,awV,awX,awF,↓reduceIte,↓reduceDIte,↓Qe,Qu,Qv,Qw,Qx,Qy,Qz,QA,QB,QC,QD,QE,QF,QG,QH,QI,QK]
 refine CallC.pure (over_spec _ g hg0 (by omega) (by omega)) ?_
 simp (config:={maxSteps:=1000000}) (disch:=(try simp only [awL]);omega) only [↓awU,awV,awX,awF,↓reduceIte,↓reduceDIte,↓Qe,Qu,Qv,Qw,Qx,Qy,Qz,QA,QB,QC,QD,QE,QF,QG,QH,QI,QK]
 refine CallC.pure (signed_spec _ _ (by omega)) ?_
 simp (config:={maxSteps:=1000000}) (disch:=(try simp only [awL]);omega) only [↓awU,awV,awX,awF,↓reduceIte,↓reduceDIte,↓Qe,Qu,Qv,Qw,Qx,Qy,Qz,QA,QB,QC,QD,QE,QF,QG,QH,QI,QK]
 refine CallC.pure (signed_spec false _ (by omega)) ?_
 simp only [Frac]
 rw [e1,e2]
 simp (config:={maxSteps:=1000000}) (disch:=(try simp only [awL]);omega) only [↓awU,awV,awX,awF,↓reduceIte,↓reduceDIte,↓Qe,Qu,Qv,Qw,Qx,Qy,Qz,QA,QB,QC,QD,QE,QF,QG,QH,QI,QK]
def FV (x:Rat):Prop:=sz x.num≤256∧(toW x.den).length≤256
instance (x:Rat):Decidable (FV x):=inferInstanceAs (Decidable (_∧_))
def HG (G:Globals):Prop:=G 1=some [W [1]]
theorem toW_one:toW 1=[1]:=by rw [toW_pos (by decide),show 1 / B=0 from rfl,toW_zero];rfl
theorem cmpI_self {a:Int}:cmpI a a=0:=cmpI_eq rfl
theorem bigL_nat {n:Nat}:bigL (n:Int)=[.bool false,W (toW n)]:=by simp [bigL]
abbrev Zf:D:=.agg [.bool false,.sl 0 false [],.bool false,.sl 0 false []]
theorem make_spec (a b:Int) (ha:sz a≤256) (hb:sz b≤256):Ctr TP G 149 [.d (Big a),.d (Big b)] [] (.d (.tup [if b=0 then Zf else Frac (Rat.divInt a b),.int .i64 (if b=0 then 8 else 0)])) []:=by
 refine Ctr.pure (M:=M0) hmix Tryz.func149 rfl go149 ?_
 simp (config:={maxSteps:=1000000}) (disch:=(try simp only [awL]);omega) only [Tryz.f149,↓awU,awV,awX,awF,↓reduceIte,↓reduceDIte,↓Qe,Qu,Qv,Qw,Qx,Qy,Qz,QA,QB,QC,QD,QE,QF,QG,QH,QI,QK]
 refine CallC.by (bigs_spec a b) (by simp [cut,bigL,W]) rfl (Nat.le_refl _) ?_
 rw [decide_eq_true (p:=sz a≤256∧sz b≤256) ⟨ha,hb⟩]
 simp only [sz] at ha hb
 by_cases h0:b=0
 ·subst h0
  have e:(toW (0:Int).natAbs).length=0:=by rw [show (0:Int).natAbs=0 from rfl,toW_zero];rfl
  rw [if_pos rfl,if_pos rfl]
  simp (config:={maxSteps:=1000000}) (disch:=(try simp only [awL]);omega) only [e,↓awU,awV,awX,awF,↓reduceIte,↓reduceDIte,↓Qe,Qu,Qv,Qw,Qx,Qy,Qz,QA,QB,QC,QD,QE,QF,QG,QH,QI,QK]
 ·have e:=(@sz_pos b.natAbs).2 (by omega)
  rw [if_neg h0,if_neg h0]
  simp (config:={maxSteps:=1000000}) (disch:=(try simp only [awL]);omega) only [↓awU,awV,awX,awF,↓reduceIte,↓reduceDIte,↓Qe,Qu,Qv,Qw,Qx,Qy,Qz,QA,QB,QC,QD,QE,QF,QG,QH,QI,QK]
  refine CallC.pure (reduced_spec a b h0 (by simp only [sz];omega) (by simp only [sz];omega)) ?_
  simp (config:={maxSteps:=1000000}) (disch:=(try simp only [awL]);omega) only [↓awU,awV,awX,awF,↓reduceIte,↓reduceDIte,↓Qe,Qu,Qv,Qw,Qx,Qy,Qz,QA,QB,QC,QD,QE,QF,QG,QH,QI,QK]
theorem sz_int {n:Int} (h1:-9223372036854775808≤n) (h2:n≤9223372036854775807):sz n≤2:=toW_length_le (by simp only [B];omega)
theorem of_spec (a b:Int) (h1:-9223372036854775808≤a) (h2:a≤9223372036854775807) (h3:-9223372036854775808≤b) (h4:b≤9223372036854775807) :
  Ctr TP G 125 [.d (.int .i64 a),.d (.int .i64 b)] [] (.d (.tup [if b=0 then Zf else Frac (Rat.divInt a b),.int .i64 (if b=0 then 8 else 0)])) []:=by
 have ka:=sz_int h1 h2
 have kb:=sz_int h3 h4
 refine Ctr.pure (M:=M0) hmix Tryz.func125 rfl go125 ?_
 simp (config:={maxSteps:=1000000}) (disch:=(try simp only [awL]);omega) only [Tryz.f125,↓awU,awV,awX,awF,↓reduceIte,↓reduceDIte,↓Qe,Qu,Qv,Qw,Qx,Qy,Qz,QA,QB,QC,QD,QE,QF,QG,QH,QI,QK]
 refine CallC.pure (fromInt_spec a h1 h2) ?_
 simp (config:={maxSteps:=1000000}) (disch:=(try simp only [awL]);omega) only [↓awU,awV,awX,awF,↓reduceIte,↓reduceDIte,↓Qe,Qu,Qv,Qw,Qx,Qy,Qz,QA,QB,QC,QD,QE,QF,QG,QH,QI,QK]
 refine CallC.pure (fromInt_spec b h3 h4) ?_
 simp (config:={maxSteps:=1000000}) (disch:=(try simp only [awL]);omega) only [↓awU,awV,awX,awF,↓reduceIte,↓reduceDIte,↓Qe,Qu,Qv,Qw,Qx,Qy,Qz,QA,QB,QC,QD,QE,QF,QG,QH,QI,QK]
 refine CallC.pure (make_spec a b (by omega) (by omega)) ?_
 by_cases h0:b=0
 ·rw [if_pos h0,if_pos h0]
  simp (config:={maxSteps:=1000000}) (disch:=(try simp only [awL]);omega) only [↓awU,awV,awX,awF,↓reduceIte,↓reduceDIte,↓Qe,Qu,Qv,Qw,Qx,Qy,Qz,QA,QB,QC,QD,QE,QF,QG,QH,QI,QK]
 ·rw [if_neg h0,if_neg h0]
  simp (config:={maxSteps:=1000000}) (disch:=(try simp only [awL]);omega) only [↓awU,awV,awX,awF,↓reduceIte,↓reduceDIte,↓Qe,Qu,Qv,Qw,Qx,Qy,Qz,QA,QB,QC,QD,QE,QF,QG,QH,QI,QK]
abbrev BigN (n:Nat):D:=.agg [.bool false,W (toW n)]
theorem Big_nat {n:Nat}:Big (n:Int)=BigN n:=by rw [Big,bigL_nat]
def cmpQ (x y:Rat):Int:=if x<y then -1 else if y<x then 1 else 0
end Go.Proofs.YtdpjcghiegggbaaGreatDoor.Num
namespace Go.Proofs.YtdpjcghiegggbaaGreatDoor
structure Dia where
 del:UInt8
 quo:UInt8
 trim:Bool
def trimR (d:Dia) (l:List UInt8):List UInt8:=if d.trim then (l.reverse.dropWhile (· == 32)).reverse else l
end Go.Proofs.YtdpjcghiegggbaaGreatDoor
namespace Go.Proofs.YtdpjcghiegggbaaGreatDoor
open Go.Lib
end Go.Proofs.YtdpjcghiegggbaaGreatDoor
namespace Go.Proofs.YtdpjcghiegggbaaGreatDoor
open Go Go.Proofs Go.Abs Go.RowKit Go.Shelf
variable {G:Globals}
abbrev M0:Muts:=fun _=>false
abbrev S (l:List UInt8):D:=.str (bs l)
def hasP (s p:List UInt8):Bool:=decide (s.take p.length=p)
theorem hasP_le {s p:List UInt8} (h:hasP s p=true):p.length≤s.length:=by
 have:=of_decide_eq_true h
 have h2:=congrArg List.length this
 simp at h2;omega
theorem hasPrefix_spec (s p:List UInt8):Ctr TP G 152 [.d (S s),.d (S p)] [] (.d (.bool (hasP s p))) []:=by
 refine Ctr.pure (M:=M0) hmix Tryz.func152 rfl go152 ?_
 simp (config:={maxSteps:=1000000}) (disch:=(try simp only [awL]);omega) only [awS,Tryz.f152,↓awU,awV,awX,awF,↓reduceIte,↓reduceDIte,↓Qe,Qu,Qv,Qw,Qx,Qy,Qz,QA,QB,QC,QD,QE,QF,QG,QH,QI,QK]
 refine ⟨fun _=>rfl,fun h=>(decide_eq_false fun e=>h ?_).symm⟩
 have:=congrArg List.length e
 simp at this
 omega
theorem indexByte_calls (s:ByteArray) (c:Int) (w:World) :
  Calls TP 181 #[.string s,.int .u8 c] w fun e w'=>e=.returned (.int .i64 (Lib.indexByte s.data.toList c.toNat.toUInt8))∧w'=w:=by
 go_enter Tryz.func181,Tryz.ntmps181
 go_wp2
 rw [run_callFunc_extern Tryz.func203 (by kernel_rfl) (by kernel_rfl) (by kernel_rfl) (e:=Extern.BytealgIndexByte.indexByte) (by kernel_rfl),Lib.run_indexByteString]
 simp only [Result.andThen]
 rw [Oper.upon_value]
 go_wp2
 go_ret
 exact ⟨rfl,rfl⟩
theorem indexByte_spec (s:List UInt8) (c:UInt8):Ctr TP G 181 [.d (S s),.d (.int .u8 c.toNat)] [] (.d (.int .i64 (Lib.indexByte s c))) []:=by
 refine Ctr.of_calls go181 fun h ρ w vs q r=>?_
 obtain ⟨v,u,rfl,hv,hu⟩:=r.inv2
 rw [hv.str_inv,hu.int_inv]
 refine (indexByte_calls (bs s) c.toNat w).mono ?_
 rintro e w' ⟨rfl,rfl⟩
 refine ⟨_,rfl,?_,.refl _ _⟩
 have:((c.toNat:Int)).toNat.toUInt8=c:=by simp
 rw [this]
 exact .int _ _
def cutL (c:UInt8):List UInt8→List UInt8
 | []=>[]
 | b::l=>if b=c then [] else b::cutL c l
def cutR (c:UInt8):List UInt8→List UInt8
 | []=>[]
 | b::l=>if b=c then l else cutR c l
theorem cut_index (c:UInt8):∀ s:List UInt8,(c∈s→∃ k:Nat,Lib.indexByte s c=k∧k<s.length∧s.take k=cutL c s∧s.drop (k+1)=cutR c s)∧(c∉s→Lib.indexByte s c=-1∧cutL c s=s∧cutR c s=[])
 | []=>⟨fun h=>absurd h List.not_mem_nil,fun _=>⟨rfl,rfl,rfl⟩⟩
 | b::l=>by
   obtain ⟨i1,i2⟩:=cut_index c l
   by_cases e:b=c
   ·subst e
    refine ⟨fun _=>⟨0,?_,by simp,by simp [cutL],by simp [cutR]⟩,fun h=>absurd (List.mem_cons_self ..) h⟩
    simp [Lib.indexByte]
   ·have e2:¬ c=b:=fun h=>e h.symm
    refine ⟨fun h=>?_,fun h=>?_⟩
    ·obtain ⟨k,h1,h2,h3,h4⟩:=i1 ((List.mem_cons.1 h).resolve_left e2)
     refine ⟨k+1,?_,by simpa using h2,by simp [cutL,e,h3],by simp [cutR,e,h4]⟩
     simp only [Lib.indexByte,h1]
     rw [if_neg (by simpa using e),if_neg (by simp)]
     omega
    ·obtain ⟨h1,h2,h3⟩:=i2 (fun h2=>h (List.mem_cons_of_mem _ h2))
     refine ⟨?_,by simp [cutL,e,h2],by simp [cutR,e,h3]⟩
     simp only [Lib.indexByte,h1]
     rw [if_neg (by simpa using e),if_pos (by decide)]
theorem index1_spec (s:List UInt8) (c:UInt8) (hs:s.length<2 ^ 62):Ctr TP G 151 [.d (S s),.d (S [c])] [] (.d (.int .i64 (Lib.indexByte s c))) []:=by
 refine Ctr.pure (M:=M0) hmix Tryz.func151 rfl go151 ?_
 simp (config:={maxSteps:=1000000}) (disch:=(try simp only [awL]);omega) only [awS,Tryz.f151,↓awU,awV,awX,awF,↓reduceIte,↓reduceDIte,↓Qe,Qu,Qv,Qw,Qx,Qy,Qz,QA,QB,QC,QD,QE,QF,QG,QH,QI,QK]
 refine ⟨fun h=>?_,fun h=>?_⟩
 ·rw [← h];simp [Lib.indexByte]
 ·refine CallC.pure (indexByte_spec s c) ?_
  simp (config:={maxSteps:=1000000}) (disch:=(try simp only [awL]);omega) only [awS,↓awU,awV,awX,awF,↓reduceIte,↓reduceDIte,↓Qe,Qu,Qv,Qw,Qx,Qy,Qz,QA,QB,QC,QD,QE,QF,QG,QH,QI,QK]
theorem cutS_spec (s:List UInt8) (c:UInt8) (hs:s.length<2 ^ 62):Ctr TP G 129 [.d (S s),.d (S [c])] [] (.d (.tup [S (cutL c s),S (cutR c s),.bool (decide (c∈s))])) []:=by
 refine Ctr.pure (M:=M0) hmix Tryz.func129 rfl go129 ?_
 simp (config:={maxSteps:=1000000}) (disch:=(try simp only [awL]);omega) only [awS,Tryz.f129,↓awU,awV,awX,awF,↓reduceIte,↓reduceDIte,↓Qe,Qu,Qv,Qw,Qx,Qy,Qz,QA,QB,QC,QD,QE,QF,QG,QH,QI,QK]
 refine CallC.pure (index1_spec s c hs) ?_
 obtain ⟨i1,i2⟩:=cut_index c s
 by_cases h:c∈s
 ·obtain ⟨k,h1,h2,h3,h4⟩:=i1 h
  rw [h1,decide_eq_true h,← h3,← h4]
  simp (config:={maxSteps:=1000000}) (disch:=(try simp only [awL]);omega) only [awS,↓awU,awV,awX,awF,↓reduceIte,↓reduceDIte,↓Qe,Qu,Qv,Qw,Qx,Qy,Qz,QA,QB,QC,QD,QE,QF,QG,QH,QI,QK]
  rfl
 ·obtain ⟨h1,h3,h4⟩:=i2 h
  rw [h1,decide_eq_false h,h3,h4]
  simp (config:={maxSteps:=1000000}) (disch:=(try simp only [awL]);omega) only [awS,↓awU,awV,awX,awF,↓reduceIte,↓reduceDIte,↓Qe,Qu,Qv,Qw,Qx,Qy,Qz,QA,QB,QC,QD,QE,QF,QG,QH,QI,QK]
theorem cut_spec (s:List UInt8) (c:UInt8) (hs:s.length<2 ^ 62):Ctr TP G 96 [.d (S s),.d (S [c])] [] (.d (.tup [S (cutL c s),S (cutR c s),.bool (decide (c∈s))])) []:=by
 refine Ctr.pure (M:=M0) hmix Tryz.func96 rfl go96 ?_
 simp (config:={maxSteps:=1000000}) (disch:=(try simp only [awL]);omega) only [awS,Tryz.f96,↓awU,awV,awX,awF,↓reduceIte,↓reduceDIte,↓Qe,Qu,Qv,Qw,Qx,Qy,Qz,QA,QB,QC,QD,QE,QF,QG,QH,QI,QK]
 refine CallC.pure (cutS_spec s c hs) ?_
 simp (config:={maxSteps:=1000000}) (disch:=(try simp only [awL]);omega) only [awS,↓awU,awV,awX,awF,↓reduceIte,↓reduceDIte,↓Qe,Qu,Qv,Qw,Qx,Qy,Qz,QA,QB,QC,QD,QE,QF,QG,QH,QI,QK]
def Tryz.laysTrimLeft_ren:Go.Shelf.Ren:=⟨fun | 161=>104 | 231=>111 | 227=>113 | 233=>114 | 235=>116 | 228=>139 | 197=>140 | 151=>141 | 260=>171 | 152=>172 | 137=>198 | 119=>199 | 224=>183 | 225=>182 | 217=>181 | 266=>203 | n=>n,fun | 9=>9 | 4=>4 | 3=>3 | 5=>5 | 117=>141 | 116=>140 | 0=>0 | 124=>144 | 105=>163 | 21=>21 | 119=>209 | 46=>148 | 139=>212 | 138=>211 | n=>n,fun | 3=>6 | 4=>7 | n=>n⟩
theorem Tryz.laysTrimLeft:Go.Proofs.Lays.n161 TP Tryz.laysTrimLeft_ren where
 mixed:=by kernel_rfl
 f119:=Tryz.func199.trans (congrArg some (by kernel_rfl))
 f137:=Tryz.func198.trans (congrArg some (by kernel_rfl))
 f151:=Tryz.func141.trans (congrArg some (by kernel_rfl))
 f152:=Tryz.func172.trans (congrArg some (by kernel_rfl))
 f161:=Tryz.func104.trans (congrArg some (by kernel_rfl))
 f197:=Tryz.func140.trans (congrArg some (by kernel_rfl))
 f217:=Tryz.func181.trans (congrArg some (by kernel_rfl))
 f224:=Tryz.func183.trans (congrArg some (by kernel_rfl))
 f225:=Tryz.func182.trans (congrArg some (by kernel_rfl))
 f227:=Tryz.func113.trans (congrArg some (by kernel_rfl))
 f228:=Tryz.func139.trans (congrArg some (by kernel_rfl))
 f231:=Tryz.func111.trans (congrArg some (by kernel_rfl))
 f233:=Tryz.func114.trans (congrArg some (by kernel_rfl))
 f235:=Tryz.func116.trans (congrArg some (by kernel_rfl))
 f260:=Tryz.func171.trans (congrArg some (by kernel_rfl))
 f266:=Tryz.func203.trans (congrArg some (by kernel_rfl))
 t0:=Tryz.underlying0
 a0:=Tryz.isAgg0
 z0:=Tryz.sizeOf0
 v0:=Tryz.zeroValue0
 t3:=Tryz.underlying3
 a3:=Tryz.isAgg3
 z3:=Tryz.sizeOf3
 v3:=Tryz.zeroValue3
 t4:=Tryz.underlying4
 a4:=Tryz.isAgg4
 z4:=Tryz.sizeOf4
 v4:=Tryz.zeroValue4
 t5:=Tryz.underlying5
 a5:=Tryz.isAgg5
 z5:=Tryz.sizeOf5
 v5:=Tryz.zeroValue5
 t9:=Tryz.underlying9
 a9:=Tryz.isAgg9
 z9:=Tryz.sizeOf9
 v9:=Tryz.zeroValue9
 t21:=Tryz.underlying21
 a21:=Tryz.isAgg21
 z21:=Tryz.sizeOf21
 v21:=Tryz.zeroValue21
 t46:=Tryz.underlying148
 a46:=Tryz.isAgg148
 z46:=Tryz.sizeOf148
 v46:=Tryz.zeroValue148
 t105:=Tryz.underlying163
 a105:=Tryz.isAgg163
 z105:=Tryz.sizeOf163
 v105:=Tryz.zeroValue163
 t116:=Tryz.underlying140
 a116:=Tryz.isAgg140
 z116:=Tryz.sizeOf140
 t117:=Tryz.underlying141
 a117:=Tryz.isAgg141
 z117:=Tryz.sizeOf141
 v117:=Tryz.zeroValue141
 t119:=Tryz.underlying209
 a119:=Tryz.isAgg209
 z119:=Tryz.sizeOf209
 t124:=Tryz.underlying144
 a124:=Tryz.isAgg144
 z124:=Tryz.sizeOf144
 v124:=Tryz.zeroValue144
 t138:=Tryz.underlying211
 a138:=Tryz.isAgg211
 z138:=Tryz.sizeOf211
 v138:=Tryz.zeroValue211
 t139:=Tryz.underlying212
 a139:=Tryz.isAgg212
 z139:=Tryz.sizeOf212
 v139:=Tryz.zeroValue212
 g3:=by kernel_rfl
 g4:=by kernel_rfl
def Tryz.laysTrimRight_ren:Go.Shelf.Ren:=⟨fun | 162=>105 | 232=>112 | 227=>113 | 234=>115 | 236=>117 | 228=>139 | 271=>142 | 151=>141 | 120=>173 | 197=>140 | 152=>172 | 260=>171 | 137=>198 | 119=>199 | 224=>183 | 225=>182 | 217=>181 | 266=>203 | n=>n,fun | 9=>9 | 4=>4 | 3=>3 | 5=>5 | 117=>141 | 116=>140 | 0=>0 | 124=>144 | 21=>21 | 105=>163 | 46=>148 | 119=>209 | 139=>212 | 138=>211 | n=>n,fun | 3=>6 | 4=>7 | n=>n⟩
theorem Tryz.laysTrimRight:Go.Proofs.Lays.n162 TP Tryz.laysTrimRight_ren where
 mixed:=by kernel_rfl
 f119:=Tryz.func199.trans (congrArg some (by kernel_rfl))
 f120:=Tryz.func173.trans (congrArg some (by kernel_rfl))
 f137:=Tryz.func198.trans (congrArg some (by kernel_rfl))
 f151:=Tryz.func141.trans (congrArg some (by kernel_rfl))
 f152:=Tryz.func172.trans (congrArg some (by kernel_rfl))
 f162:=Tryz.func105.trans (congrArg some (by kernel_rfl))
 f197:=Tryz.func140.trans (congrArg some (by kernel_rfl))
 f217:=Tryz.func181.trans (congrArg some (by kernel_rfl))
 f224:=Tryz.func183.trans (congrArg some (by kernel_rfl))
 f225:=Tryz.func182.trans (congrArg some (by kernel_rfl))
 f227:=Tryz.func113.trans (congrArg some (by kernel_rfl))
 f228:=Tryz.func139.trans (congrArg some (by kernel_rfl))
 f232:=Tryz.func112.trans (congrArg some (by kernel_rfl))
 f234:=Tryz.func115.trans (congrArg some (by kernel_rfl))
 f236:=Tryz.func117.trans (congrArg some (by kernel_rfl))
 f260:=Tryz.func171.trans (congrArg some (by kernel_rfl))
 f266:=Tryz.func203.trans (congrArg some (by kernel_rfl))
 f271:=Tryz.func142.trans (congrArg some (by kernel_rfl))
 t0:=Tryz.underlying0
 a0:=Tryz.isAgg0
 z0:=Tryz.sizeOf0
 v0:=Tryz.zeroValue0
 t3:=Tryz.underlying3
 a3:=Tryz.isAgg3
 z3:=Tryz.sizeOf3
 v3:=Tryz.zeroValue3
 t4:=Tryz.underlying4
 a4:=Tryz.isAgg4
 z4:=Tryz.sizeOf4
 v4:=Tryz.zeroValue4
 t5:=Tryz.underlying5
 a5:=Tryz.isAgg5
 z5:=Tryz.sizeOf5
 v5:=Tryz.zeroValue5
 t9:=Tryz.underlying9
 a9:=Tryz.isAgg9
 z9:=Tryz.sizeOf9
 v9:=Tryz.zeroValue9
 t21:=Tryz.underlying21
 a21:=Tryz.isAgg21
 z21:=Tryz.sizeOf21
 v21:=Tryz.zeroValue21
 t46:=Tryz.underlying148
 a46:=Tryz.isAgg148
 z46:=Tryz.sizeOf148
 v46:=Tryz.zeroValue148
 t105:=Tryz.underlying163
 a105:=Tryz.isAgg163
 z105:=Tryz.sizeOf163
 v105:=Tryz.zeroValue163
 t116:=Tryz.underlying140
 a116:=Tryz.isAgg140
 z116:=Tryz.sizeOf140
 t117:=Tryz.underlying141
 a117:=Tryz.isAgg141
 z117:=Tryz.sizeOf141
 v117:=Tryz.zeroValue141
 t119:=Tryz.underlying209
 a119:=Tryz.isAgg209
 z119:=Tryz.sizeOf209
 t124:=Tryz.underlying144
 a124:=Tryz.isAgg144
 z124:=Tryz.sizeOf144
 v124:=Tryz.zeroValue144
 t138:=Tryz.underlying211
 a138:=Tryz.isAgg211
 z138:=Tryz.sizeOf211
 v138:=Tryz.zeroValue211
 t139:=Tryz.underlying212
 a139:=Tryz.isAgg212
 z139:=Tryz.sizeOf212
 v139:=Tryz.zeroValue212
 g3:=by kernel_rfl
 g4:=by kernel_rfl
def Tryz.laysTrim_ren:Go.Shelf.Ren:=⟨fun | 160=>73 | 232=>112 | 231=>111 | 227=>113 | 234=>115 | 233=>114 | 236=>117 | 235=>116 | 228=>139 | 271=>142 | 151=>141 | 197=>140 | 120=>173 | 152=>172 | 260=>171 | 137=>198 | 119=>199 | 224=>183 | 225=>182 | 217=>181 | 266=>203 | n=>n,fun | 9=>9 | 4=>4 | 3=>3 | 5=>5 | 117=>141 | 116=>140 | 0=>0 | 124=>144 | 21=>21 | 105=>163 | 46=>148 | 119=>209 | 139=>212 | 138=>211 | n=>n,fun | 3=>6 | 4=>7 | n=>n⟩
theorem Tryz.laysTrim:Go.Proofs.Lays.n160 TP Tryz.laysTrim_ren where
 mixed:=by kernel_rfl
 f119:=Tryz.func199.trans (congrArg some (by kernel_rfl))
 f120:=Tryz.func173.trans (congrArg some (by kernel_rfl))
 f137:=Tryz.func198.trans (congrArg some (by kernel_rfl))
 f151:=Tryz.func141.trans (congrArg some (by kernel_rfl))
 f152:=Tryz.func172.trans (congrArg some (by kernel_rfl))
 f160:=Tryz.func73.trans (congrArg some (by kernel_rfl))
 f197:=Tryz.func140.trans (congrArg some (by kernel_rfl))
 f217:=Tryz.func181.trans (congrArg some (by kernel_rfl))
 f224:=Tryz.func183.trans (congrArg some (by kernel_rfl))
 f225:=Tryz.func182.trans (congrArg some (by kernel_rfl))
 f227:=Tryz.func113.trans (congrArg some (by kernel_rfl))
 f228:=Tryz.func139.trans (congrArg some (by kernel_rfl))
 f231:=Tryz.func111.trans (congrArg some (by kernel_rfl))
 f232:=Tryz.func112.trans (congrArg some (by kernel_rfl))
 f233:=Tryz.func114.trans (congrArg some (by kernel_rfl))
 f234:=Tryz.func115.trans (congrArg some (by kernel_rfl))
 f235:=Tryz.func116.trans (congrArg some (by kernel_rfl))
 f236:=Tryz.func117.trans (congrArg some (by kernel_rfl))
 f260:=Tryz.func171.trans (congrArg some (by kernel_rfl))
 f266:=Tryz.func203.trans (congrArg some (by kernel_rfl))
 f271:=Tryz.func142.trans (congrArg some (by kernel_rfl))
 t0:=Tryz.underlying0
 a0:=Tryz.isAgg0
 z0:=Tryz.sizeOf0
 v0:=Tryz.zeroValue0
 t3:=Tryz.underlying3
 a3:=Tryz.isAgg3
 z3:=Tryz.sizeOf3
 v3:=Tryz.zeroValue3
 t4:=Tryz.underlying4
 a4:=Tryz.isAgg4
 z4:=Tryz.sizeOf4
 v4:=Tryz.zeroValue4
 t5:=Tryz.underlying5
 a5:=Tryz.isAgg5
 z5:=Tryz.sizeOf5
 v5:=Tryz.zeroValue5
 t9:=Tryz.underlying9
 a9:=Tryz.isAgg9
 z9:=Tryz.sizeOf9
 v9:=Tryz.zeroValue9
 t21:=Tryz.underlying21
 a21:=Tryz.isAgg21
 z21:=Tryz.sizeOf21
 v21:=Tryz.zeroValue21
 t46:=Tryz.underlying148
 a46:=Tryz.isAgg148
 z46:=Tryz.sizeOf148
 v46:=Tryz.zeroValue148
 t105:=Tryz.underlying163
 a105:=Tryz.isAgg163
 z105:=Tryz.sizeOf163
 v105:=Tryz.zeroValue163
 t116:=Tryz.underlying140
 a116:=Tryz.isAgg140
 z116:=Tryz.sizeOf140
 t117:=Tryz.underlying141
 a117:=Tryz.isAgg141
 z117:=Tryz.sizeOf141
 v117:=Tryz.zeroValue141
 t119:=Tryz.underlying209
 a119:=Tryz.isAgg209
 z119:=Tryz.sizeOf209
 t124:=Tryz.underlying144
 a124:=Tryz.isAgg144
 z124:=Tryz.sizeOf144
 v124:=Tryz.zeroValue144
 t138:=Tryz.underlying211
 a138:=Tryz.isAgg211
 z138:=Tryz.sizeOf211
 v138:=Tryz.zeroValue211
 t139:=Tryz.underlying212
 a139:=Tryz.isAgg212
 z139:=Tryz.sizeOf212
 v139:=Tryz.zeroValue212
 g3:=by kernel_rfl
 g4:=by kernel_rfl
def Tryz.laysReplaceAll_ren:Go.Shelf.Ren:=⟨fun | 105=>136 | 212=>160 | 99=>161 | 165=>162 | 166=>163 | 170=>164 | 169=>165 | 263=>191 | 264=>192 | 206=>152 | 240=>193 | 241=>194 | 276=>206 | 277=>207 | n=>n,fun | 9=>9 | 3=>3 | 4=>4 | 20=>20 | 0=>0 | 46=>148 | 109=>179 | 5=>5 | 72=>183 | 76=>136 | 51=>106 | 146=>154 | 53=>124 | 148=>201 | 70=>181 | 37=>22 | 75=>135 | 127=>203 | 164=>217 | 80=>34 | n=>n,fun | n=>n⟩
theorem Tryz.laysReplaceAll:Go.Proofs.Lays.n105 TP Tryz.laysReplaceAll_ren where
 mixed:=by kernel_rfl
 f99:=Tryz.func161.trans (congrArg some (by kernel_rfl))
 f105:=Tryz.func136.trans (congrArg some (by kernel_rfl))
 f165:=Tryz.func162.trans (congrArg some (by kernel_rfl))
 f166:=Tryz.func163.trans (congrArg some (by kernel_rfl))
 f169:=Tryz.func165.trans (congrArg some (by kernel_rfl))
 f170:=Tryz.func164.trans (congrArg some (by kernel_rfl))
 f206:=Tryz.func152.trans (congrArg some (by kernel_rfl))
 f212:=Tryz.func160.trans (congrArg some (by kernel_rfl))
 f240:=Tryz.func193.trans (congrArg some (by kernel_rfl))
 f241:=Tryz.func194.trans (congrArg some (by kernel_rfl))
 f263:=Tryz.func191.trans (congrArg some (by kernel_rfl))
 f264:=Tryz.func192.trans (congrArg some (by kernel_rfl))
 f276:=Tryz.func206.trans (congrArg some (by kernel_rfl))
 f277:=Tryz.func207.trans (congrArg some (by kernel_rfl))
 t0:=Tryz.underlying0
 a0:=Tryz.isAgg0
 z0:=Tryz.sizeOf0
 v0:=Tryz.zeroValue0
 t3:=Tryz.underlying3
 a3:=Tryz.isAgg3
 z3:=Tryz.sizeOf3
 v3:=Tryz.zeroValue3
 t4:=Tryz.underlying4
 a4:=Tryz.isAgg4
 z4:=Tryz.sizeOf4
 v4:=Tryz.zeroValue4
 t5:=Tryz.underlying5
 a5:=Tryz.isAgg5
 z5:=Tryz.sizeOf5
 v5:=Tryz.zeroValue5
 t9:=Tryz.underlying9
 a9:=Tryz.isAgg9
 z9:=Tryz.sizeOf9
 v9:=Tryz.zeroValue9
 t20:=Tryz.underlying20
 a20:=Tryz.isAgg20
 z20:=Tryz.sizeOf20
 v20:=Tryz.zeroValue20
 t37:=Tryz.underlying22
 a37:=Tryz.isAgg22
 z37:=Tryz.sizeOf22
 v37:=Tryz.zeroValue22
 t46:=Tryz.underlying148
 a46:=Tryz.isAgg148
 z46:=Tryz.sizeOf148
 v46:=Tryz.zeroValue148
 t51:=Tryz.underlying106
 a51:=Tryz.isAgg106
 z51:=Tryz.sizeOf106
 v51:=Tryz.zeroValue106
 t53:=Tryz.underlying124
 a53:=Tryz.isAgg124
 z53:=Tryz.sizeOf124
 v53:=Tryz.zeroValue124
 t70:=Tryz.underlying181
 a70:=Tryz.isAgg181
 z70:=Tryz.sizeOf181
 v70:=Tryz.zeroValue181
 t72:=Tryz.underlying183
 a72:=Tryz.isAgg183
 z72:=Tryz.sizeOf183
 v72:=Tryz.zeroValue183
 t75:=Tryz.underlying135
 a75:=Tryz.isAgg135
 z75:=Tryz.sizeOf135
 v75:=Tryz.zeroValue135
 t76:=Tryz.underlying136
 a76:=Tryz.isAgg136
 z76:=Tryz.sizeOf136
 v76:=Tryz.zeroValue136
 t109:=Tryz.underlying179
 a109:=Tryz.isAgg179
 z109:=Tryz.sizeOf179
 v109:=Tryz.zeroValue179
 t127:=Tryz.underlying203
 a127:=Tryz.isAgg203
 z127:=Tryz.sizeOf203
 v127:=Tryz.zeroValue203
 t146:=Tryz.underlying154
 a146:=Tryz.isAgg154
 z146:=Tryz.sizeOf154
 v146:=Tryz.zeroValue154
 t148:=Tryz.underlying201
 a148:=Tryz.isAgg201
 z148:=Tryz.sizeOf201
 v148:=Tryz.zeroValue201
 t164:=Tryz.underlying217
 a164:=Tryz.isAgg217
 z164:=Tryz.sizeOf217
 v164:=Tryz.zeroValue217
theorem trim_spec (s:List UInt8) (hs:s.length≤9223372036854775807):Ctr TP G 73 [.d (S s),.d (S [32])] [] (.d (S (Lib.trimB s 32))) [] :=
 Ctr.of_calls_ss go73 fun h w=>(Any.strings_Trim_one Tryz.laysTrim (bs s) 32 (by decide) w (by rw [bs_size];exact hs)).mono (by
  rintro e w' ⟨rfl,h | h⟩
  ·subst h;exact ⟨_,rfl,.str _,.refl _ _⟩
  ·subst h;exact ⟨_,rfl,.str _,Below.drew (.refl _ _)⟩)
theorem ttrim_spec (s:List UInt8) (hs:s.length≤9223372036854775807):Ctr TP G 40 [.d (S s)] [] (.d (S (Lib.trimB s 32))) []:=by
 refine Ctr.pure (M:=M0) hmix Tryz.func40 rfl go40 ?_
 simp (config:={maxSteps:=1000000}) (disch:=(try simp only [awL]);omega) only [awS,Tryz.f40,↓awU,awV,awX,awF,↓reduceIte,↓reduceDIte,↓Qe,Qu,Qv,Qw,Qx,Qy,Qz,QA,QB,QC,QD,QE,QF,QG,QH,QI,QK]
 refine CallC.of (trim_spec s hs) (by rfl) ?_
 simp (config:={maxSteps:=1000000}) (disch:=(try simp only [awL]);omega) only [awS,↓awU,awV,awX,awF,↓reduceIte,↓reduceDIte,↓Qe,Qu,Qv,Qw,Qx,Qy,Qz,QA,QB,QC,QD,QE,QF,QG,QH,QI,QK]
theorem extraB:Builder.Extra TP Tryz.laysReplaceAll_ren where
 sizeBuilder:=by kernel_rfl
 liesBuilder:=by kernel_rfl
 t5:=Tryz.underlying5
 a5:=Tryz.isAgg5
 z5:=Tryz.sizeOf5
 v5:=Tryz.zeroValue5
 infoByte:=by kernel_rfl
 cellsByte:=by kernel_rfl
 sizeByte:=by kernel_rfl
 neB5:=by decide
end Go.Proofs.YtdpjcghiegggbaaGreatDoor
namespace Go.Proofs.YtdpjcghiegggbaaGreatDoor
open Go Go.Proofs Go.Abs
variable {G:Globals}
def setD (l:List UInt8):List D:=(List.range 256).map fun i=>.bool (l.any fun b=>b.toNat == i)
def setB (l:List UInt8):List AV:=(setD l).map .d
theorem setB_length {l:List UInt8}:(setB l).length=256:=by simp [setB,setD]
theorem setD_length {l:List UInt8}:(setD l).length=256:=by simp [setD]
theorem setB_nil:setB []=List.replicate 256 (.d (.bool false)):=by rfl
theorem setD_get {l:List UInt8} {c:UInt8} {d:D}:(setD l).getD c.toNat d=.bool (l.contains c):=by
 have hc:=c.toNat_lt
 simp only [setD,List.getD_eq_getElem?_getD,List.getElem?_map,List.getElem?_range (show c.toNat<256 by omega),Option.map_some,Option.getD_some]
 rw [List.contains_eq_any_beq]
 refine congrArg (fun f=>D.bool (l.any f)) ?_
 funext b
 show (b.toNat == c.toNat)=_
 by_cases h:b=c
 ·subst h;simp
 ·have:¬ b.toNat=c.toNat:=fun e=>h (UInt8.toNat_inj.1 e)
  have h':¬ c=b:=fun e=>h e.symm
  rw [beq_eq_false_iff_ne.2 this];exact (beq_eq_false_iff_ne.2 h').symm
theorem setB_get {l:List UInt8} {c:UInt8} {d:AV}:(setB l).getD c.toNat d=.d (.bool (l.contains c)):=by
 have hc:=c.toNat_lt
 have:=@setD_get l c .nilp
 rw [List.getD_eq_getElem?_getD,List.getElem?_eq_getElem (by rw [setD_length];omega)] at this
 rw [setB,List.getD_eq_getElem?_getD,List.getElem?_map,List.getElem?_eq_getElem (by rw [setD_length];omega)]
 simp only [Option.getD_some] at this
 rw [Option.map_some,Option.getD_some,this]
theorem setB_set {l:List UInt8} {c:UInt8}:(setB l).set c.toNat (.d (.bool true))=setB (l++[c]):=by
 have hc:=c.toNat_lt
 apply List.ext_getElem
 ·rw [List.length_set,setB_length,setB_length]
 ·intro i h1 h2
  rw [List.length_set,setB_length] at h1
  rw [List.getElem_set]
  simp only [setB,setD,List.getElem_map,List.getElem_range,List.any_append,List.any_cons,List.any_nil,Bool.or_false]
  split
  ·rename_i e;subst e;simp
  ·rename_i e
   have:(c.toNat == i)=false:=by simpa using e
   rw [this,Bool.or_false]
theorem SWeak_map {fl:List (Option Nat)}:∀ l:List D,SW fl (l.map .d) (l.map .d)
 | []=>by simp [SW]
 | x::l=>by simp only [List.map_cons,SW];exact ⟨by simp [AW],SWeak_map l⟩
theorem setB_weak {fl:List (Option Nat)} {l:List UInt8}:SW fl (setB l) (setB l)=True:=eq_true (SWeak_map _)
theorem mem_getDU {α:Type} {l:List α} {i:Nat} {d:α} (h:i<l.length):l.getD i d∈l:=by
 rw [List.getD_eq_getElem?_getD,List.getElem?_eq_getElem h];exact List.getElem_mem h
theorem setB_two (l:List UInt8):∃ a b cs,setB l=a::b::cs:=by
 have:=@setB_length l
 match h:setB l with
 | []=>rw [h] at this;cases this
 | [_]=>rw [h] at this;cases this
 | a::b::cs=>exact ⟨a,b,cs,rfl⟩
theorem setB_one {l:List UInt8}:(setB l).all AV.one=true:=by
 simp [setB,setD,AV.one,D.one]
theorem setB_seal {H:List ABlk} {l:List UInt8}:sealL H (setB l)=some (setD l):=by
 have:∀ m:List D,sealL H (m.map .d)=some m:=fun m=>by
  induction m with
  | nil=>rfl
  | cons x m ih=>simp only [List.map_cons,sealL,sealA,ih]
 exact this _
theorem setB_refs {l:List UInt8}:refsL (setB l)=[]:=by
 have:∀ m:List D,refsL (m.map .d)=[]:=fun m=>by
  induction m with
  | nil=>rfl
  | cons x m ih=>simp only [List.map_cons,refsL,refsA,ih,List.append_nil]
 exact this _
theorem setB_pass {H:List ABlk} {L:List Nat} {l:List UInt8}:passL H L (setB l)=some (setB l):=by
 have:∀ m:List D,passL H L (m.map .d)=some (m.map .d):=fun m=>by
  induction m with
  | nil=>rfl
  | cons x m ih=>simp only [List.map_cons,passL,passA,ih]
 exact this _
theorem setB_sids {H:List ABlk} {L:List Nat} {l:List UInt8}:sidsL H L (setB l)=[]:=by
 have:∀ m:List D,sidsL H L (m.map .d)=[]:=fun m=>by
  induction m with
  | nil=>rfl
  | cons x m ih=>simp only [List.map_cons,sidsL,sidsA,ih,List.append_nil]
 exact this _
theorem setB_ren {f:Nat→Nat} {l:List UInt8}:renL f (setB l)=setB l:=by
 have:∀ m:List D,renL f (m.map .d)=m.map .d:=fun m=>by
  induction m with
  | nil=>rfl
  | cons x m ih=>simp only [List.map_cons,renL,renA,ih]
 exact this _
theorem take_succ_getD {s:List UInt8} {i:Nat} (h:i<s.length):s.take i++[s.getD i 0]=s.take (i+1):=by
 rw [List.take_add_one,List.getElem?_eq_getElem h,List.getD_eq_getElem?_getD,List.getElem?_eq_getElem h];rfl
theorem contains_spec (l:List UInt8) (c:UInt8):Ctr TP G 139 [.ptr 0 0,.d (.int .u8 c.toNat)] [.box (setB l)] (.d (.bool (l.contains c))) [.box (setB l)]:=by
 have hc:=c.toNat_lt
 have hl:=@setB_length l
 refine Ctr.body (M:=M0) hmix Tryz.func139 rfl go139 ?_
 simp (config:={maxSteps:=1000000}) (disch:=(try simp only [awL]);omega) only [awS,hl,setB_get,Tryz.f139,↓awU,awV,awX,awF,↓reduceIte,↓reduceDIte,↓Qe,Qu,Qv,Qw,Qx,Qy,Qz,QA,QB,QC,QD,QE,QF,QG,QH,QI,QK]
 exact ⟨[some 0],rfl,by simp,by simp [HW,BW,setB_weak],.inl (by simp [AW])⟩
theorem makeSet_spec (l:List UInt8) (hl:l.length<2 ^ 62) (ha:∀ b∈l,b.toNat<128):Ctr TP G 113 [.d (S l)] [] (.d (.tup [.agg (setD l),.bool true])) []:=by
 refine Ctr.pure (M:=M0) hmix Tryz.func113 rfl go113 ?_
 simp (config:={maxSteps:=1000000}) (disch:=(try simp only [awL]);omega) only [awS,Tryz.f113,↓awU,awV,awX,awF,↓reduceIte,↓reduceDIte,↓Qe,Qu,Qv,Qw,Qx,Qy,Qz,QA,QB,QC,QD,QE,QF,QG,QH,QI,QK]
 refine LoopC.fr 5 (α:=Nat) (fun i=>l.length - i) (fun i=>[(4,.d (.int .i64 i))]) (fun i=>[.box (setB (l.take i))]) (fun i=>i≤l.length) 0 (Nat.zero_le _) ?_ ?_
 ·refine ⟨[some 0],rfl,by simp,by simp [sA,kA,SW,AW],?_⟩
  rw [List.take_zero,setB_nil]
  simp only [HW,BW,List.getElem?_cons_zero]
  refine ⟨SWeak_map (List.replicate 256 (.bool false)),trivial⟩
 ·intro i hi
  have sl:=@setB_length (l.take i)
  simp only [awK,Nat.reduceMod,Nat.reduceDiv,reduceIte]
  rcases Nat.lt_or_ge i l.length with h1 | h1
  ·have hb:=ha _ (mem_getDU (d:=0) h1)
   have hs:=take_succ_getD h1
   simp (config:={maxSteps:=1000000}) (disch:=(try simp only [awL]);omega) only [awS,sl,↓awU,awV,awX,awF,↓reduceIte,↓reduceDIte,↓Qe,Qu,Qv,Qw,Qx,Qy,Qz,QA,QB,QC,QD,QE,QF,QG,QH,QI,QK]
   exact ⟨i+1,h1,by simp only;omega,[some 0],rfl,by simp,by simp [sA,kA,SW,AW],by simp only [HW,BW,List.getElem?_cons_zero];rw [setB_set,hs];exact ⟨by rw [setB_weak];trivial,trivial⟩⟩
  ·have sl:=@setB_length l
   have tk:(setB l).take 256=setB l:=List.take_of_length_le (by omega)
   obtain ⟨a,b,cs,e⟩:=setB_two l
   have lc:cs.length=254:=by rw [e] at sl;simpa using sl
   have tc:cs.take 254=cs:=List.take_of_length_le (by omega)
   have dc:cs.drop cs.length=[]:=List.drop_length
   simp (config:={maxSteps:=1000000}) (disch:=(try simp only [awL]);omega) only [awS,sl,tk,↓awU,awV,awX,awF,↓reduceIte,↓reduceDIte,↓Qe,Qu,Qv,Qw,Qx,Qy,Qz,QA,QB,QC,QD,QE,QF,QG,QH,QI,QK]
   refine ⟨setB_one,?_⟩
   have pm:putL (setB l) 0 (setB l)=setB l:=by
    rw [e]
    simp only [putL,putL,List.take_zero,List.nil_append,Nat.zero_add,List.length_cons,List.drop_succ_cons,dc,List.append_nil]
   first
   | rw [pm,sl,tk]
   | (simp only [putL,putL,List.take_zero,List.nil_append,Nat.zero_add] at pm;rw [pm,sl,tk])
   simp only [Nat.le_refl,if_true,sealA,sealL,setB_seal]
   rfl
theorem setB_fold {l:List UInt8}:(setD l).map AV.d=setB l:=rfl
theorem setB_putL {L:List AV} {l:List UInt8} (h:L.length=256):putL L 0 ((setD l).map AV.d)=setB l:=by
 rw [setB_fold]
 obtain ⟨a,b,cs,e⟩:=setB_two l
 have q:=@setB_length l
 rw [e] at q ⊢
 have hd:L.drop (0+(a::b::cs).length)=[]:=List.drop_eq_nil_of_le (by omega)
 simp only [putL,hd,List.take_zero,List.nil_append,List.append_nil]
theorem setB_putL' {l:List UInt8}:putL ([.d (.bool false),.d (.bool false),.d (.bool false),.d (.bool false),.d (.bool false),.d (.bool false),.d (.bool false),.d (.bool false),.d (.bool false),.d (.bool false),.d (.bool false),.d (.bool false),.d (.bool false),.d (.bool false),.d (.bool false),.d (.bool false),.d (.bool false),.d (.bool false),.d (.bool false),.d (.bool false),.d (.bool false),.d (.bool false),.d (.bool false),.d (.bool false),.d (.bool false),.d (.bool false),.d (.bool false),.d (.bool false),.d (.bool false),.d (.bool false),.d (.bool false),.d (.bool false),.d (.bool false),.d (.bool false),.d (.bool false),.d (.bool false),.d (.bool false),.d (.bool false),.d (.bool false),.d (.bool false),.d (.bool false),.d (.bool false),.d (.bool false),.d (.bool false),.d (.bool false),.d (.bool false),.d (.bool false),.d (.bool false),.d (.bool false),.d (.bool false),.d (.bool false),.d (.bool false),.d (.bool false),.d (.bool false),.d (.bool false),.d (.bool false),.d (.bool false),.d (.bool false),.d (.bool false),.d (.bool false),.d (.bool false),.d (.bool false),.d (.bool false),.d (.bool false),.d (.bool false),.d (.bool false),.d (.bool false),.d (.bool false),.d (.bool false),.d (.bool false),.d (.bool false),.d (.bool false),.d (.bool false),.d (.bool false),.d (.bool false),.d (.bool false),.d (.bool false),.d (.bool false),.d (.bool false),.d (.bool false),.d (.bool false),.d (.bool false),.d (.bool false),.d (.bool false),.d (.bool false),.d (.bool false),.d (.bool false),.d (.bool false),.d (.bool false),.d (.bool false),.d (.bool false),.d (.bool false),.d (.bool false),.d (.bool false),.d (.bool false),.d (.bool false),.d (.bool false),.d (.bool false),.d (.bool false),.d (.bool false),.d (.bool false),.d (.bool false),.d (.bool false),.d (.bool false),.d (.bool false),.d (.bool false),.d (.bool false),.d (.bool false),.d (.bool false),.d (.bool false),.d (.bool false),.d (.bool false),.d (.bool false),.d (.bool false),.d (.bool false),.d (.bool false),.d (.bool false),.d (.bool false),.d (.bool false),.d (.bool false),.d (.bool false),.d (.bool false),.d (.bool false),.d (.bool false),.d (.bool false),.d (.bool false),.d (.bool false),.d (.bool false),.d (.bool false),.d (.bool false),.d (.bool false),.d (.bool false),.d (.bool false),.d (.bool false),.d (.bool false),.d (.bool false),.d (.bool false),.d (.bool false),.d (.bool false),.d (.bool false),.d (.bool false),.d (.bool false),.d (.bool false),.d (.bool false),.d (.bool false),.d (.bool false),.d (.bool false),.d (.bool false),.d (.bool false),.d (.bool false),.d (.bool false),.d (.bool false),.d (.bool false),.d (.bool false),.d (.bool false),.d (.bool false),.d (.bool false),.d (.bool false),.d (.bool false),.d (.bool false),.d (.bool false),.d (.bool false),.d (.bool false),.d (.bool false),.d (.bool false),.d (.bool false),.d (.bool false),.d (.bool false),.d (.bool false),.d (.bool false),.d (.bool false),.d (.bool false),.d (.bool false),.d (.bool false),.d (.bool false),.d (.bool false),.d (.bool false),.d (.bool false),.d (.bool false),.d (.bool false),.d (.bool false),.d (.bool false),.d (.bool false),.d (.bool false),.d (.bool false),.d (.bool false),.d (.bool false),.d (.bool false),.d (.bool false),.d (.bool false),.d (.bool false),.d (.bool false),.d (.bool false),.d (.bool false),.d (.bool false),.d (.bool false),.d (.bool false),.d (.bool false),.d (.bool false),.d (.bool false),.d (.bool false),.d (.bool false),.d (.bool false),.d (.bool false),.d (.bool false),.d (.bool false),.d (.bool false),.d (.bool false),.d (.bool false),.d (.bool false),.d (.bool false),.d (.bool false),.d (.bool false),.d (.bool false),.d (.bool false),.d (.bool false),.d (.bool false),.d (.bool false),.d (.bool false),.d (.bool false),.d (.bool false),.d (.bool false),.d (.bool false),.d (.bool false),.d (.bool false),.d (.bool false),.d (.bool false),.d (.bool false),.d (.bool false),.d (.bool false),.d (.bool false),.d (.bool false),.d (.bool false),.d (.bool false),.d (.bool false),.d (.bool false),.d (.bool false),.d (.bool false),.d (.bool false),.d (.bool false),.d (.bool false),.d (.bool false),.d (.bool false),.d (.bool false),.d (.bool false),.d (.bool false),.d (.bool false),.d (.bool false),.d (.bool false),.d (.bool false),.d (.bool false),.d (.bool false),.d (.bool false),.d (.bool false),.d (.bool false),.d (.bool false)]:List AV) 0 (setB l)=setB l:=setB_putL rfl
end Go.Proofs.YtdpjcghiegggbaaGreatDoor
namespace Go.Proofs.YtdpjcghiegggbaaGreatDoor
open Go Go.Proofs Go.Abs Go.RowKit Go.Shelf Go.Lib
variable {G:Globals}
structure BldR (v:Value) (w w':World):Prop where
 os:w'.os=w.os
 tape:w'.tape=w.tape
 output:w'.output=w.output
 size:w.heap.size≤w'.heap.size
 keep:∀ k,k<w.heap.size→some k≠v.ownBlock→w'.heap[k]? = w.heap[k]?
theorem BldR.of {v:Value} {w w':World} (h:Below w.heap.size w w'):BldR v w w':=⟨h.os,h.tape,h.output,h.size,fun k hk _=>h.block k hk⟩
theorem ptr_inv {h:Held} {ρ:Abs.Place} {u:Value} {g S:Nat} (r:R h ρ u (.ptr 0 0)) (hρ:ρ 0=some (g,S)):u=.pointer (some ⟨g,0,none⟩):=by
 cases r with
 | ptr b off g' S' h1=>rw [hρ] at h1;cases h1;rfl
end Go.Proofs.YtdpjcghiegggbaaGreatDoor
namespace Go.Proofs.YtdpjcghiegggbaaGreatDoor
open Go Go.Proofs Go.Abs
variable {G:Globals}
def strs (l:List (List UInt8)):List D:=l.map fun s=>S s
theorem strs_length {l:List (List UInt8)}:(strs l).length=l.length:=by simp [strs]
theorem strs_unf {l:List (List UInt8)}:(strs l).map unf0=strs l:=by simp [strs,unf0]
theorem strs_getD {l:List (List UInt8)} {i:Nat} (h:i<l.length):(strs l).getD i .nilp=S (l.getD i []):=by
 simp [strs,List.getD_eq_getElem?_getD,h]
abbrev Ss (l:List (List UInt8)) (full:Bool):D:=.sl l.length full (strs l)
def wordsL:List (List UInt8):=[[97,110,110],[98,111,98],[99,121],[66,101,114,110],[85,108,109],[78,101,119,32,89,111,114,107],[121,111,114,107,32,110,101,119],[97,45,49],[98,45,50,50],[120],[122,195,188,114,105,99,104],[65,110,110],[98,111],[99,97,116],[98,97,116],[114,97,116]]
abbrev DiceM (t:List Int) (k:Nat):ABlk:=.box [.d (.sl t.length false (ints .u8 t)),.d (.int .i64 (min k t.length:Nat))]
def OkM (t:List Int):Prop:=t.length≤300∧∀ i,0≤t.getD i 0∧t.getD i 0≤255
theorem new_spec (t:List Int) (ht:t.length≤9223372036854775807):Ctr TP G 13 [.d (.sl t.length false (ints .u8 t))] [] (.ptr 0 0) [DiceM (t.take 300) 0]:=by
 refine Ctr.body (M:=M0) hmix Tryz.func13 rfl go13 ?_
 rcases Nat.lt_or_ge 300 t.length with h | h
 ·have e:(t.take 300).length=300:=by rw [List.length_take];omega
  simp (config:={maxSteps:=1000000}) (disch:=(try simp only [awL]);omega) only [Tryz.f13,e,↓awU,awV,awX,awF,↓reduceIte,↓reduceDIte,↓Qe,Qu,Qv,Qw,Qx,Qy,Qz,QA,QB,QC,QD,QE,QF,QG,QH,QI,QK]
  exact ⟨[some 0],rfl,by simp,by simp [HW,BW,SW,AW];omega,.inl (by simp [AW])⟩
 ·have e:t.take 300=t:=List.take_of_length_le h
  simp (config:={maxSteps:=1000000}) (disch:=(try simp only [awL]);omega) only [Tryz.f13,e,↓awU,awV,awX,awF,↓reduceIte,↓reduceDIte,↓Qe,Qu,Qv,Qw,Qx,Qy,Qz,QA,QB,QC,QD,QE,QF,QG,QH,QI,QK]
  exact ⟨[some 0],rfl,by simp,by simp [HW,BW,SW,AW],.inl (by simp [AW,SW])⟩
def pk (t:List Int) (k:Nat) (n:Int):Int:=t.getD k 0 % n
theorem pk_range {t:List Int} {k:Nat} {n:Int} (h:0<n):0≤pk t k n∧pk t k n<n:=⟨Int.emod_nonneg _ (by omega),Int.emod_lt_of_pos _ h⟩
theorem pk_nat (t:List Int) (k:Nat) (n:Int) (h:0<n):∃ c:Nat,pk t k n=c∧(c:Int)<n:=⟨(pk t k n).toNat,by have:=@pk_range t k n h;omega,by have:=@pk_range t k n h;omega⟩
theorem pick_spec (t:List Int) (k:Nat) (n:Int) (ht:OkM t) (h0:0<n) (h1:n≤1000) :
  Ctr TP G 41 [.ptr 0 0,.d (.int .i64 n)] [DiceM t k] (.d (.int .i64 (pk t k n))) [DiceM t (k+1)]:=by
 obtain ⟨ht,htt⟩:=ht
 refine Ctr.body (M:=M0) hmix Tryz.func41 rfl go41 ?_
 rcases Nat.lt_or_ge k t.length with h | h
 ·have e1:min k t.length=k:=by omega
  have e2:min (k+1) t.length=k+1:=by omega
  obtain ⟨b1,b2⟩:=htt k
  have e3:(t.getD k 0).tmod n=pk t k n:=Int.tmod_eq_emod_of_nonneg b1
  simp only [e1,e2,DiceM]
  simp (config:={maxSteps:=1000000}) (disch:=(try simp only [awL]);omega) only [Tryz.f41,e3,↓awU,awV,awX,awF,↓reduceIte,↓reduceDIte,↓Qe,Qu,Qv,Qw,Qx,Qy,Qz,QA,QB,QC,QD,QE,QF,QG,QH,QI,QK]
  refine ⟨by rfl,by rfl,?_⟩
  exact ⟨[some 0],rfl,by simp,by simp [HW,BW,SW,AW],.inl (by simp [AW,SW])⟩
 ·have e1:min k t.length=t.length:=by omega
  have e2:min (k+1) t.length=t.length:=by omega
  have e3:pk t k n=0:=by rw [pk,List.getD_eq_getElem?_getD,List.getElem?_eq_none h];simp
  simp only [e1,e2,e3,DiceM]
  simp (config:={maxSteps:=1000000}) (disch:=(try simp only [awL]);omega) only [Tryz.f41,↓awU,awV,awX,awF,↓reduceIte,↓reduceDIte,↓Qe,Qu,Qv,Qw,Qx,Qy,Qz,QA,QB,QC,QD,QE,QF,QG,QH,QI,QK]
  refine ⟨by rfl,?_⟩
  exact ⟨[some 0],rfl,by simp,by simp [HW,BW,SW,AW],.inl (by simp [AW,SW])⟩
theorem words_spec:Ctr TP G 43 [] [] (.d (Ss wordsL false)) []:=by
 refine Ctr.pure (M:=M0) hmix Tryz.func43 rfl go43 ?_
 simp (config:={maxSteps:=1000000}) (disch:=(try simp only [awL]);omega) only [awS,Tryz.f43,↓awU,awV,awX,awF,↓reduceIte,↓reduceDIte,↓Qe,Qu,Qv,Qw,Qx,Qy,Qz,QA,QB,QC,QD,QE,QF,QG,QH,QI,QK]
 try rfl
abbrev Row:=List (List UInt8)
def ixF {α:Type} (p:α→Bool):List α→Int→Int
 | [],_=>-1
 | x::r,k=>if p x then k else ixF p r (k+1)
theorem ixF_any {α:Type} {p:α→Bool}:∀ (l:List α) (k:Int),0≤k→(0≤ixF p l k↔l.any p=true)
 | [],k,h=>by simp [ixF]
 | x::r,k,h=>by
   rw [ixF,List.any_cons]
   cases hx:p x
   ·simpa using ixF_any r (k+1) (by omega)
   ·simpa using h
theorem ixF_at {α:Type} {p:α→Bool} {l:List α} {i:Nat} {d:α} (h:i<l.length):ixF p (l.drop i) i=if p (l.getD i d) then (i:Int) else ixF p (l.drop (i+1)) (i+1:Nat):=by
 rw [List.drop_eq_getElem_cons h,ixF,List.getD_eq_getElem?_getD,List.getElem?_eq_getElem h];rfl
theorem memD {α:Type} {l:List α} {i:Nat} {d:α} (h:i<l.length):l.getD i d∈l:=by
 rw [List.getD_eq_getElem?_getD,List.getElem?_eq_getElem h];exact List.getElem_mem h
def okRow (r:Row):Prop:=r.length≤1000000000∧∀ s∈r,s.length≤1000000000
def okGrid (g:List Row):Prop:=g.length≤1000000000∧∀ r∈g,okRow r
end Go.Proofs.YtdpjcghiegggbaaGreatDoor
