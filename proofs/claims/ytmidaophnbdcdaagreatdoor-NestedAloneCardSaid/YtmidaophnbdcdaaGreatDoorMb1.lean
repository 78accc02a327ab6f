/-
  Contracts of the functions, one after another.
-/
import Derived.Test.YtmidaophnbdcdaaGreatDoorLa3
import Derived.Lib.ValidLaws
import Derived.Test.YtmidaophnbdcdaaGreatDoorChecked
import Derived.KernelRfl
import Derived.Shelf.Unicode.ValidAny
import Derived.Ground.NamesProg
import Derived.Lib.DecodeN
import Derived.Shelf.Strings.OnBuilder
import Derived.Lib.Strings
import Derived.Lib.Slices
import Derived.Lib.Walk
import Derived.Lib.Bytealg
import Derived.Shelf.Strings.Trim
import Derived.Shelf.Strings.Replace
import Derived.Shelf.Strings.Repeat
import Derived.Shelf.Strings.Builder1
import Derived.Shelf.Utf8.RuneCount
import Derived.Shelf.Strings.Prefix
import Derived.Shelf.Small.Wraps
import Derived.Lib.OthersKept
import Derived.Lib.MapLaws
import Derived.Lib.RuneBytes
import Derived.Lib.ItoaNum
import Derived.Lib.ItoaMem
import Derived.Lib.ItoaLen
import Derived.Shelf.Strconv.AtoiAll
import Derived.Lib.AtoiErrMem
import Derived.Shelf.Strconv.Itoa0
import Derived.Test.YtmidaophnbdcdaaGreatDoorCards
import Derived.Test.YtmidaophnbdcdaaGreatDoorTie
import Derived.Lib.LaidU8T
import Derived.Lib.LaidTab
import Derived.LaidLaws
import Derived.Shelf.Vars
import Derived.Lib.SmallJoins
set_option linter.all false
open Go.Abs renaming A4→HW,Dx→BW,Ci→SW,Aq→AW,BI→sA,Aw→kA
open Go.Proofs.Tryz renaming prog→TP
set_option maxHeartbeats 8000000
set_option maxRecDepth 100000
open Go.Abs renaming Eq→Qe
open Nat renaming reduceAdd→Qu,reduceSub→Qv,reduceMul→Qw,reducePow→Qx,reduceDiv→Qy,reduceMod→Qz,reduceEqDiff→QI,reduceBEq→QK
open Int renaming reduceAdd→QA,reduceSub→QB,reduceMul→QC,reducePow→QD,reduceNeg→QE,reduceToNat→QF,reduceLT→QG,reduceLE→QH
open List renaming replicate→AcB,getD_eq_getElem?_getD→AdT,getElem?_eq_getElem→AdU,getElem?_eq_some_iff→AdW,length_append→AdX,map_cons→AdZ,length_cons→Ae1,length_replicate→Ae2,take_of_length_le→Afs,length_nil→Afv,map_append→Afw,getElem?_eq_none→AfI,getElem?_map→AfJ,length_take→AfN,map_nil→AfP,getElem_mem→AfV,eq_nil_of_length_eq_zero→AfW,append_nil→AfY,getElem?_take→AfZ,range→Af0,take_zero→Af1,getElem?_append_left→Af3,take_add_one→Af4,getElem?_cons_zero→Af6,drop_eq_nil_of_le→Af7,nil_append→Af8,getElem?_range→Af9,drop_succ_cons→Aga,append_assoc→Agb,length_set→Agd,any_cons→Agg
open Nat renaming le_refl→AdV,reduceMod→Ad0,reduceDiv→Ad1,lt_or_ge→Ae3,add_zero→AfQ,div_div_eq_div_mul→AfR,zero_le→Af5,mod_eq_of_lt→Agc,zero_add→Agi
open Int renaming toNat_natCast→AdY,ofNat_tdiv→Age,ofNat_tmod→Agf
open Bool renaming and_eq_true→AfO,or_false→Agh
open Array renaming getElem?_modify→AfS,getElem?_toList→AfT,getElem?_eq_some_iff→Af2
open Option renaming getD_some→AfU,map_some→AfX
namespace Go.Proofs.YtmidaophnbdcdaaGreatDoor
structure Dia where
 del:UInt8
 quo:UInt8
 trim:Bool
def trimR (d:Dia) (l:List UInt8):List UInt8:=if d.trim then (l.reverse.dropWhile (· == 32)).reverse else l
end Go.Proofs.YtmidaophnbdcdaaGreatDoor
namespace Go.Proofs.YtmidaophnbdcdaaGreatDoor
open Go.Lib
theorem Rs {n b1 b2 b3 sz lo hi k:Nat} (h:checkN n b1 b2 b3 sz lo hi=some k):k=sz∧2≤sz∧sz≤4∧sz≤n∧lo≤b1∧b1≤hi∧(3≤sz→128≤b2∧b2≤191)∧(4≤sz→128≤b3∧b3≤191):=by
 unfold checkN at h
 split at h
 ·split at h
  ·cases h
  ·cases h;omega
 ·split at h
  ·split at h
   ·cases h
   ·cases h;omega
  ·split at h
   ·split at h
    ·cases h
    ·cases h;omega
   ·cases h
theorem Vc {n b1 b2 b3 sz lo hi:Nat} (h1:2≤sz) (h2:sz≤4) (hn:sz≤n) (hl:lo≤b1) (hh:b1≤hi) (h3:3≤sz→128≤b2∧b2≤191) (h4:4≤sz→128≤b3∧b3≤191):checkN n b1 b2 b3 sz lo hi=some sz:=by
 unfold checkN
 rcases (by omega:sz=2∨sz=3∨sz=4) with rfl | rfl | rfl
 ·rw[if_pos rfl,if_neg (by omega)]
 ·have:=h3 (by omega)
  rw[if_neg (by decide),if_pos rfl,if_neg (by omega)]
 ·have:=h3 (by omega)
  have:=h4 (by omega)
  rw[if_neg (by decide),if_neg (by decide),if_pos rfl,if_neg (by omega)]
theorem Xu:∀ b:Fin 256,2≤firstT b.val % 8→firstT b.val % 8≤4→128≤accLo (firstT b.val / 16):=by decide
theorem Pi {l:List UInt8} (h:validD l=true):l=[]∨∃ p m,l=p++m∧p≠[]∧validD m=true∧(∀ m',validD (p++m')=validD m')∧((∃ c,p=[c]∧c.toNat<128)∨∀ c∈p,128≤c.toNat):=by
 match l,h with
 | [],_=>exact .inl rfl
 | c::r,h =>
  right
  by_cases hc:c.toNat<128
  ·exact ⟨[c],r,rfl,by simp,by rwa[validD_cons c r hc] at h,fun m'=>validD_cons c m' hc,.inl ⟨c,rfl,hc⟩⟩
  ·have h0:128≤((c::r).getD 0 0).toNat:=by show 128≤c.toNat;omega
   have hv:=validD_lead (c::r) (by simp) h0
   rw[h] at hv
   cases hk:checkN (c::r).length ((c::r).getD 1 0).toNat ((c::r).getD 2 0).toNat ((c::r).getD 3 0).toNat (firstT ((c::r).getD 0 0).toNat % 8) (accLo (firstT ((c::r).getD 0 0).toNat / 16)) (accHi (firstT ((c::r).getD 0 0).toNat / 16)) with
   | none=>rw[hk] at hv;cases hv
   | some k =>
    rw[hk] at hv
    obtain ⟨ek,k1,k2,k3,k4,k5,k6,k7⟩:=Rs hk
    have lo:=Xu ⟨((c::r).getD 0 0).toNat,UInt8.toNat_lt _⟩ k1 k2
    simp only at lo
    generalize hl:c::r=l at *
    clear hl hc
    have hg:∀ m' j,j<k→(l.take k++m').getD j 0=l.getD j 0:=by
     intro m' j hj
     rw[AdT,AdT,Af3 (by rw[AfN];omega),AfZ,if_pos hj]
    have hkl:k≤l.length:=by omega
    have hlt:(l.take k).length=k:=by rw[AfN];omega
    refine ⟨l.take k,l.drop k,(List.take_append_drop k l).symm,?_,hv.symm,fun m'=>?_,.inr ?_⟩
    ·intro e
     rw[e] at hlt;simp at hlt;omega
    ·have hne:l.take k++m'≠[]:=by
      intro e
      have:=congrArg List.length e
      rw[AdX,hlt] at this
      simp only[Afv] at this;omega
     have g0:=hg m' 0 (by omega)
     have g1:=hg m' 1 (by omega)
     rw[validD_lead _ hne (by rw[g0];exact h0),g0,g1,Vc (sz:=firstT (l.getD 0 0).toNat % 8) k1 k2 (by rw[AdX,AfN];omega) k4 k5 (fun h3=>by rw[hg m' 2 (by omega)];exact k6 h3) (fun h4=>by rw[hg m' 3 (by omega)];exact k7 h4)]
     show validD ((l.take k++m').drop (firstT (l.getD 0 0).toNat % 8))=_
     rw[←ek,List.drop_left' hlt]
    ·intro x hx
     obtain ⟨j,hj,rfl⟩:=List.getElem_of_mem hx
     rw[AfN] at hj
     rw[List.getElem_take]
     have e:l[j]=l.getD j 0:=by rw[AdT,AdU (by omega)];rfl
     rw[e]
     rcases (by omega:j=0∨j=1∨j=2∨j=3) with rfl | rfl | rfl | rfl
     ·exact h0
     ·omega
     ·exact (k6 (by omega)).1
     ·exact (k7 (by omega)).1
theorem N9:∀ (n:Nat) (a b:List UInt8),a.length=n→validD a=true→validD (a++b)=validD b:=by
 intro n
 induction n using Nat.strongRecOn with
 | _ n ih =>
  intro a b hn ha
  rcases Pi ha with rfl | ⟨p,m,rfl,hp,hm,hall,_⟩
  ·rfl
  ·have:=List.length_pos_iff.2 hp
   rw[Agb,hall,ih m.length (by rw[AdX] at hn;omega) m b rfl hm]
theorem Uk {a b:List UInt8} (ha:validD a=true) (hb:validD b=true):validD (a++b)=true:=by rw[N9 _ a b rfl ha];exact hb
end Go.Proofs.YtmidaophnbdcdaaGreatDoor
namespace Go.Proofs.YtmidaophnbdcdaaGreatDoor
open Go Go.Proofs Go.Abs
theorem ti1:Al TP 1=some ⟨.func,1,8,[.nilf]⟩:=by kernel_rfl
theorem ti2:Al TP 2=some ⟨.int .i64,1,8,[.int .i64 0]⟩:=by kernel_rfl
theorem ie2:Eu TP 2=some .i64:=by kernel_rfl
theorem it2:D0 TP 2=some .i64:=by kernel_rfl
theorem st2:AD TP 2=false:=by kernel_rfl
theorem ti3:Al TP 3=some ⟨.int .i64,1,8,[.int .i64 0]⟩:=by kernel_rfl
theorem zo3:Gf TP 3=some (.int .i64 0):=by kernel_rfl
theorem ie3:Eu TP 3=some .i64:=by kernel_rfl
theorem it3:D0 TP 3=some .i64:=by kernel_rfl
theorem st3:AD TP 3=false:=by kernel_rfl
theorem ti4:Al TP 4=some ⟨.bool,1,1,[.bool false]⟩:=by kernel_rfl
theorem zo4:Gf TP 4=some (.bool false):=by kernel_rfl
theorem bt4:KL TP 4=true:=by kernel_rfl
theorem ti5:Al TP 5=some ⟨.int .u8,1,1,[.int .u8 0]⟩:=by kernel_rfl
theorem zo5:Gf TP 5=some (.int .u8 0):=by kernel_rfl
theorem ie5:Eu TP 5=some .u8:=by kernel_rfl
theorem it5:D0 TP 5=some .u8:=by kernel_rfl
theorem st5:AD TP 5=false:=by kernel_rfl
theorem ti6:Al TP 6=some ⟨.int .u8,1,1,[.int .u8 0]⟩:=by kernel_rfl
theorem ie6:Eu TP 6=some .u8:=by kernel_rfl
theorem it6:D0 TP 6=some .u8:=by kernel_rfl
theorem st6:AD TP 6=false:=by kernel_rfl
theorem ti7:Al TP 7=some ⟨.struct [(0,2,1),(1,3,1),(2,4,1),(3,6,1)],4,24,[.int .i64 0,.int .i64 0,.bool false,.int .u8 0]⟩:=by kernel_rfl
theorem Ada:Af TP 7 0=some (0,2,1):=by kernel_rfl
theorem Ac9:Af TP 7 1=some (1,3,1):=by kernel_rfl
theorem Ac8:Af TP 7 2=some (2,4,1):=by kernel_rfl
theorem Ac7:Af TP 7 3=some (3,6,1):=by kernel_rfl
theorem ti8:Al TP 8=some ⟨.struct [(0,2,1),(1,3,1),(2,4,1),(3,6,1)],4,24,[.int .i64 0,.int .i64 0,.bool false,.int .u8 0]⟩:=by kernel_rfl
theorem Ac6:Af TP 8 0=some (0,2,1):=by kernel_rfl
theorem Ac5:Af TP 8 1=some (1,3,1):=by kernel_rfl
theorem Ac4:Af TP 8 2=some (2,4,1):=by kernel_rfl
theorem Ac3:Af TP 8 3=some (3,6,1):=by kernel_rfl
theorem ti9:Al TP 9=some ⟨.string,1,16,[.str .empty]⟩:=by kernel_rfl
theorem st9:AD TP 9=true:=by kernel_rfl
theorem ap9:AC TP 9=true:=by kernel_rfl
theorem it9:D0 TP 9=none:=by kernel_rfl
theorem ti10:Al TP 10=some ⟨.string,1,16,[.str .empty]⟩:=by kernel_rfl
theorem st10:AD TP 10=true:=by kernel_rfl
theorem ap10:AC TP 10=true:=by kernel_rfl
theorem it10:D0 TP 10=none:=by kernel_rfl
theorem ti11:Al TP 11=some ⟨.string,1,16,[.str .empty]⟩:=by kernel_rfl
theorem st11:AD TP 11=true:=by kernel_rfl
theorem ap11:AC TP 11=true:=by kernel_rfl
theorem it11:D0 TP 11=none:=by kernel_rfl
theorem ti12:Al TP 12=some ⟨.int .u64,1,8,[.int .u64 0]⟩:=by kernel_rfl
theorem ie12:Eu TP 12=some .u64:=by kernel_rfl
theorem it12:D0 TP 12=some .u64:=by kernel_rfl
theorem st12:AD TP 12=false:=by kernel_rfl
theorem ti14:Al TP 14=some ⟨.struct [(0,9,1),(1,12,1)],2,24,[.str .empty,.int .u64 0]⟩:=by kernel_rfl
theorem AaF:Af TP 14 0=some (0,9,1):=by kernel_rfl
theorem AaE:Af TP 14 1=some (1,12,1):=by kernel_rfl
theorem ti15:Al TP 15=some ⟨.ptr 325,1,8,[.nilp]⟩:=by kernel_rfl
theorem ti16:Al TP 16=some ⟨.ptr 328,1,8,[.nilp]⟩:=by kernel_rfl
theorem ti17:Al TP 17=some ⟨.ptr 335,1,8,[.nilp]⟩:=by kernel_rfl
theorem ti19:Al TP 19=some ⟨.struct [(0,17,1)],1,8,[.nilp]⟩:=by kernel_rfl
theorem AaD:Af TP 19 0=some (0,17,1):=by kernel_rfl
theorem ti20:Al TP 20=some ⟨.other,1,16,[.nili]⟩:=by kernel_rfl
theorem ti21:Al TP 21=some ⟨.int .i32,1,4,[.int .i32 0]⟩:=by kernel_rfl
theorem ie21:Eu TP 21=some .i32:=by kernel_rfl
theorem it21:D0 TP 21=some .i32:=by kernel_rfl
theorem st21:AD TP 21=false:=by kernel_rfl
theorem ti22:Al TP 22=some ⟨.slice 5,1,24,[.sl 0 true []]⟩:=by kernel_rfl
theorem se22:Ak TP 22=some (5,⟨.int .u8,1,1,[.int .u8 0]⟩):=by kernel_rfl
theorem sz22:A0 TP 22=true:=by kernel_rfl
theorem ap22:AC TP 22=true:=by kernel_rfl
theorem st22:AD TP 22=false:=by kernel_rfl
theorem ti24:Al TP 24=some ⟨.ptr 58,1,8,[.nilp]⟩:=by kernel_rfl
theorem ti26:Al TP 26=some ⟨.slice 9,1,24,[.sl 0 true []]⟩:=by kernel_rfl
theorem se26:Ak TP 26=some (9,⟨.string,1,16,[.str .empty]⟩):=by kernel_rfl
theorem sz26:A0 TP 26=true:=by kernel_rfl
theorem ap26:AC TP 26=true:=by kernel_rfl
theorem st26:AD TP 26=false:=by kernel_rfl
theorem ti27:Al TP 27=some ⟨.slice 29,1,24,[.sl 0 true []]⟩:=by kernel_rfl
theorem se27:Ak TP 27=some (29,⟨.struct [(0,3,1),(1,9,1),(2,26,1),(3,27,1)],4,72,[.int .i64 0,.str .empty,.sl 0 true [],.sl 0 true []]⟩):=by kernel_rfl
theorem sz27:A0 TP 27=true:=by kernel_rfl
theorem ap27:AC TP 27=true:=by kernel_rfl
theorem st27:AD TP 27=false:=by kernel_rfl
theorem ti29:Al TP 29=some ⟨.struct [(0,3,1),(1,9,1),(2,26,1),(3,27,1)],4,72,[.int .i64 0,.str .empty,.sl 0 true [],.sl 0 true []]⟩:=by kernel_rfl
theorem AaC:Af TP 29 0=some (0,3,1):=by kernel_rfl
theorem AaB:Af TP 29 1=some (1,9,1):=by kernel_rfl
theorem AaA:Af TP 29 2=some (2,26,1):=by kernel_rfl
theorem Aaz:Af TP 29 3=some (3,27,1):=by kernel_rfl
theorem ti34:Al TP 34=some ⟨.slice 3,1,24,[.sl 0 true []]⟩:=by kernel_rfl
theorem se34:Ak TP 34=some (3,⟨.int .i64,1,8,[.int .i64 0]⟩):=by kernel_rfl
theorem sz34:A0 TP 34=true:=by kernel_rfl
theorem ap34:AC TP 34=true:=by kernel_rfl
theorem st34:AD TP 34=false:=by kernel_rfl
theorem ti35:Al TP 35=some ⟨.slice 43,1,24,[.sl 0 true []]⟩:=by kernel_rfl
theorem se35:Ak TP 35=some (43,⟨.struct [(0,3,1),(1,9,1),(2,41,1)],3,48,[.int .i64 0,.str .empty,.sl 0 true []]⟩):=by kernel_rfl
theorem sz35:A0 TP 35=true:=by kernel_rfl
theorem ap35:AC TP 35=true:=by kernel_rfl
theorem st35:AD TP 35=false:=by kernel_rfl
theorem ti36:Al TP 36=some ⟨.int .i64,1,8,[.int .i64 0]⟩:=by kernel_rfl
theorem ie36:Eu TP 36=some .i64:=by kernel_rfl
theorem it36:D0 TP 36=some .i64:=by kernel_rfl
theorem st36:AD TP 36=false:=by kernel_rfl
theorem ti41:Al TP 41=some ⟨.slice 46,1,24,[.sl 0 true []]⟩:=by kernel_rfl
theorem se41:Ak TP 41=some (46,⟨.struct [(0,9,1),(1,44,1)],2,40,[.str .empty,.sl 0 true []]⟩):=by kernel_rfl
theorem sz41:A0 TP 41=true:=by kernel_rfl
theorem ap41:AC TP 41=true:=by kernel_rfl
theorem st41:AD TP 41=false:=by kernel_rfl
theorem ti43:Al TP 43=some ⟨.struct [(0,3,1),(1,9,1),(2,41,1)],3,48,[.int .i64 0,.str .empty,.sl 0 true []]⟩:=by kernel_rfl
theorem Aay:Af TP 43 0=some (0,3,1):=by kernel_rfl
theorem Aax:Af TP 43 1=some (1,9,1):=by kernel_rfl
theorem Aaw:Af TP 43 2=some (2,41,1):=by kernel_rfl
theorem ti44:Al TP 44=some ⟨.slice 48,1,24,[.sl 0 true []]⟩:=by kernel_rfl
theorem se44:Ak TP 44=some (48,⟨.struct [(0,4,1),(1,9,1)],2,24,[.bool false,.str .empty]⟩):=by kernel_rfl
theorem sz44:A0 TP 44=true:=by kernel_rfl
theorem ap44:AC TP 44=true:=by kernel_rfl
theorem st44:AD TP 44=false:=by kernel_rfl
theorem ti46:Al TP 46=some ⟨.struct [(0,9,1),(1,44,1)],2,40,[.str .empty,.sl 0 true []]⟩:=by kernel_rfl
theorem Aav:Af TP 46 0=some (0,9,1):=by kernel_rfl
theorem Aau:Af TP 46 1=some (1,44,1):=by kernel_rfl
theorem ti48:Al TP 48=some ⟨.struct [(0,4,1),(1,9,1)],2,24,[.bool false,.str .empty]⟩:=by kernel_rfl
theorem zo48:Gf TP 48=some (.agg [.bool false,.str .empty]):=by kernel_rfl
theorem eq48:eqT TP 48=some [2,1]:=by kernel_rfl
theorem Aat:Af TP 48 0=some (0,4,1):=by kernel_rfl
theorem Aas:Af TP 48 1=some (1,9,1):=by kernel_rfl
theorem ti52:Al TP 52=some ⟨.func,1,8,[.nilf]⟩:=by kernel_rfl
theorem ti53:Al TP 53=some ⟨.func,1,8,[.nilf]⟩:=by kernel_rfl
theorem ti58:Al TP 58=some ⟨.struct [(0,22,1),(1,3,1)],2,32,[.sl 0 true [],.int .i64 0]⟩:=by kernel_rfl
theorem Aar:Af TP 58 0=some (0,22,1):=by kernel_rfl
theorem Aaq:Af TP 58 1=some (1,3,1):=by kernel_rfl
theorem ti62:Al TP 62=some ⟨.slice 64,1,24,[.sl 0 true []]⟩:=by kernel_rfl
theorem zo62:Gf TP 62=some (.sl 0 true []):=by kernel_rfl
theorem se62:Ak TP 62=some (64,⟨.struct [(0,3,1),(1,29,4)],5,80,[.int .i64 0,.int .i64 0,.str .empty,.sl 0 true [],.sl 0 true []]⟩):=by kernel_rfl
theorem sz62:A0 TP 62=true:=by kernel_rfl
theorem ap62:AC TP 62=true:=by kernel_rfl
theorem st62:AD TP 62=false:=by kernel_rfl
theorem ti64:Al TP 64=some ⟨.struct [(0,3,1),(1,29,4)],5,80,[.int .i64 0,.int .i64 0,.str .empty,.sl 0 true [],.sl 0 true []]⟩:=by kernel_rfl
theorem Aap:Af TP 64 0=some (0,3,1):=by kernel_rfl
theorem Aao:Af TP 64 1=some (1,29,4):=by kernel_rfl
theorem ti66:Al TP 66=some ⟨.func,1,8,[.nilf]⟩:=by kernel_rfl
theorem ti67:Al TP 67=some ⟨.ptr 69,1,8,[.nilp]⟩:=by kernel_rfl
theorem ti69:Al TP 69=some ⟨.struct [(0,3,1),(1,35,1)],2,32,[.int .i64 0,.sl 0 true []]⟩:=by kernel_rfl
theorem Aan:Af TP 69 0=some (0,3,1):=by kernel_rfl
theorem Aam:Af TP 69 1=some (1,35,1):=by kernel_rfl
theorem ti71:Al TP 71=some ⟨.ptr 104,1,8,[.nilp]⟩:=by kernel_rfl
theorem ti77:Al TP 77=some ⟨.ptr 79,1,8,[.nilp]⟩:=by kernel_rfl
theorem ti79:Al TP 79=some ⟨.struct [(0,77,1),(1,22,1)],2,32,[.nilp,.sl 0 true []]⟩:=by kernel_rfl
theorem Aal:Af TP 79 0=some (0,77,1):=by kernel_rfl
theorem Aak:Af TP 79 1=some (1,22,1):=by kernel_rfl
theorem ti86:Al TP 86=some ⟨.ptr 88,1,8,[.nilp]⟩:=by kernel_rfl
theorem ti88:Al TP 88=some ⟨.struct [(0,9,1),(1,27,1)],2,40,[.str .empty,.sl 0 true []]⟩:=by kernel_rfl
theorem Aaj:Af TP 88 0=some (0,9,1):=by kernel_rfl
theorem Aai:Af TP 88 1=some (1,27,1):=by kernel_rfl
theorem ti92:Al TP 92=some ⟨.ptr 94,1,8,[.nilp]⟩:=by kernel_rfl
theorem ti94:Al TP 94=some ⟨.struct [(0,9,1),(1,3,1),(2,4,1)],3,32,[.str .empty,.int .i64 0,.bool false]⟩:=by kernel_rfl
theorem Aah:Af TP 94 0=some (0,9,1):=by kernel_rfl
theorem Aag:Af TP 94 1=some (1,3,1):=by kernel_rfl
theorem Aaf:Af TP 94 2=some (2,4,1):=by kernel_rfl
theorem AcA:Al TP 100=some ⟨.slice 108,1,24,[.sl 0 true []]⟩:=by kernel_rfl
theorem Adv:Ak TP 100=some (108,⟨.map 9 48,1,8,[.nilm]⟩):=by kernel_rfl
theorem AcK:A0 TP 100=true:=by kernel_rfl
theorem Aff:AC TP 100=true:=by kernel_rfl
theorem Ac2:AD TP 100=false:=by kernel_rfl
theorem Acz:Al TP 101=some ⟨.map 9 62,1,8,[.nilm]⟩:=by kernel_rfl
theorem Acy:Al TP 102=some ⟨.map 9 3,1,8,[.nilm]⟩:=by kernel_rfl
theorem Acx:Al TP 104=some ⟨.struct [(0,4,1),(1,34,1),(2,26,1),(3,100,1),(4,26,1),(5,101,1),(6,102,1)],7,120,[.bool false,.sl 0 true [],.sl 0 true [],.sl 0 true [],.sl 0 true [],.nilm,.nilm]⟩:=by kernel_rfl
theorem Y0:Af TP 104 0=some (0,4,1):=by kernel_rfl
theorem YZ:Af TP 104 1=some (1,34,1):=by kernel_rfl
theorem YY:Af TP 104 2=some (2,26,1):=by kernel_rfl
theorem YX:Af TP 104 3=some (3,100,1):=by kernel_rfl
theorem YW:Af TP 104 4=some (4,26,1):=by kernel_rfl
theorem YV:Af TP 104 5=some (5,101,1):=by kernel_rfl
theorem YU:Af TP 104 6=some (6,102,1):=by kernel_rfl
theorem Acw:Al TP 105=some ⟨.map 9 4,1,8,[.nilm]⟩:=by kernel_rfl
theorem Acv:Al TP 107=some ⟨.func,1,8,[.nilf]⟩:=by kernel_rfl
theorem Acu:Al TP 108=some ⟨.map 9 48,1,8,[.nilm]⟩:=by kernel_rfl
theorem Acs:Al TP 111=some ⟨.slice 112,1,24,[.sl 0 true []]⟩:=by kernel_rfl
theorem Adu:Ak TP 111=some (112,⟨.slice 160,1,24,[.sl 0 true []]⟩):=by kernel_rfl
theorem AcJ:A0 TP 111=true:=by kernel_rfl
theorem Afe:AC TP 111=true:=by kernel_rfl
theorem Ac1:AD TP 111=false:=by kernel_rfl
theorem Acr:Al TP 112=some ⟨.slice 160,1,24,[.sl 0 true []]⟩:=by kernel_rfl
theorem Adt:Ak TP 112=some (160,⟨.struct [(0,9,1),(1,29,4)],5,88,[.str .empty,.int .i64 0,.str .empty,.sl 0 true [],.sl 0 true []]⟩):=by kernel_rfl
theorem AcI:A0 TP 112=true:=by kernel_rfl
theorem Afd:AC TP 112=true:=by kernel_rfl
theorem Ac0:AD TP 112=false:=by kernel_rfl
theorem Acq:Al TP 116=some ⟨.func,1,8,[.nilf]⟩:=by kernel_rfl
theorem Acp:Al TP 119=some ⟨.other,1,16,[.nili]⟩:=by kernel_rfl
theorem Aco:Al TP 121=some ⟨.func,1,8,[.nilf]⟩:=by kernel_rfl
theorem Acn:Al TP 124=some ⟨.map 4 5,1,8,[.nilm]⟩:=by kernel_rfl
theorem Acm:Al TP 126=some ⟨.ptr 5,1,8,[.nilp]⟩:=by kernel_rfl
theorem Acl:Al TP 128=some ⟨.slice 187,1,24,[.sl 0 true []]⟩:=by kernel_rfl
theorem Ads:Ak TP 128=some (187,⟨.int .u32,1,4,[.int .u32 0]⟩):=by kernel_rfl
theorem AcH:A0 TP 128=true:=by kernel_rfl
theorem Afc:AC TP 128=true:=by kernel_rfl
theorem AcZ:AD TP 128=false:=by kernel_rfl
theorem Ack:Al TP 130=some ⟨.struct [(0,4,1),(1,128,1)],2,32,[.bool false,.sl 0 true []]⟩:=by kernel_rfl
theorem YT:Af TP 130 0=some (0,4,1):=by kernel_rfl
theorem YS:Af TP 130 1=some (1,128,1):=by kernel_rfl
theorem Acj:Al TP 132=some ⟨.struct [(0,130,2),(2,130,2)],4,64,[.bool false,.sl 0 true [],.bool false,.sl 0 true []]⟩:=by kernel_rfl
theorem YR:Af TP 132 0=some (0,130,2):=by kernel_rfl
theorem YQ:Af TP 132 1=some (2,130,2):=by kernel_rfl
theorem Aci:Al TP 137=some ⟨.ptr 29,1,8,[.nilp]⟩:=by kernel_rfl
theorem Ach:Al TP 141=some ⟨.array 256 4,256,256,[.bool false,.bool false,.bool false,.bool false,.bool false,.bool false,.bool false,.bool false,.bool false,.bool false,.bool false,.bool false,.bool false,.bool false,.bool false,.bool false,.bool false,.bool false,.bool false,.bool false,.bool false,.bool false,.bool false,.bool false,.bool false,.bool false,.bool false,.bool false,.bool false,.bool false,.bool false,.bool false,.bool false,.bool false,.bool false,.bool false,.bool false,.bool false,.bool false,.bool false,.bool false,.bool false,.bool false,.bool false,.bool false,.bool false,.bool false,.bool false,.bool false,.bool false,.bool false,.bool false,.bool false,.bool false,.bool false,.bool false,.bool false,.bool false,.bool false,.bool false,.bool false,.bool false,.bool false,.bool false,.bool false,.bool false,.bool false,.bool false,.bool false,.bool false,.bool false,.bool false,.bool false,.bool false,.bool false,.bool false,.bool false,.bool false,.bool false,.bool false,.bool false,.bool false,.bool false,.bool false,.bool false,.bool false,.bool false,.bool false,.bool false,.bool false,.bool false,.bool false,.bool false,.bool false,.bool false,.bool false,.bool false,.bool false,.bool false,.bool false,.bool false,.bool false,.bool false,.bool false,.bool false,.bool false,.bool false,.bool false,.bool false,.bool false,.bool false,.bool false,.bool false,.bool false,.bool false,.bool false,.bool false,.bool false,.bool false,.bool false,.bool false,.bool false,.bool false,.bool false,.bool false,.bool false,.bool false,.bool false,.bool false,.bool false,.bool false,.bool false,.bool false,.bool false,.bool false,.bool false,.bool false,.bool false,.bool false,.bool false,.bool false,.bool false,.bool false,.bool false,.bool false,.bool false,.bool false,.bool false,.bool false,.bool false,.bool false,.bool false,.bool false,.bool false,.bool false,.bool false,.bool false,.bool false,.bool false,.bool false,.bool false,.bool false,.bool false,.bool false,.bool false,.bool false,.bool false,.bool false,.bool false,.bool false,.bool false,.bool false,.bool false,.bool false,.bool false,.bool false,.bool false,.bool false,.bool false,.bool false,.bool false,.bool false,.bool false,.bool false,.bool false,.bool false,.bool false,.bool false,.bool false,.bool false,.bool false,.bool false,.bool false,.bool false,.bool false,.bool false,.bool false,.bool false,.bool false,.bool false,.bool false,.bool false,.bool false,.bool false,.bool false,.bool false,.bool false,.bool false,.bool false,.bool false,.bool false,.bool false,.bool false,.bool false,.bool false,.bool false,.bool false,.bool false,.bool false,.bool false,.bool false,.bool false,.bool false,.bool false,.bool false,.bool false,.bool false,.bool false,.bool false,.bool false,.bool false,.bool false,.bool false,.bool false,.bool false,.bool false,.bool false,.bool false,.bool false,.bool false,.bool false,.bool false,.bool false,.bool false,.bool false,.bool false,.bool false,.bool false,.bool false,.bool false,.bool false,.bool false,.bool false,.bool false,.bool false,.bool false]⟩:=by kernel_rfl
theorem Adr:Ak TP 141=none:=by kernel_rfl
theorem Afr:Cd TP 141=some (256,4,1):=by kernel_rfl
theorem Acg:Al TP 145=some ⟨.ptr 141,1,8,[.nilp]⟩:=by kernel_rfl
theorem Acf:Al TP 146=some ⟨.slice 149,1,24,[.sl 0 true []]⟩:=by kernel_rfl
theorem Adq:Ak TP 146=some (149,⟨.struct [(0,29,4),(4,4,1)],5,80,[.int .i64 0,.str .empty,.sl 0 true [],.sl 0 true [],.bool false]⟩):=by kernel_rfl
theorem AcG:A0 TP 146=true:=by kernel_rfl
theorem Afb:AC TP 146=true:=by kernel_rfl
theorem AcY:AD TP 146=false:=by kernel_rfl
theorem Ace:Al TP 149=some ⟨.struct [(0,29,4),(4,4,1)],5,80,[.int .i64 0,.str .empty,.sl 0 true [],.sl 0 true [],.bool false]⟩:=by kernel_rfl
theorem YP:Af TP 149 0=some (0,29,4):=by kernel_rfl
theorem YO:Af TP 149 1=some (4,4,1):=by kernel_rfl
theorem Adp:Ak TP 151=none:=by kernel_rfl
theorem Afq:Cd TP 151=some (256,5,1):=by kernel_rfl
theorem Acd:Al TP 153=some ⟨.struct [(0,5,1),(1,5,1)],2,2,[.int .u8 0,.int .u8 0]⟩:=by kernel_rfl
theorem YN:Af TP 153 0=some (0,5,1):=by kernel_rfl
theorem YM:Af TP 153 1=some (1,5,1):=by kernel_rfl
theorem Acc:Al TP 154=some ⟨.array 16 153,32,32,[.int .u8 0,.int .u8 0,.int .u8 0,.int .u8 0,.int .u8 0,.int .u8 0,.int .u8 0,.int .u8 0,.int .u8 0,.int .u8 0,.int .u8 0,.int .u8 0,.int .u8 0,.int .u8 0,.int .u8 0,.int .u8 0,.int .u8 0,.int .u8 0,.int .u8 0,.int .u8 0,.int .u8 0,.int .u8 0,.int .u8 0,.int .u8 0,.int .u8 0,.int .u8 0,.int .u8 0,.int .u8 0,.int .u8 0,.int .u8 0,.int .u8 0,.int .u8 0]⟩:=by kernel_rfl
theorem Ado:Ak TP 154=none:=by kernel_rfl
theorem Afp:Cd TP 154=some (16,153,2):=by kernel_rfl
theorem Acb:Al TP 155=some ⟨.int .u64,1,8,[.int .u64 0]⟩:=by kernel_rfl
theorem AdR:Eu TP 155=some .u64:=by kernel_rfl
theorem AdH:D0 TP 155=some .u64:=by kernel_rfl
theorem AcX:AD TP 155=false:=by kernel_rfl
theorem Aca:Al TP 160=some ⟨.struct [(0,9,1),(1,29,4)],5,88,[.str .empty,.int .i64 0,.str .empty,.sl 0 true [],.sl 0 true []]⟩:=by kernel_rfl
theorem YL:Af TP 160 0=some (0,9,1):=by kernel_rfl
theorem YK:Af TP 160 1=some (1,29,4):=by kernel_rfl
theorem Ab9:Al TP 161=some ⟨.ptr 199,1,8,[.nilp]⟩:=by kernel_rfl
theorem Ab8:Al TP 177=some ⟨.int .u64,1,8,[.int .u64 0]⟩:=by kernel_rfl
theorem AdQ:Eu TP 177=some .u64:=by kernel_rfl
theorem AdG:D0 TP 177=some .u64:=by kernel_rfl
theorem AcW:AD TP 177=false:=by kernel_rfl
theorem Ab7:Al TP 181=some ⟨.func,1,8,[.nilf]⟩:=by kernel_rfl
theorem Ab6:Al TP 185=some ⟨.struct [],0,0,[]⟩:=by kernel_rfl
theorem Ab5:Al TP 186=some ⟨.struct [],0,0,[]⟩:=by kernel_rfl
theorem Ab4:Al TP 187=some ⟨.int .u32,1,4,[.int .u32 0]⟩:=by kernel_rfl
theorem AdP:Eu TP 187=some .u32:=by kernel_rfl
theorem AdF:D0 TP 187=some .u32:=by kernel_rfl
theorem AcV:AD TP 187=false:=by kernel_rfl
theorem Ab3:Al TP 189=some ⟨.struct [(0,186,0),(0,187,1)],1,4,[.int .u32 0]⟩:=by kernel_rfl
theorem YJ:Af TP 189 0=some (0,186,0):=by kernel_rfl
theorem YI:Af TP 189 1=some (0,187,1):=by kernel_rfl
theorem Ab2:Al TP 191=some ⟨.struct [(0,21,1),(1,187,1)],2,8,[.int .i32 0,.int .u32 0]⟩:=by kernel_rfl
theorem YH:Af TP 191 0=some (0,21,1):=by kernel_rfl
theorem YG:Af TP 191 1=some (1,187,1):=by kernel_rfl
theorem Ab1:Al TP 193=some ⟨.struct [(0,185,0),(0,191,2)],2,8,[.int .i32 0,.int .u32 0]⟩:=by kernel_rfl
theorem YF:Af TP 193 0=some (0,185,0):=by kernel_rfl
theorem YE:Af TP 193 1=some (0,191,2):=by kernel_rfl
theorem Ab0:Al TP 195=some ⟨.struct [(0,185,0),(0,189,1),(1,193,2)],3,12,[.int .u32 0,.int .i32 0,.int .u32 0]⟩:=by kernel_rfl
theorem YD:Af TP 195 0=some (0,185,0):=by kernel_rfl
theorem YC:Af TP 195 1=some (0,189,1):=by kernel_rfl
theorem YB:Af TP 195 2=some (1,193,2):=by kernel_rfl
theorem AbZ:Al TP 197=some ⟨.other,1,16,[.nili]⟩:=by kernel_rfl
theorem AbY:Al TP 199=some ⟨.struct [(0,195,3),(3,197,1),(4,26,1)],5,56,[.int .u32 0,.int .i32 0,.int .u32 0,.nili,.sl 0 true []]⟩:=by kernel_rfl
theorem YA:Af TP 199 0=some (0,195,3):=by kernel_rfl
theorem Yz:Af TP 199 1=some (3,197,1):=by kernel_rfl
theorem Yy:Af TP 199 2=some (4,26,1):=by kernel_rfl
theorem AbX:Al TP 205=some ⟨.slice 187,1,24,[.sl 0 true []]⟩:=by kernel_rfl
theorem Adn:Ak TP 205=some (187,⟨.int .u32,1,4,[.int .u32 0]⟩):=by kernel_rfl
theorem AcF:A0 TP 205=true:=by kernel_rfl
theorem Afa:AC TP 205=true:=by kernel_rfl
theorem AcU:AD TP 205=false:=by kernel_rfl
theorem AbW:Al TP 210=some ⟨.func,1,8,[.nilf]⟩:=by kernel_rfl
theorem AbV:Al TP 212=some ⟨.func,1,8,[.nilf]⟩:=by kernel_rfl
theorem AbU:Al TP 213=some ⟨.func,1,8,[.nilf]⟩:=by kernel_rfl
theorem AbT:Al TP 222=some ⟨.struct [(0,9,1),(1,29,4)],5,88,[.str .empty,.int .i64 0,.str .empty,.sl 0 true [],.sl 0 true []]⟩:=by kernel_rfl
theorem Yx:Af TP 222 0=some (0,9,1):=by kernel_rfl
theorem Yw:Af TP 222 1=some (1,29,4):=by kernel_rfl
theorem AbS:Al TP 223=some ⟨.slice 222,1,24,[.sl 0 true []]⟩:=by kernel_rfl
theorem Adm:Ak TP 223=some (222,⟨.struct [(0,9,1),(1,29,4)],5,88,[.str .empty,.int .i64 0,.str .empty,.sl 0 true [],.sl 0 true []]⟩):=by kernel_rfl
theorem AcE:A0 TP 223=true:=by kernel_rfl
theorem Ae9:AC TP 223=true:=by kernel_rfl
theorem AcT:AD TP 223=false:=by kernel_rfl
theorem AbR:Al TP 225=some ⟨.map 5 5,1,8,[.nilm]⟩:=by kernel_rfl
theorem AbQ:Al TP 228=some ⟨.array 24 5,24,24,[.int .u8 0,.int .u8 0,.int .u8 0,.int .u8 0,.int .u8 0,.int .u8 0,.int .u8 0,.int .u8 0,.int .u8 0,.int .u8 0,.int .u8 0,.int .u8 0,.int .u8 0,.int .u8 0,.int .u8 0,.int .u8 0,.int .u8 0,.int .u8 0,.int .u8 0,.int .u8 0,.int .u8 0,.int .u8 0,.int .u8 0,.int .u8 0]⟩:=by kernel_rfl
theorem Adl:Ak TP 228=none:=by kernel_rfl
theorem Afo:Cd TP 228=some (24,5,1):=by kernel_rfl
theorem AbP:Al TP 234=some ⟨.ptr 195,1,8,[.nilp]⟩:=by kernel_rfl
theorem AbO:Al TP 249=some ⟨.array 20 177,20,160,[.int .u64 0,.int .u64 0,.int .u64 0,.int .u64 0,.int .u64 0,.int .u64 0,.int .u64 0,.int .u64 0,.int .u64 0,.int .u64 0,.int .u64 0,.int .u64 0,.int .u64 0,.int .u64 0,.int .u64 0,.int .u64 0,.int .u64 0,.int .u64 0,.int .u64 0,.int .u64 0]⟩:=by kernel_rfl
theorem Adk:Ak TP 249=none:=by kernel_rfl
theorem Afn:Cd TP 249=some (20,177,1):=by kernel_rfl
theorem AbN:Al TP 250=some ⟨.array 65 5,65,65,[.int .u8 0,.int .u8 0,.int .u8 0,.int .u8 0,.int .u8 0,.int .u8 0,.int .u8 0,.int .u8 0,.int .u8 0,.int .u8 0,.int .u8 0,.int .u8 0,.int .u8 0,.int .u8 0,.int .u8 0,.int .u8 0,.int .u8 0,.int .u8 0,.int .u8 0,.int .u8 0,.int .u8 0,.int .u8 0,.int .u8 0,.int .u8 0,.int .u8 0,.int .u8 0,.int .u8 0,.int .u8 0,.int .u8 0,.int .u8 0,.int .u8 0,.int .u8 0,.int .u8 0,.int .u8 0,.int .u8 0,.int .u8 0,.int .u8 0,.int .u8 0,.int .u8 0,.int .u8 0,.int .u8 0,.int .u8 0,.int .u8 0,.int .u8 0,.int .u8 0,.int .u8 0,.int .u8 0,.int .u8 0,.int .u8 0,.int .u8 0,.int .u8 0,.int .u8 0,.int .u8 0,.int .u8 0,.int .u8 0,.int .u8 0,.int .u8 0,.int .u8 0,.int .u8 0,.int .u8 0,.int .u8 0,.int .u8 0,.int .u8 0,.int .u8 0,.int .u8 0]⟩:=by kernel_rfl
theorem Adj:Ak TP 250=none:=by kernel_rfl
theorem Afm:Cd TP 250=some (65,5,1):=by kernel_rfl
theorem AbM:Al TP 252=some ⟨.ptr 189,1,8,[.nilp]⟩:=by kernel_rfl
theorem AbL:Al TP 254=some ⟨.ptr 187,1,8,[.nilp]⟩:=by kernel_rfl
theorem AbK:Al TP 256=some ⟨.ptr 281,1,8,[.nilp]⟩:=by kernel_rfl
theorem AbJ:Al TP 258=some ⟨.ptr 287,1,8,[.nilp]⟩:=by kernel_rfl
theorem Adi:Ak TP 260=none:=by kernel_rfl
theorem Afl:Cd TP 260=some (256,5,1):=by kernel_rfl
theorem AbI:Al TP 261=some ⟨.ptr 260,1,8,[.nilp]⟩:=by kernel_rfl
theorem Adh:Ak TP 262=none:=by kernel_rfl
theorem Afk:Cd TP 262=some (256,22,1):=by kernel_rfl
theorem Yv:Af TP 264 0=some (0,262,256):=by kernel_rfl
theorem Yu:Af TP 264 1=some (256,26,1):=by kernel_rfl
theorem AbH:Al TP 265=some ⟨.ptr 264,1,8,[.nilp]⟩:=by kernel_rfl
theorem AbG:Al TP 275=some ⟨.ptr 193,1,8,[.nilp]⟩:=by kernel_rfl
theorem AbF:Al TP 278=some ⟨.ptr 308,1,8,[.nilp]⟩:=by kernel_rfl
theorem AbE:Al TP 281=some ⟨.struct [(0,278,1),(1,9,1)],2,24,[.nilp,.str .empty]⟩:=by kernel_rfl
theorem Yt:Af TP 281 0=some (0,278,1):=by kernel_rfl
theorem Ys:Af TP 281 1=some (1,9,1):=by kernel_rfl
theorem AbD:Al TP 282=some ⟨.ptr 285,1,8,[.nilp]⟩:=by kernel_rfl
theorem AbC:Al TP 283=some ⟨.slice 282,1,24,[.sl 0 true []]⟩:=by kernel_rfl
theorem Adg:Ak TP 283=some (282,⟨.ptr 285,1,8,[.nilp]⟩):=by kernel_rfl
theorem AcD:A0 TP 283=true:=by kernel_rfl
theorem Ae8:AC TP 283=true:=by kernel_rfl
theorem AcS:AD TP 283=false:=by kernel_rfl
theorem AbB:Al TP 285=some ⟨.struct [(0,9,1),(1,3,1),(2,9,1),(3,282,1),(4,283,1)],5,72,[.str .empty,.int .i64 0,.str .empty,.nilp,.sl 0 true []]⟩:=by kernel_rfl
theorem Yr:Af TP 285 0=some (0,9,1):=by kernel_rfl
theorem Yq:Af TP 285 1=some (1,3,1):=by kernel_rfl
theorem Yp:Af TP 285 2=some (2,9,1):=by kernel_rfl
theorem Yo:Af TP 285 3=some (3,282,1):=by kernel_rfl
theorem Yn:Af TP 285 4=some (4,283,1):=by kernel_rfl
theorem Ym:Af TP 287 0=some (0,285,5):=by kernel_rfl
theorem Yl:Af TP 287 1=some (5,3,1):=by kernel_rfl
theorem Yk:Af TP 287 2=some (6,151,256):=by kernel_rfl
theorem AbA:Al TP 291=some ⟨.int .i64,1,8,[.int .i64 0]⟩:=by kernel_rfl
theorem AdO:Eu TP 291=some .i64:=by kernel_rfl
theorem AdE:D0 TP 291=some .i64:=by kernel_rfl
theorem AcR:AD TP 291=false:=by kernel_rfl
theorem Abz:Al TP 298=some ⟨.array 32 5,32,32,[.int .u8 0,.int .u8 0,.int .u8 0,.int .u8 0,.int .u8 0,.int .u8 0,.int .u8 0,.int .u8 0,.int .u8 0,.int .u8 0,.int .u8 0,.int .u8 0,.int .u8 0,.int .u8 0,.int .u8 0,.int .u8 0,.int .u8 0,.int .u8 0,.int .u8 0,.int .u8 0,.int .u8 0,.int .u8 0,.int .u8 0,.int .u8 0,.int .u8 0,.int .u8 0,.int .u8 0,.int .u8 0,.int .u8 0,.int .u8 0,.int .u8 0,.int .u8 0]⟩:=by kernel_rfl
theorem Adf:Ak TP 298=none:=by kernel_rfl
theorem Afj:Cd TP 298=some (32,5,1):=by kernel_rfl
theorem Aby:Al TP 299=some ⟨.array 64 5,64,64,[.int .u8 0,.int .u8 0,.int .u8 0,.int .u8 0,.int .u8 0,.int .u8 0,.int .u8 0,.int .u8 0,.int .u8 0,.int .u8 0,.int .u8 0,.int .u8 0,.int .u8 0,.int .u8 0,.int .u8 0,.int .u8 0,.int .u8 0,.int .u8 0,.int .u8 0,.int .u8 0,.int .u8 0,.int .u8 0,.int .u8 0,.int .u8 0,.int .u8 0,.int .u8 0,.int .u8 0,.int .u8 0,.int .u8 0,.int .u8 0,.int .u8 0,.int .u8 0,.int .u8 0,.int .u8 0,.int .u8 0,.int .u8 0,.int .u8 0,.int .u8 0,.int .u8 0,.int .u8 0,.int .u8 0,.int .u8 0,.int .u8 0,.int .u8 0,.int .u8 0,.int .u8 0,.int .u8 0,.int .u8 0,.int .u8 0,.int .u8 0,.int .u8 0,.int .u8 0,.int .u8 0,.int .u8 0,.int .u8 0,.int .u8 0,.int .u8 0,.int .u8 0,.int .u8 0,.int .u8 0,.int .u8 0,.int .u8 0,.int .u8 0,.int .u8 0]⟩:=by kernel_rfl
theorem Ade:Ak TP 299=none:=by kernel_rfl
theorem Afi:Cd TP 299=some (64,5,1):=by kernel_rfl
theorem Abx:Al TP 300=some ⟨.ptr 191,1,8,[.nilp]⟩:=by kernel_rfl
theorem Abw:Al TP 302=some ⟨.ptr 21,1,8,[.nilp]⟩:=by kernel_rfl
theorem Add:Ak TP 306=none:=by kernel_rfl
theorem Afh:Cd TP 306=some (256,3,1):=by kernel_rfl
theorem Yj:Af TP 308 0=some (0,9,1):=by kernel_rfl
theorem Yi:Af TP 308 1=some (1,306,256):=by kernel_rfl
theorem Yh:Af TP 308 2=some (257,34,1):=by kernel_rfl
theorem Abv:Al TP 311=some ⟨.int .u64,1,8,[.int .u64 0]⟩:=by kernel_rfl
theorem AdN:Eu TP 311=some .u64:=by kernel_rfl
theorem AdD:D0 TP 311=some .u64:=by kernel_rfl
theorem AcQ:AD TP 311=false:=by kernel_rfl
theorem Abu:Al TP 315=some ⟨.ptr 3,1,8,[.nilp]⟩:=by kernel_rfl
theorem Abt:Al TP 320=some ⟨.ptr 311,1,8,[.nilp]⟩:=by kernel_rfl
theorem Abr:Al TP 323=some ⟨.ptr 353,1,8,[.nilp]⟩:=by kernel_rfl
theorem Abq:Al TP 325=some ⟨.struct [(0,17,1),(1,17,1),(2,17,1),(3,9,1)],4,40,[.nilp,.nilp,.nilp,.str .empty]⟩:=by kernel_rfl
theorem Yg:Af TP 325 0=some (0,17,1):=by kernel_rfl
theorem Yf:Af TP 325 1=some (1,17,1):=by kernel_rfl
theorem Ye:Af TP 325 2=some (2,17,1):=by kernel_rfl
theorem Yd:Af TP 325 3=some (3,9,1):=by kernel_rfl
theorem Abp:Al TP 326=some ⟨.array 0 16,0,0,[]⟩:=by kernel_rfl
theorem Adc:Ak TP 326=none:=by kernel_rfl
theorem Afg:Cd TP 326=some (0,16,1):=by kernel_rfl
theorem Abo:Al TP 328=some ⟨.struct [(0,326,0)],0,0,[]⟩:=by kernel_rfl
theorem Yc:Af TP 328 0=some (0,326,0):=by kernel_rfl
theorem Abn:Al TP 329=some ⟨.int .u8,1,1,[.int .u8 0]⟩:=by kernel_rfl
theorem AdM:Eu TP 329=some .u8:=by kernel_rfl
theorem AdC:D0 TP 329=some .u8:=by kernel_rfl
theorem AcP:AD TP 329=false:=by kernel_rfl
theorem Abm:Al TP 330=some ⟨.int .u8,1,1,[.int .u8 0]⟩:=by kernel_rfl
theorem AdL:Eu TP 330=some .u8:=by kernel_rfl
theorem AdB:D0 TP 330=some .u8:=by kernel_rfl
theorem AcO:AD TP 330=false:=by kernel_rfl
theorem Abl:Al TP 331=some ⟨.func,1,8,[.nilf]⟩:=by kernel_rfl
theorem Abk:Al TP 332=some ⟨.int .i32,1,4,[.int .i32 0]⟩:=by kernel_rfl
theorem AdK:Eu TP 332=some .i32:=by kernel_rfl
theorem AdA:D0 TP 332=some .i32:=by kernel_rfl
theorem AcN:AD TP 332=false:=by kernel_rfl
theorem Abj:Al TP 333=some ⟨.int .i32,1,4,[.int .i32 0]⟩:=by kernel_rfl
theorem AdJ:Eu TP 333=some .i32:=by kernel_rfl
theorem Adz:D0 TP 333=some .i32:=by kernel_rfl
theorem AcM:AD TP 333=false:=by kernel_rfl
theorem Abi:Al TP 335=some ⟨.struct [(0,12,1),(1,12,1),(2,187,1),(3,329,1),(4,5,1),(5,5,1),(6,330,1),(7,331,1),(8,126,1),(9,332,1),(10,333,1)],11,48,[.int .u64 0,.int .u64 0,.int .u32 0,.int .u8 0,.int .u8 0,.int .u8 0,.int .u8 0,.nilf,.nilp,.int .i32 0,.int .i32 0]⟩:=by kernel_rfl
theorem Yb:Af TP 335 0=some (0,12,1):=by kernel_rfl
theorem Ya:Af TP 335 1=some (1,12,1):=by kernel_rfl
theorem X9:Af TP 335 2=some (2,187,1):=by kernel_rfl
theorem X8:Af TP 335 3=some (3,329,1):=by kernel_rfl
theorem X7:Af TP 335 4=some (4,5,1):=by kernel_rfl
theorem X6:Af TP 335 5=some (5,5,1):=by kernel_rfl
theorem X4:Af TP 335 6=some (6,330,1):=by kernel_rfl
theorem X3:Af TP 335 7=some (7,331,1):=by kernel_rfl
theorem X2:Af TP 335 8=some (8,126,1):=by kernel_rfl
theorem X1:Af TP 335 9=some (9,332,1):=by kernel_rfl
theorem VZ:Af TP 335 10=some (10,333,1):=by kernel_rfl
theorem Abh:Al TP 339=some ⟨.slice 5,1,24,[.sl 0 true []]⟩:=by kernel_rfl
theorem Adb:Ak TP 339=some (5,⟨.int .u8,1,1,[.int .u8 0]⟩):=by kernel_rfl
theorem AcC:A0 TP 339=true:=by kernel_rfl
theorem Ae7:AC TP 339=true:=by kernel_rfl
theorem AcL:AD TP 339=false:=by kernel_rfl
theorem Abg:Al TP 340=some ⟨.ptr 339,1,8,[.nilp]⟩:=by kernel_rfl
theorem Abf:Al TP 342=some ⟨.other,1,16,[.nili]⟩:=by kernel_rfl
theorem Abe:Al TP 344=some ⟨.other,1,16,[.nili]⟩:=by kernel_rfl
theorem Abd:Al TP 350=some ⟨.struct [(0,342,1)],1,16,[.nili]⟩:=by kernel_rfl
theorem X0:Af TP 350 0=some (0,342,1):=by kernel_rfl
theorem Abc:Al TP 351=some ⟨.func,1,8,[.nilf]⟩:=by kernel_rfl
theorem Abb:Al TP 353=some ⟨.struct [(0,9,1)],1,16,[.str .empty]⟩:=by kernel_rfl
theorem XZ:Af TP 353 0=some (0,9,1):=by kernel_rfl
theorem AdI:WO TP 119=true:=by kernel_rfl
theorem go4:Ar TP 4=true:=by kernel_rfl
theorem go7:Ar TP 7=true:=by kernel_rfl
theorem go8:Ar TP 8=true:=by kernel_rfl
theorem go11:Ar TP 11=true:=by kernel_rfl
theorem go13:Ar TP 13=true:=by kernel_rfl
theorem go15:Ar TP 15=true:=by kernel_rfl
theorem go16:Ar TP 16=true:=by kernel_rfl
theorem go19:Ar TP 19=true:=by kernel_rfl
theorem go23:Ar TP 23=true:=by kernel_rfl
theorem go25:Ar TP 25=true:=by kernel_rfl
theorem go26:Ar TP 26=true:=by kernel_rfl
theorem go27:Ar TP 27=true:=by kernel_rfl
theorem go28:Ar TP 28=true:=by kernel_rfl
theorem go29:Ar TP 29=true:=by kernel_rfl
theorem go30:Ar TP 30=true:=by kernel_rfl
theorem WR:Ar TP 31=true:=by kernel_rfl
theorem go32:Ar TP 32=true:=by kernel_rfl
theorem go36:Ar TP 36=true:=by kernel_rfl
theorem go37:Ar TP 37=true:=by kernel_rfl
theorem go40:Ar TP 40=true:=by kernel_rfl
theorem go42:Ar TP 42=true:=by kernel_rfl
theorem go47:Ar TP 47=true:=by kernel_rfl
theorem go48:Ar TP 48=true:=by kernel_rfl
theorem go51:Ar TP 51=true:=by kernel_rfl
theorem go52:Ar TP 52=true:=by kernel_rfl
theorem go53:Ar TP 53=true:=by kernel_rfl
theorem go54:Ar TP 54=true:=by kernel_rfl
theorem go55:Ar TP 55=true:=by kernel_rfl
theorem go56:Ar TP 56=true:=by kernel_rfl
theorem go57:Ar TP 57=true:=by kernel_rfl
theorem go58:Ar TP 58=true:=by kernel_rfl
theorem go59:Ar TP 59=true:=by kernel_rfl
theorem Zl:Ar TP 60=true:=by kernel_rfl
theorem go67:Ar TP 67=true:=by kernel_rfl
theorem go70:Ar TP 70=true:=by kernel_rfl
theorem go71:Ar TP 71=true:=by kernel_rfl
theorem go73:Ar TP 73=true:=by kernel_rfl
theorem go74:Ar TP 74=true:=by kernel_rfl
theorem go75:Ar TP 75=true:=by kernel_rfl
theorem OJ:Ar TP 79=true:=by kernel_rfl
theorem go80:Ar TP 80=true:=by kernel_rfl
theorem WQ:Ar TP 81=true:=by kernel_rfl
theorem go82:Ar TP 82=true:=by kernel_rfl
theorem go85:Ar TP 85=true:=by kernel_rfl
theorem go86:Ar TP 86=true:=by kernel_rfl
theorem go87:Ar TP 87=true:=by kernel_rfl
theorem go93:Ar TP 93=true:=by kernel_rfl
theorem go95:Ar TP 95=true:=by kernel_rfl
theorem go96:Ar TP 96=true:=by kernel_rfl
theorem AaR:Ar TP 97=true:=by kernel_rfl
theorem go98:Ar TP 98=true:=by kernel_rfl
theorem Ae0:Ar TP 102=true:=by kernel_rfl
theorem AeZ:Ar TP 103=true:=by kernel_rfl
theorem AeY:Ar TP 104=true:=by kernel_rfl
theorem AeX:Ar TP 105=true:=by kernel_rfl
theorem AeW:Ar TP 106=true:=by kernel_rfl
theorem AeV:Ar TP 113=true:=by kernel_rfl
theorem AeU:Ar TP 114=true:=by kernel_rfl
theorem AeT:Ar TP 115=true:=by kernel_rfl
theorem Z2:Ar TP 116=true:=by kernel_rfl
theorem Z1:Ar TP 121=true:=by kernel_rfl
theorem AeS:Ar TP 122=true:=by kernel_rfl
theorem AeR:Ar TP 123=true:=by kernel_rfl
theorem AeQ:Ar TP 124=true:=by kernel_rfl
theorem AeP:Ar TP 125=true:=by kernel_rfl
theorem AeO:Ar TP 126=true:=by kernel_rfl
theorem AeN:Ar TP 127=true:=by kernel_rfl
theorem AeM:Ar TP 131=true:=by kernel_rfl
theorem AeL:Ar TP 132=true:=by kernel_rfl
theorem Z0:Ar TP 133=true:=by kernel_rfl
theorem AeK:Ar TP 134=true:=by kernel_rfl
theorem AeJ:Ar TP 135=true:=by kernel_rfl
theorem AeI:Ar TP 136=true:=by kernel_rfl
theorem AeH:Ar TP 137=true:=by kernel_rfl
theorem AeG:Ar TP 138=true:=by kernel_rfl
theorem AeF:Ar TP 139=true:=by kernel_rfl
theorem AeE:Ar TP 140=true:=by kernel_rfl
theorem AeD:Ar TP 141=true:=by kernel_rfl
theorem AeC:Ar TP 142=true:=by kernel_rfl
theorem AeB:Ar TP 143=true:=by kernel_rfl
theorem AeA:Ar TP 144=true:=by kernel_rfl
theorem Aez:Ar TP 145=true:=by kernel_rfl
theorem Aey:Ar TP 146=true:=by kernel_rfl
theorem Aex:Ar TP 154=true:=by kernel_rfl
theorem Aew:Ar TP 155=true:=by kernel_rfl
theorem Aev:Ar TP 156=true:=by kernel_rfl
theorem Aeu:Ar TP 160=true:=by kernel_rfl
theorem Aet:Ar TP 161=true:=by kernel_rfl
theorem Q9:Ar TP 162=true:=by kernel_rfl
theorem Aes:Ar TP 164=true:=by kernel_rfl
theorem Aer:Ar TP 168=true:=by kernel_rfl
theorem Aeq:Ar TP 169=true:=by kernel_rfl
theorem ZZ:Ar TP 170=true:=by kernel_rfl
theorem ZY:Ar TP 171=true:=by kernel_rfl
theorem Aep:Ar TP 172=true:=by kernel_rfl
theorem Aeo:Ar TP 173=true:=by kernel_rfl
theorem Aen:Ar TP 174=true:=by kernel_rfl
theorem Aem:Ar TP 175=true:=by kernel_rfl
theorem Ael:Ar TP 176=true:=by kernel_rfl
theorem Aek:Ar TP 177=true:=by kernel_rfl
theorem Aej:Ar TP 178=true:=by kernel_rfl
theorem Aei:Ar TP 179=true:=by kernel_rfl
theorem ZX:Ar TP 184=true:=by kernel_rfl
theorem Aeh:Ar TP 185=true:=by kernel_rfl
theorem Aeg:Ar TP 190=true:=by kernel_rfl
theorem Aef:Ar TP 191=true:=by kernel_rfl
theorem Aee:Ar TP 192=true:=by kernel_rfl
theorem ZW:Ar TP 201=true:=by kernel_rfl
theorem Aed:Ar TP 202=true:=by kernel_rfl
theorem Aec:Ar TP 203=true:=by kernel_rfl
theorem Aeb:Ar TP 204=true:=by kernel_rfl
theorem Aea:Ar TP 205=true:=by kernel_rfl
theorem Ad9:Ar TP 206=true:=by kernel_rfl
theorem Ad8:Ar TP 207=true:=by kernel_rfl
theorem Ad7:Ar TP 208=true:=by kernel_rfl
theorem ZV:Ar TP 211=true:=by kernel_rfl
theorem ZU:Ar TP 221=true:=by kernel_rfl
theorem Ad6:Ar TP 222=true:=by kernel_rfl
theorem Ad5:Ar TP 223=true:=by kernel_rfl
theorem Ad4:Ar TP 224=true:=by kernel_rfl
theorem Ad3:Ar TP 225=true:=by kernel_rfl
theorem ZT:Ar TP 246=true:=by kernel_rfl
theorem Ad2:Ar TP 247=true:=by kernel_rfl
set_option linter.defProp false in
def awF :=
 (And.intro (And.intro (And.intro (And.intro (And.intro (And.intro (And.intro (And.intro ti1
 (And.intro ti2
 ie2))
 (And.intro it2
 (And.intro st2
 ti3)))
 (And.intro (And.intro zo3
 (And.intro ie3
 it3))
 (And.intro st3
 (And.intro ti4
 zo4))))
 (And.intro (And.intro (And.intro bt4
 (And.intro ti5
 zo5))
 (And.intro ie5
 (And.intro it5
 st5)))
 (And.intro (And.intro ti6
 (And.intro ie6
 it6))
 (And.intro st6
 (And.intro ti7
 Ada)))))
 (And.intro (And.intro (And.intro (And.intro Ac9
 (And.intro Ac8
 Ac7))
 (And.intro ti8
 (And.intro Ac6
 Ac5)))
 (And.intro (And.intro Ac4
 (And.intro Ac3
 ti9))
 (And.intro st9
 (And.intro ap9
 it9))))
 (And.intro (And.intro (And.intro ti10
 (And.intro st10
 ap10))
 (And.intro it10
 (And.intro ti11
 st11)))
 (And.intro (And.intro ap11
 (And.intro it11
 ti12))
 (And.intro (And.intro ie12
 it12)
 (And.intro st12
 ti14))))))
 (And.intro (And.intro (And.intro (And.intro (And.intro AaF
 (And.intro AaE
 ti15))
 (And.intro ti16
 (And.intro ti17
 ti19)))
 (And.intro (And.intro AaD
 (And.intro ti20
 ti21))
 (And.intro ie21
 (And.intro it21
 st21))))
 (And.intro (And.intro (And.intro ti22
 (And.intro se22
 sz22))
 (And.intro ap22
 (And.intro st22
 ti24)))
 (And.intro (And.intro ti26
 (And.intro se26
 sz26))
 (And.intro (And.intro ap26
 st26)
 (And.intro ti27
 se27)))))
 (And.intro (And.intro (And.intro (And.intro sz27
 (And.intro ap27
 st27))
 (And.intro ti29
 (And.intro AaC
 AaB)))
 (And.intro (And.intro AaA
 (And.intro Aaz
 ti34))
 (And.intro se34
 (And.intro sz34
 ap34))))
 (And.intro (And.intro (And.intro st34
 (And.intro ti35
 se35))
 (And.intro sz35
 (And.intro ap35
 st35)))
 (And.intro (And.intro ti36
 (And.intro ie36
 it36))
 (And.intro (And.intro st36
 ti41)
 (And.intro se41
 sz41)))))))
 (And.intro (And.intro (And.intro (And.intro (And.intro (And.intro ap41
 (And.intro st41
 ti43))
 (And.intro Aay
 (And.intro Aax
 Aaw)))
 (And.intro (And.intro ti44
 (And.intro se44
 sz44))
 (And.intro ap44
 (And.intro st44
 ti46))))
 (And.intro (And.intro (And.intro Aav
 (And.intro Aau
 ti48))
 (And.intro zo48
 (And.intro eq48
 Aat)))
 (And.intro (And.intro Aas
 (And.intro ti52
 ti53))
 (And.intro ti58
 (And.intro Aar
 Aaq)))))
 (And.intro (And.intro (And.intro (And.intro ti62
 (And.intro zo62
 se62))
 (And.intro sz62
 (And.intro ap62
 st62)))
 (And.intro (And.intro ti64
 (And.intro Aap
 Aao))
 (And.intro ti66
 (And.intro ti67
 ti69))))
 (And.intro (And.intro (And.intro Aan
 (And.intro Aam
 ti71))
 (And.intro ti77
 (And.intro ti79
 Aal)))
 (And.intro (And.intro Aak
 (And.intro ti86
 ti88))
 (And.intro (And.intro Aaj
 Aai)
 (And.intro ti92
 ti94))))))
 (And.intro (And.intro (And.intro (And.intro (And.intro Aah
 (And.intro Aag
 Aaf))
 (And.intro AcA
 (And.intro Adv
 AcK)))
 (And.intro (And.intro Aff
 (And.intro Ac2
 Acz))
 (And.intro Acy
 (And.intro Acx
 Y0))))
 (And.intro (And.intro (And.intro YZ
 (And.intro YY
 YX))
 (And.intro YW
 (And.intro YV
 YU)))
 (And.intro (And.intro Acw
 (And.intro Acv
 Acu))
 (And.intro (And.intro Acs
 Adu)
 (And.intro AcJ
 Afe)))))
 (And.intro (And.intro (And.intro (And.intro Ac1
 (And.intro Acr
 Adt))
 (And.intro AcI
 (And.intro Afd
 Ac0)))
 (And.intro (And.intro Acq
 (And.intro Acp
 Aco))
 (And.intro Acn
 (And.intro Acm
 Acl))))
 (And.intro (And.intro (And.intro Ads
 (And.intro AcH
 Afc))
 (And.intro AcZ
 (And.intro Ack
 YT)))
 (And.intro (And.intro YS
 (And.intro Acj
 YR))
 (And.intro (And.intro YQ
 Aci)
 (And.intro Ach
 Adr))))))))
 (And.intro (And.intro (And.intro (And.intro (And.intro (And.intro (And.intro Afr
 (And.intro Acg
 Acf))
 (And.intro Adq
 (And.intro AcG
 Afb)))
 (And.intro (And.intro AcY
 (And.intro Ace
 YP))
 (And.intro YO
 (And.intro ti1
 Adp))))
 (And.intro (And.intro (And.intro Afq
 (And.intro Acd
 YN))
 (And.intro YM
 (And.intro Acc
 Ado)))
 (And.intro (And.intro Afp
 (And.intro Acb
 AdR))
 (And.intro AdH
 (And.intro AcX
 Aca)))))
 (And.intro (And.intro (And.intro (And.intro YL
 (And.intro YK
 Ab9))
 (And.intro Ab8
 (And.intro AdQ
 AdG)))
 (And.intro (And.intro AcW
 (And.intro Ab7
 Ab6))
 (And.intro Ab5
 (And.intro Ab4
 AdP))))
 (And.intro (And.intro (And.intro AdF
 (And.intro AcV
 Ab3))
 (And.intro YJ
 (And.intro YI
 Ab2)))
 (And.intro (And.intro YH
 (And.intro YG
 Ab1))
 (And.intro (And.intro YF
 YE)
 (And.intro Ab0
 YD))))))
 (And.intro (And.intro (And.intro (And.intro (And.intro YC
 (And.intro YB
 AbZ))
 (And.intro AbY
 (And.intro YA
 Yz)))
 (And.intro (And.intro Yy
 (And.intro AbX
 Adn))
 (And.intro AcF
 (And.intro Afa
 AcU))))
 (And.intro (And.intro (And.intro AbW
 (And.intro AbV
 AbU))
 (And.intro AbT
 (And.intro Yx
 Yw)))
 (And.intro (And.intro AbS
 (And.intro Adm
 AcE))
 (And.intro (And.intro Ae9
 AcT)
 (And.intro AbR
 AbQ)))))
 (And.intro (And.intro (And.intro (And.intro Adl
 (And.intro Afo
 AbP))
 (And.intro AbO
 (And.intro Adk
 Afn)))
 (And.intro (And.intro AbN
 (And.intro Adj
 Afm))
 (And.intro AbM
 (And.intro AbL
 AbK))))
 (And.intro (And.intro (And.intro AbJ
 (And.intro ti1
 Adi))
 (And.intro Afl
 (And.intro AbI
 ti1)))
 (And.intro (And.intro Adh
 (And.intro Afk
 ti1))
 (And.intro (And.intro Yv
 Yu)
 (And.intro AbH
 AbG)))))))
 (And.intro (And.intro (And.intro (And.intro (And.intro (And.intro AbF
 (And.intro AbE
 Yt))
 (And.intro Ys
 (And.intro AbD
 AbC)))
 (And.intro (And.intro Adg
 (And.intro AcD
 Ae8))
 (And.intro AcS
 (And.intro AbB
 Yr))))
 (And.intro (And.intro (And.intro Yq
 (And.intro Yp
 Yo))
 (And.intro Yn
 (And.intro ti1
 Ym)))
 (And.intro (And.intro Yl
 (And.intro Yk
 AbA))
 (And.intro AdO
 (And.intro AdE
 AcR)))))
 (And.intro (And.intro (And.intro (And.intro Abz
 (And.intro Adf
 Afj))
 (And.intro Aby
 (And.intro Ade
 Afi)))
 (And.intro (And.intro Abx
 (And.intro Abw
 ti1))
 (And.intro Add
 (And.intro Afh
 ti1))))
 (And.intro (And.intro (And.intro Yj
 (And.intro Yi
 Yh))
 (And.intro Abv
 (And.intro AdN
 AdD)))
 (And.intro (And.intro AcQ
 (And.intro Abu
 Abt))
 (And.intro (And.intro Abr
 Abq)
 (And.intro Yg
 Yf))))))
 (And.intro (And.intro (And.intro (And.intro (And.intro Ye
 (And.intro Yd
 Abp))
 (And.intro Adc
 (And.intro Afg
 Abo)))
 (And.intro (And.intro Yc
 (And.intro Abn
 AdM))
 (And.intro AdC
 (And.intro AcP
 Abm))))
 (And.intro (And.intro (And.intro AdL
 (And.intro AdB
 AcO))
 (And.intro Abl
 (And.intro Abk
 AdK)))
 (And.intro (And.intro AdA
 (And.intro AcN
 Abj))
 (And.intro (And.intro AdJ
 Adz)
 (And.intro AcM
 Abi)))))
 (And.intro (And.intro (And.intro (And.intro Yb
 (And.intro Ya
 X9))
 (And.intro X8
 (And.intro X7
 X6)))
 (And.intro (And.intro X4
 (And.intro X3
 X2))
 (And.intro X1
 (And.intro VZ
 Abh))))
 (And.intro (And.intro (And.intro Adb
 (And.intro AcC
 Ae7))
 (And.intro AcL
 (And.intro Abg
 Abf)))
 (And.intro (And.intro Abe
 (And.intro Abd
 X0))
 (And.intro (And.intro Abc
 Abb)
 (And.intro XZ
 AdI)))))))))
set_option linter.defProp false in
def awY := And.intro awV (And.intro awX awF)
theorem Am:Tryz.prog.follows .mixedOrders=true:=by kernel_rfl
end Go.Proofs.YtmidaophnbdcdaaGreatDoor
namespace Go.Proofs.YtmidaophnbdcdaaGreatDoor
open Go Go.Proofs Go.Abs Go.RowKit Go.Shelf
variable {G:Ad}
abbrev M0:BZ:=fun _=>false
abbrev S (l:List UInt8):D:=.str (bs l)
def FL:List D:=(Af0 256).map fun c=>.int .u8 (Lib.firstT c)
def Mo:List D:=(Af0 32).map fun i=>.int .u8 (if i % 2=0 then Lib.accLo (i / 2) else Lib.accHi (i / 2):Nat)
def HT (G:Ad):Prop:=G 0=some FL∧G 1=some Mo
def Tryz.laysValid_ren:Go.Shelf.Ren:=⟨fun | 196=>55 | 259=>94 | n=>n,fun | 9=>9 | 4=>4 | 3=>3 | 5=>5 | 12=>12 | 119=>151 | 0=>0 | 46=>155 | 139=>154 | 138=>153 | 53=>177 | n=>n,fun | 3=>0 | 4=>1 | n=>n⟩
theorem Tryz.laysValid:Go.Proofs.Lays.n196 TP Tryz.laysValid_ren where
 mixed:=by kernel_rfl
 f196:=Tryz.func55.trans (congrArg some (by kernel_rfl))
 f259:=Tryz.func94.trans (congrArg some (by kernel_rfl))
 t0:=Tryz.underlying0
 a0:=Tryz.isAgg0
 z0:=Tryz.sizeOf0
 v0:=Tryz.zeroValue0
 t3:=Tryz.underlying3
 a3:=Tryz.isAgg3
 z3:=Tryz.sizeOf3
 v3:=Tryz.zeroValue3
 t4:=Tryz.underlying4
 a4:=Tryz.isAgg4
 z4:=Tryz.sizeOf4
 v4:=Tryz.zeroValue4
 t5:=Tryz.underlying5
 a5:=Tryz.isAgg5
 z5:=Tryz.sizeOf5
 v5:=Tryz.zeroValue5
 t9:=Tryz.underlying9
 a9:=Tryz.isAgg9
 z9:=Tryz.sizeOf9
 v9:=Tryz.zeroValue9
 t12:=Tryz.underlying12
 a12:=Tryz.isAgg12
 z12:=Tryz.sizeOf12
 v12:=Tryz.zeroValue12
 t46:=Tryz.underlying155
 a46:=Tryz.isAgg155
 z46:=Tryz.sizeOf155
 v46:=Tryz.zeroValue155
 t53:=Tryz.underlying177
 a53:=Tryz.isAgg177
 z53:=Tryz.sizeOf177
 v53:=Tryz.zeroValue177
 t119:=Tryz.underlying151
 a119:=Tryz.isAgg151
 z119:=Tryz.sizeOf151
 t138:=Tryz.underlying153
 a138:=Tryz.isAgg153
 z138:=Tryz.sizeOf153
 v138:=Tryz.zeroValue153
 t139:=Tryz.underlying154
 a139:=Tryz.isAgg154
 z139:=Tryz.sizeOf154
 v139:=Tryz.zeroValue154
 g3:=by kernel_rfl
 g4:=by kernel_rfl
theorem KX {h:Ag} {ρ:Abs.Place} {H:AX} {w:World} {g:Nat} {l:List Int} (s:Sim G h ρ H w) (e:G g=some (Ax .u8 l)) {i:Nat} (hi:i<l.length):w.cell? ⟨g,i,none⟩=some (.int .u8 (l.getD i 0)):=by
 obtain ⟨vs,h1,h2⟩:=s.glob g _ e
 have hx:(Ax .u8 l)[i]?=some (.int .u8 (l.getD i 0)):=by simp[Ax,hi,AdT]
 have:=s.prom _ _ _ (h1 i _ hx)
 rw[this]
 have r:=h2 i _ hx
 generalize vs i=v at r
 cases r
 rfl
theorem SF:FL=Ax .u8 ((Af0 256).map fun c=>(Lib.firstT c:Int)):=by simp[FL,Ax]
theorem Xv:Mo=Ax .u8 ((Af0 32).map fun i=>((if i % 2=0 then Lib.accLo (i / 2) else Lib.accHi (i / 2):Nat):Int)):=by simp[Mo,Ax]
theorem XQ {h:Ag} {ρ:Abs.Place} {H:AX} {w:World} (hT:HT G) (s:Sim G h ρ H w):Lib.Utf8Tabs 0 1 w:=by
 obtain ⟨e1,e2⟩:=hT
 rw[SF] at e1
 rw[Xv] at e2
 refine ⟨fun c hc=>?_,fun i hi=>⟨?_,?_⟩⟩
 ·rw[KX s e1 (by simpa using hc)]
  simp[AdT,hc]
 ·rw[KX s e2 (by simp;omega)]
  simp[AdT,show 2*i<32 by omega]
 ·rw[KX s e2 (by simp;omega)]
  simp[AdT,show 2*i+1<32 by omega,show (2*i+1) % 2=1 by omega,show (2*i+1) / 2=i by omega]
theorem Pj (hT:HT G) (l:List UInt8) (hl:l.length≤9223372036854775807):Ctr TP G 55 [.d (S l)] [] (.d (.bool (Lib.validD l))) []:=by
 refine Ctr.of_calls go55 fun h ρ w vs q r=>?_
 obtain ⟨v,rfl,hv⟩:=r.inv1
 rw[hv.str_inv]
 refine (Any.utf8_ValidString Tryz.laysValid (bs l) w (by rw[Eg];exact hl) (XQ hT q)).mono ?_
 rintro e w' ⟨rfl,hb⟩
 exact ⟨_,rfl,.bool _,hb⟩
theorem DX (hT:HT G) (l:List UInt8) (hl:l.length≤9223372036854775807):Ctr TP G 30 [.d (S l)] [] (.d (.bool (Lib.validD l))) []:=by
 refine Ctr.pure (M:=M0) Am Tryz.func30 rfl go30 ?_
 simp(maxSteps:=1000000)(disch:=(try simp only[awL]);omega)only[Tryz.f30,↓awU,awY,↓reduceIte,↓reduceDIte,↓Qe,Qu,Qv,Qw,Qx,Qy,Qz,QA,QB,QC,QD,QE,QF,QG,QH,QI,QK]
 refine Ab.pure (Pj hT l hl) ?_
 simp(maxSteps:=1000000)(disch:=(try simp only[awL]);omega)only[↓awU,awY,↓reduceIte,↓reduceDIte,↓Qe,Qu,Qv,Qw,Qx,Qy,Qz,QA,QB,QC,QD,QE,QF,QG,QH,QI,QK]
def hasP (s p:List UInt8):Bool:=decide (s.take p.length=p)
theorem hasP_le {s p:List UInt8} (h:hasP s p=true):p.length≤s.length:=by
 have:=of_decide_eq_true h
 have h2:=congrArg List.length this
 simp at h2;omega
theorem hasPrefix_spec (s p:List UInt8):Ctr TP G 184 [.d (S s),.d (S p)] [] (.d (.bool (hasP s p))) []:=by
 refine Ctr.pure (M:=M0) Am Tryz.func184 rfl ZX ?_
 simp(maxSteps:=1000000)(disch:=(try simp only[awL]);omega)only[awS,Tryz.f184,↓awU,awY,↓reduceIte,↓reduceDIte,↓Qe,Qu,Qv,Qw,Qx,Qy,Qz,QA,QB,QC,QD,QE,QF,QG,QH,QI,QK]
 refine ⟨fun _=>rfl,fun h=>(decide_eq_false fun e=>h ?_).symm⟩
 have:=congrArg List.length e
 simp at this
 omega
theorem indexByte_calls (s:ByteArray) (c:Int) (w:World) :
  Calls TP 211 #[.string s,.int .u8 c] w fun e w'=>e=.returned (.int .i64 (Lib.indexByte s.data.toList c.toNat.toUInt8))∧w'=w:=by
 go_enter Tryz.func211,Tryz.ntmps211
 go_wp2
 rw[run_callFunc_extern Tryz.func235 (by kernel_rfl) (by kernel_rfl) (by kernel_rfl) (e:=Extern.BytealgIndexByte.indexByte) (by kernel_rfl),Lib.run_indexByteString]
 simp only[Result.andThen]
 rw[Oper.upon_value]
 go_wp2
 go_ret
 exact ⟨rfl,rfl⟩
theorem indexByte_spec (s:List UInt8) (c:UInt8):Ctr TP G 211 [.d (S s),.d (.int .u8 c.toNat)] [] (.d (.int .i64 (Lib.indexByte s c))) []:=by
 refine Ctr.of_calls ZV fun h ρ w vs q r=>?_
 obtain ⟨v,u,rfl,hv,hu⟩:=r.inv2
 rw[hv.str_inv,hu.int_inv]
 refine (indexByte_calls (bs s) c.toNat w).mono ?_
 rintro e w' ⟨rfl,rfl⟩
 refine ⟨_,rfl,?_,.refl _ _⟩
 have:((c.toNat:Int)).toNat.toUInt8=c:=by simp
 rw[this]
 exact .int _ _
def cutL (c:UInt8):List UInt8→List UInt8
 | []=>[]
 | b::l=>if b=c then [] else b::cutL c l
def cutR (c:UInt8):List UInt8→List UInt8
 | []=>[]
 | b::l=>if b=c then l else cutR c l
theorem cut_index (c:UInt8):∀ s:List UInt8,(c∈s→∃ k:Nat,Lib.indexByte s c=k∧k<s.length∧s.take k=cutL c s∧s.drop (k+1)=cutR c s)∧(c∉s→Lib.indexByte s c=-1∧cutL c s=s∧cutR c s=[])
 | []=>⟨fun h=>absurd h List.not_mem_nil,fun _=>⟨rfl,rfl,rfl⟩⟩
 | b::l=>by
   obtain ⟨i1,i2⟩:=cut_index c l
   by_cases e:b=c
   ·subst e
    refine ⟨fun _=>⟨0,?_,by simp,by simp[cutL],by simp[cutR]⟩,fun h=>absurd (List.mem_cons_self ..) h⟩
    simp[Lib.indexByte]
   ·have e2:¬c=b:=fun h=>e h.symm
    refine ⟨fun h=>?_,fun h=>?_⟩
    ·obtain ⟨k,h1,h2,h3,h4⟩:=i1 ((List.mem_cons.1 h).resolve_left e2)
     refine ⟨k+1,?_,by simpa using h2,by simp[cutL,e,h3],by simp[cutR,e,h4]⟩
     simp only[Lib.indexByte,h1]
     rw[if_neg (by simpa using e),if_neg (by simp)]
     omega
    ·obtain ⟨h1,h2,h3⟩:=i2 (fun h2=>h (List.mem_cons_of_mem _ h2))
     refine ⟨?_,by simp[cutL,e,h2],by simp[cutR,e,h3]⟩
     simp only[Lib.indexByte,h1]
     rw[if_neg (by simpa using e),if_pos (by decide)]
theorem index1_spec (s:List UInt8) (c:UInt8) (hs:s.length<2^62):Ctr TP G 201 [.d (S s),.d (S [c])] [] (.d (.int .i64 (Lib.indexByte s c))) []:=by
 refine Ctr.pure (M:=M0) Am Tryz.func201 rfl ZW ?_
 simp(maxSteps:=1000000)(disch:=(try simp only[awL]);omega)only[awS,Tryz.f201,↓awU,awY,↓reduceIte,↓reduceDIte,↓Qe,Qu,Qv,Qw,Qx,Qy,Qz,QA,QB,QC,QD,QE,QF,QG,QH,QI,QK]
 refine ⟨fun h=>?_,fun h=>?_⟩
 ·rw[←h];simp[Lib.indexByte]
 ·refine Ab.pure (indexByte_spec s c) ?_
  simp(maxSteps:=1000000)(disch:=(try simp only[awL]);omega)only[awS,↓awU,awY,↓reduceIte,↓reduceDIte,↓Qe,Qu,Qv,Qw,Qx,Qy,Qz,QA,QB,QC,QD,QE,QF,QG,QH,QI,QK]
theorem cutS_spec (s:List UInt8) (c:UInt8) (hs:s.length<2^62):Ctr TP G 170 [.d (S s),.d (S [c])] [] (.d (.tup [S (cutL c s),S (cutR c s),.bool (decide (c∈s))])) []:=by
 refine Ctr.pure (M:=M0) Am Tryz.func170 rfl ZZ ?_
 simp(maxSteps:=1000000)(disch:=(try simp only[awL]);omega)only[awS,Tryz.f170,↓awU,awY,↓reduceIte,↓reduceDIte,↓Qe,Qu,Qv,Qw,Qx,Qy,Qz,QA,QB,QC,QD,QE,QF,QG,QH,QI,QK]
 refine Ab.pure (index1_spec s c hs) ?_
 obtain ⟨i1,i2⟩:=cut_index c s
 by_cases h:c∈s
 ·obtain ⟨k,h1,h2,h3,h4⟩:=i1 h
  rw[h1,decide_eq_true h,←h3,←h4]
  simp(maxSteps:=1000000)(disch:=(try simp only[awL]);omega)only[awS,↓awU,awY,↓reduceIte,↓reduceDIte,↓Qe,Qu,Qv,Qw,Qx,Qy,Qz,QA,QB,QC,QD,QE,QF,QG,QH,QI,QK]
  rfl
 ·obtain ⟨h1,h3,h4⟩:=i2 h
  rw[h1,decide_eq_false h,h3,h4]
  simp(maxSteps:=1000000)(disch:=(try simp only[awL]);omega)only[awS,↓awU,awY,↓reduceIte,↓reduceDIte,↓Qe,Qu,Qv,Qw,Qx,Qy,Qz,QA,QB,QC,QD,QE,QF,QG,QH,QI,QK]
theorem cut_spec (s:List UInt8) (c:UInt8) (hs:s.length<2^62):Ctr TP G 133 [.d (S s),.d (S [c])] [] (.d (.tup [S (cutL c s),S (cutR c s),.bool (decide (c∈s))])) []:=by
 refine Ctr.pure (M:=M0) Am Tryz.func133 rfl Z0 ?_
 simp(maxSteps:=1000000)(disch:=(try simp only[awL]);omega)only[awS,Tryz.f133,↓awU,awY,↓reduceIte,↓reduceDIte,↓Qe,Qu,Qv,Qw,Qx,Qy,Qz,QA,QB,QC,QD,QE,QF,QG,QH,QI,QK]
 refine Ab.pure (cutS_spec s c hs) ?_
 simp(maxSteps:=1000000)(disch:=(try simp only[awL]);omega)only[awS,↓awU,awY,↓reduceIte,↓reduceDIte,↓Qe,Qu,Qv,Qw,Qx,Qy,Qz,QA,QB,QC,QD,QE,QF,QG,QH,QI,QK]
theorem C8 (s p:List UInt8):Ctr TP G 154 [.d (S s),.d (S p)] [] (.d (.bool (hasP s p))) []:=by
 refine Ctr.pure (M:=M0) Am Tryz.func154 rfl Aex ?_
 simp(maxSteps:=1000000)(disch:=(try simp only[awL]);omega)only[awS,Tryz.f154,↓awU,awY,↓reduceIte,↓reduceDIte,↓Qe,Qu,Qv,Qw,Qx,Qy,Qz,QA,QB,QC,QD,QE,QF,QG,QH,QI,QK]
 refine Ab.pure (hasPrefix_spec s p) ?_
 simp(maxSteps:=1000000)(disch:=(try simp only[awL]);omega)only[awS,↓awU,awY,↓reduceIte,↓reduceDIte,↓Qe,Qu,Qv,Qw,Qx,Qy,Qz,QA,QB,QC,QD,QE,QF,QG,QH,QI,QK]
def Tryz.laysTrim_ren:Go.Shelf.Ren:=⟨fun | 160=>48 | 232=>84 | 231=>83 | 227=>85 | 234=>87 | 233=>86 | 236=>89 | 235=>88 | 228=>116 | 271=>119 | 151=>118 | 197=>117 | 120=>159 | 152=>158 | 260=>157 | 137=>186 | 119=>187 | 224=>188 | 225=>189 | 217=>211 | 266=>235 | n=>n,fun | 9=>9 | 4=>4 | 3=>3 | 5=>5 | 117=>142 | 116=>141 | 0=>0 | 124=>145 | 21=>21 | 105=>173 | 46=>155 | 119=>151 | 139=>154 | 138=>153 | n=>n,fun | 3=>0 | 4=>1 | n=>n⟩
theorem Tryz.laysTrim:Go.Proofs.Lays.n160 TP Tryz.laysTrim_ren where
 mixed:=by kernel_rfl
 f119:=Tryz.func187.trans (congrArg some (by kernel_rfl))
 f120:=Tryz.func159.trans (congrArg some (by kernel_rfl))
 f137:=Tryz.func186.trans (congrArg some (by kernel_rfl))
 f151:=Tryz.func118.trans (congrArg some (by kernel_rfl))
 f152:=Tryz.func158.trans (congrArg some (by kernel_rfl))
 f160:=Tryz.func48.trans (congrArg some (by kernel_rfl))
 f197:=Tryz.func117.trans (congrArg some (by kernel_rfl))
 f217:=Tryz.func211.trans (congrArg some (by kernel_rfl))
 f224:=Tryz.func188.trans (congrArg some (by kernel_rfl))
 f225:=Tryz.func189.trans (congrArg some (by kernel_rfl))
 f227:=Tryz.func85.trans (congrArg some (by kernel_rfl))
 f228:=Tryz.func116.trans (congrArg some (by kernel_rfl))
 f231:=Tryz.func83.trans (congrArg some (by kernel_rfl))
 f232:=Tryz.func84.trans (congrArg some (by kernel_rfl))
 f233:=Tryz.func86.trans (congrArg some (by kernel_rfl))
 f234:=Tryz.func87.trans (congrArg some (by kernel_rfl))
 f235:=Tryz.func88.trans (congrArg some (by kernel_rfl))
 f236:=Tryz.func89.trans (congrArg some (by kernel_rfl))
 f260:=Tryz.func157.trans (congrArg some (by kernel_rfl))
 f266:=Tryz.func235.trans (congrArg some (by kernel_rfl))
 f271:=Tryz.func119.trans (congrArg some (by kernel_rfl))
 t0:=Tryz.underlying0
 a0:=Tryz.isAgg0
 z0:=Tryz.sizeOf0
 v0:=Tryz.zeroValue0
 t3:=Tryz.underlying3
 a3:=Tryz.isAgg3
 z3:=Tryz.sizeOf3
 v3:=Tryz.zeroValue3
 t4:=Tryz.underlying4
 a4:=Tryz.isAgg4
 z4:=Tryz.sizeOf4
 v4:=Tryz.zeroValue4
 t5:=Tryz.underlying5
 a5:=Tryz.isAgg5
 z5:=Tryz.sizeOf5
 v5:=Tryz.zeroValue5
 t9:=Tryz.underlying9
 a9:=Tryz.isAgg9
 z9:=Tryz.sizeOf9
 v9:=Tryz.zeroValue9
 t21:=Tryz.underlying21
 a21:=Tryz.isAgg21
 z21:=Tryz.sizeOf21
 v21:=Tryz.zeroValue21
 t46:=Tryz.underlying155
 a46:=Tryz.isAgg155
 z46:=Tryz.sizeOf155
 v46:=Tryz.zeroValue155
 t105:=Tryz.underlying173
 a105:=Tryz.isAgg173
 z105:=Tryz.sizeOf173
 v105:=Tryz.zeroValue173
 t116:=Tryz.underlying141
 a116:=Tryz.isAgg141
 z116:=Tryz.sizeOf141
 t117:=Tryz.underlying142
 a117:=Tryz.isAgg142
 z117:=Tryz.sizeOf142
 v117:=Tryz.zeroValue142
 t119:=Tryz.underlying151
 a119:=Tryz.isAgg151
 z119:=Tryz.sizeOf151
 t124:=Tryz.underlying145
 a124:=Tryz.isAgg145
 z124:=Tryz.sizeOf145
 v124:=Tryz.zeroValue145
 t138:=Tryz.underlying153
 a138:=Tryz.isAgg153
 z138:=Tryz.sizeOf153
 v138:=Tryz.zeroValue153
 t139:=Tryz.underlying154
 a139:=Tryz.isAgg154
 z139:=Tryz.sizeOf154
 v139:=Tryz.zeroValue154
 g3:=by kernel_rfl
 g4:=by kernel_rfl
def Tryz.laysReplaceAll_ren:Go.Shelf.Ren:=⟨fun | 166=>68 | 240=>99 | 276=>128 | n=>n,fun | 70=>77 | 9=>9 | 3=>3 | 75=>119 | 0=>0 | 72=>79 | 37=>22 | 4=>4 | 164=>182 | 80=>60 | 5=>5 | n=>n,fun | n=>n⟩
theorem Tryz.laysReplaceAll:Go.Proofs.Lays.n166 TP Tryz.laysReplaceAll_ren where
 mixed:=by kernel_rfl
 f166:=Tryz.func68.trans (congrArg some (by kernel_rfl))
 f240:=Tryz.func99.trans (congrArg some (by kernel_rfl))
 f276:=Tryz.func128.trans (congrArg some (by kernel_rfl))
 t0:=Tryz.underlying0
 a0:=Tryz.isAgg0
 z0:=Tryz.sizeOf0
 v0:=Tryz.zeroValue0
 t3:=Tryz.underlying3
 a3:=Tryz.isAgg3
 z3:=Tryz.sizeOf3
 v3:=Tryz.zeroValue3
 t4:=Tryz.underlying4
 a4:=Tryz.isAgg4
 z4:=Tryz.sizeOf4
 v4:=Tryz.zeroValue4
 t9:=Tryz.underlying9
 a9:=Tryz.isAgg9
 z9:=Tryz.sizeOf9
 v9:=Tryz.zeroValue9
 t20:=Tryz.underlying20
 a20:=Tryz.isAgg20
 z20:=Tryz.sizeOf20
 v20:=Tryz.zeroValue20
 t37:=Tryz.underlying22
 a37:=Tryz.isAgg22
 z37:=Tryz.sizeOf22
 v37:=Tryz.zeroValue22
 t70:=Tryz.underlying77
 a70:=Tryz.isAgg77
 z70:=Tryz.sizeOf77
 v70:=Tryz.zeroValue77
 t72:=Tryz.underlying79
 a72:=Tryz.isAgg79
 z72:=Tryz.sizeOf79
 v72:=Tryz.zeroValue79
 t75:=Tryz.underlying119
 a75:=Tryz.isAgg119
 z75:=Tryz.sizeOf119
 v75:=Tryz.zeroValue119
 t164:=Tryz.underlying182
 a164:=Tryz.isAgg182
 z164:=Tryz.sizeOf182
 v164:=Tryz.zeroValue182
theorem trim_spec (s:List UInt8) (hs:s.length≤9223372036854775807):Ctr TP G 48 [.d (S s),.d (S [32])] [] (.d (S (Lib.trimB s 32))) [] :=
 Ctr.of_calls_ss go48 fun h w=>(Any.strings_Trim_one Tryz.laysTrim (bs s) 32 (by decide) w (by rw[Eg];exact hs)).mono (by
  rintro e w' ⟨rfl,h | h⟩
  ·subst h;exact ⟨_,rfl,.str _,.refl _ _⟩
  ·subst h;exact ⟨_,rfl,.str _,Below.drew (.refl _ _)⟩)
end Go.Proofs.YtmidaophnbdcdaaGreatDoor
namespace Go.Proofs.YtmidaophnbdcdaaGreatDoor
open Go Go.Proofs Go.Abs
variable {G:Ad}
def setD (l:List UInt8):List D:=(Af0 256).map fun i=>.bool (l.any fun b=>b.toNat == i)
def setB (l:List UInt8):List AV:=(setD l).map .d
theorem setB_length {l:List UInt8}:(setB l).length=256:=by simp[setB,setD]
theorem setD_length {l:List UInt8}:(setD l).length=256:=by simp[setD]
theorem setB_nil:setB []=AcB 256 (.d (.bool false)):=by rfl
theorem setD_get {l:List UInt8} {c:UInt8} {d:D}:(setD l).getD c.toNat d=.bool (l.contains c):=by
 have hc:=c.toNat_lt
 simp only[setD,AdT,AfJ,Af9 (show c.toNat<256 by omega),AfX,AfU]
 rw[List.contains_eq_any_beq]
 refine congrArg (fun f=>D.bool (l.any f)) ?_
 funext b
 show (b.toNat == c.toNat)=_
 by_cases h:b=c
 ·subst h;simp
 ·have:¬b.toNat=c.toNat:=fun e=>h (UInt8.toNat_inj.1 e)
  have h':¬c=b:=fun e=>h e.symm
  rw[beq_eq_false_iff_ne.2 this];exact (beq_eq_false_iff_ne.2 h').symm
theorem setB_get {l:List UInt8} {c:UInt8} {d:AV}:(setB l).getD c.toNat d=.d (.bool (l.contains c)):=by
 have hc:=c.toNat_lt
 have:=@setD_get l c .nilp
 rw[AdT,AdU (by rw[setD_length];omega)] at this
 rw[setB,AdT,AfJ,AdU (by rw[setD_length];omega)]
 simp only[AfU] at this
 rw[AfX,AfU,this]
theorem setB_set {l:List UInt8} {c:UInt8}:(setB l).set c.toNat (.d (.bool true))=setB (l++[c]):=by
 have hc:=c.toNat_lt
 apply List.ext_getElem
 ·rw[Agd,setB_length,setB_length]
 ·intro i h1 h2
  rw[Agd,setB_length] at h1
  rw[List.getElem_set]
  simp only[setB,setD,List.getElem_map,List.getElem_range,List.any_append,Agg,List.any_nil,Agh]
  split
  ·rename_i e;subst e;simp
  ·rename_i e
   have:(c.toNat == i)=false:=by simpa using e
   rw[this,Agh]
theorem SWeak_map {fl:List (Option Nat)}:∀ l:List D,SW fl (l.map .d) (l.map .d)
 | []=>by simp[SW]
 | x::l=>by simp only[AdZ,SW];exact ⟨by simp[AW],SWeak_map l⟩
theorem setB_weak {fl:List (Option Nat)} {l:List UInt8}:SW fl (setB l) (setB l)=True:=eq_true (SWeak_map _)
theorem mem_getDU {α:Type} {l:List α} {i:Nat} {d:α} (h:i<l.length):l.getD i d∈l:=by
 rw[AdT,AdU h];exact AfV h
theorem setB_two (l:List UInt8):∃ a b cs,setB l=a::b::cs:=by
 have:=@setB_length l
 match h:setB l with
 | []=>rw[h] at this;cases this
 | [_]=>rw[h] at this;cases this
 | a::b::cs=>exact ⟨a,b,cs,rfl⟩
theorem setB_one {l:List UInt8}:(setB l).all AV.one=true:=by
 simp[setB,setD,AV.one,D.one]
theorem setB_seal {H:List Aa} {l:List UInt8}:sealL H (setB l)=some (setD l):=by
 have:∀ m:List D,sealL H (m.map .d)=some m:=fun m=>by
  induction m with
  | nil=>rfl
  | cons x m ih=>simp only[AdZ,sealL,sealA,ih]
 exact this _
theorem setB_refs {l:List UInt8}:refsL (setB l)=[]:=by
 have:∀ m:List D,refsL (m.map .d)=[]:=fun m=>by
  induction m with
  | nil=>rfl
  | cons x m ih=>simp only[AdZ,refsL,EK,ih,AfY]
 exact this _
theorem setB_pass {H:List Aa} {L:List Nat} {l:List UInt8}:passL H L (setB l)=some (setB l):=by
 have:∀ m:List D,passL H L (m.map .d)=some (m.map .d):=fun m=>by
  induction m with
  | nil=>rfl
  | cons x m ih=>simp only[AdZ,passL,passA,ih]
 exact this _
theorem setB_sids {H:List Aa} {L:List Nat} {l:List UInt8}:sidsL H L (setB l)=[]:=by
 have:∀ m:List D,sidsL H L (m.map .d)=[]:=fun m=>by
  induction m with
  | nil=>rfl
  | cons x m ih=>simp only[AdZ,sidsL,sidsA,ih,AfY]
 exact this _
theorem setB_ren {f:Nat→Nat} {l:List UInt8}:renL f (setB l)=setB l:=by
 have:∀ m:List D,renL f (m.map .d)=m.map .d:=fun m=>by
  induction m with
  | nil=>rfl
  | cons x m ih=>simp only[AdZ,renL,renA,ih]
 exact this _
theorem take_succ_getD {s:List UInt8} {i:Nat} (h:i<s.length):s.take i++[s.getD i 0]=s.take (i+1):=by
 rw[Af4,AdU h,AdT,AdU h];rfl
theorem contains_spec (l:List UInt8) (c:UInt8):Ctr TP G 116 [.ptr 0 0,.d (.int .u8 c.toNat)] [.box (setB l)] (.d (.bool (l.contains c))) [.box (setB l)]:=by
 have hc:=c.toNat_lt
 have hl:=@setB_length l
 refine Ctr.body (M:=M0) Am Tryz.func116 rfl Z2 ?_
 simp(maxSteps:=1000000)(disch:=(try simp only[awL]);omega)only[awS,hl,setB_get,Tryz.f116,↓awU,awY,↓reduceIte,↓reduceDIte,↓Qe,Qu,Qv,Qw,Qx,Qy,Qz,QA,QB,QC,QD,QE,QF,QG,QH,QI,QK]
 exact ⟨[some 0],rfl,by simp,by simp[HW,BW,setB_weak],.inl (by simp[AW])⟩
theorem makeSet_spec (l:List UInt8) (hl:l.length<2^62) (ha:∀ b∈l,b.toNat<128):Ctr TP G 85 [.d (S l)] [] (.d (.tup [.agg (setD l),.bool true])) []:=by
 refine Ctr.pure (M:=M0) Am Tryz.func85 rfl go85 ?_
 simp(maxSteps:=1000000)(disch:=(try simp only[awL]);omega)only[awS,Tryz.f85,↓awU,awY,↓reduceIte,↓reduceDIte,↓Qe,Qu,Qv,Qw,Qx,Qy,Qz,QA,QB,QC,QD,QE,QF,QG,QH,QI,QK]
 refine Au.fr 5 (α:=Nat) (fun i=>l.length-i) (fun i=>[(4,.d (.int .i64 i))]) (fun i=>[.box (setB (l.take i))]) (fun i=>i≤l.length) 0 (Af5 _) ?_ ?_
 ·refine ⟨[some 0],rfl,by simp,by simp[sA,kA,SW,AW],?_⟩
  rw[Af1,setB_nil]
  simp only[HW,BW,Af6]
  refine ⟨SWeak_map (AcB 256 (.bool false)),trivial⟩
 ·intro i hi
  have sl:=@setB_length (l.take i)
  simp only[awK,Ad0,Ad1,reduceIte]
  rcases Ae3 i l.length with h1 | h1
  ·have hb:=ha _ (mem_getDU (d:=0) h1)
   have hs:=take_succ_getD h1
   simp(maxSteps:=1000000)(disch:=(try simp only[awL]);omega)only[awS,sl,↓awU,awY,↓reduceIte,↓reduceDIte,↓Qe,Qu,Qv,Qw,Qx,Qy,Qz,QA,QB,QC,QD,QE,QF,QG,QH,QI,QK]
   exact ⟨i+1,h1,by simp only;omega,[some 0],rfl,by simp,by simp[sA,kA,SW,AW],by simp only[HW,BW,Af6];rw[setB_set,hs];exact ⟨by rw[setB_weak];trivial,trivial⟩⟩
  ·have sl:=@setB_length l
   have tk:(setB l).take 256=setB l:=Afs (by omega)
   obtain ⟨a,b,cs,e⟩:=setB_two l
   have lc:cs.length=254:=by rw[e] at sl;simpa using sl
   have tc:cs.take 254=cs:=Afs (by omega)
   have dc:cs.drop cs.length=[]:=List.drop_length
   simp(maxSteps:=1000000)(disch:=(try simp only[awL]);omega)only[awS,sl,tk,↓awU,awY,↓reduceIte,↓reduceDIte,↓Qe,Qu,Qv,Qw,Qx,Qy,Qz,QA,QB,QC,QD,QE,QF,QG,QH,QI,QK]
   refine ⟨setB_one,?_⟩
   have pm:CM (setB l) 0 (setB l)=setB l:=by
    rw[e]
    simp only[CM,CM,Af1,Af8,Agi,Ae1,Aga,dc,AfY]
   first
   | rw[pm,sl,tk]
   | (simp only[CM,CM,Af1,Af8,Agi] at pm;rw[pm,sl,tk])
   simp only[AdV,if_true,sealA,sealL,setB_seal]
   rfl
theorem setB_fold {l:List UInt8}:(setD l).map AV.d=setB l:=rfl
theorem setB_putL {L:List AV} {l:List UInt8} (h:L.length=256):CM L 0 ((setD l).map AV.d)=setB l:=by
 rw[setB_fold]
 obtain ⟨a,b,cs,e⟩:=setB_two l
 have q:=@setB_length l
 rw[e] at q ⊢
 have hd:L.drop (0+(a::b::cs).length)=[]:=Af7 (by omega)
 simp only[CM,hd,Af1,Af8,AfY]
theorem setB_putL' {l:List UInt8}:CM ([.d (.bool false),.d (.bool false),.d (.bool false),.d (.bool false),.d (.bool false),.d (.bool false),.d (.bool false),.d (.bool false),.d (.bool false),.d (.bool false),.d (.bool false),.d (.bool false),.d (.bool false),.d (.bool false),.d (.bool false),.d (.bool false),.d (.bool false),.d (.bool false),.d (.bool false),.d (.bool false),.d (.bool false),.d (.bool false),.d (.bool false),.d (.bool false),.d (.bool false),.d (.bool false),.d (.bool false),.d (.bool false),.d (.bool false),.d (.bool false),.d (.bool false),.d (.bool false),.d (.bool false),.d (.bool false),.d (.bool false),.d (.bool false),.d (.bool false),.d (.bool false),.d (.bool false),.d (.bool false),.d (.bool false),.d (.bool false),.d (.bool false),.d (.bool false),.d (.bool false),.d (.bool false),.d (.bool false),.d (.bool false),.d (.bool false),.d (.bool false),.d (.bool false),.d (.bool false),.d (.bool false),.d (.bool false),.d (.bool false),.d (.bool false),.d (.bool false),.d (.bool false),.d (.bool false),.d (.bool false),.d (.bool false),.d (.bool false),.d (.bool false),.d (.bool false),.d (.bool false),.d (.bool false),.d (.bool false),.d (.bool false),.d (.bool false),.d (.bool false),.d (.bool false),.d (.bool false),.d (.bool false),.d (.bool false),.d (.bool false),.d (.bool false),.d (.bool false),.d (.bool false),.d (.bool false),.d (.bool false),.d (.bool false),.d (.bool false),.d (.bool false),.d (.bool false),.d (.bool false),.d (.bool false),.d (.bool false),.d (.bool false),.d (.bool false),.d (.bool false),.d (.bool false),.d (.bool false),.d (.bool false),.d (.bool false),.d (.bool false),.d (.bool false),.d (.bool false),.d (.bool false),.d (.bool false),.d (.bool false),.d (.bool false),.d (.bool false),.d (.bool false),.d (.bool false),.d (.bool false),.d (.bool false),.d (.bool false),.d (.bool false),.d (.bool false),.d (.bool false),.d (.bool false),.d (.bool false),.d (.bool false),.d (.bool false),.d (.bool false),.d (.bool false),.d (.bool false),.d (.bool false),.d (.bool false),.d (.bool false),.d (.bool false),.d (.bool false),.d (.bool false),.d (.bool false),.d (.bool false),.d (.bool false),.d (.bool false),.d (.bool false),.d (.bool false),.d (.bool false),.d (.bool false),.d (.bool false),.d (.bool false),.d (.bool false),.d (.bool false),.d (.bool false),.d (.bool false),.d (.bool false),.d (.bool false),.d (.bool false),.d (.bool false),.d (.bool false),.d (.bool false),.d (.bool false),.d (.bool false),.d (.bool false),.d (.bool false),.d (.bool false),.d (.bool false),.d (.bool false),.d (.bool false),.d (.bool false),.d (.bool false),.d (.bool false),.d (.bool false),.d (.bool false),.d (.bool false),.d (.bool false),.d (.bool false),.d (.bool false),.d (.bool false),.d (.bool false),.d (.bool false),.d (.bool false),.d (.bool false),.d (.bool false),.d (.bool false),.d (.bool false),.d (.bool false),.d (.bool false),.d (.bool false),.d (.bool false),.d (.bool false),.d (.bool false),.d (.bool false),.d (.bool false),.d (.bool false),.d (.bool false),.d (.bool false),.d (.bool false),.d (.bool false),.d (.bool false),.d (.bool false),.d (.bool false),.d (.bool false),.d (.bool false),.d (.bool false),.d (.bool false),.d (.bool false),.d (.bool false),.d (.bool false),.d (.bool false),.d (.bool false),.d (.bool false),.d (.bool false),.d (.bool false),.d (.bool false),.d (.bool false),.d (.bool false),.d (.bool false),.d (.bool false),.d (.bool false),.d (.bool false),.d (.bool false),.d (.bool false),.d (.bool false),.d (.bool false),.d (.bool false),.d (.bool false),.d (.bool false),.d (.bool false),.d (.bool false),.d (.bool false),.d (.bool false),.d (.bool false),.d (.bool false),.d (.bool false),.d (.bool false),.d (.bool false),.d (.bool false),.d (.bool false),.d (.bool false),.d (.bool false),.d (.bool false),.d (.bool false),.d (.bool false),.d (.bool false),.d (.bool false),.d (.bool false),.d (.bool false),.d (.bool false),.d (.bool false),.d (.bool false),.d (.bool false),.d (.bool false),.d (.bool false),.d (.bool false),.d (.bool false),.d (.bool false),.d (.bool false),.d (.bool false),.d (.bool false),.d (.bool false),.d (.bool false),.d (.bool false),.d (.bool false),.d (.bool false),.d (.bool false),.d (.bool false),.d (.bool false),.d (.bool false),.d (.bool false),.d (.bool false),.d (.bool false),.d (.bool false),.d (.bool false)]:List AV) 0 (setB l)=setB l:=setB_putL rfl
theorem decw (l:List UInt8) (p:Nat) (h:p<l.length):((l.getD p 0).toNat<128∧dec l p=((l.getD p 0).toNat,1)) ∨
  (128≤(dec l p).1∧1≤(dec l p).2∧p+(dec l p).2≤l.length∧∀ i,i<(dec l p).2→128≤(l.getD (p+i) 0).toNat):=by
 by_cases h0:(l.getD p 0).toNat<128
 ·exact .inl ⟨h0,dec_ascii h h0⟩
 ·right
  have hget:∀ k,((bs l).get! (p+k)).toNat=(l.getD (p+k) 0).toNat:=fun k=>by
   show (l.toArray.getD (p+k) default).toNat=_
   simp[AdT];rfl
  have hsz:(bs l).size=l.length:=Eg
  unfold dec Utf8.decode
  have hget0:((bs l).get! p).toNat=(l.getD p 0).toNat:=hget 0
  simp only[hget,hsz,AfQ,hget0]
  have hb:∀ k,(l.getD (p+k) 0).toNat<256:=fun k=>(l.getD (p+k) 0).toNat_lt
  have hb1:=hb 1
  have hb2:=hb 2
  have hb3:=hb 3
  have hb0:=hb 0
  rw[AfQ] at hb0
  rw[if_neg h0]
  have one:∀ i,i<1→128≤(l.getD (p+i) 0).toNat:=fun i hi=>by obtain rfl:i=0:=by omega
                                                            rw[AfQ];omega
  split
  ·rename_i h1
   simp only[AfO,beq_iff_eq,decide_eq_true_eq] at h1
   split
   ·rename_i h2
    refine ⟨by omega,by omega,by omega,fun i hi=>?_⟩
    rcases (by omega:i=0∨i=1) with rfl | rfl
    ·rw[AfQ];omega
    ·omega
   ·exact ⟨by simp[Utf8.runeError],by omega,by omega,one⟩
  ·split
   ·rename_i h1
    simp only[AfO,beq_iff_eq,decide_eq_true_eq] at h1
    split
    ·rename_i h2
     simp only[AfO,decide_eq_true_eq] at h2
     refine ⟨by omega,by omega,by omega,fun i hi=>?_⟩
     rcases (by omega:i=0∨i=1∨i=2) with rfl | rfl | rfl
     ·rw[AfQ];omega
     ·omega
     ·omega
    ·exact ⟨by simp[Utf8.runeError],by omega,by omega,one⟩
   ·split
    ·rename_i h1
     simp only[AfO,beq_iff_eq,decide_eq_true_eq] at h1
     split
     ·rename_i h2
      simp only[AfO,decide_eq_true_eq] at h2
      refine ⟨by omega,by omega,by omega,fun i hi=>?_⟩
      rcases (by omega:i=0∨i=1∨i=2∨i=3) with rfl | rfl | rfl | rfl
      ·rw[AfQ];omega
      ·omega
      ·omega
      ·omega
     ·exact ⟨by simp[Utf8.runeError],by omega,by omega,one⟩
    ·exact ⟨by simp[Utf8.runeError],by omega,by omega,one⟩
end Go.Proofs.YtmidaophnbdcdaaGreatDoor
namespace Go.Proofs.YtmidaophnbdcdaaGreatDoor
open Go Go.Proofs Go.Abs Go.RowKit Go.Shelf Go.Lib
variable {G:Ad}
theorem Fc {w:World} {b o:Nat} {v:Value} {c:Array Value} {T:TypeId} {fz:Nat × Nat} (h:w.heap[b]?=some (.cells c T fz)):(w.setCell ⟨b,o,none⟩ v).heap[b]?=some (.cells (c.setIfInBounds o v) T fz):=by
 show (w.heap.modify b _)[b]?=_
 rw[AfS,if_pos rfl,h]
 rfl
theorem DE {w:World} {b o k:Nat} {v:Value} (h:k≠b):(w.setCell ⟨b,o,none⟩ v).heap[k]?=w.heap[k]?:=by
 show (w.heap.modify b _)[k]?=_
 rw[AfS,if_neg (Ne.symm h)]
theorem FT {w:World} {a:Addr} {v:Value}:(w.setCell a v).heap.size=w.heap.size:=by simp[World.setCell]
structure BldW (T e:TypeId) (b:Nat) (v:Value) (l:List Value) (w w':World):Prop where
 os:w'.os=w.os
 tape:w'.tape=w.tape
 output:w'.output=w.output
 size:w.heap.size≤w'.heap.size
 keep:∀ k,k<w.heap.size→k≠b→some k≠v.ownBlock→w'.heap[k]?=w.heap[k]?
 left:∃ v',w'.heap[b]?=some (.cells #[.pointer (some ⟨b,0,none⟩),v'] T (0,0))∧w'.ownsRow 0 e 1 v' l.length l∧(v'.ownBlock=v.ownBlock∨∀ g,v'.ownBlock=some g→w.heap.size≤g)
theorem Vl {P:Program} {ρ:Ren} (L:Lays.n240 P ρ) (X:Builder.X72 P ρ) (b:Nat) (used:Bool) (v:Value) (w:World) (hbk:w.heap[b]?=some (.cells #[.pointer (if used then some ⟨b,0,none⟩ else none),v] (ρ.t 72) (0,0))) :
  Calls P (ρ.f 240) #[.pointer (some ⟨b,0,none⟩)] w fun e w'=>e=.returned (.tuple #[])∧w'.os=w.os∧w'.tape=w.tape∧w'.output=w.output∧w'.heap.size=w.heap.size∧(∀ k,k≠b→w'.heap[k]?=w.heap[k]?) ∧
   w'.heap[b]?=some (.cells #[.pointer (some ⟨b,0,none⟩),v] (ρ.t 72) (0,0)):=by
 have c0:w.cell? ⟨b,0,none⟩=some (.pointer (if used then some ⟨b,0,none⟩ else none)):=by rw[Lib.cell_of_heap hbk];rfl
 cases used
 ·refine (Any.Builder_copyCheck_fresh L X b w c0 (by simp[World.shape?,hbk]) (Lib.frozen_of_heap hbk 0)).mono ?_
  rintro e w' ⟨rfl,rfl⟩
  exact ⟨rfl,rfl,rfl,rfl,FT,fun k hk=>DE hk,by rw[Fc hbk];rfl⟩
 ·refine (Any.Builder_copyCheck_used L X b w c0).mono ?_
  rintro e w' ⟨rfl,rfl⟩
  exact ⟨rfl,rfl,rfl,rfl,rfl,fun _ _=>rfl,hbk⟩
theorem Xo {T e:TypeId} {b:Nat} {v:Value} {l:List Value} {w w1:World} (hown:w.ownsRow 0 e 1 v l.length l) (hne:v.ownBlock≠some b) (ho:∀ k,k≠b→w1.heap[k]?=w.heap[k]?):w1.ownsRow 0 e 1 v l.length l:=by
 refine ⟨hown.1,?_⟩
 rcases hown.2 with h | ⟨g,cap,cur,rfl,h1,h2,h3⟩
 ·exact .inl h
 ·exact .inr ⟨g,cap,cur,rfl,h1,(ho g (fun e=>hne (by rw[e];rfl))).trans h2,h3⟩
theorem S7 {P:Program} {w:World} (t ty e:TypeId) (i:TypeInfo) (ht:P.underlying t=some (.slice e)) (hi:P.info? e=some i) (hz:i.zero=some (.int .u8 0))
  (hsize:i.size=1) (hby:i.bytes=1) (v:Value) (n:Nat) (xs:List Value) (hown:w.ownsRow 0 e 1 v n xs) (ad:Addr) (k:Nat) (u:Value) (hu:w.cell? ad=some u) (h1:u.oneCell'=true) (hbytes:n+1≤140737488355328) :
  ∃ v' w',(Builtin.append_ #[t,t] ty #[v,.slice (some ad) 1 k]).run P w=.ok v' w'∧w'.ownsRow 0 e 1 v' (n+1) (xs++[u])∧w.grownBy w' v.ownBlock∧(v'.ownBlock=v.ownBlock∨∀ g,v'.ownBlock=some g→w.heap.size≤g):=by
 have hnews:∀ j x,[u][j]?=some x→w.cell? (ad.add j)=some x:=by
  intro j x hj
  match j,hj with
  | 0,hj=>simp at hj;subst hj;simpa[Addr.add] using hu
 have hone:∀ x∈[u],x.oneCell'=true:=by intro x hx;simp at hx;subst hx;exact h1
 have h63:n+1≤maxLen:=by unfold maxLen;omega
 obtain ⟨v',w',hr,h2,h3,h4⟩:=run_append_own (P:=P) w 0 t ty e i (.int .u8 0) 1 1 ht hi hz hsize hby rfl (by decide) v n xs hown ad 1 k [u] rfl hnews hone h63 (by omega) (Af5 _)
 refine ⟨v',w',hr,h2,h3,?_⟩
 have hxl:xs.length=n:=by simpa using hown.1
 rcases hown.2 with ⟨rfl,rfl⟩ | ⟨g,cap,cur,rfl,hbg,hg,hnc,hcm,hcs,htake⟩
 ·right
  intro g hgv
  obtain rfl:xs=[]:=AfW hxl
  obtain ⟨v2,w2,hr2,k2,_⟩:=run_append_own (P:=P) w w.heap.size t ty e i (.int .u8 0) 1 1 ht hi hz hsize hby rfl (by decide) (.slice none 0 0) 0 [] (World.ownsRow_nil w _ e 1) ad 1 k [u] rfl hnews hone h63 (by omega) (AdV _)
  rw[hr] at hr2
  cases hr2
  exact (k2.lt g hgv).1
 ·by_cases hroom:n+1≤cap
  ·left
   have hcs':cur.size=cap:=by simpa using hcs
   have hr2:=run_append_room (P:=P) w t ty e i ht hi g n cap cur hg ad 1 k [u] (by rw[hsize];rfl) hnews hone hroom (by rw[hsize];simp;omega)
   rw[hr] at hr2
   cases hr2
   rfl
  ·right
   intro g' hg'
   have holds:∀ j u,xs[j]?=some u→w.cell? ((⟨g,0,none⟩:Addr).add j)=some u:=hown.cells (g:=g) rfl
   have hr2:=run_append_grow (P:=P) w t ty e i (.int .u8 0) ht hi hz ⟨g,0,none⟩ n cap xs (by rw[hsize];simpa using hxl) holds ad 1 k [u] (by rw[hsize];rfl) hnews (by omega) (by omega) (by rw[hby];exact growslice_fits (by omega) (by omega))
   rw[hr] at hr2
   cases hr2
   simp[Value.ownBlock] at hg'
   omega
theorem Ie {P:Program} {w:World} {ops:Array Oper} {rest:List Oper} {o:Oper} {a:Act} {Q:Exit→Act→World→Prop} (hgd:o.guard=none) (sl x:Operand) (t:TypeId)
  (ho:o.op=.call {callee:=.builtin .append,args:=#[sl,x],argTypes:=#[t,t]})
  (e:TypeId) (i:TypeInfo) (ht:P.underlying t=some (.slice e)) (hi:P.info? e=some i) (hz:i.zero=some (.int .u8 0))
  (hsize:i.size=1) (hby:i.bytes=1) (v:Value) (n:Nat) (xs:List Value) (hs:a.eval sl=v) (hown:w.ownsRow 0 e 1 v n xs) (ad:Addr) (k:Nat) (u:Value) (hx:a.eval x=.slice (some ad) 1 k) (hu:w.cell? ad=some u) (h1:u.oneCell'=true)
  (hbytes:n+1≤140737488355328)
  (h:∀ v' w',w'.ownsRow 0 e 1 v' (n+1) (xs++[u])→w.grownBy w' v.ownBlock→(v'.ownBlock=v.ownBlock∨∀ g,v'.ownBlock=some g→w.heap.size≤g)→wpList P ops Q rest (a.put o.dst v') w'):wpList P ops Q (o::rest) a w:=by
 refine wpList_plain hgd fun K hK=>?_
 obtain ⟨v',w',hr,h2,h3,h4⟩:=S7 (P:=P) (w:=w) t o.type e i ht hi hz hsize hby v n xs hown ad k u hu h1 hbytes
 unfold Oper.wp execOp
 simp only[ho,resolve,invoke,builtin,Sem.run_bind,Sem.run_pure,Result.andThen_ok,List.map_toArray,AdZ,AfP,hs,hx,hr]
 exact hK _ _ (h v' w' h2 h3 h4)
theorem I8 (w:World) (o:Obj) (k:Nat) (h:k<w.heap.size):(w.alloc o).heap[k]?=w.heap[k]?:=by
 show (w.heap.push o)[k]?=_
 rw[Array.getElem?_push]
 split
 ·omega
 ·rfl
theorem MB {P:Program} {ρ:Ren} (L:Lays.n167 P ρ) (X:Builder.Extra P ρ) (b:Nat) (used:Bool) (v:Value) (l:List Value) (c:Int) (w:World)
  (hbk:w.heap[b]?=some (.cells #[.pointer (if used then some ⟨b,0,none⟩ else none),v] (ρ.t 72) (0,0))) (hown:w.ownsRow 0 (ρ.t 5) 1 v l.length l) (hne:v.ownBlock≠some b) (hlen:l.length+1≤140737488355328) :
  Calls P (ρ.f 167) #[.pointer (some ⟨b,0,none⟩),.int .u8 c] w fun e w'=>e=.returned .nilIface∧BldW (ρ.t 72) (ρ.t 5) b v (l++[.int .u8 c]) w w':=by
 obtain ⟨i0,hi,hz0,hz1,hz2⟩:=info_parts X.infoByte
 have mixed:=L.mixed
 have t72:=L.t72;have a72:=L.a72;have z72:=L.z72;have v72:=L.v72;have u72:=run_underlying L.t72
 have t70:=L.t70;have a70:=L.a70;have z70:=L.z70;have v70:=L.v70;have u70:=run_underlying L.t70
 have t5:=L.t5;have a5:=L.a5;have z5:=L.z5;have v5:=L.v5;have u5:=run_underlying L.t5
 have t37:=L.t37;have a37:=L.a37;have z37:=L.z37;have v37:=L.v37;have u37:=run_underlying L.t37
 have t9:=L.t9;have a9:=L.a9;have z9:=L.z9;have v9:=L.v9;have u9:=run_underlying L.t9
 have t4:=L.t4;have a4:=L.a4;have z4:=L.z4;have v4:=L.v4;have u4:=run_underlying L.t4
 have t164:=L.t164;have a164:=L.a164;have z164:=L.z164;have v164:=L.v164;have u164:=run_underlying L.t164
 have e240:∀ args w,(callFunc (ρ.f 240) args).run P w=.ok (.enter (ρ.f 240) args) w:=enters_of L.f240 (by kernel_rfl) rfl
 have cc:=Vl {L with} X.toX72 b used v w hbk
 go_enter L.f167,Body.n167_ntmps ρ
 go_wp2_with (go_at_fn (ρ.f 240);refine cc.mono ?_)
 rintro e w1 ⟨rfl,q1,q2,q3,q4,q5,hb1⟩
 have hown1:w1.ownsRow 0 (ρ.t 5) 1 v l.length l:=Xo (T:=ρ.t 72) hown hne q5
 clear cc hown
 have hlt:b<w1.heap.size:=(Af2.1 hb1).1
 have c0:w1.cell? ⟨b,0,none⟩=some (.pointer (some ⟨b,0,none⟩)):=by rw[Lib.cell_of_heap hb1];rfl
 have c1:w1.cell? ⟨b,1,none⟩=some v:=by rw[Lib.cell_of_heap hb1];rfl
 go_wp2_with (at_builtin;refine Ie rfl _ _ (ρ.t 37) rfl (ρ.t 5) i0 L.t37 hi hz0 hz1 hz2 _ _ _ rfl (hown1.alloc _) ⟨w.heap.size,0,none⟩ 1 (.int .u8 c) rfl ?c1 ?c2 ?c4 ?_)
 case c1=>rw[←q4];simp
 case c2=>rfl
 case c4=>omega
 intro v' w2 hown' hgrow hor
 have hb2:w2.heap[b]?=some (.cells #[.pointer (some ⟨b,0,none⟩),v] (ρ.t 72) (0,0)):=by
  rw[hgrow.block b (by simp;omega) (fun e=>hne e.symm),I8 w1 _ b hlt]
  exact hb1
 have d0:w2.cell? ⟨b,0,none⟩=some (.pointer (some ⟨b,0,none⟩)):=by rw[Lib.cell_of_heap hb2];rfl
 have d1:w2.cell? ⟨b,1,none⟩=some v:=by rw[Lib.cell_of_heap hb2];rfl
 have f1:w2.frozen? ⟨b,1,none⟩=false:=Lib.frozen_of_heap hb2 1
 obtain ⟨ao,n',cap,rfl⟩:∃ ao n' cap,v'=.slice ao n' cap:=by
  rcases hown'.2 with ⟨hv,_⟩ | ⟨g,cap,cur,hv,_⟩
  ·exact ⟨_,_,_,hv⟩
  ·exact ⟨_,_,_,hv⟩
 go_wp2
 go_ret
 refine ⟨rfl,hgrow.os.trans q1,hgrow.tape.trans q2,hgrow.output.trans q3,?_,fun k hk h1 h2=>?_,.slice ao n' cap,?_,?_,?_⟩
 ·rw[FT];have:=hgrow.size;first | omega | (simp at this;omega)
 ·rw[DE h1,hgrow.block k (by simp;omega) h2,I8 w1 _ k (by omega),q5 k h1]
 ·rw[Fc hb2];rfl
 ·rw[show (l++[Value.int .u8 c]).length=l.length+1 by simp]
  have hnb:Value.ownBlock (.slice ao n' cap)≠some b:=by
   intro e
   rcases hor with h | h
   ·rw[h] at e;exact hne e
   ·have:=h b e;first | omega | (simp at this;omega)
  refine ⟨hown'.1,?_⟩
  rcases hown'.2 with h | ⟨g,cp,cur,e1,k1,k2,k3⟩
  ·exact .inl h
  ·refine .inr ⟨g,cp,cur,e1,k1,?_,k3⟩
   rw[DE (fun e=>hnb (by rw[e1,←e];rfl))]
   exact k2
 ·rcases hor with h | h
  ·exact .inl h
  ·exact .inr fun g hg=>by have:=h g hg;first | omega | (simp at this;omega)
structure ZJ (v:Value) (w w':World):Prop where
 os:w'.os=w.os
 tape:w'.tape=w.tape
 output:w'.output=w.output
 size:w.heap.size≤w'.heap.size
 keep:∀ k,k<w.heap.size→some k≠v.ownBlock→w'.heap[k]?=w.heap[k]?
theorem ZJ.of {v:Value} {w w':World} (h:Below w.heap.size w w'):ZJ v w w':=⟨h.os,h.tape,h.output,h.size,fun k hk _=>h.block k hk⟩
theorem SZ {P:Program} {ρ:Ren} (L:Lays.n169 P ρ) (X:Builder.Extra P ρ) (b:Nat) (p v:Value) (l:List UInt8) (w:World)
  (hbk:w.heap[b]?=some (.cells #[p,v] (ρ.t 72) (0,0))) (hown:w.ownsRow 0 (ρ.t 5) 1 v l.length (Lib.byteCells l)) :
  Calls P (ρ.f 169) #[.pointer (some ⟨b,0,none⟩)] w fun e w'=>e=.returned (.string ⟨l.toArray⟩)∧ZJ v w w':=by
 by_cases h0:l=[]
 ·subst h0
  rcases hown.2 with ⟨rfl,_⟩ | ⟨g,cap,cur,rfl,hbg,hg,hnc,hcm,hcs,htake⟩
  ·refine (Any.Builder_String_nil L X w.heap.size b p w hbk).mono ?_
   rintro e w' ⟨rfl,hb⟩
   exact ⟨rfl,.of hb⟩
  ·by_cases hc:cap=0
   ·subst hc
    refine (Any.Builder_String_noroom L X w.heap.size b g p cur w (AdV _) hbk hg).mono ?_
    rintro e w' ⟨rfl,hb⟩
    exact ⟨rfl,.of hb⟩
   ·refine (Any.Builder_String_room L X w.heap.size b g cap p w hc hbk).mono ?_
    rintro e w' ⟨rfl,hb⟩
    exact ⟨rfl,.of hb⟩
 ·have hl0:l.length≠0:=by simpa using h0
  obtain ⟨g,cap,cur,rfl,hbg,hg,hnc,hcm,hcs,htake⟩:∃ g cap cur,v=.slice (some ⟨g,0,none⟩) l.length cap∧0≤g∧w.heap[g]?=some (.cells cur (ρ.t 5) (0,0))∧l.length≤cap∧cap≤maxLen∧cur.size=cap*1∧cur.toList.take (l.length*1)=Lib.byteCells l:=by
   rcases hown.2 with ⟨_,hz⟩ | ⟨g,cap,cur,hv,r⟩
   ·exact absurd hz hl0
   ·exact ⟨g,cap,cur,hv,r⟩
  have c1:w.drew.cell? ⟨b,1,none⟩=some (.slice (some ⟨g,0,none⟩) l.length cap):=by
   have:w.drew.heap[b]?=some (.cells #[p,.slice (some ⟨g,0,none⟩) l.length cap] (ρ.t 72) (0,0)):=hbk
   rw[Lib.cell_of_heap this];rfl
  have hSD:(Builtin.unsafeSliceData_ #[(ρ.t 37)] (ρ.t 127) #[.slice (some ⟨g,0,none⟩) l.length cap]).run P w.drew=.ok (.pointer (some ⟨g,0,none⟩)) w.drew :=
   Lib.run_unsafeSliceData_row _ _ _ _ _ _ (by omega)
  have hUS:(Builtin.unsafeString_ #[(ρ.t 127),(ρ.t 3)] (ρ.t 9) #[.pointer (some ⟨g,0,none⟩),.int .i64 l.length]).run P w.drew=.ok (.string ⟨l.toArray⟩) (w.drew.freeze ⟨g,0,none⟩ l.length):=by
   refine Lib.run_unsafeString_row w.drew (ρ.t 127) (ρ.t 3) (ρ.t 9) (ρ.t 5) L.t127 X.cellsByte g cur.size (by have hg':w.drew.heap[g]?=some (.cells cur (ρ.t 5) (0,0)):=hg;simp[World.shape?,hg']) l h0 (by omega) (by unfold maxLen at hcm;omega) ?_
   intro j x hx
   exact hown.cells (g:=g) rfl j (.int .u8 x.toNat) (by simp[Lib.byteCells,hx])
  have mixed:=L.mixed
  have t72:=L.t72;have a72:=L.a72;have z72:=L.z72;have v72:=L.v72;have u72:=run_underlying L.t72
  have t70:=L.t70;have a70:=L.a70;have z70:=L.z70;have v70:=L.v70;have u70:=run_underlying L.t70
  have t37:=L.t37;have a37:=L.a37;have z37:=L.z37;have v37:=L.v37;have u37:=run_underlying L.t37
  have t127:=L.t127;have a127:=L.a127;have z127:=L.z127;have v127:=L.v127;have u127:=run_underlying L.t127
  have t3:=L.t3;have a3:=L.a3;have z3:=L.z3;have v3:=L.v3;have u3:=run_underlying L.t3
  have t9:=L.t9;have a9:=L.a9;have z9:=L.z9;have v9:=L.v9;have u9:=run_underlying L.t9
  have t5:=X.t5;have a5:=X.a5;have z5:=X.z5;have v5:=X.v5;have u5:=run_underlying X.t5
  have fin:ZJ (.slice (some ⟨g,0,none⟩) l.length cap) w (w.drew.freeze ⟨g,0,none⟩ l.length):=by
   unfold World.freeze
   rw[if_neg hl0]
   refine ⟨rfl,rfl,rfl,by simp,fun k hk hne=>?_⟩
   show (w.heap.modify g _)[k]?=_
   rw[AfS,if_neg (fun e=>hne (by rw[←e];rfl))]
  go_enter L.f169,Body.n169_ntmps ρ
  go_wp2
  go_region_o
  all_goals (go_wp2;go_ret;exact ⟨rfl,fin⟩)
theorem ptr_inv {h:Ag} {ρ:Abs.Place} {u:Value} {g S:Nat} (r:R h ρ u (.ptr 0 0)) (hρ:ρ 0=some (g,S)):u=.pointer (some ⟨g,0,none⟩):=by
 cases r with
 | ptr b off g' S' h1=>rw[hρ] at h1;cases h1;rfl
theorem ZB {h:Ag} {ρ:Abs.Place} {H:List Aa} {w w':World} {T e:TypeId} {g S:Nat} {v:Value} {l:List UInt8} (s:Sim G h ρ (hp H) w) (hm:0<H.length) (hρ0:ρ 0=some (g,S)) (hh:∀ j,h g j=none)
  (hv:∀ g1,v.ownBlock=some g1→(∃ i S1,ρ i=some (g1,S1))∧g1≠g∧∀ j,h g1 j=none) (bw:BldW T e g v (byteCells l) w w') :
  ∃ ρ',Sim G h ρ' (hp (.bld T true l.length (some H.length)::(AcB (H.length-1) .dead++[.buf e l]))) w'∧AU h ρ w h ρ' w':=by
 obtain ⟨v',b1,b2,b3⟩:=bw.left
 have bl:(byteCells l).length=l.length:=byteCells_length l
 rw[bl] at b2
 have hgl:g<w.heap.size:=(s.dom 0 g S hρ0).1
 have hρm:ρ H.length=none:=by
  cases hx:ρ H.length with
  | none=>rfl
  | some x=>obtain ⟨_,b,hb⟩:=s.dom _ x.1 x.2 hx;simp[hp] at hb
 have hkept:∀ b o u,h b o=some u→w'.heap[b]?=w.heap[b]?:=by
  intro b o u hbu
  refine bw.keep b (s.held_lt hbu) (fun e=>by rw[e,hh] at hbu;cases hbu) (fun e=>?_)
  have:=(hv b e.symm).2.2 o
  rw[hbu] at this;cases this
 have hprom:∀ b o u,h b o=some u→w'.cell? ⟨b,o,none⟩=some u:=by
  intro b o u hbu
  have:=s.prom b o u hbu
  rw[←this]
  simp[World.cell?,hkept b o u hbu]
 have key:∃ ρ':Abs.Place,ρ.le ρ'∧(∀ i g2 S2,ρ' i=some (g2,S2)→i=H.length∨ρ i=some (g2,S2))∧(∀ i,i≠H.length→ρ' i=ρ i)∧RT ρ' v' l.length (some H.length)∧Ft h ρ' w' H.length (.buf e l) ∧
   (∀ g2 S2,ρ' H.length=some (g2,S2)→g2≠g∧g2<w'.heap.size∧((∃ i S1,ρ i=some (g2,S1))∨w.heap.size≤g2)):=by
  rcases b2.2 with ⟨rfl,h0⟩ | ⟨g2,cap,cur,rfl,_,k1,k2,k3,k4,k5⟩
  ·refine ⟨ρ,Place.le_refl _,fun i g2 S2 e=>.inr e,fun _ _=>rfl,.inl ⟨rfl,h0⟩,.inl ⟨hρm,AfW h0⟩,fun g2 S2 e=>by rw[hρm] at e;cases e⟩
  ·have hg2:g2≠g∧((∃ i S1,ρ i=some (g2,S1))∨w.heap.size≤g2)∧∀ j,h g2 j=none:=by
    rcases b3 with b3 | b3
    ·obtain ⟨c1,c2,c3⟩:=hv g2 b3.symm
     exact ⟨c2,.inl c1,c3⟩
    ·have:=b3 g2 rfl
     refine ⟨by omega,.inr this,fun j=>?_⟩
     cases hj:h g2 j with
     | none=>rfl
     | some u=>have:=s.held_lt hj;omega
   have hlt:g2<w'.heap.size:=(Af2.1 k1).1
   refine ⟨D9 ρ H.length (g2,cap),fun i x e=>?_,fun i g3 S3 e=>?_,fun i hi=>by simp[D9,hi],.inr ⟨g2,cap,rfl,Ao _ _ _,k2⟩,.inr ⟨g2,cap,cur,Ao _ _ _,k1,by simpa using k4,k3,by omega,fun j x hx=>?_,hg2.2.2⟩,fun g3 S3 e=>?_⟩
   ·by_cases hi:i=H.length
    ·subst hi;rw[hρm] at e;cases e
    ·simp[D9,hi,e]
   ·by_cases hi:i=H.length
    ·exact .inl hi
    ·simp[D9,hi] at e;exact .inr e
   ·have hj:j<l.length:=(AdW.1 hx).1
    have h1:(cur.toList.take (l.length*1))[j]?=(byteCells l)[j]?:=by rw[k5]
    rw[AfZ,if_pos (by omega)] at h1
    rw[←AfT,h1]
    simp[byteCells,hx]
   ·rw[Ao] at e
    cases e
    exact ⟨hg2.1,hlt,hg2.2.1⟩
 obtain ⟨ρ',p1,p2,p3,p4,p5,p6⟩:=key
 have hρ0':ρ' 0=some (g,S):=p1 _ _ hρ0
 have hlen:(Aa.bld T true l.length (some H.length)::(AcB (H.length-1) Aa.dead++[.buf e l])).length=H.length+1:=by simp;omega
 have hat:∀ i b,(Aa.bld T true l.length (some H.length)::(AcB (H.length-1) Aa.dead++[.buf e l]))[i]?=some b→(i=0∧b=.bld T true l.length (some H.length))∨(i=H.length∧b=.buf e l)∨(0<i∧i<H.length∧b=.dead):=by
  intro i b hi
  rcases i with _ | i
  ·simp at hi;exact .inl ⟨rfl,hi.symm⟩
  ·rw[List.getElem?_cons_succ] at hi
   by_cases hc:i<H.length-1
   ·rw[Af3 (by simpa using hc),List.getElem?_replicate,if_pos hc] at hi
    cases hi
    exact .inr (.inr ⟨by omega,by omega,rfl⟩)
   ·rw[List.getElem?_append_right (by simpa using hc)] at hi
    have:i-(AcB (H.length-1) Aa.dead).length=0:=by
     have:=(AdW.1 hi).1
     simp at this ⊢;omega
    rw[this] at hi
    simp at hi this
    exact .inr (.inl ⟨by omega,hi.symm⟩)
 have hex:∀ i,i<H.length+1→∃ b,hp (Aa.bld T true l.length (some H.length)::(AcB (H.length-1) Aa.dead++[.buf e l])) i=some b:=by
  intro i hi
  refine ⟨_,AdU (by rw[hlen];exact hi)⟩
 refine ⟨ρ',⟨hprom,s.glob,fun i b hb=>?_,fun i g2 S2 e2=>?_,fun i j g2 S2 S2' e1 e2 l1 l2=>?_⟩,⟨bw.os,bw.tape,bw.output,bw.size,fun k hk hn=>?_,Ag.le_refl _,fun _ _ _ _=>rfl,p1,fun i g2 S2 e2=>?_⟩⟩
 ·rcases hat i b hb with ⟨rfl,rfl⟩ | ⟨rfl,rfl⟩ | ⟨_,_,rfl⟩
  ·exact ⟨g,S,v',hρ0',b1,p4,hh⟩
  ·exact p5
  ·trivial
 ·rcases p2 i g2 S2 e2 with rfl | e3
  ·exact ⟨(p6 _ _ e2).2.1,hex _ (by omega)⟩
  ·obtain ⟨c1,b,c2⟩:=s.dom i g2 S2 e3
   have:i<H.length:=(AdW.1 c2).1
   exact ⟨by have:=bw.size;omega,hex _ (by omega)⟩
 ·have lv:∀ i,Bk (hp (Aa.bld T true l.length (some H.length)::(AcB (H.length-1) Aa.dead++[.buf e l]))) i→i=0∨i=H.length:=by
   intro i ⟨b,hb,hne⟩
   rcases hat i b hb with ⟨h1,_⟩ | ⟨h1,_⟩ | ⟨_,_,h1⟩
   ·exact .inl h1
   ·exact .inr h1
   ·exact absurd h1 hne
  rcases lv i l1 with rfl | rfl<;>rcases lv j l2 with rfl | rfl
  ·rfl
  ·rw[hρ0'] at e1;cases e1;exact absurd rfl (p6 _ _ e2).1
  ·rw[hρ0'] at e2;cases e2;exact absurd rfl (p6 _ _ e1).1
  ·rfl
 ·refine bw.keep k hk (fun e=>hn 0 S (e▸hρ0)) (fun e=>?_)
  obtain ⟨⟨i,S1,c⟩,_⟩:=hv k e.symm
  exact hn i S1 c
 ·rcases p2 i g2 S2 e2 with rfl | e3
  ·exact (p6 _ _ e2).2.2
  ·exact .inl ⟨i,S2,e3⟩
def Tryz.laysString_ren:Go.Shelf.Ren:=⟨fun | 169=>40 | n=>n,fun | 70=>77 | 9=>9 | 0=>0 | 72=>79 | 37=>22 | 127=>126 | 3=>3 | 5=>5 | n=>n,fun | n=>n⟩
theorem Tryz.laysString:Go.Proofs.Lays.n169 TP Tryz.laysString_ren where
 mixed:=by kernel_rfl
 f169:=Tryz.func40.trans (congrArg some (by kernel_rfl))
 t0:=Tryz.underlying0
 a0:=Tryz.isAgg0
 z0:=Tryz.sizeOf0
 v0:=Tryz.zeroValue0
 t3:=Tryz.underlying3
 a3:=Tryz.isAgg3
 z3:=Tryz.sizeOf3
 v3:=Tryz.zeroValue3
 t9:=Tryz.underlying9
 a9:=Tryz.isAgg9
 z9:=Tryz.sizeOf9
 v9:=Tryz.zeroValue9
 t37:=Tryz.underlying22
 a37:=Tryz.isAgg22
 z37:=Tryz.sizeOf22
 v37:=Tryz.zeroValue22
 t70:=Tryz.underlying77
 a70:=Tryz.isAgg77
 z70:=Tryz.sizeOf77
 v70:=Tryz.zeroValue77
 t72:=Tryz.underlying79
 a72:=Tryz.isAgg79
 z72:=Tryz.sizeOf79
 v72:=Tryz.zeroValue79
 t127:=Tryz.underlying126
 a127:=Tryz.isAgg126
 z127:=Tryz.sizeOf126
 v127:=Tryz.zeroValue126
theorem AaV:Builder.Extra TP Tryz.laysString_ren where
 sizeBuilder:=by kernel_rfl
 liesBuilder:=by kernel_rfl
 t5:=Tryz.underlying5
 a5:=Tryz.isAgg5
 z5:=Tryz.sizeOf5
 v5:=Tryz.zeroValue5
 infoByte:=by kernel_rfl
 cellsByte:=by kernel_rfl
 sizeByte:=by kernel_rfl
 neB5:=by decide
abbrev BL (used:Bool) (l:List UInt8):List Aa:=[.bld 79 used l.length (some 1),.buf 5 l]
theorem Xp {h:Ag} {ρ:Abs.Place} {w:World} {used:Bool} {l:List UInt8} {T e:TypeId} (s:Sim G h ρ (hp [.bld T used l.length (some 1),.buf e l]) w) :
  ∃ g S v,ρ 0=some (g,S)∧(∀ j,h g j=none)∧w.heap[g]?=some (.cells #[.pointer (if used then some ⟨g,0,none⟩ else none),v] T (0,0))∧w.ownsRow 0 e 1 v l.length (byteCells l) ∧
   ∀ g1,v.ownBlock=some g1→(∃ i S1,ρ i=some (g1,S1))∧g1≠g∧∀ j,h g1 j=none:=by
 obtain ⟨g,S,v,h1,h2,h3,h4⟩:=s.blk 0 _ rfl
 refine ⟨g,S,v,h1,h4,h2,?_⟩
 have bl:(byteCells l).length=l.length*1:=by rw[byteCells_length,Nat.mul_one]
 rcases h3 with ⟨rfl,h0⟩ | ⟨g1,cap,rfl,h5,h6⟩
 ·exact ⟨⟨bl,.inl ⟨rfl,h0⟩⟩,fun g1 e=>by cases e⟩
 ·rcases s.blk 1 _ rfl with ⟨k1,_⟩ | ⟨g2,S2,c,k1,k2,k3,k4,k5,k6,k7⟩
  ·rw[h5] at k1;cases k1
  ·rw[h5] at k1;cases k1
   refine ⟨⟨bl,.inr ⟨g1,cap,c,rfl,Af5 _,k2,h6,k4,by omega,?_⟩⟩,fun g3 e=>?_⟩
   ·apply List.ext_getElem?
    intro j
    rw[AfZ]
    split
    ·rename_i hj
     have hj':j<l.length:=by omega
     rw[AfT,k6 j l[j] (AdU hj')]
     simp[byteCells,hj']
    ·rename_i hj
     rw[AfI (by rw[byteCells_length];omega)]
   ·have:g1=g3:=Option.some.inj e
    subst this
    refine ⟨⟨1,_,h5⟩,fun e=>?_,k7⟩
    subst e
    have:=s.inj 0 1 g1 _ _ h1 h5 ⟨_,rfl,by simp⟩ ⟨_,rfl,by simp⟩
    cases this
def Tryz.laysWriteByte_ren:Go.Shelf.Ren:=⟨fun | 167=>70 | n=>Tryz.laysReplaceAll_ren.f n,Tryz.laysReplaceAll_ren.t,Tryz.laysReplaceAll_ren.g⟩
theorem Tryz.laysWriteByte:Lays.n167 TP Tryz.laysWriteByte_ren :=
 {Tryz.laysReplaceAll with f167:=Tryz.func70.trans (congrArg some (by kernel_rfl)),t5:=Tryz.underlying5,a5:=Tryz.isAgg5,z5:=Tryz.sizeOf5,v5:=Tryz.zeroValue5}
theorem AaU:Builder.Extra TP Tryz.laysWriteByte_ren where
 sizeBuilder:=by kernel_rfl
 liesBuilder:=by kernel_rfl
 t5:=Tryz.underlying5
 a5:=Tryz.isAgg5
 z5:=Tryz.sizeOf5
 v5:=Tryz.zeroValue5
 infoByte:=by kernel_rfl
 cellsByte:=by kernel_rfl
 sizeByte:=by kernel_rfl
 neB5:=by decide
theorem KS (used:Bool) (l:List UInt8) (c:UInt8) (hl:l.length≤10000000000000) :
  Ctr TP G 70 [.ptr 0 0,.d (.int .u8 c.toNat)] (BL used l) .undef [.bld 79 true (l++[c]).length (some 2),.dead,.buf 5 (l++[c])]:=by
 refine ⟨go70,fun h ρ w vs s r=>?_⟩
 obtain ⟨v,u,rfl,hv,hu⟩:=r.inv2
 obtain ⟨g,S,vb,h1,h4,h2,h3,h5⟩:=Xp s
 rw[ptr_inv hv h1,hu.int_inv]
 have hne:vb.ownBlock≠some g:=fun e=>(h5 g e).2.1 rfl
 refine (MB Tryz.laysWriteByte AaU g used vb (byteCells l) c.toNat w h2 (by rw[byteCells_length];exact h3) hne (by rw[byteCells_length];omega)).mono ?_
 rintro e w' ⟨rfl,bw⟩
 obtain ⟨ρ',s1,s2⟩:=ZB (l:=l++[c]) s (by simp) h1 h4 h5 (by rw[byteCells_append];exact bw)
 exact ⟨_,h,ρ',rfl,s1,.undef _,s2⟩
theorem Pv (used:Bool) (l:List UInt8):Ctr TP G 40 [.ptr 0 0] (BL used l) (.d (S l)) [.dead,.dead]:=by
 refine ⟨go40,fun h ρ w vs s r=>?_⟩
 obtain ⟨v,rfl,hv⟩:=r.inv1
 obtain ⟨g,S,vb,h1,h4,h2,h3,h5⟩:=Xp s
 rw[ptr_inv hv h1]
 refine (SZ Tryz.laysString AaV g _ vb l w h2 h3).mono ?_
 rintro e w' ⟨rfl,hb⟩
 have hpr:∀ b o u,h b o=some u→w'.cell? ⟨b,o,none⟩=some u:=fun b o u e=>by
  rw[←s.prom b o u e]
  have:w'.heap[b]?=w.heap[b]?:=hb.keep b (s.held_lt e) (fun e2=>by have:=(h5 b e2.symm).2.2 o;rw[e] at this;cases this)
  simp[World.cell?,this]
 have st:AU h ρ w h ρ w':=⟨hb.os,hb.tape,hb.output,hb.size,fun k hk1 hn=>hb.keep k hk1 (fun e2=>by obtain ⟨⟨i,S1,c⟩,_⟩:=h5 k e2.symm;exact hn i S1 c),Ag.le_refl _,fun _ _ _ _=>rfl,Place.le_refl _,fun i g S e=>.inl ⟨i,S,e⟩⟩
 have hd:∀ i b,hp [Aa.dead,Aa.dead] i=some b→b=.dead:=by
  intro i b e
  rcases i with _ | _ | i<;>simp[hp] at e
  ·exact e.symm
  ·exact e.symm
 refine ⟨_,h,ρ,rfl,⟨hpr,s.glob,fun i b e=>by rw[hd i b e];trivial,fun i g S e=>?_,fun i j g S S' e1 e2 l1 l2=>?_⟩,.d _ _ (.str _),st⟩
 ·obtain ⟨c1,b,c2⟩:=s.dom i g S e
  have hi:i<2:=(AdW.1 c2).1
  refine ⟨by have:=hb.size;omega,.dead,?_⟩
  rcases (by omega:i=0∨i=1) with rfl | rfl<;>rfl
 ·obtain ⟨b,c1,c2⟩:=l1
  exact absurd (hd i b c1) c2
end Go.Proofs.YtmidaophnbdcdaaGreatDoor
namespace Go.Proofs.YtmidaophnbdcdaaGreatDoor
open Go Go.Proofs Go.Abs
variable {G:Ad}
def strs (l:List (List UInt8)):List D:=l.map fun s=>S s
theorem strs_length {l:List (List UInt8)}:(strs l).length=l.length:=by simp[strs]
theorem strs_unf {l:List (List UInt8)}:(strs l).map unf0=strs l:=by simp[strs,unf0]
theorem strs_getD {l:List (List UInt8)} {i:Nat} (h:i<l.length):(strs l).getD i .nilp=S (l.getD i []):=by
 simp[strs,AdT,h]
abbrev Ss (l:List (List UInt8)) (full:Bool):D:=.sl l.length full (strs l)
def wordsL:List (List UInt8):=[[97,110,110],[98,111,98],[99,121],[66,101,114,110],[85,108,109],[78,101,119,32,89,111,114,107],[121,111,114,107,32,110,101,119],[97,45,49],[98,45,50,50],[120],[122,195,188,114,105,99,104],[65,110,110],[98,111],[99,97,116],[98,97,116],[114,97,116]]
abbrev DiceM (t:List Int) (k:Nat):Aa:=.box [.d (.sl t.length false (Ax .u8 t)),.d (.int .i64 (min k t.length:Nat))]
def OkM (t:List Int):Prop:=t.length≤300∧∀ i,0≤t.getD i 0∧t.getD i 0≤255
theorem new_spec (t:List Int) (ht:t.length≤9223372036854775807):Ctr TP G 8 [.d (.sl t.length false (Ax .u8 t))] [] (.ptr 0 0) [DiceM (t.take 300) 0]:=by
 refine Ctr.body (M:=M0) Am Tryz.func8 rfl go8 ?_
 rcases Ae3 300 t.length with h | h
 ·have e:(t.take 300).length=300:=by rw[AfN];omega
  simp(maxSteps:=1000000)(disch:=(try simp only[awL]);omega)only[Tryz.f8,e,↓awU,awY,↓reduceIte,↓reduceDIte,↓Qe,Qu,Qv,Qw,Qx,Qy,Qz,QA,QB,QC,QD,QE,QF,QG,QH,QI,QK]
  exact ⟨[some 0],rfl,by simp,by simp[HW,BW,SW,AW];omega,.inl (by simp[AW])⟩
 ·have e:t.take 300=t:=Afs h
  simp(maxSteps:=1000000)(disch:=(try simp only[awL]);omega)only[Tryz.f8,e,↓awU,awY,↓reduceIte,↓reduceDIte,↓Qe,Qu,Qv,Qw,Qx,Qy,Qz,QA,QB,QC,QD,QE,QF,QG,QH,QI,QK]
  exact ⟨[some 0],rfl,by simp,by simp[HW,BW,SW,AW],.inl (by simp[AW,SW])⟩
def pk (t:List Int) (k:Nat) (n:Int):Int:=t.getD k 0 % n
theorem pk_range {t:List Int} {k:Nat} {n:Int} (h:0<n):0≤pk t k n∧pk t k n<n:=⟨Int.emod_nonneg _ (by omega),Int.emod_lt_of_pos _ h⟩
theorem pk_nat (t:List Int) (k:Nat) (n:Int) (h:0<n):∃ c:Nat,pk t k n=c∧(c:Int)<n:=⟨(pk t k n).toNat,by have:=@pk_range t k n h;omega,by have:=@pk_range t k n h;omega⟩
theorem pick_spec (t:List Int) (k:Nat) (n:Int) (ht:OkM t) (h0:0<n) (h1:n≤1000) :
  Ctr TP G 25 [.ptr 0 0,.d (.int .i64 n)] [DiceM t k] (.d (.int .i64 (pk t k n))) [DiceM t (k+1)]:=by
 obtain ⟨ht,htt⟩:=ht
 refine Ctr.body (M:=M0) Am Tryz.func25 rfl go25 ?_
 rcases Ae3 k t.length with h | h
 ·have e1:min k t.length=k:=by omega
  have e2:min (k+1) t.length=k+1:=by omega
  obtain ⟨b1,b2⟩:=htt k
  have e3:(t.getD k 0).tmod n=pk t k n:=Int.tmod_eq_emod_of_nonneg b1
  simp only[e1,e2,DiceM]
  simp(maxSteps:=1000000)(disch:=(try simp only[awL]);omega)only[Tryz.f25,e3,↓awU,awY,↓reduceIte,↓reduceDIte,↓Qe,Qu,Qv,Qw,Qx,Qy,Qz,QA,QB,QC,QD,QE,QF,QG,QH,QI,QK]
  refine ⟨by rfl,by rfl,?_⟩
  exact ⟨[some 0],rfl,by simp,by simp[HW,BW,SW,AW],.inl (by simp[AW,SW])⟩
 ·have e1:min k t.length=t.length:=by omega
  have e2:min (k+1) t.length=t.length:=by omega
  have e3:pk t k n=0:=by rw[pk,AdT,AfI h];simp
  simp only[e1,e2,e3,DiceM]
  simp(maxSteps:=1000000)(disch:=(try simp only[awL]);omega)only[Tryz.f25,↓awU,awY,↓reduceIte,↓reduceDIte,↓Qe,Qu,Qv,Qw,Qx,Qy,Qz,QA,QB,QC,QD,QE,QF,QG,QH,QI,QK]
  refine ⟨by rfl,?_⟩
  exact ⟨[some 0],rfl,by simp,by simp[HW,BW,SW,AW],.inl (by simp[AW,SW])⟩
theorem words_spec:Ctr TP G 52 [] [] (.d (Ss wordsL false)) []:=by
 refine Ctr.pure (M:=M0) Am Tryz.func52 rfl go52 ?_
 simp(maxSteps:=1000000)(disch:=(try simp only[awL]);omega)only[awS,Tryz.f52,↓awU,awY,↓reduceIte,↓reduceDIte,↓Qe,Qu,Qv,Qw,Qx,Qy,Qz,QA,QB,QC,QD,QE,QF,QG,QH,QI,QK]
 try rfl
abbrev Row:=List (List UInt8)
def ixF {α:Type} (p:α→Bool):List α→Int→Int
 | [],_=>-1
 | x::r,k=>if p x then k else ixF p r (k+1)
theorem G6 {α:Type} {p:α→Bool}:∀ (l:List α) (k:Int),0≤k→(0≤ixF p l k↔l.any p=true)
 | [],k,h=>by simp[ixF]
 | x::r,k,h=>by
   rw[ixF,Agg]
   cases hx:p x
   ·simpa using G6 r (k+1) (by omega)
   ·simpa using h
theorem LO {α:Type} {p:α→Bool} {l:List α} {i:Nat} {d:α} (h:i<l.length):ixF p (l.drop i) i=if p (l.getD i d) then (i:Int) else ixF p (l.drop (i+1)) (i+1:Nat):=by
 rw[List.drop_eq_getElem_cons h,ixF,AdT,AdU h];rfl
theorem EF {α:Type} {l:List α} {i:Nat} {d:α} (h:i<l.length):l.getD i d∈l:=by
 rw[AdT,AdU h];exact AfV h
theorem LT (f:FuncId) (p:List UInt8→Bool) (l:Row) (full:Bool) (hl:l.length≤1000000000) (hp:∀ s∈l,Ctr TP G f [.d (S s)] [] (.d (.bool (p s))) []) :
  Ctr TP G 146 [.d (Ss l full),.d (.fn (.func f) [] [])] [] (.d (.int .i64 (ixF p l 0))) []:=by
 refine Ctr.pure (M:=M0) Am Tryz.func146 rfl Aey ?_
 have sl:=@strs_length l
 simp(maxSteps:=1000000)(disch:=(try simp only[awL]);omega)only[sl,Tryz.f146,↓awU,awY,↓reduceIte,↓reduceDIte,↓Qe,Qu,Qv,Qw,Qx,Qy,Qz,QA,QB,QC,QD,QE,QF,QG,QH,QI,QK]
 refine Au.fr 131 (α:=Nat) (fun i=>l.length-i) (fun i=>[(8,.d (.int .i64 i))]) (fun _=>[]) (fun i=>i≤l.length∧ixF p l 0=ixF p (l.drop i) i) 0 ⟨Af5 _,rfl⟩ ?_ ?_
 ·exact ⟨[],rfl,by simp,by simp[sA,kA,SW,AW],by simp[HW,BW,SW,AW]⟩
 ·rintro i ⟨h1,h2⟩
  simp only[awK,Ad0,Ad1,reduceIte]
  rw[h2]
  rcases Ae3 i l.length with h | h
  ·have g:=strs_getD h
   rw[LO (d:=[]) h]
   simp(maxSteps:=1000000)(disch:=(try simp only[awL]);omega)only[sl,g,↓awU,awY,↓reduceIte,↓reduceDIte,↓Qe,Qu,Qv,Qw,Qx,Qy,Qz,QA,QB,QC,QD,QE,QF,QG,QH,QI,QK]
   refine Ab.pure (hp _ (EF h)) ?_
   cases hx:p (l.getD i [])
   ·simp(maxSteps:=1000000)(disch:=(try simp only[awL]);omega)only[↓awU,awY,↓reduceIte,↓reduceDIte,↓Qe,Qu,Qv,Qw,Qx,Qy,Qz,QA,QB,QC,QD,QE,QF,QG,QH,QI,QK]
    exact ⟨i+1,⟨h,rfl⟩,by simp only;omega,⟨[],rfl,by simp,by simp[sA,kA,SW,AW],by simp[HW,BW,SW,AW]⟩⟩
   ·simp(maxSteps:=1000000)(disch:=(try simp only[awL]);omega)only[↓awU,awY,↓reduceIte,↓reduceDIte,↓Qe,Qu,Qv,Qw,Qx,Qy,Qz,QA,QB,QC,QD,QE,QF,QG,QH,QI,QK]
  ·rw[Af7 h]
   simp(maxSteps:=1000000)(disch:=(try simp only[awL]);omega)only[↓awU,awY,↓reduceIte,↓reduceDIte,↓Qe,Qu,Qv,Qw,Qx,Qy,Qz,QA,QB,QC,QD,QE,QF,QG,QH,QI,QK]
   rfl
theorem I0 (f:FuncId) (p:List UInt8→Bool) (l:Row) (full:Bool) (hl:l.length≤1000000000) (hp:∀ s∈l,Ctr TP G f [.d (S s)] [] (.d (.bool (p s))) []) :
  Ctr TP G 105 [.d (Ss l full),.d (.fn (.func f) [] [])] [] (.d (.bool (l.any p))) []:=by
 refine Ctr.pure (M:=M0) Am Tryz.func105 rfl AeX ?_
 simp(maxSteps:=1000000)(disch:=(try simp only[awL]);omega)only[Tryz.f105,↓awU,awY,↓reduceIte,↓reduceDIte,↓Qe,Qu,Qv,Qw,Qx,Qy,Qz,QA,QB,QC,QD,QE,QF,QG,QH,QI,QK]
 refine Ab.of (LT f p l false hl hp) (by rfl) ?_
 have hi:=G6 (p:=p) l 0 (Int.le_refl _)
 generalize ixF p l 0=z at *
 rcases (by omega:0≤z∨z<0) with h | h
 ·rw[hi.1 h]
  simp(maxSteps:=1000000)(disch:=(try simp only[awL]);omega)only[↓awU,awY,↓reduceIte,↓reduceDIte,↓Qe,Qu,Qv,Qw,Qx,Qy,Qz,QA,QB,QC,QD,QE,QF,QG,QH,QI,QK]
 ·have:l.any p=false:=by cases hx:l.any p with
   | false=>rfl
   | true=>have:=hi.2 hx;omega
  rw[this]
  simp(maxSteps:=1000000)(disch:=(try simp only[awL]);omega)only[↓awU,awY,↓reduceIte,↓reduceDIte,↓Qe,Qu,Qv,Qw,Qx,Qy,Qz,QA,QB,QC,QD,QE,QF,QG,QH,QI,QK]
def T5:List UInt8:=[48,49,50,51,52,53,54,55,56,57,97,98,99,100,101,102,103,104,105,106,107,108,109,110,111,112,113,114,115,116,117,118,119,120,121,122]
def DO:List UInt8:=(Af0 100).flatMap fun n=>[UInt8.ofNat (48+n / 10),UInt8.ofNat (48+n % 10)]
theorem Ei:(([48,48,48,49,48,50,48,51,48,52,48,53,48,54,48,55,48,56,48,57,49,48,49,49,49,50,49,51,49,52,49,53,49,54,49,55,49,56,49,57,50,48,50,49,50,50,50,51,50,52]:List UInt8).append [50,53,50,54,50,55,50,56,50,57,51,48,51,49,51,50,51,51,51,52,51,53,51,54,51,55,51,56,51,57,52,48,52,49,52,50,52,51,52,52,52,53,52,54,52,55,52,56,52,57]).append (List.append [53,48,53,49,53,50,53,51,53,52,53,53,53,54,53,55,53,56,53,57,54,48,54,49,54,50,54,51,54,52,54,53,54,54,54,55,54,56,54,57,55,48,55,49,55,50,55,51,55,52] [55,53,55,54,55,55,55,56,55,57,56,48,56,49,56,50,56,51,56,52,56,53,56,54,56,55,56,56,56,57,57,48,57,49,57,50,57,51,57,52,57,53,57,54,57,55,57,56,57,57])=DO:=by decide +kernel
theorem De:DO.length=200:=by decide +kernel
def Cs (n:Nat):List UInt8:=if n<10 then [UInt8.ofNat (48+n)] else [UInt8.ofNat (48+n / 10),UInt8.ofNat (48+n % 10)]
theorem WM {n:Nat} (h:n<10):(T5.take (n+1)).drop n=Cs n:=by
 have:∀ n:Fin 10,(T5.take (n.val+1)).drop n.val=Cs n.val:=by decide
 exact this ⟨n,h⟩
theorem WL {n:Nat} (h1:10≤n) (h:n<100):(DO.take (n*2+2)).drop (n*2)=Cs n:=by
 have:∀ n:Fin 100,10≤n.val→(DO.take (n.val*2+2)).drop (n.val*2)=Cs n.val:=by decide +kernel
 exact this ⟨n,h⟩ h1
theorem Np (n:Nat):1≤(Cs n).length∧(Cs n).length≤2:=by unfold Cs;split<;>simp
theorem R3 (n:Nat) (h:n<100):Ctr TP G 160 [.d (.int .i64 n)] [] (.d (S (Cs n))) []:=by
 refine Ctr.pure (M:=M0) Am Tryz.func160 rfl Aeu ?_
 rcases Ae3 n 10 with h1 | h1
 ·rw[←WM h1]
  simp(maxSteps:=1000000)(disch:=(try simp only[awL]);omega)only[awS,Tryz.f160,↓awU,awY,↓reduceIte,↓reduceDIte,↓Qe,Qu,Qv,Qw,Qx,Qy,Qz,QA,QB,QC,QD,QE,QF,QG,QH,QI,QK]
  first | done | rfl
 ·rw[←WL h1 h]
  have e1:((n:Int)*2).toNat=n*2:=by omega
  have e2:((n:Int)*2+2).toNat=n*2+2:=by omega
  simp(maxSteps:=1000000)(disch:=(try simp only[awL]);omega)only[awS,Ei,De,e1,e2,Tryz.f160,↓awU,awY,↓reduceIte,↓reduceDIte,↓Qe,Qu,Qv,Qw,Qx,Qy,Qz,QA,QB,QC,QD,QE,QF,QG,QH,QI,QK]
  first | done | rfl
theorem GB (n:Nat) (h:n<100):Ctr TP G 121 [.d (.int .i64 n),.d (.int .i64 10)] [] (.d (S (Cs n))) []:=by
 refine Ctr.pure (M:=M0) Am Tryz.func121 rfl Z1 ?_
 simp(maxSteps:=1000000)(disch:=(try simp only[awL]);omega)only[awS,Tryz.f121,↓awU,awY,↓reduceIte,↓reduceDIte,↓Qe,Qu,Qv,Qw,Qx,Qy,Qz,QA,QB,QC,QD,QE,QF,QG,QH,QI,QK]
 refine Ab.pure (R3 n h) ?_
 simp(maxSteps:=1000000)(disch:=(try simp only[awL]);omega)only[awS,↓awU,awY,↓reduceIte,↓reduceDIte,↓Qe,Qu,Qv,Qw,Qx,Qy,Qz,QA,QB,QC,QD,QE,QF,QG,QH,QI,QK]
 first | done | rfl
theorem SB (n:Nat) (h:n<100):Ctr TP G 93 [.d (.int .i64 n)] [] (.d (S (Cs n))) []:=by
 refine Ctr.pure (M:=M0) Am Tryz.func93 rfl go93 ?_
 simp(maxSteps:=1000000)(disch:=(try simp only[awL]);omega)only[awS,Tryz.f93,↓awU,awY,↓reduceIte,↓reduceDIte,↓Qe,Qu,Qv,Qw,Qx,Qy,Qz,QA,QB,QC,QD,QE,QF,QG,QH,QI,QK]
 refine Ab.pure (GB n h) ?_
 simp(maxSteps:=1000000)(disch:=(try simp only[awL]);omega)only[awS,↓awU,awY,↓reduceIte,↓reduceDIte,↓Qe,Qu,Qv,Qw,Qx,Qy,Qz,QA,QB,QC,QD,QE,QF,QG,QH,QI,QK]
 first | done | rfl
theorem UT (n:Nat) (h:n<100):Ctr TP G 51 [.d (.int .i64 n)] [] (.d (S (Cs n))) []:=by
 refine Ctr.pure (M:=M0) Am Tryz.func51 rfl go51 ?_
 simp(maxSteps:=1000000)(disch:=(try simp only[awL]);omega)only[awS,Tryz.f51,↓awU,awY,↓reduceIte,↓reduceDIte,↓Qe,Qu,Qv,Qw,Qx,Qy,Qz,QA,QB,QC,QD,QE,QF,QG,QH,QI,QK]
 refine Ab.pure (SB n h) ?_
 simp(maxSteps:=1000000)(disch:=(try simp only[awL]);omega)only[awS,↓awU,awY,↓reduceIte,↓reduceDIte,↓Qe,Qu,Qv,Qw,Qx,Qy,Qz,QA,QB,QC,QD,QE,QF,QG,QH,QI,QK]
 first | done | rfl
def D5:List (List UInt8):=[[],[],[],[45],[43]]
def CX:List (List UInt8):=[[53],[53,48],[48],[49,50,53],[48,48,55],[48,48,48,48,48,48,48,48,49]]
def E4 (c:UInt8):Bool:=decide (c.toNat<48) || decide (57<c.toNat)
def Gt (t:List Int) (k:Nat):List UInt8:=D5.getD (pk t k 5).toNat []++Cs (pk t (k+1) 40).toNat
def IF (t:List Int) (k:Nat):List UInt8:=if pk t (k+2) 3=0 then (if E4 ((Gt t k).getD 0 0)=true then Gt t k else 48::Gt t k) else Gt t k
def HL (t:List Int) (k:Nat):List UInt8:=if pk t (k+3) 3=0 then IF t k++(46::CX.getD (pk t (k+4) 6).toNat []) else IF t k
def Mw (t:List Int) (k:Nat):Nat:=if pk t (k+3) 3=0 then k+5 else k+4
theorem BX {l:List (List UInt8)} {m:Nat} (h:∀ s∈l,s.length≤m) (i:Nat):(l.getD i []).length≤m:=by
 rcases Ae3 i l.length with h1 | h1
 ·rw[AdT,AdU h1];exact h _ (AfV _)
 ·rw[AdT,AfI h1];simp
theorem PU (t:List Int) (k:Nat):1≤(Gt t k).length∧(Gt t k).length≤3:=by
 have h1:=Np (pk t (k+1) 40).toNat
 have h2:=BX (l:=D5) (m:=1) (by decide) (pk t k 5).toNat
 unfold Gt
 rw[AdX]
 omega
theorem PT (t:List Int) (k:Nat):1≤(IF t k).length∧(IF t k).length≤4:=by
 have h1:=PU t k
 unfold IF
 split
 ·split
  ·omega
  ·rw[Ae1];omega
 ·omega
theorem Gs (t:List Int) (k:Nat):1≤(HL t k).length∧(HL t k).length≤20:=by
 have h1:=PT t k
 have h2:=BX (l:=CX) (m:=9) (by decide) (pk t (k+4) 6).toNat
 unfold HL
 split
 ·rw[AdX,Ae1];omega
 ·omega
theorem Bh:[D.str (bs []),D.str (bs []),D.str (bs []),D.str (bs [45]),D.str (bs [43])]=strs D5:=rfl
theorem A6:[D.str (bs [53]),D.str (bs [53,48]),D.str (bs [48]),D.str (bs [49,50,53]),D.str (bs [48,48,55]),D.str (bs [48,48,48,48,48,48,48,48,49])]=strs CX:=rfl
theorem Gr (t:List Int) (k:Nat) (ht:OkM t):Ctr TP G 26 [.ptr 0 0] [DiceM t k] (.d (S (HL t k))) [DiceM t (Mw t k)]:=by
 refine Ctr.body (M:=M0) Am Tryz.func26 rfl go26 ?_
 have ls:=@strs_length D5
 have lf:=@strs_length CX
 have ls':D5.length=5:=rfl
 have lf':CX.length=6:=rfl
 obtain ⟨a,ha,ha2⟩:=pk_nat t k 5 (by decide)
 obtain ⟨b,hb,hb2⟩:=pk_nat t (k+1) 40 (by decide)
 have e1:Gt t k=D5.getD a []++Cs b:=by rw[Gt,ha,hb];rfl
 have lg:=BX (l:=D5) (m:=1) (by decide) a
 have li:=Np b
 have l1:=PU t k
 have l2:=PT t k
 have gs:=strs_getD (l:=D5) (i:=a) (by omega)
 simp(maxSteps:=1000000)(disch:=(try simp only[awL]);omega)only[awS,Tryz.f26,Bh,strs_unf,ls,ls',↓awU,awY,↓reduceIte,↓reduceDIte,↓Qe,Qu,Qv,Qw,Qx,Qy,Qz,QA,QB,QC,QD,QE,QF,QG,QH,QI,QK]
 refine Ab.by (pick_spec t k 5 ht (by decide) (by decide)) (by rfl) (by rfl) (AdV _) ?_
 rw[ha]
 simp(maxSteps:=1000000)(disch:=(try simp only[awL]);omega)only[awS,Bh,A6,strs_unf,gs,ls,ls',lf,lf',↓awU,awY,↓reduceIte,↓reduceDIte,↓Qe,Qu,Qv,Qw,Qx,Qy,Qz,QA,QB,QC,QD,QE,QF,QG,QH,QI,QK]
 refine Ab.by (pick_spec t (k+1) 40 ht (by decide) (by decide)) (by rfl) (by rfl) (AdV _) ?_
 rw[hb]
 simp(maxSteps:=1000000)(disch:=(try simp only[awL]);omega)only[awS,Bh,A6,strs_unf,gs,ls,ls',lf,lf',↓awU,awY,↓reduceIte,↓reduceDIte,↓Qe,Qu,Qv,Qw,Qx,Qy,Qz,QA,QB,QC,QD,QE,QF,QG,QH,QI,QK]
 refine Ab.of (UT b (by omega)) (by rfl) ?_
 simp(maxSteps:=1000000)(disch:=(try simp only[awL]);omega)only[awS,e1.symm,Bh,A6,strs_unf,gs,ls,ls',lf,lf',↓awU,awY,↓reduceIte,↓reduceDIte,↓Qe,Qu,Qv,Qw,Qx,Qy,Qz,QA,QB,QC,QD,QE,QF,QG,QH,QI,QK]
 refine ⟨by rfl,?_⟩
 refine Ab.by (pick_spec t (k+1+1) 3 ht (by decide) (by decide)) (by rfl) (by rfl) (AdV _) ?_
 have e2:IF t k=(if pk t (k+1+1) 3=0 then (if E4 ((Gt t k).getD 0 0)=true then Gt t k else 48::Gt t k) else Gt t k):=rfl
 have tail:∀ r:List UInt8,r=IF t k→HL t k=(if pk t (k+1+1+1) 3=0 then r++(46::CX.getD (pk t (k+1+1+1+1) 6).toNat []) else r):=by rintro r rfl;rfl
 have ek:Mw t k=(if pk t (k+1+1+1) 3=0 then k+1+1+1+1+1 else k+1+1+1+1):=rfl
 generalize Gt t k=r1 at *
 by_cases h3:pk t (k+1+1) 3=0
 ·rw[h3]
  rw[if_pos h3] at e2
  by_cases c1:(r1.getD 0 0).toNat<48
  ·have c3:E4 (r1.getD 0 0)=true:=by unfold E4;rw[decide_eq_true c1];rfl
   have hr:r1=IF t k:=by rw[e2,if_pos c3]
   have tl:=tail (r1) hr
   have lr:(r1).length≤4:=by rw[hr];exact l2.2
   simp(maxSteps:=1000000)(disch:=(try simp only[awL]);omega)only[awS,Bh,A6,strs_unf,gs,ls,ls',lf,lf',↓awU,awY,↓reduceIte,↓reduceDIte,↓Qe,Qu,Qv,Qw,Qx,Qy,Qz,QA,QB,QC,QD,QE,QF,QG,QH,QI,QK]
   refine Ab.by (pick_spec t (k+1+1+1) 3 ht (by decide) (by decide)) (by rfl) (by rfl) (AdV _) ?_
   by_cases h4:pk t (k+1+1+1) 3=0
   ·rw[if_pos h4] at tl ek
    rw[h4,tl,ek]
    obtain ⟨d,hd,hd2⟩:=pk_nat t (k+1+1+1+1) 6 (by decide)
    have gs2:=strs_getD (l:=CX) (i:=d) (by omega)
    have lg2:=BX (l:=CX) (m:=9) (by decide) d
    rw[hd,AdY]
    simp(maxSteps:=1000000)(disch:=(try simp only[awL]);omega)only[awS,Bh,A6,strs_unf,gs,ls,ls',lf,lf',↓awU,awY,↓reduceIte,↓reduceDIte,↓Qe,Qu,Qv,Qw,Qx,Qy,Qz,QA,QB,QC,QD,QE,QF,QG,QH,QI,QK]
    refine Ab.by (pick_spec t (k+1+1+1+1) 6 ht (by decide) (by decide)) (by rfl) (by rfl) (AdV _) ?_
    rw[hd]
    simp(maxSteps:=1000000)(disch:=(try simp only[awL]);omega)only[awS,gs2,Bh,A6,strs_unf,gs,ls,ls',lf,lf',↓awU,awY,↓reduceIte,↓reduceDIte,↓Qe,Qu,Qv,Qw,Qx,Qy,Qz,QA,QB,QC,QD,QE,QF,QG,QH,QI,QK]
    first
    | exact ⟨[some 0],rfl,by simp,by simp[HW,BW,SW,AW],.inl (by simp[AW,SW])⟩
    | refine ⟨by rfl,?_⟩
      exact ⟨[some 0],rfl,by simp,by simp[HW,BW,SW,AW],.inl (by simp[AW,SW])⟩
   ·rw[if_neg h4] at tl ek
    rw[tl,ek]
    generalize pk t (k+1+1+1) 3=z at *
    simp(maxSteps:=1000000)(disch:=(try simp only[awL]);omega)only[awS,Bh,A6,strs_unf,gs,ls,ls',lf,lf',↓awU,awY,↓reduceIte,↓reduceDIte,↓Qe,Qu,Qv,Qw,Qx,Qy,Qz,QA,QB,QC,QD,QE,QF,QG,QH,QI,QK]
    exact ⟨[some 0],rfl,by simp,by simp[HW,BW,SW,AW],.inl (by simp[AW,SW])⟩
  ·by_cases c2:57<(r1.getD 0 0).toNat
   ·have c3:E4 (r1.getD 0 0)=true:=by unfold E4;rw[decide_eq_true c2,Bool.or_true]
    have hr:r1=IF t k:=by rw[e2,if_pos c3]
    have tl:=tail (r1) hr
    have lr:(r1).length≤4:=by rw[hr];exact l2.2
    simp(maxSteps:=1000000)(disch:=(try simp only[awL]);omega)only[awS,Bh,A6,strs_unf,gs,ls,ls',lf,lf',↓awU,awY,↓reduceIte,↓reduceDIte,↓Qe,Qu,Qv,Qw,Qx,Qy,Qz,QA,QB,QC,QD,QE,QF,QG,QH,QI,QK]
    refine Ab.by (pick_spec t (k+1+1+1) 3 ht (by decide) (by decide)) (by rfl) (by rfl) (AdV _) ?_
    by_cases h4:pk t (k+1+1+1) 3=0
    ·rw[if_pos h4] at tl ek
     rw[h4,tl,ek]
     obtain ⟨d,hd,hd2⟩:=pk_nat t (k+1+1+1+1) 6 (by decide)
     have gs2:=strs_getD (l:=CX) (i:=d) (by omega)
     have lg2:=BX (l:=CX) (m:=9) (by decide) d
     rw[hd,AdY]
     simp(maxSteps:=1000000)(disch:=(try simp only[awL]);omega)only[awS,Bh,A6,strs_unf,gs,ls,ls',lf,lf',↓awU,awY,↓reduceIte,↓reduceDIte,↓Qe,Qu,Qv,Qw,Qx,Qy,Qz,QA,QB,QC,QD,QE,QF,QG,QH,QI,QK]
     refine Ab.by (pick_spec t (k+1+1+1+1) 6 ht (by decide) (by decide)) (by rfl) (by rfl) (AdV _) ?_
     rw[hd]
     simp(maxSteps:=1000000)(disch:=(try simp only[awL]);omega)only[awS,gs2,Bh,A6,strs_unf,gs,ls,ls',lf,lf',↓awU,awY,↓reduceIte,↓reduceDIte,↓Qe,Qu,Qv,Qw,Qx,Qy,Qz,QA,QB,QC,QD,QE,QF,QG,QH,QI,QK]
     first
     | exact ⟨[some 0],rfl,by simp,by simp[HW,BW,SW,AW],.inl (by simp[AW,SW])⟩
     | refine ⟨by rfl,?_⟩
       exact ⟨[some 0],rfl,by simp,by simp[HW,BW,SW,AW],.inl (by simp[AW,SW])⟩
    ·rw[if_neg h4] at tl ek
     rw[tl,ek]
     generalize pk t (k+1+1+1) 3=z at *
     simp(maxSteps:=1000000)(disch:=(try simp only[awL]);omega)only[awS,Bh,A6,strs_unf,gs,ls,ls',lf,lf',↓awU,awY,↓reduceIte,↓reduceDIte,↓Qe,Qu,Qv,Qw,Qx,Qy,Qz,QA,QB,QC,QD,QE,QF,QG,QH,QI,QK]
     exact ⟨[some 0],rfl,by simp,by simp[HW,BW,SW,AW],.inl (by simp[AW,SW])⟩
   ·have c3:E4 (r1.getD 0 0)=false:=by unfold E4;rw[decide_eq_false c1,decide_eq_false c2];rfl
    have hr:48::r1=IF t k:=by rw[e2,c3,if_neg Bool.false_ne_true]
    have tl:=tail (48::r1) hr
    have lr:(48::r1).length≤4:=by rw[hr];exact l2.2
    simp(maxSteps:=1000000)(disch:=(try simp only[awL]);omega)only[awS,Bh,A6,strs_unf,gs,ls,ls',lf,lf',↓awU,awY,↓reduceIte,↓reduceDIte,↓Qe,Qu,Qv,Qw,Qx,Qy,Qz,QA,QB,QC,QD,QE,QF,QG,QH,QI,QK]
    refine Ab.by (pick_spec t (k+1+1+1) 3 ht (by decide) (by decide)) (by rfl) (by rfl) (AdV _) ?_
    by_cases h4:pk t (k+1+1+1) 3=0
    ·rw[if_pos h4] at tl ek
     rw[h4,tl,ek]
     obtain ⟨d,hd,hd2⟩:=pk_nat t (k+1+1+1+1) 6 (by decide)
     have gs2:=strs_getD (l:=CX) (i:=d) (by omega)
     have lg2:=BX (l:=CX) (m:=9) (by decide) d
     rw[hd,AdY]
     generalize hX:48::r1=X at *
     simp(maxSteps:=1000000)(disch:=(try simp only[awL]);omega)only[awS,Bh,A6,strs_unf,gs,ls,ls',lf,lf',↓awU,awY,↓reduceIte,↓reduceDIte,↓Qe,Qu,Qv,Qw,Qx,Qy,Qz,QA,QB,QC,QD,QE,QF,QG,QH,QI,QK]
     refine Ab.by (pick_spec t (k+1+1+1+1) 6 ht (by decide) (by decide)) (by rfl) (by rfl) (AdV _) ?_
     rw[hd]
     simp(maxSteps:=1000000)(disch:=(try simp only[awL]);omega)only[awS,gs2,Bh,A6,strs_unf,gs,ls,ls',lf,lf',↓awU,awY,↓reduceIte,↓reduceDIte,↓Qe,Qu,Qv,Qw,Qx,Qy,Qz,QA,QB,QC,QD,QE,QF,QG,QH,QI,QK]
     first
     | exact ⟨[some 0],rfl,by simp,by simp[HW,BW,SW,AW],.inl (by simp[AW,SW])⟩
     | refine ⟨by rfl,?_⟩
       exact ⟨[some 0],rfl,by simp,by simp[HW,BW,SW,AW],.inl (by simp[AW,SW])⟩
    ·rw[if_neg h4] at tl ek
     rw[tl,ek]
     generalize pk t (k+1+1+1) 3=z at *
     simp(maxSteps:=1000000)(disch:=(try simp only[awL]);omega)only[awS,Bh,A6,strs_unf,gs,ls,ls',lf,lf',↓awU,awY,↓reduceIte,↓reduceDIte,↓Qe,Qu,Qv,Qw,Qx,Qy,Qz,QA,QB,QC,QD,QE,QF,QG,QH,QI,QK]
     exact ⟨[some 0],rfl,by simp,by simp[HW,BW,SW,AW],.inl (by simp[AW,SW])⟩
 ·rw[if_neg h3] at e2
  generalize pk t (k+1+1) 3=z3 at *
  have hr:r1=IF t k:=e2.symm
  have tl:=tail (r1) hr
  have lr:(r1).length≤4:=by rw[hr];exact l2.2
  simp(maxSteps:=1000000)(disch:=(try simp only[awL]);omega)only[awS,Bh,A6,strs_unf,gs,ls,ls',lf,lf',↓awU,awY,↓reduceIte,↓reduceDIte,↓Qe,Qu,Qv,Qw,Qx,Qy,Qz,QA,QB,QC,QD,QE,QF,QG,QH,QI,QK]
  refine Ab.by (pick_spec t (k+1+1+1) 3 ht (by decide) (by decide)) (by rfl) (by rfl) (AdV _) ?_
  by_cases h4:pk t (k+1+1+1) 3=0
  ·rw[if_pos h4] at tl ek
   rw[h4,tl,ek]
   obtain ⟨d,hd,hd2⟩:=pk_nat t (k+1+1+1+1) 6 (by decide)
   have gs2:=strs_getD (l:=CX) (i:=d) (by omega)
   have lg2:=BX (l:=CX) (m:=9) (by decide) d
   rw[hd,AdY]
   simp(maxSteps:=1000000)(disch:=(try simp only[awL]);omega)only[awS,Bh,A6,strs_unf,gs,ls,ls',lf,lf',↓awU,awY,↓reduceIte,↓reduceDIte,↓Qe,Qu,Qv,Qw,Qx,Qy,Qz,QA,QB,QC,QD,QE,QF,QG,QH,QI,QK]
   refine Ab.by (pick_spec t (k+1+1+1+1) 6 ht (by decide) (by decide)) (by rfl) (by rfl) (AdV _) ?_
   rw[hd]
   simp(maxSteps:=1000000)(disch:=(try simp only[awL]);omega)only[awS,gs2,Bh,A6,strs_unf,gs,ls,ls',lf,lf',↓awU,awY,↓reduceIte,↓reduceDIte,↓Qe,Qu,Qv,Qw,Qx,Qy,Qz,QA,QB,QC,QD,QE,QF,QG,QH,QI,QK]
   first
   | exact ⟨[some 0],rfl,by simp,by simp[HW,BW,SW,AW],.inl (by simp[AW,SW])⟩
   | refine ⟨by rfl,?_⟩
     exact ⟨[some 0],rfl,by simp,by simp[HW,BW,SW,AW],.inl (by simp[AW,SW])⟩
  ·rw[if_neg h4] at tl ek
   rw[tl,ek]
   generalize pk t (k+1+1+1) 3=z at *
   simp(maxSteps:=1000000)(disch:=(try simp only[awL]);omega)only[awS,Bh,A6,strs_unf,gs,ls,ls',lf,lf',↓awU,awY,↓reduceIte,↓reduceDIte,↓Qe,Qu,Qv,Qw,Qx,Qy,Qz,QA,QB,QC,QD,QE,QF,QG,QH,QI,QK]
   exact ⟨[some 0],rfl,by simp,by simp[HW,BW,SW,AW],.inl (by simp[AW,SW])⟩
def DD:List (List UInt8):=[[50,48,50,52],[49,57,57,57],[50,48,50,54],[49,57,48,48],[48,48,48,49],[57,57,57,57]]
def CR:List (List UInt8):=[[48,49],[48,50],[49,50],[49,49],[49,51]]
def Fo:List (List UInt8):=[[48,49],[50,56],[50,57],[51,48],[51,49]]
def J8 (t:List Int) (k:Nat):List UInt8 :=
 let y:=DD.getD (pk t k 6).toNat []
 let m:=CR.getD (pk t (k+1) 5).toNat []
 let e:=Fo.getD (pk t (k+2) 5).toNat []
 if pk t (k+3) 3=0 then y++[45]++m++[45]++e else if pk t (k+3) 3=1 then y++[47]++m++[47]++e else e++[46]++m++[46]++y
theorem GX:[D.str (bs [50,48,50,52]),D.str (bs [49,57,57,57]),D.str (bs [50,48,50,54]),D.str (bs [49,57,48,48]),D.str (bs [48,48,48,49]),D.str (bs [57,57,57,57])]=strs DD:=rfl
theorem Fz:[D.str (bs [48,49]),D.str (bs [48,50]),D.str (bs [49,50]),D.str (bs [49,49]),D.str (bs [49,51])]=strs CR:=rfl
theorem ID:[D.str (bs [48,49]),D.str (bs [50,56]),D.str (bs [50,57]),D.str (bs [51,48]),D.str (bs [51,49])]=strs Fo:=rfl
theorem U9 (t:List Int) (k:Nat) (ht:OkM t):Ctr TP G 53 [.ptr 0 0] [DiceM t k] (.d (S (J8 t k))) [DiceM t (k+4)]:=by
 obtain ⟨r,hr⟩:∃ r,r=J8 t k:=⟨_,rfl⟩
 rw[←hr]
 unfold J8 at hr
 refine Ctr.body (M:=M0) Am Tryz.func53 rfl go53 ?_
 obtain ⟨a,ha,ha2⟩:=pk_nat t k 6 (by decide)
 obtain ⟨b,hb,hb2⟩:=pk_nat t (k+1) 5 (by decide)
 obtain ⟨c,hc,hc2⟩:=pk_nat t (k+2) 5 (by decide)
 obtain ⟨e,he,he2⟩:=pk_nat t (k+3) 3 (by decide)
 rw[ha,hb,hc,he] at hr
 simp only[AdY] at hr
 have l1:=@strs_length DD
 have l2:=@strs_length CR
 have l3:=@strs_length Fo
 have n1:DD.length=6:=rfl
 have n2:CR.length=5:=rfl
 have n3:Fo.length=5:=rfl
 have g1:=strs_getD (l:=DD) (i:=a) (by omega)
 have g2:=strs_getD (l:=CR) (i:=b) (by omega)
 have g3:=strs_getD (l:=Fo) (i:=c) (by omega)
 have s1:=BX (l:=DD) (m:=4) (by decide) a
 have s2:=BX (l:=CR) (m:=2) (by decide) b
 have s3:=BX (l:=Fo) (m:=2) (by decide) c
 generalize DD.getD a []=y at *
 generalize CR.getD b []=m at *
 generalize Fo.getD c []=dd at *
 simp(maxSteps:=1000000)(disch:=(try simp only[awL]);omega)only[awS,GX,Fz,ID,strs_unf,l1,l2,l3,n1,n2,n3,Tryz.f53,↓awU,awY,↓reduceIte,↓reduceDIte,↓Qe,Qu,Qv,Qw,Qx,Qy,Qz,QA,QB,QC,QD,QE,QF,QG,QH,QI,QK]
 refine Ab.by (pick_spec t k 6 ht (by decide) (by decide)) (by rfl) (by rfl) (AdV _) ?_
 rw[ha]
 simp(maxSteps:=1000000)(disch:=(try simp only[awL]);omega)only[awS,GX,Fz,ID,strs_unf,l1,l2,l3,n1,n2,n3,g1,↓awU,awY,↓reduceIte,↓reduceDIte,↓Qe,Qu,Qv,Qw,Qx,Qy,Qz,QA,QB,QC,QD,QE,QF,QG,QH,QI,QK]
 refine Ab.by (pick_spec t (k+1) 5 ht (by decide) (by decide)) (by rfl) (by rfl) (AdV _) ?_
 rw[hb]
 simp(maxSteps:=1000000)(disch:=(try simp only[awL]);omega)only[awS,GX,Fz,ID,strs_unf,l1,l2,l3,n1,n2,n3,g2,↓awU,awY,↓reduceIte,↓reduceDIte,↓Qe,Qu,Qv,Qw,Qx,Qy,Qz,QA,QB,QC,QD,QE,QF,QG,QH,QI,QK]
 refine Ab.by (pick_spec t (k+1+1) 5 ht (by decide) (by decide)) (by rfl) (by rfl) (AdV _) ?_
 rw[hc]
 simp(maxSteps:=1000000)(disch:=(try simp only[awL]);omega)only[awS,GX,Fz,ID,strs_unf,l1,l2,l3,n1,n2,n3,g3,↓awU,awY,↓reduceIte,↓reduceDIte,↓Qe,Qu,Qv,Qw,Qx,Qy,Qz,QA,QB,QC,QD,QE,QF,QG,QH,QI,QK]
 refine Ab.by (pick_spec t (k+1+1+1) 3 ht (by decide) (by decide)) (by rfl) (by rfl) (AdV _) ?_
 rw[he]
 rcases (by omega:e=0∨e=1∨e=2) with rfl | rfl | rfl
 all_goals
  simp(maxSteps:=1000000)(disch:=(try simp only[awL]);omega)only[awS,↓awU,awY,↓reduceIte,↓reduceDIte,↓Qe,Qu,Qv,Qw,Qx,Qy,Qz,QA,QB,QC,QD,QE,QF,QG,QH,QI,QK]
  rw[hr]
  exact ⟨[some 0],rfl,by simp,by simp[HW,BW,SW,AW],.inl (by simp[AW,SW])⟩
def GJ:List (List UInt8):=[[121,101,115],[110,111],[84,82,85,69],[70,97,108,115,101],[32,121,101,115,32]]
theorem M5:[D.str (bs [121,101,115]),D.str (bs [110,111]),D.str (bs [84,82,85,69]),D.str (bs [70,97,108,115,101]),D.str (bs [32,121,101,115,32])]=strs GJ:=rfl
def E1:List (List UInt8):=[[32,107,103],[103],[32,107,109],[109],[32,109,105,110],[37],[32,109,109]]
theorem Jl:[D.str (bs [32,107,103]),D.str (bs [103]),D.str (bs [32,107,109]),D.str (bs [109]),D.str (bs [32,109,105,110]),D.str (bs [37]),D.str (bs [32,109,109])]=strs E1:=rfl
def Gu:List (List UInt8):=[[],[32],[78,65],[45],[110,111,110,101],[63],[110,117,108,108]]
theorem M3:[D.str (bs []),D.str (bs [32]),D.str (bs [78,65]),D.str (bs [45]),D.str (bs [110,111,110,101]),D.str (bs [63]),D.str (bs [110,117,108,108])]=strs Gu:=rfl
def J1:List (List UInt8):=[[97,44,98],[34,113,34],[39],[120,59,121],[108,10,105],[99,13,114],[32,112,97,100,32],[9],[124],[],[195,169],[123],[97,34,98],[13,10]]
theorem PE:[D.str (bs [97,44,98]),D.str (bs [34,113,34]),D.str (bs [39]),D.str (bs [120,59,121]),D.str (bs [108,10,105]),D.str (bs [99,13,114]),D.str (bs [32,112,97,100,32]),D.str (bs [9]),D.str (bs [124]),D.str (bs []),D.str (bs [195,169]),D.str (bs [123]),D.str (bs [97,34,98]),D.str (bs [13,10])]=strs J1:=rfl
def Ex (t:List Int) (k c:Nat):List UInt8 :=
 if c=0 then wordsL.getD (pk t k 16).toNat [] else if c=1 then HL t k else if c=2 then J8 t k else if c=3 then GJ.getD (pk t k 5).toNat [] else
  if c=4 then HL t k++E1.getD (pk t (Mw t k) 7).toNat [] else if c=5 then Gu.getD (pk t k 7).toNat [] else J1.getD (pk t k 14).toNat []
def fieldK (t:List Int) (k c:Nat):Nat:=if c=1 then Mw t k else if c=2 then k+4 else if c=4 then Mw t k+1 else k+1
theorem J6 (t:List Int) (k c:Nat) (ht:OkM t) (hc:c≤100):Ctr TP G 27 [.ptr 0 0,.d (.int .i64 c)] [DiceM t k] (.d (S (Ex t k c))) [DiceM t (fieldK t k c)]:=by
 obtain ⟨r,hr⟩:∃ r,r=Ex t k c:=⟨_,rfl⟩
 obtain ⟨k2,hk⟩:∃ k2,k2=fieldK t k c:=⟨_,rfl⟩
 rw[←hr,←hk]
 unfold Ex at hr
 unfold fieldK at hk
 refine Ctr.body (M:=M0) Am Tryz.func27 rfl go27 ?_
 rcases (by omega:c=0∨c=1∨c=2∨c=3∨c=4∨c=5∨5<c) with rfl | rfl | rfl | rfl | rfl | rfl | h
 ·simp only[if_true,if_false,show ¬(0=1) by decide,show ¬(0=2) by decide,show ¬(0=4) by decide] at hr hk
  subst hk
  obtain ⟨a,ha,ha2⟩:=pk_nat t k 16 (by decide)
  rw[ha] at hr
  simp only[AdY] at hr
  have l1:=@strs_length wordsL
  have n1:wordsL.length=16:=rfl
  have g1:=strs_getD (l:=wordsL) (i:=a) (by omega)
  generalize wordsL.getD a []=y at *
  simp(maxSteps:=1000000)(disch:=(try simp only[awL]);omega)only[awS,strs_unf,l1,n1,Tryz.f27,↓awU,awY,↓reduceIte,↓reduceDIte,↓Qe,Qu,Qv,Qw,Qx,Qy,Qz,QA,QB,QC,QD,QE,QF,QG,QH,QI,QK]
  refine Ab.of words_spec (by rfl) ?_
  simp(maxSteps:=1000000)(disch:=(try simp only[awL]);omega)only[awS,strs_unf,l1,n1,↓awU,awY,↓reduceIte,↓reduceDIte,↓Qe,Qu,Qv,Qw,Qx,Qy,Qz,QA,QB,QC,QD,QE,QF,QG,QH,QI,QK]
  refine Ab.of words_spec (by rfl) ?_
  simp(maxSteps:=1000000)(disch:=(try simp only[awL]);omega)only[awS,strs_unf,l1,n1,↓awU,awY,↓reduceIte,↓reduceDIte,↓Qe,Qu,Qv,Qw,Qx,Qy,Qz,QA,QB,QC,QD,QE,QF,QG,QH,QI,QK]
  refine Ab.by (pick_spec t k 16 ht (by decide) (by decide)) (by rfl) (by rfl) (AdV _) ?_
  rw[ha]
  simp(maxSteps:=1000000)(disch:=(try simp only[awL]);omega)only[awS,strs_unf,l1,n1,g1,↓awU,awY,↓reduceIte,↓reduceDIte,↓Qe,Qu,Qv,Qw,Qx,Qy,Qz,QA,QB,QC,QD,QE,QF,QG,QH,QI,QK]
  rw[hr]
  exact ⟨[some 0],rfl,by simp,by simp[HW,BW,SW,AW],.inl (by simp[AW,SW])⟩
 ·simp only[if_true,if_false,show ¬(1=0) by decide] at hr hk
  subst hk hr
  simp(maxSteps:=1000000)(disch:=(try simp only[awL]);omega)only[awS,Tryz.f27,↓awU,awY,↓reduceIte,↓reduceDIte,↓Qe,Qu,Qv,Qw,Qx,Qy,Qz,QA,QB,QC,QD,QE,QF,QG,QH,QI,QK]
  refine Ab.by (Gr t k ht) (by rfl) (by rfl) (AdV _) ?_
  simp(maxSteps:=1000000)(disch:=(try simp only[awL]);omega)only[awS,↓awU,awY,↓reduceIte,↓reduceDIte,↓Qe,Qu,Qv,Qw,Qx,Qy,Qz,QA,QB,QC,QD,QE,QF,QG,QH,QI,QK]
  exact ⟨[some 0],rfl,by simp,by simp[HW,BW,SW,AW],.inl (by simp[AW,SW])⟩
 ·simp only[if_true,if_false,show ¬(2=0) by decide,show ¬(2=1) by decide] at hr hk
  subst hk hr
  simp(maxSteps:=1000000)(disch:=(try simp only[awL]);omega)only[awS,Tryz.f27,↓awU,awY,↓reduceIte,↓reduceDIte,↓Qe,Qu,Qv,Qw,Qx,Qy,Qz,QA,QB,QC,QD,QE,QF,QG,QH,QI,QK]
  refine Ab.by (U9 t k ht) (by rfl) (by rfl) (AdV _) ?_
  simp(maxSteps:=1000000)(disch:=(try simp only[awL]);omega)only[awS,↓awU,awY,↓reduceIte,↓reduceDIte,↓Qe,Qu,Qv,Qw,Qx,Qy,Qz,QA,QB,QC,QD,QE,QF,QG,QH,QI,QK]
  exact ⟨[some 0],rfl,by simp,by simp[HW,BW,SW,AW],.inl (by simp[AW,SW])⟩
 ·simp only[if_true,if_false,show ¬(3=0) by decide,show ¬(3=1) by decide,show ¬(3=2) by decide,show ¬(3=4) by decide] at hr hk
  subst hk
  obtain ⟨a,ha,ha2⟩:=pk_nat t k 5 (by decide)
  rw[ha] at hr
  simp only[AdY] at hr
  have l1:=@strs_length GJ
  have n1:GJ.length=5:=rfl
  have g1:=strs_getD (l:=GJ) (i:=a) (by omega)
  generalize GJ.getD a []=y at *
  simp(maxSteps:=1000000)(disch:=(try simp only[awL]);omega)only[awS,M5,strs_unf,l1,n1,Tryz.f27,↓awU,awY,↓reduceIte,↓reduceDIte,↓Qe,Qu,Qv,Qw,Qx,Qy,Qz,QA,QB,QC,QD,QE,QF,QG,QH,QI,QK]
  refine Ab.by (pick_spec t k 5 ht (by decide) (by decide)) (by rfl) (by rfl) (AdV _) ?_
  rw[ha]
  simp(maxSteps:=1000000)(disch:=(try simp only[awL]);omega)only[awS,M5,strs_unf,l1,n1,g1,↓awU,awY,↓reduceIte,↓reduceDIte,↓Qe,Qu,Qv,Qw,Qx,Qy,Qz,QA,QB,QC,QD,QE,QF,QG,QH,QI,QK]
  rw[hr]
  exact ⟨[some 0],rfl,by simp,by simp[HW,BW,SW,AW],.inl (by simp[AW,SW])⟩
 ·simp only[if_true,if_false,show ¬(4=0) by decide,show ¬(4=1) by decide,show ¬(4=2) by decide,show ¬(4=3) by decide] at hr hk
  have nl:=(Gs t k).2
  obtain ⟨a,ha,ha2⟩:=pk_nat t (Mw t k) 7 (by decide)
  rw[ha] at hr
  simp only[AdY] at hr
  have l1:=@strs_length E1
  have n1:E1.length=7:=rfl
  have g1:=strs_getD (l:=E1) (i:=a) (by omega)
  have s1:=BX (l:=E1) (m:=4) (by decide) a
  generalize E1.getD a []=y at *
  simp(maxSteps:=1000000)(disch:=(try simp only[awL]);omega)only[awS,Jl,strs_unf,l1,n1,Tryz.f27,↓awU,awY,↓reduceIte,↓reduceDIte,↓Qe,Qu,Qv,Qw,Qx,Qy,Qz,QA,QB,QC,QD,QE,QF,QG,QH,QI,QK]
  refine Ab.by (Gr t k ht) (by rfl) (by rfl) (AdV _) ?_
  generalize Mw t k=kk at *
  generalize HL t k=nn at *
  subst hk
  simp(maxSteps:=1000000)(disch:=(try simp only[awL]);omega)only[awS,Jl,strs_unf,l1,n1,↓awU,awY,↓reduceIte,↓reduceDIte,↓Qe,Qu,Qv,Qw,Qx,Qy,Qz,QA,QB,QC,QD,QE,QF,QG,QH,QI,QK]
  refine Ab.by (pick_spec t kk 7 ht (by decide) (by decide)) (by rfl) (by rfl) (AdV _) ?_
  rw[ha]
  simp(maxSteps:=1000000)(disch:=(try simp only[awL]);omega)only[awS,Jl,strs_unf,l1,n1,g1,↓awU,awY,↓reduceIte,↓reduceDIte,↓Qe,Qu,Qv,Qw,Qx,Qy,Qz,QA,QB,QC,QD,QE,QF,QG,QH,QI,QK]
  rw[hr]
  first | exact ⟨[some 0],rfl,by simp,by simp[HW,BW,SW,AW],.inl (by simp[AW,SW])⟩ | (refine ⟨by rfl,?_⟩;exact ⟨[some 0],rfl,by simp,by simp[HW,BW,SW,AW],.inl (by simp[AW,SW])⟩)
 ·simp only[if_true,if_false,show ¬(5=0) by decide,show ¬(5=1) by decide,show ¬(5=2) by decide,show ¬(5=3) by decide,show ¬(5=4) by decide] at hr hk
  subst hk
  obtain ⟨a,ha,ha2⟩:=pk_nat t k 7 (by decide)
  rw[ha] at hr
  simp only[AdY] at hr
  have l1:=@strs_length Gu
  have n1:Gu.length=7:=rfl
  have g1:=strs_getD (l:=Gu) (i:=a) (by omega)
  generalize Gu.getD a []=y at *
  simp(maxSteps:=1000000)(disch:=(try simp only[awL]);omega)only[awS,M3,strs_unf,l1,n1,Tryz.f27,↓awU,awY,↓reduceIte,↓reduceDIte,↓Qe,Qu,Qv,Qw,Qx,Qy,Qz,QA,QB,QC,QD,QE,QF,QG,QH,QI,QK]
  refine Ab.by (pick_spec t k 7 ht (by decide) (by decide)) (by rfl) (by rfl) (AdV _) ?_
  rw[ha]
  simp(maxSteps:=1000000)(disch:=(try simp only[awL]);omega)only[awS,M3,strs_unf,l1,n1,g1,↓awU,awY,↓reduceIte,↓reduceDIte,↓Qe,Qu,Qv,Qw,Qx,Qy,Qz,QA,QB,QC,QD,QE,QF,QG,QH,QI,QK]
  rw[hr]
  exact ⟨[some 0],rfl,by simp,by simp[HW,BW,SW,AW],.inl (by simp[AW,SW])⟩
 ·simp only[if_false,show ¬c=0 by omega,show ¬c=1 by omega,show ¬c=2 by omega,show ¬c=3 by omega,show ¬c=4 by omega,show ¬c=5 by omega] at hr hk
  subst hk
  obtain ⟨a,ha,ha2⟩:=pk_nat t k 14 (by decide)
  rw[ha] at hr
  simp only[AdY] at hr
  have l1:=@strs_length J1
  have n1:J1.length=14:=rfl
  have g1:=strs_getD (l:=J1) (i:=a) (by omega)
  generalize J1.getD a []=y at *
  simp(maxSteps:=1000000)(disch:=(try simp only[awL]);omega)only[awS,PE,strs_unf,l1,n1,Tryz.f27,↓awU,awY,↓reduceIte,↓reduceDIte,↓Qe,Qu,Qv,Qw,Qx,Qy,Qz,QA,QB,QC,QD,QE,QF,QG,QH,QI,QK]
  refine Ab.by (pick_spec t k 14 ht (by decide) (by decide)) (by rfl) (by rfl) (AdV _) ?_
  rw[ha]
  simp(maxSteps:=1000000)(disch:=(try simp only[awL]);omega)only[awS,PE,strs_unf,l1,n1,g1,↓awU,awY,↓reduceIte,↓reduceDIte,↓Qe,Qu,Qv,Qw,Qx,Qy,Qz,QA,QB,QC,QD,QE,QF,QG,QH,QI,QK]
  rw[hr]
  exact ⟨[some 0],rfl,by simp,by simp[HW,BW,SW,AW],.inl (by simp[AW,SW])⟩
end Go.Proofs.YtmidaophnbdcdaaGreatDoor
namespace Go.Proofs.YtmidaophnbdcdaaGreatDoor
open Go Go.Proofs Go.Abs Go.RowKit Go.Shelf
variable {G:Ad}
end Go.Proofs.YtmidaophnbdcdaaGreatDoor
namespace Go.Proofs.YtmidaophnbdcdaaGreatDoor
open Go Go.Proofs Go.Abs
variable {G:Ad}
def MY:BZ:=fun k=>k == 3000000
theorem MY_n {k:Nat} (h:k<3000000):MY k=false:=by
 simp only[MY,beq_eq_false_iff_ne];exact Nat.ne_of_lt h
theorem Tdo_cons {x:D} {r:List D} {t:List (D × Bool)} (h:Tdo (x::r) t):(∃ t',t=(x,true)::t'∧Tdo r t')∨t=[(x,false)]:=by
 match t,h with
 | (z,true)::t,h=>exact .inl ⟨t,by rw[h.1],h.2⟩
 | (z,false)::t,h=>exact .inr (by rw[h.1,h.2])
theorem Tdo_nil {t:List (D × Bool)} (h:Tdo [] t):t=[]:=by
 match t,h with
 | [],_=>rfl
theorem strs_get {l:List (List UInt8)} {i:Nat} {x:D} (h:(strs l)[i]?=some x):∃ y,l[i]?=some y∧x=S y:=by
 simp only[strs,AfJ] at h
 cases e:l[i]? with
 | none=>simp[e] at h
 | some y=>simp[e] at h;exact ⟨y,rfl,h.symm⟩
theorem take_snoc {s:List UInt8} {a i:Nat} (h1:a≤i) (h2:i<s.length):(s.take (i+1)).drop a=(s.take i).drop a++[s.getD i 0]:=by
 rw[Af4,List.drop_append_of_le_length (by simp;omega),AdU h2,AdT,AdU h2]
 rfl
def MSt:BZ:=fun k=>k == 208
theorem MSt_n {k:Nat} (h:2000000≤k):MSt k=false:=by
 simp only[MSt,beq_eq_false_iff_ne]
 exact Nat.ne_of_gt (Nat.lt_of_lt_of_le (by decide) h)
theorem trimR_snoc (c:UInt8) (q:List UInt8):Lib.trimRightB (q++[c]) c=Lib.trimRightB q c:=by
 simp[Lib.trimRightB,List.dropWhile]
end Go.Proofs.YtmidaophnbdcdaaGreatDoor
namespace Go.Proofs.YtmidaophnbdcdaaGreatDoor
open Go Go.Proofs Go.Abs
end Go.Proofs.YtmidaophnbdcdaaGreatDoor
namespace Go.Proofs.YtmidaophnbdcdaaGreatDoor
open Go Go.Proofs Go.Abs
variable {G:Ad}
theorem mem_take_succ {l:List (List UInt8)} {i:Nat} {s:List UInt8} (h:i<l.length):s∈l.take (i+1)↔s∈l.take i∨l.getD i []=s:=by
 rw[Af4,AdU h,AdT,AdU h]
 simp only[Option.toList_some,List.mem_append,List.mem_singleton,AfU]
 exact or_congr_right eq_comm
theorem has_spec (l:List (List UInt8)) (full:Bool) (s:List UInt8) (hl:l.length≤1000000):Ctr TP G 37 [.d (Ss l full),.d (S s)] [] (.d (.bool (decide (s∈l)))) []:=by
 refine Ctr.pure (M:=M0) Am Tryz.func37 rfl go37 ?_
 simp(maxSteps:=1000000)(disch:=(try simp only[awL]);omega)only[awS,Tryz.f37,↓awU,awY,↓reduceIte,↓reduceDIte,↓Qe,Qu,Qv,Qw,Qx,Qy,Qz,QA,QB,QC,QD,QE,QF,QG,QH,QI,QK]
 refine Au.fr 386 (α:=Nat) (fun i=>l.length-i) (fun i=>[(9,.d (.int .i64 i))]) (fun _=>[]) (fun i=>i≤l.length∧s∉l.take i) 0 ⟨Af5 _,by simp⟩ ?_ ?_
 ·exact ⟨[],rfl,by simp,by simp[sA,kA,SW,AW],by simp[HW,BW,SW,AW]⟩
 ·rintro i ⟨h1,h2⟩
  have sl:=@strs_length l
  simp only[awK,Ad0,Ad1,reduceIte]
  rcases Ae3 i l.length with h | h
  ·have g1:=strs_getD h
   have hm:=@mem_take_succ l i s h
   by_cases he:l.getD i []=s
   ·have hin:s∈l:=List.mem_of_mem_take (hm.2 (.inr he))
    rw[decide_eq_true hin]
    rw[he] at g1
    simp(maxSteps:=1000000)(disch:=(try simp only[awL]);omega)only[awS,sl,g1,beq_self_eq_true,↓awU,awY,↓reduceIte,↓reduceDIte,↓Qe,Qu,Qv,Qw,Qx,Qy,Qz,QA,QB,QC,QD,QE,QF,QG,QH,QI,QK]
    try rfl
   ·have hne:(l.getD i [] == s)=false:=by simpa using he
    simp(maxSteps:=1000000)(disch:=(try simp only[awL]);omega)only[awS,sl,g1,hne,↓awU,awY,↓reduceIte,↓reduceDIte,↓Qe,Qu,Qv,Qw,Qx,Qy,Qz,QA,QB,QC,QD,QE,QF,QG,QH,QI,QK]
    exact ⟨i+1,⟨h,fun q=>(hm.1 q).elim h2 he⟩,by simp only;omega,⟨[],rfl,by simp,by simp[sA,kA,SW,AW],by simp[HW,BW,SW,AW]⟩⟩
  ·obtain rfl:i=l.length:=by omega
   rw[List.take_length] at h2
   rw[decide_eq_false h2]
   simp(maxSteps:=1000000)(disch:=(try simp only[awL]);omega)only[awS,sl,↓awU,awY,↓reduceIte,↓reduceDIte,↓Qe,Qu,Qv,Qw,Qx,Qy,Qz,QA,QB,QC,QD,QE,QF,QG,QH,QI,QK]
   try rfl
end Go.Proofs.YtmidaophnbdcdaaGreatDoor
namespace Go.Proofs.YtmidaophnbdcdaaGreatDoor
open Go Go.Proofs Go.Abs Go.RowKit Go.Shelf
variable {G:Ad}
end Go.Proofs.YtmidaophnbdcdaaGreatDoor
namespace Go.Proofs.YtmidaophnbdcdaaGreatDoor
open Go Go.Proofs Go.Abs
variable {G:Ad}
def HI (G:Ad):Prop:=∀ n:Nat,n≤1048576→Ctr TP G 51 [.d (.int .i64 n)] [] (.d (S (Lib.decDigits n))) []
end Go.Proofs.YtmidaophnbdcdaaGreatDoor
namespace Go.Proofs.YtmidaophnbdcdaaGreatDoor
open Go Go.Proofs Go.Abs Go.RowKit Go.Shelf
variable {G:Ad}
end Go.Proofs.YtmidaophnbdcdaaGreatDoor
namespace Go.Proofs.YtmidaophnbdcdaaGreatDoor
open Go Go.Proofs Go.Abs
variable {G:Ad}
def prD (k:Nat):List UInt8:=[UInt8.ofNat (48+k / 10),UInt8.ofNat (48+k % 10)]
theorem dd2 {n:Nat} (h:100≤n):Lib.decDigits n=Lib.decDigits (n / 100)++prD (n % 100):=by
 rw[Lib.decDigits,dif_neg (by omega),Lib.decDigits,dif_neg (by omega),AfR,Agb,prD]
 rw[show n / 10 % 10=n % 100 / 10 by omega,show n % 100 % 10=n % 10 by omega];rfl
theorem Xh {n:Nat} (h:n<10):Lib.decDigits n=[UInt8.ofNat (48+n)]:=Lib.decDigits_one h
theorem Xg {n:Nat} (h1:10≤n) (h:n<100):Lib.decDigits n=prD n:=Lib.decDigits_two (by omega) h
theorem dd3 {n:Nat} (h1:100≤n) (h:n<1000):Lib.decDigits n=[UInt8.ofNat (48+n / 100)]++prD (n % 100):=by rw[dd2 h1,Xh (by omega)]
theorem dd4 {n:Nat} (h1:1000≤n) (h:n<10000):Lib.decDigits n=prD (n / 100)++prD (n % 100):=by rw[dd2 (by omega),Xg (by omega) (by omega)]
theorem dd5 {n:Nat} (h1:10000≤n) (h:n<100000):Lib.decDigits n=[UInt8.ofNat (48+n / 10000)]++prD (n % 10000 / 100)++prD (n % 10000 % 100):=by
 rw[dd2 (by omega),dd3 (by omega) (by omega),AfR,show n / 100 % 100=n % 10000 / 100 by omega,show n % 10000 % 100=n % 100 by omega]
theorem dd6 {n:Nat} (h1:100000≤n) (h:n<1000000):Lib.decDigits n=prD (n / 10000)++prD (n % 10000 / 100)++prD (n % 10000 % 100):=by
 rw[dd2 (by omega),dd4 (by omega) (by omega),AfR,show n / 100 % 100=n % 10000 / 100 by omega,show n % 10000 % 100=n % 100 by omega]
theorem dd7 {n:Nat} (h1:1000000≤n) (h:n<10000000):Lib.decDigits n=[UInt8.ofNat (48+n / 10000 / 100)]++prD (n / 10000 % 100)++prD (n % 10000 / 100)++prD (n % 10000 % 100):=by
 rw[dd2 (by omega),dd5 (by omega) (by omega),show n % 10000 % 100=n % 100 by omega,show n / 100 / 10000=n / 10000 / 100 by omega,show n / 100 % 10000 / 100=n / 10000 % 100 by omega,show n / 100 % 10000 % 100=n % 10000 / 100 by omega]
theorem ZP {k:Nat} (h:k<100):(DO.getD (k*2) 0).toNat=48+k / 10∧(DO.getD (k*2+1) 0).toNat=48+k % 10:=by
 have:∀ k:Fin 100,(DO.getD (k.val*2) 0).toNat=48+k.val / 10∧(DO.getD (k.val*2+1) 0).toNat=48+k.val % 10:=by decide +kernel
 exact this ⟨k,h⟩
theorem Pp (a:Nat):(a:Int).tdiv 100=((a / 100:Nat):Int):=(Age a 100).symm
theorem Po (a:Nat):(a:Int).tmod 100=((a % 100:Nat):Int):=(Agf a 100).symm
theorem Iu (a:Nat):(a:Int).tdiv 10000=((a / 10000:Nat):Int):=(Age a 10000).symm
theorem Is (a:Nat):(a:Int).tmod 10000=((a % 10000:Nat):Int):=(Agf a 10000).symm
theorem tn2 (k:Nat):((k:Int)*2).toNat=k*2:=by omega
theorem tn3 (k:Nat):((k:Int)*2+1).toNat=k*2+1:=by omega
theorem smA {k:Nat} (h:k<100):(DO.getD (k*2) 0).toNat=48+k / 10:=(ZP h).1
theorem smB {k:Nat} (h:k<100):(DO.getD (k*2+1) 0).toNat=48+k % 10:=(ZP h).2
theorem W6 (n:Nat) (h1:100≤n) (h:n<1000):Ctr TP G 162 [.lsl 0 1 1 3,.d (.int .u64 n)] [.row false (Ax .u8 (AcB 24 0))] .undef
  [.row false (Ax .u8 ([0,((48+n / 100:Nat):Int),((48+n % 100 / 10:Nat):Int),((48+n % 100 % 10:Nat):Int)]++AcB 20 0))]:=by
 refine Ctr.body (M:=M0) Am Tryz.func162 rfl Q9 ?_
 simp(maxSteps:=1000000)(disch:=(try simp only[awL]);omega)only[awS,Tryz.f162,↓awU,awY,↓reduceIte,↓reduceDIte,↓Qe,Qu,Qv,Qw,Qx,Qy,Qz,QA,QB,QC,QD,QE,QF,QG,QH,QI,QK]
 refine Au.fx 1 (α:=Unit) (β:=Unit) (fun _=>0) (fun _=>[(1,.d (.int .u64 n)),(4,.d (.int .i64 3))]) (fun _=>[.row false (Ax .u8 (AcB 24 0))]) (fun _=>True) 1 (fun _=>[(1,.d (.int .u64 n)),(4,.d (.int .i64 3))]) (fun _=>[.row false (Ax .u8 (AcB 24 0))]) (fun _=>True) () trivial ?_ ?_ ?_
 ·exact ⟨[some 0],rfl,by simp,by simp[sA,kA,SW,AW],by simp[HW,BW,SW,AW]⟩
 ·rintro ⟨⟩ -
  simp only[awK,Ad0,Ad1,reduceIte]
  simp(maxSteps:=1000000)(disch:=(try simp only[awL]);omega)only[awS,↓awU,awY,↓reduceIte,↓reduceDIte,↓Qe,Qu,Qv,Qw,Qx,Qy,Qz,QA,QB,QC,QD,QE,QF,QG,QH,QI,QK]
  exact ⟨(),trivial,⟨[some 0],rfl,by simp,by simp[sA,kA,SW,AW],by simp[HW,BW,SW,AW]⟩⟩
 ·rintro ⟨⟩ -
  simp only[awK,Ad0,Ad1,reduceIte]
  simp(maxSteps:=1000000)(disch:=(try simp only[awL]);omega)only[awS,Ei,De,Pp,Po,Iu,Is,tn2,tn3,smA,smB,↓awU,awY,↓reduceIte,↓reduceDIte,↓Qe,Qu,Qv,Qw,Qx,Qy,Qz,QA,QB,QC,QD,QE,QF,QG,QH,QI,QK]
  first | (exact ⟨[some 0],rfl,by simp,by simp[HW,BW,SW,AW],.inl (by simp[AW,SW])⟩) | (refine ⟨by rfl,?_⟩;exact ⟨[some 0],rfl,by simp,by simp[HW,BW,SW,AW],.inl (by simp[AW,SW])⟩) | (refine ⟨by rfl,by rfl,?_⟩;exact ⟨[some 0],rfl,by simp,by simp[HW,BW,SW,AW],.inl (by simp[AW,SW])⟩) | (refine ⟨by rfl,by rfl,by rfl,?_⟩;exact ⟨[some 0],rfl,by simp,by simp[HW,BW,SW,AW],.inl (by simp[AW,SW])⟩)
theorem W5 (n:Nat) (h1:1000≤n) (h:n<10000):Ctr TP G 162 [.lsl 0 1 1 4,.d (.int .u64 n)] [.row false (Ax .u8 (AcB 24 0))] .undef
  [.row false (Ax .u8 ([0,((48+n % 10000 / 100 / 10:Nat):Int),((48+n % 10000 / 100 % 10:Nat):Int),((48+n % 10000 % 100 / 10:Nat):Int),((48+n % 10000 % 100 % 10:Nat):Int)]++AcB 19 0))]:=by
 refine Ctr.body (M:=M0) Am Tryz.func162 rfl Q9 ?_
 simp(maxSteps:=1000000)(disch:=(try simp only[awL]);omega)only[awS,Tryz.f162,↓awU,awY,↓reduceIte,↓reduceDIte,↓Qe,Qu,Qv,Qw,Qx,Qy,Qz,QA,QB,QC,QD,QE,QF,QG,QH,QI,QK]
 refine Au.fx 1 (α:=Unit) (β:=Unit) (fun _=>0) (fun _=>[(1,.d (.int .u64 n)),(4,.d (.int .i64 4))]) (fun _=>[.row false (Ax .u8 (AcB 24 0))]) (fun _=>True) 1 (fun _=>[(1,.d (.int .u64 n)),(4,.d (.int .i64 4))]) (fun _=>[.row false (Ax .u8 (AcB 24 0))]) (fun _=>True) () trivial ?_ ?_ ?_
 ·exact ⟨[some 0],rfl,by simp,by simp[sA,kA,SW,AW],by simp[HW,BW,SW,AW]⟩
 ·rintro ⟨⟩ -
  simp only[awK,Ad0,Ad1,reduceIte]
  simp(maxSteps:=1000000)(disch:=(try simp only[awL]);omega)only[awS,↓awU,awY,↓reduceIte,↓reduceDIte,↓Qe,Qu,Qv,Qw,Qx,Qy,Qz,QA,QB,QC,QD,QE,QF,QG,QH,QI,QK]
  exact ⟨(),trivial,⟨[some 0],rfl,by simp,by simp[sA,kA,SW,AW],by simp[HW,BW,SW,AW]⟩⟩
 ·rintro ⟨⟩ -
  simp only[awK,Ad0,Ad1,reduceIte]
  simp(maxSteps:=1000000)(disch:=(try simp only[awL]);omega)only[awS,Ei,De,Pp,Po,Iu,Is,tn2,tn3,smA,smB,↓awU,awY,↓reduceIte,↓reduceDIte,↓Qe,Qu,Qv,Qw,Qx,Qy,Qz,QA,QB,QC,QD,QE,QF,QG,QH,QI,QK]
  first | (exact ⟨[some 0],rfl,by simp,by simp[HW,BW,SW,AW],.inl (by simp[AW,SW])⟩) | (refine ⟨by rfl,?_⟩;exact ⟨[some 0],rfl,by simp,by simp[HW,BW,SW,AW],.inl (by simp[AW,SW])⟩) | (refine ⟨by rfl,by rfl,?_⟩;exact ⟨[some 0],rfl,by simp,by simp[HW,BW,SW,AW],.inl (by simp[AW,SW])⟩) | (refine ⟨by rfl,by rfl,by rfl,?_⟩;exact ⟨[some 0],rfl,by simp,by simp[HW,BW,SW,AW],.inl (by simp[AW,SW])⟩)
theorem W4 (n:Nat) (h1:10000≤n) (h:n<100000):Ctr TP G 162 [.lsl 0 1 1 5,.d (.int .u64 n)] [.row false (Ax .u8 (AcB 24 0))] .undef
  [.row false (Ax .u8 ([0,((48+n / 10000:Nat):Int),((48+n % 10000 / 100 / 10:Nat):Int),((48+n % 10000 / 100 % 10:Nat):Int),((48+n % 10000 % 100 / 10:Nat):Int),((48+n % 10000 % 100 % 10:Nat):Int)]++AcB 18 0))]:=by
 refine Ctr.body (M:=M0) Am Tryz.func162 rfl Q9 ?_
 simp(maxSteps:=1000000)(disch:=(try simp only[awL]);omega)only[awS,Tryz.f162,↓awU,awY,↓reduceIte,↓reduceDIte,↓Qe,Qu,Qv,Qw,Qx,Qy,Qz,QA,QB,QC,QD,QE,QF,QG,QH,QI,QK]
 refine Au.fx 1 (α:=Unit) (β:=Unit) (fun _=>0) (fun _=>[(1,.d (.int .u64 n)),(4,.d (.int .i64 5))]) (fun _=>[.row false (Ax .u8 (AcB 24 0))]) (fun _=>True) 1 (fun _=>[(1,.d (.int .u64 n)),(4,.d (.int .i64 5))]) (fun _=>[.row false (Ax .u8 (AcB 24 0))]) (fun _=>True) () trivial ?_ ?_ ?_
 ·exact ⟨[some 0],rfl,by simp,by simp[sA,kA,SW,AW],by simp[HW,BW,SW,AW]⟩
 ·rintro ⟨⟩ -
  simp only[awK,Ad0,Ad1,reduceIte]
  simp(maxSteps:=1000000)(disch:=(try simp only[awL]);omega)only[awS,↓awU,awY,↓reduceIte,↓reduceDIte,↓Qe,Qu,Qv,Qw,Qx,Qy,Qz,QA,QB,QC,QD,QE,QF,QG,QH,QI,QK]
  exact ⟨(),trivial,⟨[some 0],rfl,by simp,by simp[sA,kA,SW,AW],by simp[HW,BW,SW,AW]⟩⟩
 ·rintro ⟨⟩ -
  simp only[awK,Ad0,Ad1,reduceIte]
  simp(maxSteps:=1000000)(disch:=(try simp only[awL]);omega)only[awS,Ei,De,Pp,Po,Iu,Is,tn2,tn3,smA,smB,↓awU,awY,↓reduceIte,↓reduceDIte,↓Qe,Qu,Qv,Qw,Qx,Qy,Qz,QA,QB,QC,QD,QE,QF,QG,QH,QI,QK]
  first | (exact ⟨[some 0],rfl,by simp,by simp[HW,BW,SW,AW],.inl (by simp[AW,SW])⟩) | (refine ⟨by rfl,?_⟩;exact ⟨[some 0],rfl,by simp,by simp[HW,BW,SW,AW],.inl (by simp[AW,SW])⟩) | (refine ⟨by rfl,by rfl,?_⟩;exact ⟨[some 0],rfl,by simp,by simp[HW,BW,SW,AW],.inl (by simp[AW,SW])⟩) | (refine ⟨by rfl,by rfl,by rfl,?_⟩;exact ⟨[some 0],rfl,by simp,by simp[HW,BW,SW,AW],.inl (by simp[AW,SW])⟩)
theorem W2 (n:Nat) (h1:100000≤n) (h:n<1000000):Ctr TP G 162 [.lsl 0 1 1 6,.d (.int .u64 n)] [.row false (Ax .u8 (AcB 24 0))] .undef
  [.row false (Ax .u8 ([0,((48+n / 10000 % 100 / 10:Nat):Int),((48+n / 10000 % 100 % 10:Nat):Int),((48+n % 10000 / 100 / 10:Nat):Int),((48+n % 10000 / 100 % 10:Nat):Int),((48+n % 10000 % 100 / 10:Nat):Int),((48+n % 10000 % 100 % 10:Nat):Int)]++AcB 17 0))]:=by
 refine Ctr.body (M:=M0) Am Tryz.func162 rfl Q9 ?_
 simp(maxSteps:=1000000)(disch:=(try simp only[awL]);omega)only[awS,Tryz.f162,↓awU,awY,↓reduceIte,↓reduceDIte,↓Qe,Qu,Qv,Qw,Qx,Qy,Qz,QA,QB,QC,QD,QE,QF,QG,QH,QI,QK]
 refine Au.fx 1 (α:=Unit) (β:=Unit) (fun _=>0) (fun _=>[(1,.d (.int .u64 n)),(4,.d (.int .i64 6))]) (fun _=>[.row false (Ax .u8 (AcB 24 0))]) (fun _=>True) 1 (fun _=>[(1,.d (.int .u64 n)),(4,.d (.int .i64 6))]) (fun _=>[.row false (Ax .u8 (AcB 24 0))]) (fun _=>True) () trivial ?_ ?_ ?_
 ·exact ⟨[some 0],rfl,by simp,by simp[sA,kA,SW,AW],by simp[HW,BW,SW,AW]⟩
 ·rintro ⟨⟩ -
  simp only[awK,Ad0,Ad1,reduceIte]
  simp(maxSteps:=1000000)(disch:=(try simp only[awL]);omega)only[awS,↓awU,awY,↓reduceIte,↓reduceDIte,↓Qe,Qu,Qv,Qw,Qx,Qy,Qz,QA,QB,QC,QD,QE,QF,QG,QH,QI,QK]
  exact ⟨(),trivial,⟨[some 0],rfl,by simp,by simp[sA,kA,SW,AW],by simp[HW,BW,SW,AW]⟩⟩
 ·rintro ⟨⟩ -
  simp only[awK,Ad0,Ad1,reduceIte]
  simp(maxSteps:=1000000)(disch:=(try simp only[awL]);omega)only[awS,Ei,De,Pp,Po,Iu,Is,tn2,tn3,smA,smB,↓awU,awY,↓reduceIte,↓reduceDIte,↓Qe,Qu,Qv,Qw,Qx,Qy,Qz,QA,QB,QC,QD,QE,QF,QG,QH,QI,QK]
  first | (exact ⟨[some 0],rfl,by simp,by simp[HW,BW,SW,AW],.inl (by simp[AW,SW])⟩) | (refine ⟨by rfl,?_⟩;exact ⟨[some 0],rfl,by simp,by simp[HW,BW,SW,AW],.inl (by simp[AW,SW])⟩) | (refine ⟨by rfl,by rfl,?_⟩;exact ⟨[some 0],rfl,by simp,by simp[HW,BW,SW,AW],.inl (by simp[AW,SW])⟩) | (refine ⟨by rfl,by rfl,by rfl,?_⟩;exact ⟨[some 0],rfl,by simp,by simp[HW,BW,SW,AW],.inl (by simp[AW,SW])⟩)
theorem W0 (n:Nat) (h1:1000000≤n) (h:n<10000000):Ctr TP G 162 [.lsl 0 1 1 7,.d (.int .u64 n)] [.row false (Ax .u8 (AcB 24 0))] .undef
  [.row false (Ax .u8 ([0,((48+n / 10000 / 100:Nat):Int),((48+n / 10000 % 100 / 10:Nat):Int),((48+n / 10000 % 100 % 10:Nat):Int),((48+n % 10000 / 100 / 10:Nat):Int),((48+n % 10000 / 100 % 10:Nat):Int),((48+n % 10000 % 100 / 10:Nat):Int),((48+n % 10000 % 100 % 10:Nat):Int)]++AcB 16 0))]:=by
 refine Ctr.body (M:=M0) Am Tryz.func162 rfl Q9 ?_
 simp(maxSteps:=1000000)(disch:=(try simp only[awL]);omega)only[awS,Tryz.f162,↓awU,awY,↓reduceIte,↓reduceDIte,↓Qe,Qu,Qv,Qw,Qx,Qy,Qz,QA,QB,QC,QD,QE,QF,QG,QH,QI,QK]
 refine Au.fx 1 (α:=Unit) (β:=Unit) (fun _=>0) (fun _=>[(1,.d (.int .u64 n)),(4,.d (.int .i64 7))]) (fun _=>[.row false (Ax .u8 (AcB 24 0))]) (fun _=>True) 1 (fun _=>[(1,.d (.int .u64 n)),(4,.d (.int .i64 7))]) (fun _=>[.row false (Ax .u8 (AcB 24 0))]) (fun _=>True) () trivial ?_ ?_ ?_
 ·exact ⟨[some 0],rfl,by simp,by simp[sA,kA,SW,AW],by simp[HW,BW,SW,AW]⟩
 ·rintro ⟨⟩ -
  simp only[awK,Ad0,Ad1,reduceIte]
  simp(maxSteps:=1000000)(disch:=(try simp only[awL]);omega)only[awS,↓awU,awY,↓reduceIte,↓reduceDIte,↓Qe,Qu,Qv,Qw,Qx,Qy,Qz,QA,QB,QC,QD,QE,QF,QG,QH,QI,QK]
  exact ⟨(),trivial,⟨[some 0],rfl,by simp,by simp[sA,kA,SW,AW],by simp[HW,BW,SW,AW]⟩⟩
 ·rintro ⟨⟩ -
  simp only[awK,Ad0,Ad1,reduceIte]
  simp(maxSteps:=1000000)(disch:=(try simp only[awL]);omega)only[awS,Ei,De,Pp,Po,Iu,Is,tn2,tn3,smA,smB,↓awU,awY,↓reduceIte,↓reduceDIte,↓Qe,Qu,Qv,Qw,Qx,Qy,Qz,QA,QB,QC,QD,QE,QF,QG,QH,QI,QK]
  first | (exact ⟨[some 0],rfl,by simp,by simp[HW,BW,SW,AW],.inl (by simp[AW,SW])⟩) | (refine ⟨by rfl,?_⟩;exact ⟨[some 0],rfl,by simp,by simp[HW,BW,SW,AW],.inl (by simp[AW,SW])⟩) | (refine ⟨by rfl,by rfl,?_⟩;exact ⟨[some 0],rfl,by simp,by simp[HW,BW,SW,AW],.inl (by simp[AW,SW])⟩) | (refine ⟨by rfl,by rfl,by rfl,?_⟩;exact ⟨[some 0],rfl,by simp,by simp[HW,BW,SW,AW],.inl (by simp[AW,SW])⟩)
def HP (G:Ad):Prop:=G 3=some (Ax .u64 Lib.pow10Tab)
def Tryz.laysLen64_ren:Go.Shelf.Ren:=⟨fun | 129=>191 | n=>n,fun | 53=>177 | 3=>3 | 4=>4 | 46=>155 | 5=>5 | 9=>9 | n=>n,fun | n=>n⟩
theorem Tryz.laysLen64:Go.Proofs.Lays.n129 TP Tryz.laysLen64_ren where
 mixed:=by kernel_rfl
 f129:=Tryz.func191.trans (congrArg some (by kernel_rfl))
 t3:=Tryz.underlying3
 a3:=Tryz.isAgg3
 z3:=Tryz.sizeOf3
 v3:=Tryz.zeroValue3
 t4:=Tryz.underlying4
 a4:=Tryz.isAgg4
 z4:=Tryz.sizeOf4
 v4:=Tryz.zeroValue4
 t5:=Tryz.underlying5
 a5:=Tryz.isAgg5
 z5:=Tryz.sizeOf5
 v5:=Tryz.zeroValue5
 t9:=Tryz.underlying9
 a9:=Tryz.isAgg9
 z9:=Tryz.sizeOf9
 v9:=Tryz.zeroValue9
 t46:=Tryz.underlying155
 a46:=Tryz.isAgg155
 z46:=Tryz.sizeOf155
 v46:=Tryz.zeroValue155
 t53:=Tryz.underlying177
 a53:=Tryz.isAgg177
 z53:=Tryz.sizeOf177
 v53:=Tryz.zeroValue177
theorem Sv (n:Nat) (h:n<18446744073709551616):Ctr TP G 191 [.d (.int .u64 n)] [] (.d (.int .i64 (Lib.bitLen n))) []:=by
 refine Ctr.of_calls Aef fun h ρ w vs q r=>?_
 obtain ⟨v,rfl,hv⟩:=r.inv1
 rw[hv.int_inv]
 refine (Any.bits_Len64 Tryz.laysLen64 n w (by omega) (by omega)).mono ?_
 rintro e w' ⟨rfl,rfl⟩
 exact ⟨_,rfl,.int _ _,.refl _ _⟩
theorem St (x:Nat) (h:x≤64):Ctr TP G 190 [.d (.int .i64 x)] [] (.d (.int .i64 (Lib.l10 x))) []:=by
 refine Ctr.pure (M:=M0) Am Tryz.func190 rfl Aeg ?_
 simp(maxSteps:=1000000)(disch:=(try simp only[awL]);omega)only[awS,Tryz.f190,↓awU,awY,↓reduceIte,↓reduceDIte,↓Qe,Qu,Qv,Qw,Qx,Qy,Qz,QA,QB,QC,QD,QE,QF,QG,QH,QI,QK]
 unfold Lib.l10;omega
theorem SX (b:Bool):Ctr TP G 192 [.d (.bool b)] [] (.d (.int .i64 (if b=true then 1 else 0))) []:=by
 refine Ctr.pure (M:=M0) Am Tryz.func192 rfl Aee ?_
 cases b
 ·simp(maxSteps:=1000000)(disch:=(try simp only[awL]);omega)only[awS,Tryz.f192,↓awU,awY,↓reduceIte,↓reduceDIte,↓Qe,Qu,Qv,Qw,Qx,Qy,Qz,QA,QB,QC,QD,QE,QF,QG,QH,QI,QK]
  try rfl
 ·simp(maxSteps:=1000000)(disch:=(try simp only[awL]);omega)only[awS,Tryz.f192,↓awU,awY,↓reduceIte,↓reduceDIte,↓Qe,Qu,Qv,Qw,Qx,Qy,Qz,QA,QB,QC,QD,QE,QF,QG,QH,QI,QK]
  try rfl
theorem Vm {n:Nat} (h2:n<10000000):Lib.bitLen n≤24:=Lib.bitLen_le n 24 (by decide) (by omega)
theorem LB (hP:HP G) (n:Nat) (h1:1≤n) (h2:n<10000000):Ctr TP G 161 [.d (.int .u64 n)] [] (.d (.int .i64 (Lib.nDigits n))) []:=by
 refine Ctr.pure (M:=M0) Am Tryz.func161 rfl Aet ?_
 have hP':G 3=some (Ax .u64 Lib.pow10Tab):=hP
 obtain ⟨e1,e2⟩:=Lib.numDigits_eq n h1 (by omega)
 have hb:=Vm h2
 have g0:=ints_getD (k:=.u64) (d:=.nilp) (l:=Lib.pow10Tab) (i:=Lib.l10 (Lib.bitLen n)) (by rw[Lib.pow10Tab_length];omega)
 rw[Lib.pow10Tab_at _ (by omega)] at g0
 have pl:=@ints_length .u64 Lib.pow10Tab
 rw[Lib.pow10Tab_length] at pl
 simp(maxSteps:=1000000)(disch:=(try simp only[awL]);omega)only[awS,Tryz.f161,↓awU,awY,↓reduceIte,↓reduceDIte,↓Qe,Qu,Qv,Qw,Qx,Qy,Qz,QA,QB,QC,QD,QE,QF,QG,QH,QI,QK]
 refine Ab.pure (Sv n (by omega)) ?_
 simp(maxSteps:=1000000)(disch:=(try simp only[awL]);omega)only[awS,↓awU,awY,↓reduceIte,↓reduceDIte,↓Qe,Qu,Qv,Qw,Qx,Qy,Qz,QA,QB,QC,QD,QE,QF,QG,QH,QI,QK]
 refine Ab.pure (St (Lib.bitLen n) (by omega)) ?_
 generalize Lib.l10 (Lib.bitLen n)=q at *
 generalize (10:Nat)^q=t at *
 simp(maxSteps:=1000000)(disch:=(try simp only[awL]);omega)only[awS,hP',pl,g0,↓awU,awY,↓reduceIte,↓reduceDIte,↓Qe,Qu,Qv,Qw,Qx,Qy,Qz,QA,QB,QC,QD,QE,QF,QG,QH,QI,QK]
 refine Ab.pure (SX _) ?_
 rw[←e1]
 by_cases ht:t≤n
 ·rw[show decide ((t:Int)≤(n:Int))=true from decide_eq_true (by omega),if_pos rfl,if_pos ht]
  simp(maxSteps:=1000000)(disch:=(try simp only[awL]);omega)only[awS,↓awU,awY,↓reduceIte,↓reduceDIte,↓Qe,Qu,Qv,Qw,Qx,Qy,Qz,QA,QB,QC,QD,QE,QF,QG,QH,QI,QK]
  try rfl
 ·rw[show decide ((t:Int)≤(n:Int))=false from decide_eq_false (by omega),if_neg ht,if_neg (show ¬(false=true) by decide)]
  simp(maxSteps:=1000000)(disch:=(try simp only[awL]);omega)only[awS,↓awU,awY,↓reduceIte,↓reduceDIte,↓Qe,Qu,Qv,Qw,Qx,Qy,Qz,QA,QB,QC,QD,QE,QF,QG,QH,QI,QK]
  try rfl
def MI:BZ:=fun k=>k == 162
theorem Mp:MI 162=true:=rfl
theorem Mq {k:Nat} (h:k≠162):MI k=false:=by simpa only[MI,beq_eq_false_iff_ne] using h
theorem PX {n k m:Nat} (h1:10^k≤n) (h2:n<10^(k+1)) (e:m=k+1):((Lib.nDigits n:Nat):Int)=m:=by rw[Lib.nDigits_unique k n h1 h2,e]
theorem D3 {k:Nat} (h:k<10):((UInt8.ofNat (48+k)).toNat:Int)=((48+k:Nat):Int):=by simp;omega
theorem IW (l z:List UInt8):cut (Ax .u8 ([0]++(Bs l++Bs z))) 1 l.length=Ax .u8 (Bs l):=by
 simp only[cut,Ax,Bs,Afw,AdZ,AfP,List.map_map,List.singleton_append,Aga,List.drop_zero]
 rw[List.take_append_of_le_length (by simp),Afs (by simp)]
theorem row3 {n:Nat} (h1:100≤n) (h:n<1000):Ax .u8 ([0,((48+n / 100:Nat):Int),((48+n % 100 / 10:Nat):Int),((48+n % 100 % 10:Nat):Int)]++AcB 20 0)=Ax .u8 ([0]++(Bs (Lib.decDigits n)++Bs (AcB 20 0))):=by
 rw[dd3 h1 h,prD];simp only[Bs,Afw,AdZ,AfP];rw[D3 (by omega),D3 (by omega),D3 (by omega)];rfl
theorem row4 {n:Nat} (h1:1000≤n) (h:n<10000):Ax .u8 ([0,((48+n % 10000 / 100 / 10:Nat):Int),((48+n % 10000 / 100 % 10:Nat):Int),((48+n % 10000 % 100 / 10:Nat):Int),((48+n % 10000 % 100 % 10:Nat):Int)]++AcB 19 0)=Ax .u8 ([0]++(Bs (Lib.decDigits n)++Bs (AcB 19 0))):=by
 rw[dd4 h1 h,Agc h,prD,prD];simp only[Bs,Afw,AdZ,AfP];rw[D3 (by omega),D3 (by omega),D3 (by omega),D3 (by omega)];rfl
theorem row5 {n:Nat} (h1:10000≤n) (h:n<100000):Ax .u8 ([0,((48+n / 10000:Nat):Int),((48+n % 10000 / 100 / 10:Nat):Int),((48+n % 10000 / 100 % 10:Nat):Int),((48+n % 10000 % 100 / 10:Nat):Int),((48+n % 10000 % 100 % 10:Nat):Int)]++AcB 18 0)=Ax .u8 ([0]++(Bs (Lib.decDigits n)++Bs (AcB 18 0))):=by
 rw[dd5 h1 h,prD,prD];simp only[Bs,Afw,AdZ,AfP];rw[D3 (by omega),D3 (by omega),D3 (by omega),D3 (by omega),D3 (by omega)];rfl
theorem row6 {n:Nat} (h1:100000≤n) (h:n<1000000):Ax .u8 ([0,((48+n / 10000 % 100 / 10:Nat):Int),((48+n / 10000 % 100 % 10:Nat):Int),((48+n % 10000 / 100 / 10:Nat):Int),((48+n % 10000 / 100 % 10:Nat):Int),((48+n % 10000 % 100 / 10:Nat):Int),((48+n % 10000 % 100 % 10:Nat):Int)]++AcB 17 0)=Ax .u8 ([0]++(Bs (Lib.decDigits n)++Bs (AcB 17 0))):=by
 rw[dd6 h1 h,Agc (show n / 10000<100 by omega),prD,prD,prD];simp only[Bs,Afw,AdZ,AfP];rw[D3 (by omega),D3 (by omega),D3 (by omega),D3 (by omega),D3 (by omega),D3 (by omega)];rfl
theorem row7 {n:Nat} (h1:1000000≤n) (h:n<10000000):Ax .u8 ([0,((48+n / 10000 / 100:Nat):Int),((48+n / 10000 % 100 / 10:Nat):Int),((48+n / 10000 % 100 % 10:Nat):Int),((48+n % 10000 / 100 / 10:Nat):Int),((48+n % 10000 / 100 % 10:Nat):Int),((48+n % 10000 % 100 / 10:Nat):Int),((48+n % 10000 % 100 % 10:Nat):Int)]++AcB 16 0)=Ax .u8 ([0]++(Bs (Lib.decDigits n)++Bs (AcB 16 0))):=by
 rw[dd7 h1 h,prD,prD,prD];simp only[Bs,Afw,AdZ,AfP];rw[D3 (by omega),D3 (by omega),D3 (by omega),D3 (by omega),D3 (by omega),D3 (by omega),D3 (by omega)];rfl
theorem Kn (hP:HP G) (n:Nat) (h1:100≤n) (h2:n<10000000):Ctr TP G 121 [.d (.int .i64 n),.d (.int .i64 10)] [] (.d (S (Lib.decDigits n))) []:=by
 refine Ctr.pure (M:=MI) Am Tryz.func121 rfl Z1 ?_
 simp(maxSteps:=1000000)(disch:=(try simp only[awL]);omega)only[awS,Mp,Mq,Tryz.f121,↓awU,awY,↓reduceIte,↓reduceDIte,↓Qe,Qu,Qv,Qw,Qx,Qy,Qz,QA,QB,QC,QD,QE,QF,QG,QH,QI,QK]
 refine Ab.pure (LB hP n (by omega) h2) ?_
 have dl:=Lib.decDigits_length n
 rcases (by omega:n<1000∨(1000≤n∧n<10000)∨(10000≤n∧n<100000)∨(100000≤n∧n<1000000)∨1000000≤n) with h | ⟨h3,h4⟩ | ⟨h3,h4⟩ | ⟨h3,h4⟩ | h
 ·have en:((Lib.nDigits n:Nat):Int)=3:=PX (k:=2) (by omega) (by omega) rfl
  have dl2:(Lib.decDigits n).length=3:=by omega
  have sp:=W6 (G:=G) n h1 h
  rw[row3 h1 h] at sp
  rw[en]
  simp(maxSteps:=1000000)(disch:=(try simp only[awL]);omega)only[awS,Mp,Mq,↓awU,awY,↓reduceIte,↓reduceDIte,↓Qe,Qu,Qv,Qw,Qx,Qy,Qz,QA,QB,QC,QD,QE,QF,QG,QH,QI,QK]
  generalize Lib.decDigits n=dg at *
  refine Ab.by sp (by rfl) (by rfl) (by simp) ?_
  have cr:=IW dg (AcB 20 0)
  rw[dl2] at cr
  have rl:(Ax .u8 ([0]++(Bs dg++Bs (AcB 20 0)))).length=24:=by rw[ints_length];simp only[AdX,BJ,Ae2,dl2,Ae1,Afv]
  generalize Ax .u8 ([0]++(Bs dg++Bs (AcB 20 0)))=rw at *
  simp(maxSteps:=1000000)(disch:=(try simp only[awL]);omega)only[awS,Mp,Mq,rl,cr,Dh,CK,↓awU,awY,↓reduceIte,↓reduceDIte,↓Qe,Qu,Qv,Qw,Qx,Qy,Qz,QA,QB,QC,QD,QE,QF,QG,QH,QI,QK]
  try rfl
 ·have en:((Lib.nDigits n:Nat):Int)=4:=PX (k:=3) (by omega) (by omega) rfl
  have dl2:(Lib.decDigits n).length=4:=by omega
  have sp:=W5 (G:=G) n h3 h4
  rw[row4 h3 h4] at sp
  rw[en]
  simp(maxSteps:=1000000)(disch:=(try simp only[awL]);omega)only[awS,Mp,Mq,↓awU,awY,↓reduceIte,↓reduceDIte,↓Qe,Qu,Qv,Qw,Qx,Qy,Qz,QA,QB,QC,QD,QE,QF,QG,QH,QI,QK]
  generalize Lib.decDigits n=dg at *
  refine Ab.by sp (by rfl) (by rfl) (by simp) ?_
  have cr:=IW dg (AcB 19 0)
  rw[dl2] at cr
  have rl:(Ax .u8 ([0]++(Bs dg++Bs (AcB 19 0)))).length=24:=by rw[ints_length];simp only[AdX,BJ,Ae2,dl2,Ae1,Afv]
  generalize Ax .u8 ([0]++(Bs dg++Bs (AcB 19 0)))=rw at *
  simp(maxSteps:=1000000)(disch:=(try simp only[awL]);omega)only[awS,Mp,Mq,rl,cr,Dh,CK,↓awU,awY,↓reduceIte,↓reduceDIte,↓Qe,Qu,Qv,Qw,Qx,Qy,Qz,QA,QB,QC,QD,QE,QF,QG,QH,QI,QK]
  try rfl
 ·have en:((Lib.nDigits n:Nat):Int)=5:=PX (k:=4) (by omega) (by omega) rfl
  have dl2:(Lib.decDigits n).length=5:=by omega
  have sp:=W4 (G:=G) n h3 h4
  rw[row5 h3 h4] at sp
  rw[en]
  simp(maxSteps:=1000000)(disch:=(try simp only[awL]);omega)only[awS,Mp,Mq,↓awU,awY,↓reduceIte,↓reduceDIte,↓Qe,Qu,Qv,Qw,Qx,Qy,Qz,QA,QB,QC,QD,QE,QF,QG,QH,QI,QK]
  generalize Lib.decDigits n=dg at *
  refine Ab.by sp (by rfl) (by rfl) (by simp) ?_
  have cr:=IW dg (AcB 18 0)
  rw[dl2] at cr
  have rl:(Ax .u8 ([0]++(Bs dg++Bs (AcB 18 0)))).length=24:=by rw[ints_length];simp only[AdX,BJ,Ae2,dl2,Ae1,Afv]
  generalize Ax .u8 ([0]++(Bs dg++Bs (AcB 18 0)))=rw at *
  simp(maxSteps:=1000000)(disch:=(try simp only[awL]);omega)only[awS,Mp,Mq,rl,cr,Dh,CK,↓awU,awY,↓reduceIte,↓reduceDIte,↓Qe,Qu,Qv,Qw,Qx,Qy,Qz,QA,QB,QC,QD,QE,QF,QG,QH,QI,QK]
  try rfl
 ·have en:((Lib.nDigits n:Nat):Int)=6:=PX (k:=5) (by omega) (by omega) rfl
  have dl2:(Lib.decDigits n).length=6:=by omega
  have sp:=W2 (G:=G) n h3 h4
  rw[row6 h3 h4] at sp
  rw[en]
  simp(maxSteps:=1000000)(disch:=(try simp only[awL]);omega)only[awS,Mp,Mq,↓awU,awY,↓reduceIte,↓reduceDIte,↓Qe,Qu,Qv,Qw,Qx,Qy,Qz,QA,QB,QC,QD,QE,QF,QG,QH,QI,QK]
  generalize Lib.decDigits n=dg at *
  refine Ab.by sp (by rfl) (by rfl) (by simp) ?_
  have cr:=IW dg (AcB 17 0)
  rw[dl2] at cr
  have rl:(Ax .u8 ([0]++(Bs dg++Bs (AcB 17 0)))).length=24:=by rw[ints_length];simp only[AdX,BJ,Ae2,dl2,Ae1,Afv]
  generalize Ax .u8 ([0]++(Bs dg++Bs (AcB 17 0)))=rw at *
  simp(maxSteps:=1000000)(disch:=(try simp only[awL]);omega)only[awS,Mp,Mq,rl,cr,Dh,CK,↓awU,awY,↓reduceIte,↓reduceDIte,↓Qe,Qu,Qv,Qw,Qx,Qy,Qz,QA,QB,QC,QD,QE,QF,QG,QH,QI,QK]
  try rfl
 ·have en:((Lib.nDigits n:Nat):Int)=7:=PX (k:=6) (by omega) (by omega) rfl
  have dl2:(Lib.decDigits n).length=7:=by omega
  have sp:=W0 (G:=G) n h h2
  rw[row7 h h2] at sp
  rw[en]
  simp(maxSteps:=1000000)(disch:=(try simp only[awL]);omega)only[awS,Mp,Mq,↓awU,awY,↓reduceIte,↓reduceDIte,↓Qe,Qu,Qv,Qw,Qx,Qy,Qz,QA,QB,QC,QD,QE,QF,QG,QH,QI,QK]
  generalize Lib.decDigits n=dg at *
  refine Ab.by sp (by rfl) (by rfl) (by simp) ?_
  have cr:=IW dg (AcB 16 0)
  rw[dl2] at cr
  have rl:(Ax .u8 ([0]++(Bs dg++Bs (AcB 16 0)))).length=24:=by rw[ints_length];simp only[AdX,BJ,Ae2,dl2,Ae1,Afv]
  generalize Ax .u8 ([0]++(Bs dg++Bs (AcB 16 0)))=rw at *
  simp(maxSteps:=1000000)(disch:=(try simp only[awL]);omega)only[awS,Mp,Mq,rl,cr,Dh,CK,↓awU,awY,↓reduceIte,↓reduceDIte,↓Qe,Qu,Qv,Qw,Qx,Qy,Qz,QA,QB,QC,QD,QE,QF,QG,QH,QI,QK]
  try rfl
theorem UU {n:Nat} (h:n<100):Cs n=Lib.decDigits n:=by
 unfold Cs
 split
 ·rw[Xh (by omega)]
 ·rw[Xg (by omega) h];rfl
theorem Ko (hP:HP G) (n:Nat) (h2:n<10000000):Ctr TP G 121 [.d (.int .i64 n),.d (.int .i64 10)] [] (.d (S (Lib.decDigits n))) []:=by
 rcases Ae3 n 100 with h | h
 ·rw[←UU h];exact GB n h
 ·exact Kn hP n h h2
theorem Q4 (hP:HP G) (n:Nat) (h:n<10000000):Ctr TP G 93 [.d (.int .i64 n)] [] (.d (S (Lib.decDigits n))) []:=by
 refine Ctr.pure (M:=M0) Am Tryz.func93 rfl go93 ?_
 simp(maxSteps:=1000000)(disch:=(try simp only[awL]);omega)only[awS,Tryz.f93,↓awU,awY,↓reduceIte,↓reduceDIte,↓Qe,Qu,Qv,Qw,Qx,Qy,Qz,QA,QB,QC,QD,QE,QF,QG,QH,QI,QK]
 refine Ab.pure (Ko hP n h) ?_
 simp(maxSteps:=1000000)(disch:=(try simp only[awL]);omega)only[awS,↓awU,awY,↓reduceIte,↓reduceDIte,↓Qe,Qu,Qv,Qw,Qx,Qy,Qz,QA,QB,QC,QD,QE,QF,QG,QH,QI,QK]
 first | done | rfl
theorem LP (hP:HP G) (n:Nat) (h:n<10000000):Ctr TP G 51 [.d (.int .i64 n)] [] (.d (S (Lib.decDigits n))) []:=by
 refine Ctr.pure (M:=M0) Am Tryz.func51 rfl go51 ?_
 simp(maxSteps:=1000000)(disch:=(try simp only[awL]);omega)only[awS,Tryz.f51,↓awU,awY,↓reduceIte,↓reduceDIte,↓Qe,Qu,Qv,Qw,Qx,Qy,Qz,QA,QB,QC,QD,QE,QF,QG,QH,QI,QK]
 refine Ab.pure (Q4 hP n h) ?_
 simp(maxSteps:=1000000)(disch:=(try simp only[awL]);omega)only[awS,↓awU,awY,↓reduceIte,↓reduceDIte,↓Qe,Qu,Qv,Qw,Qx,Qy,Qz,QA,QB,QC,QD,QE,QF,QG,QH,QI,QK]
 first | done | rfl
theorem AdS (hP:HP G):HI G:=fun n hn=>LP hP n (by omega)
end Go.Proofs.YtmidaophnbdcdaaGreatDoor
namespace Go.Proofs.YtmidaophnbdcdaaGreatDoor
open Go Go.Proofs Go.Abs Go.RowKit Go.ChangeShapes Go.WideShapes Go.ChangeAt Go.Shelf Go.Joins Go.Deep
theorem US {l:List Int} {i:Nat} {d:Int} (h:i<l.length):l.getD i d∈l:=by
 rw[AdT,AdU h];exact AfV h
theorem own:ownKnob Tryz.prog.godebug=none:=by kernel_rfl
theorem Ze:laidOutB TP=true:=by kernel_rfl
theorem cU8:Tryz.prog.cellsOf 5=1:=by kernel_rfl
theorem cU64:Tryz.prog.cellsOf 177=1:=by kernel_rfl
theorem Za {l:List Int} (h:∀ n∈l,(Lit.int .u8 n).wf=true):∀ i,0≤l.getD i 0∧l.getD i 0≤255:=by
 intro i
 rcases Ae3 i l.length with hi | hi
 ·have:=h _ (US (d:=0) hi)
  simp[Lit.wf,IntKind.min,IntKind.max,IntKind.bits,IntKind.signed] at this
  rw[AdT]
  omega
 ·rw[AdT,AfI hi];simp
def G1 (_b:Bool):Ad:=fun g=>if g=0 then some FL else if g=1 then some Mo else if g=3 then some (Ax .u64 Lib.pow10Tab)
 else none
theorem XM:U8Types TP Tryz.laysValid_ren:=U8Types.of196 Tryz.laysValid
theorem XN:U8Extra TP Tryz.laysValid_ren where
 n3:=by kernel_rfl
 n4:=by kernel_rfl
 y3:=by kernel_rfl
 y4:=by kernel_rfl
 c5:=by kernel_rfl
 c119:=by kernel_rfl
 c138:=by kernel_rfl
theorem WX:Rows.laid_unicode_utf8_first=Lib.firstData:=by kernel_rfl
theorem Vt:(Rows.laid_unicode_utf8_acceptRanges:DataW Unit)=Lib.acceptData:=by kernel_rfl
theorem AaL:(Rows.laid_internal_strconv_uint64pow10:DataW Unit)=Lib.tabData .u64 Lib.pow10Tab:=by kernel_rfl
theorem gPow:Tryz.prog.globalNamed "internal/strconv.uint64pow10" = some 3:=by kernel_rfl
theorem tPow:(Tryz.prog.globals[3]?).map (·.type)=some 249:=by kernel_rfl
theorem cPow:Tryz.prog.cellsOf 249=20:=by kernel_rfl
theorem AaS {X:World} {b:Bool} (h1:Lib.VarReads TP X "unicode/utf8.first" Rows.laid_unicode_utf8_first) (h2:Lib.VarReads TP X "unicode/utf8.acceptRanges" Rows.laid_unicode_utf8_acceptRanges)
  (h3:Lib.VarReads TP X "internal/strconv.uint64pow10" Rows.laid_internal_strconv_uint64pow10)
  (_h4:b=true→True):Pd (G1 b) X:=by
 rw[WX] at h1
 rw[Vt] at h2
 rw[AaL] at h3
 obtain ⟨t1,t2⟩:Lib.Utf8Tabs 0 1 X:=utf8Tabs_of_readsT XM XN h1 h2
 intro g ds hg
 unfold G1 at hg
 split at hg
 ·rename_i e;subst e;cases hg
  refine ⟨fun i=>.int .u8 (Lib.firstT i),fun i x hx=>?_,fun i x hx=>?_⟩
  ·have hi:i<256:=by have:=(AdW.1 hx).1;simpa[FL] using this
   exact t1 i hi
  ·have hi:i<256:=by have:=(AdW.1 hx).1;simpa[FL] using this
   simp[FL,hi] at hx
   subst hx;exact .int _ _
 ·split at hg
  ·rename_i e;subst e;cases hg
   refine ⟨fun i=>.int .u8 ((if i % 2=0 then Lib.accLo (i / 2) else Lib.accHi (i / 2):Nat):Int),fun i x hx=>?_,fun i x hx=>?_⟩
   ·have hi:i<32:=by have:=(AdW.1 hx).1;simpa[Mo] using this
    obtain ⟨a,b⟩:=t2 (i / 2) (by omega)
    rcases (by omega:i % 2=0∨i % 2=1) with h0 | h0
    ·show X.cell? ⟨_,i,none⟩=_
     simp only[if_pos h0]
     rw[←a,show 2*(i / 2)=i by omega]
    ·show X.cell? ⟨_,i,none⟩=_
     simp only[if_neg (show ¬i % 2=0 by omega)]
     rw[←b,show 2*(i / 2)+1=i by omega]
   ·have hi:i<32:=by have:=(AdW.1 hx).1;simpa[Mo] using this
    simp only[Mo,AfJ,Af9 hi,AfX,Option.some.injEq] at hx
    subst hx;exact .int _ _
  ·split at hg
   ·rename_i e;subst e;cases hg
    obtain ⟨g',t,cs,fuel,p,hg',ht',hvar,hd⟩:=h3
    obtain rfl:=Option.some.inj (gPow.symm.trans hg')
    obtain rfl:=Option.some.inj (tPow.symm.trans ht')
    have hcs:=Lib.cells_of_tab Tryz.underlying249 Tryz.underlying177 cU64 cPow hd
    refine ⟨fun i=>.int .u64 (Lib.pow10Tab.getD i 0),fun i x hx=>?_,fun i x hx=>?_⟩
    ·have hi:i<Lib.pow10Tab.length:=by have:=(AdW.1 hx).1;simpa[Ax] using this
     show X.cell? ⟨_,i,none⟩=_
     rw[World.var?_cell hg' hvar i,←AfT,hcs]
     simp[hi]
    ·have hi:i<Lib.pow10Tab.length:=by have:=(AdW.1 hx).1;simpa[Ax] using this
     simp only[Ax,AfJ,AdU hi,AfX,Option.some.injEq] at hx
     subst hx
     show RD _ (Value.int .u64 (Lib.pow10Tab.getD i 0)) _
     rw[AdT,AdU hi]
     exact .int _ _
   ·cases hg
end Go.Proofs.YtmidaophnbdcdaaGreatDoor
