/-
  Contracts of the functions, one after another.
-/
import Derived.Test.YtmidaophnbdcdaaGreatDoorLa3
import Derived.Lib.ValidLaws
import Derived.Test.YtmidaophnbdcdaaGreatDoorChecked
import Derived.KernelRfl
import Derived.Shelf.Unicode.ValidAny
import Derived.Ground.NamesProg
import Derived.Lib.DecodeN
import Derived.Shelf.Strings.OnBuilder
import Derived.Lib.Strings
import Derived.Lib.Slices
import Derived.Lib.Walk
import Derived.Lib.Bytealg
import Derived.Shelf.Strings.Trim
import Derived.Shelf.Strings.Replace
import Derived.Shelf.Strings.Repeat
import Derived.Shelf.Strings.Builder1
import Derived.Shelf.Utf8.RuneCount
import Derived.Shelf.Strings.Prefix
import Derived.Shelf.Small.Wraps
import Derived.Lib.OthersKept
import Derived.Lib.MapLaws
import Derived.Lib.RuneBytes
import Derived.Lib.ItoaNum
import Derived.Lib.ItoaMem
import Derived.Lib.ItoaLen
import Derived.Shelf.Strconv.AtoiAll
import Derived.Lib.AtoiErrMem
import Derived.Shelf.Strconv.Itoa0
import Derived.Test.YtmidaophnbdcdaaGreatDoorCards
import Derived.Test.YtmidaophnbdcdaaGreatDoorTie
import Derived.Lib.LaidU8T
import Derived.Lib.LaidTab
import Derived.LaidLaws
import Derived.Shelf.Vars
import Derived.Lib.SmallJoins
set_option linter.all false
open Go.Abs renaming Bc->HW,Dv->BW,Cx->SW,Ap->AW,BP->sA,Bw->kZ
open Go.Proofs.Tryz renaming prog->TP
set_option maxHeartbeats 8000000
set_option maxRecDepth 100000
open Go.Abs renaming DD->Qe
open Nat renaming reduceAdd->Qu,reduceSub->Qv,reduceMul->Qw,reducePow->Qx,reduceDiv->Qy,reduceMod->Qz,reduceEqDiff->QI,reduceBEq->QK
open Int renaming reduceAdd->QA,reduceSub->QB,reduceMul->QC,reducePow->QD,reduceNeg->QE,reduceToNat->QF,reduceLT->QG,reduceLE->QH
open List renaming getD_eq_getElem?_getD->AbY,replicate->AbZ,getElem?_eq_getElem->Aeg,getElem?_eq_some_iff->Aeq,length_append->Aes,length_cons->Aet,take_of_length_le->Aeu,map_cons->Aev,getElem?_eq_none->AfI,length_replicate->AfZ,drop_eq_getElem_cons->Af0,take_add_one->Af1,length_take->Af2,eq_nil_of_length_eq_zero->Agb,map_nil->Agp,length_nil->Agq,map_append->Agu,getElem?_map->Agx,getElem_mem->AgJ,append_nil->AgM,getElem?_take->AgP,range->AgQ,take_zero->AgR,getElem?_append_left->AgT,append_assoc->AgV,getElem?_cons_zero->AgW,drop_eq_nil_of_le->AgY,nil_append->AgZ,mem_of_mem_take->Ag1,getElem?_range->Ag3,drop_succ_cons->Ag4,replicate_succ->Ag6,mem_cons->Ag7,map_toArray->Ahc,cons_append->Ahd,length_set->Ahi,mem_append->Ahj,any_cons->Ahp
open Nat renaming le_refl->Aen,reduceMod->Aew,reduceDiv->Aex,lt_or_ge->AeA,mul_add->AeB,zero_le->Aga,testBit_two_pow_sub_succ->Agv,div_lt_iff_lt_mul->Agw,mod_eq_of_lt->AgA,mul_comm->AgB,mul_assoc->AgC,add_zero->AgD,div_div_eq_div_mul->AgE,pow_succ->AgF,testBit_eq_decide_div_mod_eq->AgG,strongRecOn->AgK,div_lt_self->AgN,mod_add_div->AgO,lt_of_lt_of_le->AgS,add_mul_mod_self_left->AgU,zero_add->AgX,min_eq_left->Ag0,add_mul_div_left->Ag2,mul_le_mul_left->Ag5,add_assoc->Ag8,and_lt_two_pow->Ag9,le_of_lt->Aha,le_pred_of_lt->Ahb,div_eq_of_lt->Ahe,mul_one->Ahf,pow_add->Ahg,add_mul->Ahh,testBit_and->Ahk,testBit_xor->Ahl,log2_eq_iff->Ahm,mod_lt->Ahr
open Int renaming toNat_natCast->Aer,ofNat_tdiv->Ahn,ofNat_tmod->Aho
open Option renaming getD_some->Af7,map_some->AgL
open Array renaming getElem?_eq_some_iff->Agy,getElem?_modify->AgH,getElem?_toList->AgI
open Bool renaming and_eq_true->Agz,or_false->Ahq
namespace Go.Proofs.YtmidaophnbdcdaaGreatDoor
section
structure Dia where
 del:UInt8
 quo:UInt8
 trim:Bool
end
section
open Go.Lib
def UX {n b1 b2 b3 sz lo hi k:Nat} (h:checkN n b1 b2 b3 sz lo hi=some k):k=sz/\2<=sz/\sz<=4/\sz<=n/\lo<=b1/\b1<=hi/\(3<=sz->128<=b2/\b2<=191)/\(4<=sz->128<=b3/\b3<=191):=by
 unfold checkN at h;split at h
 ·split at h;·cases h
  cases h;omega
 split at h
 ·split at h;·cases h
  cases h;omega
 split at h
 ·split at h;·cases h
  cases h;omega
 cases h
def Zd {n b1 b2 b3 sz lo hi:Nat} (h1:2<=sz) (h2:sz<=4) (hn:sz<=n) (hl:lo<=b1) (hh:b1<=hi) (h3:3<=sz->128<=b2/\b2<=191) (h4:4<=sz->128<=b3/\b3<=191):checkN n b1 b2 b3 sz lo hi=some sz:=by
 unfold checkN;rcases (by omega:sz=2\/sz=3\/sz=4) with rfl | rfl | rfl
 ·rw[if_pos rfl,if_neg lA]
 ·have:=h3 lA;rw[if_neg lz,if_pos rfl,if_neg lA]
 have:=h3 lA;have:=h4 lA;rw[if_neg lz,if_neg lz,if_pos rfl,if_neg lA]
def AbI:∀ b:Fin 256,2<=firstT b.val % 8->firstT b.val % 8<=4->128<=accLo (firstT b.val / 16):=lz
def Tl {l:List UInt8} (h:validD l=true):l=[]\/∃ p m,l=p++m/\p≠[]/\validD m=true/\(∀ m',validD (p++m')=validD m')/\((∃ c,p=[c]/\c.toNat<128)\/∀ c∈p,128<=c.toNat):=by
 match l,h with
 | [],_=>exact .inl rfl
 | c::r,h =>
  right;by_cases hc:c.toNat<128;·exact ⟨[c],r,rfl,lC,by rwa[validD_cons c r hc] at h,fun m'=>validD_cons c m' hc,.inl ⟨c,rfl,hc⟩⟩
  have h0:128<=((c::r).getD 0 0).toNat:=by show 128<=c.toNat;omega
  have hv:=validD_lead (c::r) lC h0;rw[h] at hv;cases hk:checkN (c::r).length ((c::r).getD 1 0).toNat ((c::r).getD 2 0).toNat ((c::r).getD 3 0).toNat (firstT ((c::r).getD 0 0).toNat % 8) (accLo (firstT ((c::r).getD 0 0).toNat / 16)) (accHi (firstT ((c::r).getD 0 0).toNat / 16)) with
  | none=>rw[hk] at hv;cases hv
  | some k =>
   rw[hk] at hv;obtain ⟨ek,k1,k2,k3,k4,k5,k6,k7⟩:=UX hk;have lo:=AbI ⟨((c::r).getD 0 0).toNat,UInt8.toNat_lt _⟩ k1 k2;simp only at lo;generalize hl:c::r=l at *;clear hl hc;have hg:∀ m' j,j<k->(l.take k++m').getD j 0=l.getD j 0:=(by intro m' j hj;rw[AbY,AbY,AgT (by rw[Af2];omega),AgP,if_pos hj])
   have hkl:k<=l.length:=lA;have hlt:(l.take k).length=k:=(by rw[Af2];omega);refine ⟨l.take k,l.drop k,(List.take_append_drop k l).symm,?_,hv.symm,fun m'=>?_,.inr ?_⟩;·intro e;rw[e] at hlt;simp at hlt;omega
   ·have hne:l.take k++m'≠[]:=by
     intro e;have:=congrArg List.length e;rw[Aes,hlt] at this;simp only[Agq] at this;omega
    have g0:=hg m' 0 lA;have g1:=hg m' 1 lA;rw[validD_lead _ hne (by rw[g0];exact h0),g0,g1,Zd (sz:=firstT (l.getD 0 0).toNat % 8) k1 k2 (by rw[Aes,Af2];omega) k4 k5 (fun h3=>by rw[hg m' 2 lA];exact k6 h3) (fun h4=>by rw[hg m' 3 lA];exact k7 h4)];show validD ((l.take k++m').drop (firstT (l.getD 0 0).toNat % 8))=_
    rw[<-ek,List.drop_left' hlt]
   intro x hx;obtain ⟨j,hj,rfl⟩:=List.getElem_of_mem hx;rw[Af2] at hj;rw[List.getElem_take];have e:l[j]=l.getD j 0:=(by rw[AbY,Aeg lA];rfl)
   rw[e];rcases (by omega:j=0\/j=1\/j=2\/j=3) with rfl | rfl | rfl | rfl
   ·exact h0
   ·omega
   ·exact (k6 lA).1
   exact (k7 lA).1
def RN:∀ (n:Nat) (a b:List UInt8),a.length=n->validD a=true->validD (a++b)=validD b:=by
 intro n;induction n using AgK with
 | _ n ih =>
  intro a b hn ha;rcases Tl ha with rfl | ⟨p,m,rfl,hp,hm,hall,_⟩
  ·rfl
  have:=List.length_pos_iff.2 hp;rw[AgV,hall,ih m.length (by rw[Aes] at hn;omega) m b rfl hm]
def X6 {a b:List UInt8} (ha:validD a=true) (hb:validD b=true):validD (a++b)=true:=by rw[RN _ a b rfl ha];exact hb
end
section
open Go Go.Proofs Go.Abs
def st2:Dy TP 2=false:=by kernel_rfl
def st3:Dy TP 3=false:=by kernel_rfl
def ti9:AZ TP 9=some ⟨.string,1,16,[.str .empty]⟩:=by kernel_rfl
def go5:An TP 5=true:=by kernel_rfl
def go7:An TP 7=true:=by kernel_rfl
def go8:An TP 8=true:=by kernel_rfl
def go10:An TP 10=true:=by kernel_rfl
def go11:An TP 11=true:=by kernel_rfl
def go12:An TP 12=true:=by kernel_rfl
def go13:An TP 13=true:=by kernel_rfl
def go16:An TP 16=true:=by kernel_rfl
def go17:An TP 17=true:=by kernel_rfl
def go18:An TP 18=true:=by kernel_rfl
def go19:An TP 19=true:=by kernel_rfl
def go20:An TP 20=true:=by kernel_rfl
def go21:An TP 21=true:=by kernel_rfl
def go22:An TP 22=true:=by kernel_rfl
def go23:An TP 23=true:=by kernel_rfl
def go24:An TP 24=true:=by kernel_rfl
def go25:An TP 25=true:=by kernel_rfl
def go26:An TP 26=true:=by kernel_rfl
def go27:An TP 27=true:=by kernel_rfl
def go28:An TP 28=true:=by kernel_rfl
def go29:An TP 29=true:=by kernel_rfl
def go30:An TP 30=true:=by kernel_rfl
def Aa3:An TP 31=true:=by kernel_rfl
def go32:An TP 32=true:=by kernel_rfl
def go33:An TP 33=true:=by kernel_rfl
def go37:An TP 37=true:=by kernel_rfl
def go38:An TP 38=true:=by kernel_rfl
def go39:An TP 39=true:=by kernel_rfl
def go40:An TP 40=true:=by kernel_rfl
def go41:An TP 41=true:=by kernel_rfl
def go42:An TP 42=true:=by kernel_rfl
def Ux:An TP 43=true:=by kernel_rfl
def go44:An TP 44=true:=by kernel_rfl
def go45:An TP 45=true:=by kernel_rfl
def go46:An TP 46=true:=by kernel_rfl
def go47:An TP 47=true:=by kernel_rfl
def go48:An TP 48=true:=by kernel_rfl
def go49:An TP 49=true:=by kernel_rfl
def go50:An TP 50=true:=by kernel_rfl
def go51:An TP 51=true:=by kernel_rfl
def go52:An TP 52=true:=by kernel_rfl
def go53:An TP 53=true:=by kernel_rfl
def go54:An TP 54=true:=by kernel_rfl
def go55:An TP 55=true:=by kernel_rfl
def go56:An TP 56=true:=by kernel_rfl
def go57:An TP 57=true:=by kernel_rfl
def go58:An TP 58=true:=by kernel_rfl
def go59:An TP 59=true:=by kernel_rfl
def AcJ:An TP 60=true:=by kernel_rfl
def go62:An TP 62=true:=by kernel_rfl
def go68:An TP 68=true:=by kernel_rfl
def go69:An TP 69=true:=by kernel_rfl
def go70:An TP 70=true:=by kernel_rfl
def go71:An TP 71=true:=by kernel_rfl
def go72:An TP 72=true:=by kernel_rfl
def go73:An TP 73=true:=by kernel_rfl
def go74:An TP 74=true:=by kernel_rfl
def go75:An TP 75=true:=by kernel_rfl
def go76:An TP 76=true:=by kernel_rfl
def go77:An TP 77=true:=by kernel_rfl
def go78:An TP 78=true:=by kernel_rfl
def SD:An TP 79=true:=by kernel_rfl
def go80:An TP 80=true:=by kernel_rfl
def Aa2:An TP 81=true:=by kernel_rfl
def go82:An TP 82=true:=by kernel_rfl
def go85:An TP 85=true:=by kernel_rfl
def go86:An TP 86=true:=by kernel_rfl
def go87:An TP 87=true:=by kernel_rfl
def go90:An TP 90=true:=by kernel_rfl
def go91:An TP 91=true:=by kernel_rfl
def go92:An TP 92=true:=by kernel_rfl
def go93:An TP 93=true:=by kernel_rfl
def go95:An TP 95=true:=by kernel_rfl
def go96:An TP 96=true:=by kernel_rfl
def AdT:An TP 97=true:=by kernel_rfl
def go98:An TP 98=true:=by kernel_rfl
def AfY:An TP 100=true:=by kernel_rfl
def AfX:An TP 101=true:=by kernel_rfl
def AfW:An TP 102=true:=by kernel_rfl
def AfV:An TP 103=true:=by kernel_rfl
def AfU:An TP 104=true:=by kernel_rfl
def AfT:An TP 105=true:=by kernel_rfl
def AfS:An TP 106=true:=by kernel_rfl
def AfR:An TP 107=true:=by kernel_rfl
def AfQ:An TP 108=true:=by kernel_rfl
def AfP:An TP 109=true:=by kernel_rfl
def AfO:An TP 110=true:=by kernel_rfl
def AfN:An TP 111=true:=by kernel_rfl
def AfM:An TP 112=true:=by kernel_rfl
def AfL:An TP 113=true:=by kernel_rfl
def AfK:An TP 114=true:=by kernel_rfl
def AfJ:An TP 115=true:=by kernel_rfl
def Adu:An TP 116=true:=by kernel_rfl
def AfH:An TP 120=true:=by kernel_rfl
def Adt:An TP 121=true:=by kernel_rfl
def AfG:An TP 122=true:=by kernel_rfl
def AfF:An TP 123=true:=by kernel_rfl
def AfE:An TP 124=true:=by kernel_rfl
def AfD:An TP 125=true:=by kernel_rfl
def AfC:An TP 126=true:=by kernel_rfl
def AfB:An TP 127=true:=by kernel_rfl
def AfA:An TP 129=true:=by kernel_rfl
def Afz:An TP 130=true:=by kernel_rfl
def Afy:An TP 131=true:=by kernel_rfl
def Afx:An TP 132=true:=by kernel_rfl
def Ads:An TP 133=true:=by kernel_rfl
def Afw:An TP 134=true:=by kernel_rfl
def Afv:An TP 135=true:=by kernel_rfl
def Afu:An TP 136=true:=by kernel_rfl
def Aft:An TP 137=true:=by kernel_rfl
def Afs:An TP 138=true:=by kernel_rfl
def Afr:An TP 139=true:=by kernel_rfl
def Afq:An TP 140=true:=by kernel_rfl
def Afp:An TP 141=true:=by kernel_rfl
def Afo:An TP 142=true:=by kernel_rfl
def Afn:An TP 143=true:=by kernel_rfl
def Afm:An TP 144=true:=by kernel_rfl
def Afl:An TP 145=true:=by kernel_rfl
def Afk:An TP 146=true:=by kernel_rfl
def Afj:An TP 147=true:=by kernel_rfl
def Afi:An TP 148=true:=by kernel_rfl
def Afh:An TP 149=true:=by kernel_rfl
def Afg:An TP 150=true:=by kernel_rfl
def Aff:An TP 151=true:=by kernel_rfl
def Afe:An TP 152=true:=by kernel_rfl
def Afd:An TP 153=true:=by kernel_rfl
def Afc:An TP 154=true:=by kernel_rfl
def Afb:An TP 155=true:=by kernel_rfl
def Afa:An TP 156=true:=by kernel_rfl
def Ae9:An TP 160=true:=by kernel_rfl
def Ae8:An TP 161=true:=by kernel_rfl
def Uy:An TP 162=true:=by kernel_rfl
def Ae7:An TP 164=true:=by kernel_rfl
def Ae6:An TP 167=true:=by kernel_rfl
def Ae5:An TP 168=true:=by kernel_rfl
def Ae4:An TP 169=true:=by kernel_rfl
def Adr:An TP 170=true:=by kernel_rfl
def Adq:An TP 171=true:=by kernel_rfl
def Ae3:An TP 172=true:=by kernel_rfl
def Ae2:An TP 173=true:=by kernel_rfl
def Ae1:An TP 174=true:=by kernel_rfl
def Ae0:An TP 175=true:=by kernel_rfl
def AeZ:An TP 176=true:=by kernel_rfl
def AeY:An TP 177=true:=by kernel_rfl
def AeX:An TP 178=true:=by kernel_rfl
def AeW:An TP 179=true:=by kernel_rfl
def AeV:An TP 180=true:=by kernel_rfl
def AeU:An TP 181=true:=by kernel_rfl
def AeT:An TP 182=true:=by kernel_rfl
def AeS:An TP 183=true:=by kernel_rfl
def Adp:An TP 184=true:=by kernel_rfl
def AeR:An TP 185=true:=by kernel_rfl
def AeQ:An TP 190=true:=by kernel_rfl
def AeP:An TP 191=true:=by kernel_rfl
def AeO:An TP 192=true:=by kernel_rfl
def Ado:An TP 201=true:=by kernel_rfl
def AeN:An TP 202=true:=by kernel_rfl
def AeM:An TP 203=true:=by kernel_rfl
def AeL:An TP 204=true:=by kernel_rfl
def AeK:An TP 205=true:=by kernel_rfl
def AeJ:An TP 206=true:=by kernel_rfl
def AeI:An TP 207=true:=by kernel_rfl
def AeH:An TP 208=true:=by kernel_rfl
def Adn:An TP 211=true:=by kernel_rfl
def Adm:An TP 221=true:=by kernel_rfl
def AeG:An TP 222=true:=by kernel_rfl
def AeF:An TP 223=true:=by kernel_rfl
def AeE:An TP 224=true:=by kernel_rfl
def AeD:An TP 225=true:=by kernel_rfl
def Adl:An TP 246=true:=by kernel_rfl
def AeC:An TP 247=true:=by kernel_rfl
def Aez:An TP 291=true:=by kernel_rfl
def Aey:An TP 293=true:=by kernel_rfl
def fa0:AZ TP 2=some ⟨.int .i64,1,8,[.int .i64 0]⟩/\Lu TP 2=some .i64/\AZ TP 3=some ⟨.int .i64,1,8,[.int .i64 0]⟩/\HR TP 3=some (.int .i64 0)/\Lu TP 3=some .i64/\AZ TP 4=some ⟨.bool,1,1,[.bool false]⟩/\HR TP 4=some (.bool false)/\M3 TP 4=true/\AZ TP 5=some ⟨.int .u8,1,1,[.int .u8 0]⟩/\HR TP 5=some (.int .u8 0)/\Lu TP 5=some .u8/\Dy TP 9=true:=by
 repeat' apply ab
 all_goals kernel_rfl
def fa1:AZ TP 22=some ⟨.slice 5,1,24,[.sl 0 true []]⟩/\Aq TP 22=some (5,⟨.int .u8,1,1,[.int .u8 0]⟩)/\BD TP 22=true/\Bp TP 22=true/\Dy TP 22=false/\AZ TP 26=some ⟨.slice 9,1,24,[.sl 0 true []]⟩/\Aq TP 26=some (9,⟨.string,1,16,[.str .empty]⟩)/\BD TP 26=true/\Bp TP 26=true/\AZ TP 27=some ⟨.slice 29,1,24,[.sl 0 true []]⟩/\Aq TP 27=some (29,⟨.struct [(0,3,1),(1,9,1),(2,26,1),(3,27,1)],4,72,[.int .i64 0,.str .empty,.sl 0 true [],.sl 0 true []]⟩)/\BD TP 27=true:=by
 repeat' apply ab
 all_goals kernel_rfl
def fa2:Bp TP 27=true/\AZ TP 29=some ⟨.struct [(0,3,1),(1,9,1),(2,26,1),(3,27,1)],4,72,[.int .i64 0,.str .empty,.sl 0 true [],.sl 0 true []]⟩/\AL TP 29 0=some (0,3,1)/\AL TP 29 1=some (1,9,1)/\AL TP 29 2=some (2,26,1)/\AL TP 29 3=some (3,27,1)/\AZ TP 34=some ⟨.slice 3,1,24,[.sl 0 true []]⟩/\Aq TP 34=some (3,⟨.int .i64,1,8,[.int .i64 0]⟩)/\BD TP 34=true/\Bp TP 34=true/\AZ TP 35=some ⟨.slice 43,1,24,[.sl 0 true []]⟩/\Aq TP 35=some (43,⟨.struct [(0,3,1),(1,9,1),(2,41,1)],3,48,[.int .i64 0,.str .empty,.sl 0 true []]⟩):=by
 repeat' apply ab
 all_goals kernel_rfl
def fa3:BD TP 35=true/\Bp TP 35=true/\AZ TP 41=some ⟨.slice 46,1,24,[.sl 0 true []]⟩/\Aq TP 41=some (46,⟨.struct [(0,9,1),(1,44,1)],2,40,[.str .empty,.sl 0 true []]⟩)/\BD TP 41=true/\Bp TP 41=true/\AZ TP 43=some ⟨.struct [(0,3,1),(1,9,1),(2,41,1)],3,48,[.int .i64 0,.str .empty,.sl 0 true []]⟩/\AL TP 43 0=some (0,3,1)/\AL TP 43 1=some (1,9,1)/\AL TP 43 2=some (2,41,1)/\AZ TP 44=some ⟨.slice 48,1,24,[.sl 0 true []]⟩/\Aq TP 44=some (48,⟨.struct [(0,4,1),(1,9,1)],2,24,[.bool false,.str .empty]⟩):=by
 repeat' apply ab
 all_goals kernel_rfl
def fa4:BD TP 44=true/\Bp TP 44=true/\AZ TP 46=some ⟨.struct [(0,9,1),(1,44,1)],2,40,[.str .empty,.sl 0 true []]⟩/\AL TP 46 0=some (0,9,1)/\AL TP 46 1=some (1,44,1)/\AZ TP 48=some ⟨.struct [(0,4,1),(1,9,1)],2,24,[.bool false,.str .empty]⟩/\HR TP 48=some (.agg [.bool false,.str .empty])/\AL TP 48 0=some (0,4,1)/\AL TP 48 1=some (1,9,1)/\AZ TP 58=some ⟨.struct [(0,22,1),(1,3,1)],2,32,[.sl 0 true [],.int .i64 0]⟩/\AL TP 58 0=some (0,22,1)/\AL TP 58 1=some (1,3,1):=by
 repeat' apply ab
 all_goals kernel_rfl
def fa5:HR TP 62=some (.sl 0 true [])/\Aq TP 62=some (64,⟨.struct [(0,3,1),(1,29,4)],5,80,[.int .i64 0,.int .i64 0,.str .empty,.sl 0 true [],.sl 0 true []]⟩)/\BD TP 62=true/\Bp TP 62=true/\AZ TP 64=some ⟨.struct [(0,3,1),(1,29,4)],5,80,[.int .i64 0,.int .i64 0,.str .empty,.sl 0 true [],.sl 0 true []]⟩/\AL TP 64 0=some (0,3,1)/\AL TP 64 1=some (1,29,4)/\AZ TP 69=some ⟨.struct [(0,3,1),(1,35,1)],2,32,[.int .i64 0,.sl 0 true []]⟩/\AL TP 69 0=some (0,3,1)/\AL TP 69 1=some (1,35,1)/\AZ TP 79=some ⟨.struct [(0,77,1),(1,22,1)],2,32,[.nilp,.sl 0 true []]⟩/\AZ TP 88=some ⟨.struct [(0,9,1),(1,27,1)],2,40,[.str .empty,.sl 0 true []]⟩:=by
 repeat' apply ab
 all_goals kernel_rfl
def fa6:AL TP 88 0=some (0,9,1)/\AL TP 88 1=some (1,27,1)/\AZ TP 94=some ⟨.struct [(0,9,1),(1,3,1),(2,4,1)],3,32,[.str .empty,.int .i64 0,.bool false]⟩/\AL TP 94 0=some (0,9,1)/\AL TP 94 1=some (1,3,1)/\AL TP 94 2=some (2,4,1)/\AZ TP 100=some ⟨.slice 108,1,24,[.sl 0 true []]⟩/\Aq TP 100=some (108,⟨.map 9 48,1,8,[.nilm]⟩)/\BD TP 100=true/\Bp TP 100=true/\AZ TP 101=some ⟨.map 9 62,1,8,[.nilm]⟩/\AZ TP 102=some ⟨.map 9 3,1,8,[.nilm]⟩:=by
 repeat' apply ab
 all_goals kernel_rfl
def fa7:AZ TP 104=some ⟨.struct [(0,4,1),(1,34,1),(2,26,1),(3,100,1),(4,26,1),(5,101,1),(6,102,1)],7,120,[.bool false,.sl 0 true [],.sl 0 true [],.sl 0 true [],.sl 0 true [],.nilm,.nilm]⟩/\AL TP 104 0=some (0,4,1)/\AL TP 104 1=some (1,34,1)/\AL TP 104 2=some (2,26,1)/\AL TP 104 3=some (3,100,1)/\AL TP 104 4=some (4,26,1)/\AL TP 104 5=some (5,101,1)/\AL TP 104 6=some (6,102,1)/\AZ TP 105=some ⟨.map 9 4,1,8,[.nilm]⟩/\AZ TP 108=some ⟨.map 9 48,1,8,[.nilm]⟩/\AZ TP 124=some ⟨.map 4 5,1,8,[.nilm]⟩/\AZ TP 128=some ⟨.slice 187,1,24,[.sl 0 true []]⟩:=by
 repeat' apply ab
 all_goals kernel_rfl
def fa8:Aq TP 128=some (187,⟨.int .u32,1,4,[.int .u32 0]⟩)/\BD TP 128=true/\Bp TP 128=true/\AZ TP 130=some ⟨.struct [(0,4,1),(1,128,1)],2,32,[.bool false,.sl 0 true []]⟩/\AL TP 130 0=some (0,4,1)/\AL TP 130 1=some (1,128,1)/\AZ TP 132=some ⟨.struct [(0,130,2),(2,130,2)],4,64,[.bool false,.sl 0 true [],.bool false,.sl 0 true []]⟩/\AZ TP 141=some ⟨.array 256 4,256,256,[.bool false,.bool false,.bool false,.bool false,.bool false,.bool false,.bool false,.bool false,.bool false,.bool false,.bool false,.bool false,.bool false,.bool false,.bool false,.bool false,.bool false,.bool false,.bool false,.bool false,.bool false,.bool false,.bool false,.bool false,.bool false,.bool false,.bool false,.bool false,.bool false,.bool false,.bool false,.bool false,.bool false,.bool false,.bool false,.bool false,.bool false,.bool false,.bool false,.bool false,.bool false,.bool false,.bool false,.bool false,.bool false,.bool false,.bool false,.bool false,.bool false,.bool false,.bool false,.bool false,.bool false,.bool false,.bool false,.bool false,.bool false,.bool false,.bool false,.bool false,.bool false,.bool false,.bool false,.bool false,.bool false,.bool false,.bool false,.bool false,.bool false,.bool false,.bool false,.bool false,.bool false,.bool false,.bool false,.bool false,.bool false,.bool false,.bool false,.bool false,.bool false,.bool false,.bool false,.bool false,.bool false,.bool false,.bool false,.bool false,.bool false,.bool false,.bool false,.bool false,.bool false,.bool false,.bool false,.bool false,.bool false,.bool false,.bool false,.bool false,.bool false,.bool false,.bool false,.bool false,.bool false,.bool false,.bool false,.bool false,.bool false,.bool false,.bool false,.bool false,.bool false,.bool false,.bool false,.bool false,.bool false,.bool false,.bool false,.bool false,.bool false,.bool false,.bool false,.bool false,.bool false,.bool false,.bool false,.bool false,.bool false,.bool false,.bool false,.bool false,.bool false,.bool false,.bool false,.bool false,.bool false,.bool false,.bool false,.bool false,.bool false,.bool false,.bool false,.bool false,.bool false,.bool false,.bool false,.bool false,.bool false,.bool false,.bool false,.bool false,.bool false,.bool false,.bool false,.bool false,.bool false,.bool false,.bool false,.bool false,.bool false,.bool false,.bool false,.bool false,.bool false,.bool false,.bool false,.bool false,.bool false,.bool false,.bool false,.bool false,.bool false,.bool false,.bool false,.bool false,.bool false,.bool false,.bool false,.bool false,.bool false,.bool false,.bool false,.bool false,.bool false,.bool false,.bool false,.bool false,.bool false,.bool false,.bool false,.bool false,.bool false,.bool false,.bool false,.bool false,.bool false,.bool false,.bool false,.bool false,.bool false,.bool false,.bool false,.bool false,.bool false,.bool false,.bool false,.bool false,.bool false,.bool false,.bool false,.bool false,.bool false,.bool false,.bool false,.bool false,.bool false,.bool false,.bool false,.bool false,.bool false,.bool false,.bool false,.bool false,.bool false,.bool false,.bool false,.bool false,.bool false,.bool false,.bool false,.bool false,.bool false,.bool false,.bool false,.bool false,.bool false,.bool false,.bool false,.bool false,.bool false,.bool false,.bool false,.bool false,.bool false,.bool false,.bool false,.bool false,.bool false,.bool false,.bool false,.bool false,.bool false,.bool false,.bool false,.bool false]⟩/\Aq TP 141=none/\EY TP 141=some (256,4,1)/\Aq TP 146=some (149,⟨.struct [(0,29,4),(4,4,1)],5,80,[.int .i64 0,.str .empty,.sl 0 true [],.sl 0 true [],.bool false]⟩)/\BD TP 146=true:=by
 repeat' apply ab
 all_goals kernel_rfl
def fa9:Bp TP 146=true/\AZ TP 149=some ⟨.struct [(0,29,4),(4,4,1)],5,80,[.int .i64 0,.str .empty,.sl 0 true [],.sl 0 true [],.bool false]⟩/\AL TP 149 0=some (0,29,4)/\Lu TP 155=some .u64/\AZ TP 177=some ⟨.int .u64,1,8,[.int .u64 0]⟩/\Lu TP 177=some .u64/\AZ TP 187=some ⟨.int .u32,1,4,[.int .u32 0]⟩/\Lu TP 187=some .u32/\AZ TP 195=some ⟨.struct [(0,185,0),(0,189,1),(1,193,2)],3,12,[.int .u32 0,.int .i32 0,.int .u32 0]⟩/\AZ TP 197=some ⟨.other,1,16,[.nili]⟩/\AZ TP 199=some ⟨.struct [(0,195,3),(3,197,1),(4,26,1)],5,56,[.int .u32 0,.int .i32 0,.int .u32 0,.nili,.sl 0 true []]⟩/\AL TP 199 0=some (0,195,3):=by
 repeat' apply ab
 all_goals kernel_rfl
def fa10:AL TP 199 1=some (3,197,1)/\AL TP 199 2=some (4,26,1)/\AZ TP 205=some ⟨.slice 187,1,24,[.sl 0 true []]⟩/\Aq TP 205=some (187,⟨.int .u32,1,4,[.int .u32 0]⟩)/\BD TP 205=true/\Bp TP 205=true/\AZ TP 222=some ⟨.struct [(0,9,1),(1,29,4)],5,88,[.str .empty,.int .i64 0,.str .empty,.sl 0 true [],.sl 0 true []]⟩/\AL TP 222 0=some (0,9,1)/\AL TP 222 1=some (1,29,4)/\Aq TP 223=some (222,⟨.struct [(0,9,1),(1,29,4)],5,88,[.str .empty,.int .i64 0,.str .empty,.sl 0 true [],.sl 0 true []]⟩)/\BD TP 223=true/\AZ TP 225=some ⟨.map 5 5,1,8,[.nilm]⟩:=by
 repeat' apply ab
 all_goals kernel_rfl
def fa11:AZ TP 228=some ⟨.array 24 5,24,24,[.int .u8 0,.int .u8 0,.int .u8 0,.int .u8 0,.int .u8 0,.int .u8 0,.int .u8 0,.int .u8 0,.int .u8 0,.int .u8 0,.int .u8 0,.int .u8 0,.int .u8 0,.int .u8 0,.int .u8 0,.int .u8 0,.int .u8 0,.int .u8 0,.int .u8 0,.int .u8 0,.int .u8 0,.int .u8 0,.int .u8 0,.int .u8 0]⟩/\EY TP 228=some (24,5,1)/\Aq TP 249=none/\EY TP 249=some (20,177,1)/\AZ TP 262=some ⟨.array 256 22,256,6144,[.sl 0 true [],.sl 0 true [],.sl 0 true [],.sl 0 true [],.sl 0 true [],.sl 0 true [],.sl 0 true [],.sl 0 true [],.sl 0 true [],.sl 0 true [],.sl 0 true [],.sl 0 true [],.sl 0 true [],.sl 0 true [],.sl 0 true [],.sl 0 true [],.sl 0 true [],.sl 0 true [],.sl 0 true [],.sl 0 true [],.sl 0 true [],.sl 0 true [],.sl 0 true [],.sl 0 true [],.sl 0 true [],.sl 0 true [],.sl 0 true [],.sl 0 true [],.sl 0 true [],.sl 0 true [],.sl 0 true [],.sl 0 true [],.sl 0 true [],.sl 0 true [],.sl 0 true [],.sl 0 true [],.sl 0 true [],.sl 0 true [],.sl 0 true [],.sl 0 true [],.sl 0 true [],.sl 0 true [],.sl 0 true [],.sl 0 true [],.sl 0 true [],.sl 0 true [],.sl 0 true [],.sl 0 true [],.sl 0 true [],.sl 0 true [],.sl 0 true [],.sl 0 true [],.sl 0 true [],.sl 0 true [],.sl 0 true [],.sl 0 true [],.sl 0 true [],.sl 0 true [],.sl 0 true [],.sl 0 true [],.sl 0 true [],.sl 0 true [],.sl 0 true [],.sl 0 true [],.sl 0 true [],.sl 0 true [],.sl 0 true [],.sl 0 true [],.sl 0 true [],.sl 0 true [],.sl 0 true [],.sl 0 true [],.sl 0 true [],.sl 0 true [],.sl 0 true [],.sl 0 true [],.sl 0 true [],.sl 0 true [],.sl 0 true [],.sl 0 true [],.sl 0 true [],.sl 0 true [],.sl 0 true [],.sl 0 true [],.sl 0 true [],.sl 0 true [],.sl 0 true [],.sl 0 true [],.sl 0 true [],.sl 0 true [],.sl 0 true [],.sl 0 true [],.sl 0 true [],.sl 0 true [],.sl 0 true [],.sl 0 true [],.sl 0 true [],.sl 0 true [],.sl 0 true [],.sl 0 true [],.sl 0 true [],.sl 0 true [],.sl 0 true [],.sl 0 true [],.sl 0 true [],.sl 0 true [],.sl 0 true [],.sl 0 true [],.sl 0 true [],.sl 0 true [],.sl 0 true [],.sl 0 true [],.sl 0 true [],.sl 0 true [],.sl 0 true [],.sl 0 true [],.sl 0 true [],.sl 0 true [],.sl 0 true [],.sl 0 true [],.sl 0 true [],.sl 0 true [],.sl 0 true [],.sl 0 true [],.sl 0 true [],.sl 0 true [],.sl 0 true [],.sl 0 true [],.sl 0 true [],.sl 0 true [],.sl 0 true [],.sl 0 true [],.sl 0 true [],.sl 0 true [],.sl 0 true [],.sl 0 true [],.sl 0 true [],.sl 0 true [],.sl 0 true [],.sl 0 true [],.sl 0 true [],.sl 0 true [],.sl 0 true [],.sl 0 true [],.sl 0 true [],.sl 0 true [],.sl 0 true [],.sl 0 true [],.sl 0 true [],.sl 0 true [],.sl 0 true [],.sl 0 true [],.sl 0 true [],.sl 0 true [],.sl 0 true [],.sl 0 true [],.sl 0 true [],.sl 0 true [],.sl 0 true [],.sl 0 true [],.sl 0 true [],.sl 0 true [],.sl 0 true [],.sl 0 true [],.sl 0 true [],.sl 0 true [],.sl 0 true [],.sl 0 true [],.sl 0 true [],.sl 0 true [],.sl 0 true [],.sl 0 true [],.sl 0 true [],.sl 0 true [],.sl 0 true [],.sl 0 true [],.sl 0 true [],.sl 0 true [],.sl 0 true [],.sl 0 true [],.sl 0 true [],.sl 0 true [],.sl 0 true [],.sl 0 true [],.sl 0 true [],.sl 0 true [],.sl 0 true [],.sl 0 true [],.sl 0 true [],.sl 0 true [],.sl 0 true [],.sl 0 true [],.sl 0 true [],.sl 0 true [],.sl 0 true [],.sl 0 true [],.sl 0 true [],.sl 0 true [],.sl 0 true [],.sl 0 true [],.sl 0 true [],.sl 0 true [],.sl 0 true [],.sl 0 true [],.sl 0 true [],.sl 0 true [],.sl 0 true [],.sl 0 true [],.sl 0 true [],.sl 0 true [],.sl 0 true [],.sl 0 true [],.sl 0 true [],.sl 0 true [],.sl 0 true [],.sl 0 true [],.sl 0 true [],.sl 0 true [],.sl 0 true [],.sl 0 true [],.sl 0 true [],.sl 0 true [],.sl 0 true [],.sl 0 true [],.sl 0 true [],.sl 0 true [],.sl 0 true [],.sl 0 true [],.sl 0 true [],.sl 0 true [],.sl 0 true [],.sl 0 true [],.sl 0 true [],.sl 0 true [],.sl 0 true [],.sl 0 true [],.sl 0 true [],.sl 0 true [],.sl 0 true [],.sl 0 true [],.sl 0 true [],.sl 0 true [],.sl 0 true [],.sl 0 true [],.sl 0 true [],.sl 0 true [],.sl 0 true [],.sl 0 true [],.sl 0 true [],.sl 0 true [],.sl 0 true [],.sl 0 true [],.sl 0 true [],.sl 0 true [],.sl 0 true [],.sl 0 true []]⟩/\Aq TP 262=none/\EY TP 262=some (256,22,1)/\AZ TP 264=some ⟨.struct [(0,262,256),(256,26,1)],257,6168,[.sl 0 true [],.sl 0 true [],.sl 0 true [],.sl 0 true [],.sl 0 true [],.sl 0 true [],.sl 0 true [],.sl 0 true [],.sl 0 true [],.sl 0 true [],.sl 0 true [],.sl 0 true [],.sl 0 true [],.sl 0 true [],.sl 0 true [],.sl 0 true [],.sl 0 true [],.sl 0 true [],.sl 0 true [],.sl 0 true [],.sl 0 true [],.sl 0 true [],.sl 0 true [],.sl 0 true [],.sl 0 true [],.sl 0 true [],.sl 0 true [],.sl 0 true [],.sl 0 true [],.sl 0 true [],.sl 0 true [],.sl 0 true [],.sl 0 true [],.sl 0 true [],.sl 0 true [],.sl 0 true [],.sl 0 true [],.sl 0 true [],.sl 0 true [],.sl 0 true [],.sl 0 true [],.sl 0 true [],.sl 0 true [],.sl 0 true [],.sl 0 true [],.sl 0 true [],.sl 0 true [],.sl 0 true [],.sl 0 true [],.sl 0 true [],.sl 0 true [],.sl 0 true [],.sl 0 true [],.sl 0 true [],.sl 0 true [],.sl 0 true [],.sl 0 true [],.sl 0 true [],.sl 0 true [],.sl 0 true [],.sl 0 true [],.sl 0 true [],.sl 0 true [],.sl 0 true [],.sl 0 true [],.sl 0 true [],.sl 0 true [],.sl 0 true [],.sl 0 true [],.sl 0 true [],.sl 0 true [],.sl 0 true [],.sl 0 true [],.sl 0 true [],.sl 0 true [],.sl 0 true [],.sl 0 true [],.sl 0 true [],.sl 0 true [],.sl 0 true [],.sl 0 true [],.sl 0 true [],.sl 0 true [],.sl 0 true [],.sl 0 true [],.sl 0 true [],.sl 0 true [],.sl 0 true [],.sl 0 true [],.sl 0 true [],.sl 0 true [],.sl 0 true [],.sl 0 true [],.sl 0 true [],.sl 0 true [],.sl 0 true [],.sl 0 true [],.sl 0 true [],.sl 0 true [],.sl 0 true [],.sl 0 true [],.sl 0 true [],.sl 0 true [],.sl 0 true [],.sl 0 true [],.sl 0 true [],.sl 0 true [],.sl 0 true [],.sl 0 true [],.sl 0 true [],.sl 0 true [],.sl 0 true [],.sl 0 true [],.sl 0 true [],.sl 0 true [],.sl 0 true [],.sl 0 true [],.sl 0 true [],.sl 0 true [],.sl 0 true [],.sl 0 true [],.sl 0 true [],.sl 0 true [],.sl 0 true [],.sl 0 true [],.sl 0 true [],.sl 0 true [],.sl 0 true [],.sl 0 true [],.sl 0 true [],.sl 0 true [],.sl 0 true [],.sl 0 true [],.sl 0 true [],.sl 0 true [],.sl 0 true [],.sl 0 true [],.sl 0 true [],.sl 0 true [],.sl 0 true [],.sl 0 true [],.sl 0 true [],.sl 0 true [],.sl 0 true [],.sl 0 true [],.sl 0 true [],.sl 0 true [],.sl 0 true [],.sl 0 true [],.sl 0 true [],.sl 0 true [],.sl 0 true [],.sl 0 true [],.sl 0 true [],.sl 0 true [],.sl 0 true [],.sl 0 true [],.sl 0 true [],.sl 0 true [],.sl 0 true [],.sl 0 true [],.sl 0 true [],.sl 0 true [],.sl 0 true [],.sl 0 true [],.sl 0 true [],.sl 0 true [],.sl 0 true [],.sl 0 true [],.sl 0 true [],.sl 0 true [],.sl 0 true [],.sl 0 true [],.sl 0 true [],.sl 0 true [],.sl 0 true [],.sl 0 true [],.sl 0 true [],.sl 0 true [],.sl 0 true [],.sl 0 true [],.sl 0 true [],.sl 0 true [],.sl 0 true [],.sl 0 true [],.sl 0 true [],.sl 0 true [],.sl 0 true [],.sl 0 true [],.sl 0 true [],.sl 0 true [],.sl 0 true [],.sl 0 true [],.sl 0 true [],.sl 0 true [],.sl 0 true [],.sl 0 true [],.sl 0 true [],.sl 0 true [],.sl 0 true [],.sl 0 true [],.sl 0 true [],.sl 0 true [],.sl 0 true [],.sl 0 true [],.sl 0 true [],.sl 0 true [],.sl 0 true [],.sl 0 true [],.sl 0 true [],.sl 0 true [],.sl 0 true [],.sl 0 true [],.sl 0 true [],.sl 0 true [],.sl 0 true [],.sl 0 true [],.sl 0 true [],.sl 0 true [],.sl 0 true [],.sl 0 true [],.sl 0 true [],.sl 0 true [],.sl 0 true [],.sl 0 true [],.sl 0 true [],.sl 0 true [],.sl 0 true [],.sl 0 true [],.sl 0 true [],.sl 0 true [],.sl 0 true [],.sl 0 true [],.sl 0 true [],.sl 0 true [],.sl 0 true [],.sl 0 true [],.sl 0 true [],.sl 0 true [],.sl 0 true [],.sl 0 true [],.sl 0 true [],.sl 0 true [],.sl 0 true [],.sl 0 true [],.sl 0 true [],.sl 0 true [],.sl 0 true [],.sl 0 true [],.sl 0 true [],.sl 0 true [],.sl 0 true [],.sl 0 true [],.sl 0 true [],.sl 0 true [],.sl 0 true [],.sl 0 true []]⟩/\ZA TP 264=some (AbZ 257 (.val (.slice none 0 0)))/\AL TP 264 0=some (0,262,256)/\AL TP 264 1=some (256,26,1)/\Acs TP 265=true:=by
 repeat' apply ab
 all_goals kernel_rfl
set_option linter.defProp false in
def awF:=(ab (ab (ab ti9 (ab fa0 fa1)) (ab fa2 (ab fa3 fa4))) (ab (ab fa5 (ab fa6 fa7)) (ab (ab fa8 fa9) (ab fa10 fa11))))
set_option linter.defProp false in
def Ad := ab awV (ab awX awF)
def Ak:Tryz.prog.follows .mixedOrders=true:=by kernel_rfl
end
section
open Go Go.Proofs Go.Abs Go.RowKit Go.Shelf
variable {G:Ah}
abbrev M0:B8:=fun _=>false
abbrev S (l:List UInt8):D:=.str (bs l)
def Ha:List D:=(AgQ 256).map fun c=>.int .u8 (Lib.firstT c)
def OR:List D:=(AgQ 32).map fun i=>.int .u8 (if i % 2=0 then Lib.accLo (i / 2) else Lib.accHi (i / 2):Nat)
def HT (G:Ah):Prop:=G 0=some Ha/\G 1=some OR
def Tryz.laysValid_ren:Go.Shelf.Ren:=⟨fun | 196=>55 | 259=>94 | n=>n,fun | 9=>9 | 4=>4 | 3=>3 | 5=>5 | 12=>12 | 119=>151 | 0=>0 | 46=>155 | 139=>154 | 138=>153 | 53=>177 | n=>n,fun | 3=>0 | 4=>1 | n=>n⟩
def Tryz.laysValid:Go.Proofs.Lays.n196 TP Tryz.laysValid_ren where
 mixed:=by kernel_rfl
 f196:=Tryz.func55.trans (congrArg some (by kernel_rfl))
 f259:=Tryz.func94.trans (congrArg some (by kernel_rfl))
 t0:=Tryz.underlying0
 a0:=Tryz.isAgg0
 z0:=Tryz.sizeOf0
 v0:=Tryz.zeroValue0
 t3:=Tryz.underlying3
 a3:=Tryz.isAgg3
 z3:=Tryz.sizeOf3
 v3:=Tryz.zeroValue3
 t4:=Tryz.underlying4
 a4:=Tryz.isAgg4
 z4:=Tryz.sizeOf4
 v4:=Tryz.zeroValue4
 t5:=Tryz.underlying5
 a5:=Tryz.isAgg5
 z5:=Tryz.sizeOf5
 v5:=Tryz.zeroValue5
 t9:=Tryz.underlying9
 a9:=Tryz.isAgg9
 z9:=Tryz.sizeOf9
 v9:=Tryz.zeroValue9
 t12:=Tryz.underlying12
 a12:=Tryz.isAgg12
 z12:=Tryz.sizeOf12
 v12:=Tryz.zeroValue12
 t46:=Tryz.underlying155
 a46:=Tryz.isAgg155
 z46:=Tryz.sizeOf155
 v46:=Tryz.zeroValue155
 t53:=Tryz.underlying177
 a53:=Tryz.isAgg177
 z53:=Tryz.sizeOf177
 v53:=Tryz.zeroValue177
 t119:=Tryz.underlying151
 a119:=Tryz.isAgg151
 z119:=Tryz.sizeOf151
 t138:=Tryz.underlying153
 a138:=Tryz.isAgg153
 z138:=Tryz.sizeOf153
 v138:=Tryz.zeroValue153
 t139:=Tryz.underlying154
 a139:=Tryz.isAgg154
 z139:=Tryz.sizeOf154
 v139:=Tryz.zeroValue154
 g3:=by kernel_rfl
 g4:=by kernel_rfl
def Nm {h:Held} {ρ:Abs.Place} {H:A9} {w:World} {g:Nat} {l:List Int} (s:Sim G h ρ H w) (e:G g=some (Ar .u8 l)) {i:Nat} (hi:i<l.length):w.cell? ⟨g,i,none⟩=some (.int .u8 (l.getD i 0)):=by
 obtain ⟨vs,h1,h2⟩:=s.glob g _ e;have hx:(Ar .u8 l)[i]?=some (.int .u8 (l.getD i 0)):=by simp[Ar,hi,AbY]
 have:=s.prom _ _ _ (h1 i _ hx);rw[this];have r:=h2 i _ hx;generalize vs i=v at r;cases r;rfl
def Wj:Ha=Ar .u8 ((AgQ 256).map fun c=>(Lib.firstT c:Int)):=by simp[Ha,Ar]
def AbJ:OR=Ar .u8 ((AgQ 32).map fun i=>((if i % 2=0 then Lib.accLo (i / 2) else Lib.accHi (i / 2):Nat):Int)):=by simp[OR,Ar]
def Aca {h:Held} {ρ:Abs.Place} {H:A9} {w:World} (hT:HT G) (s:Sim G h ρ H w):Lib.Utf8Tabs 0 1 w:=by
 obtain ⟨e1,e2⟩:=hT;rw[Wj] at e1;rw[AbJ] at e2;refine ⟨fun c hc=>?_,fun i hi=>⟨?_,?_⟩⟩;·rw[Nm s e1 iX];simp[AbY,hc]
 ·rw[Nm s e2 jW];simp[AbY,show 2*i<32 by omega]
 rw[Nm s e2 jW];simp[AbY,show 2*i+1<32 by omega,show (2*i+1) % 2=1 by omega,show (2*i+1) / 2=i by omega]
def LM (hT:HT G) (l:List UInt8) (hl:l.length<=9223372036854775807):Ctr TP G 55 [.d (S l)] [] (.d (.bool (Lib.validD l))) []:=by refine Ctr.of_calls go55 fun h ρ w vs q r=>?_;obtain ⟨v,rfl,hv⟩:=r.inv1;rw[hv.str_inv];refine (Any.utf8_ValidString Tryz.laysValid (bs l) w (by rw[DQ];exact hl) (Aca hT q)).mono ?_;rintro e w' ⟨rfl,hb⟩;exact ⟨_,rfl,.bool _,hb⟩
def EJ (hT:HT G) (l:List UInt8) (hl:l.length<=9223372036854775807):Ctr TP G 30 [.d (S l)] [] (.d (.bool (Lib.validD l))) []:=by refine Ctr.pure (M:=M0) Ak Tryz.func30 rfl go30 ?_;simp only[Tryz.f30,↓Ab,Ad,↓reduceIte,Qv];exact pL
def Kf (hT:HT G) (l:List UInt8) (hl:l.length<=9223372036854775807):Ctr TP G 33 [.d (S l)] [] (.d (.bool (Lib.validD l))) []:=by refine Ctr.pure (M:=M0) Ak Tryz.func33 rfl go33 ?_;simp only[Tryz.f33,↓Ab,Ad,↓reduceIte,Qv];exact pL
def hasP (s p:List UInt8):Bool:=decide (s.take p.length=p)
def hasP_le {s p:List UInt8} (h:hasP s p=true):p.length<=s.length:=aC
def hasPrefix_spec (s p:List UInt8):Ctr TP G 184 [.d (S s),.d (S p)] [] (.d (.bool (hasP s p))) []:=ac
def DP (s p:List UInt8):Ctr TP G 154 [.d (S s),.d (S p)] [] (.d (.bool (hasP s p))) []:=by refine Ctr.pure (M:=M0) Ak Tryz.func154 rfl Afc ?_;simp only[Tryz.f154,↓Ab,Ad,↓reduceIte,Qu,Qv];refine Aa.pure (hasPrefix_spec s p) ?_;exact qD
def Tryz.laysTrim_ren:Go.Shelf.Ren:=⟨fun | 160=>48 | 232=>84 | 231=>83 | 227=>85 | 234=>87 | 233=>86 | 236=>89 | 235=>88 | 228=>116 | 271=>119 | 151=>118 | 197=>117 | 120=>159 | 152=>158 | 260=>157 | 137=>186 | 119=>187 | 224=>188 | 225=>189 | 217=>211 | 266=>235 | n=>n,fun | 9=>9 | 4=>4 | 3=>3 | 5=>5 | 117=>142 | 116=>141 | 0=>0 | 124=>145 | 21=>21 | 105=>173 | 46=>155 | 119=>151 | 139=>154 | 138=>153 | n=>n,fun | 3=>0 | 4=>1 | n=>n⟩
def Tryz.laysTrim:Go.Proofs.Lays.n160 TP Tryz.laysTrim_ren where
 mixed:=by kernel_rfl
 f119:=Tryz.func187.trans (congrArg some (by kernel_rfl))
 f120:=Tryz.func159.trans (congrArg some (by kernel_rfl))
 f137:=Tryz.func186.trans (congrArg some (by kernel_rfl))
 f151:=Tryz.func118.trans (congrArg some (by kernel_rfl))
 f152:=Tryz.func158.trans (congrArg some (by kernel_rfl))
 f160:=Tryz.func48.trans (congrArg some (by kernel_rfl))
 f197:=Tryz.func117.trans (congrArg some (by kernel_rfl))
 f217:=Tryz.func211.trans (congrArg some (by kernel_rfl))
 f224:=Tryz.func188.trans (congrArg some (by kernel_rfl))
 f225:=Tryz.func189.trans (congrArg some (by kernel_rfl))
 f227:=Tryz.func85.trans (congrArg some (by kernel_rfl))
 f228:=Tryz.func116.trans (congrArg some (by kernel_rfl))
 f231:=Tryz.func83.trans (congrArg some (by kernel_rfl))
 f232:=Tryz.func84.trans (congrArg some (by kernel_rfl))
 f233:=Tryz.func86.trans (congrArg some (by kernel_rfl))
 f234:=Tryz.func87.trans (congrArg some (by kernel_rfl))
 f235:=Tryz.func88.trans (congrArg some (by kernel_rfl))
 f236:=Tryz.func89.trans (congrArg some (by kernel_rfl))
 f260:=Tryz.func157.trans (congrArg some (by kernel_rfl))
 f266:=Tryz.func235.trans (congrArg some (by kernel_rfl))
 f271:=Tryz.func119.trans (congrArg some (by kernel_rfl))
 t0:=Tryz.underlying0
 a0:=Tryz.isAgg0
 z0:=Tryz.sizeOf0
 v0:=Tryz.zeroValue0
 t3:=Tryz.underlying3
 a3:=Tryz.isAgg3
 z3:=Tryz.sizeOf3
 v3:=Tryz.zeroValue3
 t4:=Tryz.underlying4
 a4:=Tryz.isAgg4
 z4:=Tryz.sizeOf4
 v4:=Tryz.zeroValue4
 t5:=Tryz.underlying5
 a5:=Tryz.isAgg5
 z5:=Tryz.sizeOf5
 v5:=Tryz.zeroValue5
 t9:=Tryz.underlying9
 a9:=Tryz.isAgg9
 z9:=Tryz.sizeOf9
 v9:=Tryz.zeroValue9
 t21:=Tryz.underlying21
 a21:=Tryz.isAgg21
 z21:=Tryz.sizeOf21
 v21:=Tryz.zeroValue21
 t46:=Tryz.underlying155
 a46:=Tryz.isAgg155
 z46:=Tryz.sizeOf155
 v46:=Tryz.zeroValue155
 t105:=Tryz.underlying173
 a105:=Tryz.isAgg173
 z105:=Tryz.sizeOf173
 v105:=Tryz.zeroValue173
 t116:=Tryz.underlying141
 a116:=Tryz.isAgg141
 z116:=Tryz.sizeOf141
 t117:=Tryz.underlying142
 a117:=Tryz.isAgg142
 z117:=Tryz.sizeOf142
 v117:=Tryz.zeroValue142
 t119:=Tryz.underlying151
 a119:=Tryz.isAgg151
 z119:=Tryz.sizeOf151
 t124:=Tryz.underlying145
 a124:=Tryz.isAgg145
 z124:=Tryz.sizeOf145
 v124:=Tryz.zeroValue145
 t138:=Tryz.underlying153
 a138:=Tryz.isAgg153
 z138:=Tryz.sizeOf153
 v138:=Tryz.zeroValue153
 t139:=Tryz.underlying154
 a139:=Tryz.isAgg154
 z139:=Tryz.sizeOf154
 v139:=Tryz.zeroValue154
 g3:=by kernel_rfl
 g4:=by kernel_rfl
def Tryz.laysReplaceAll_ren:Go.Shelf.Ren:=⟨fun | 166=>68 | 240=>99 | 276=>128 | n=>n,fun | 70=>77 | 9=>9 | 3=>3 | 75=>119 | 0=>0 | 72=>79 | 37=>22 | 4=>4 | 164=>182 | 80=>60 | 5=>5 | n=>n,fun | n=>n⟩
def Tryz.laysReplaceAll:Go.Proofs.Lays.n166 TP Tryz.laysReplaceAll_ren where
 mixed:=by kernel_rfl
 f166:=Tryz.func68.trans (congrArg some (by kernel_rfl))
 f240:=Tryz.func99.trans (congrArg some (by kernel_rfl))
 f276:=Tryz.func128.trans (congrArg some (by kernel_rfl))
 t0:=Tryz.underlying0
 a0:=Tryz.isAgg0
 z0:=Tryz.sizeOf0
 v0:=Tryz.zeroValue0
 t3:=Tryz.underlying3
 a3:=Tryz.isAgg3
 z3:=Tryz.sizeOf3
 v3:=Tryz.zeroValue3
 t4:=Tryz.underlying4
 a4:=Tryz.isAgg4
 z4:=Tryz.sizeOf4
 v4:=Tryz.zeroValue4
 t9:=Tryz.underlying9
 a9:=Tryz.isAgg9
 z9:=Tryz.sizeOf9
 v9:=Tryz.zeroValue9
 t20:=Tryz.underlying20
 a20:=Tryz.isAgg20
 z20:=Tryz.sizeOf20
 v20:=Tryz.zeroValue20
 t37:=Tryz.underlying22
 a37:=Tryz.isAgg22
 z37:=Tryz.sizeOf22
 v37:=Tryz.zeroValue22
 t70:=Tryz.underlying77
 a70:=Tryz.isAgg77
 z70:=Tryz.sizeOf77
 v70:=Tryz.zeroValue77
 t72:=Tryz.underlying79
 a72:=Tryz.isAgg79
 z72:=Tryz.sizeOf79
 v72:=Tryz.zeroValue79
 t75:=Tryz.underlying119
 a75:=Tryz.isAgg119
 z75:=Tryz.sizeOf119
 v75:=Tryz.zeroValue119
 t164:=Tryz.underlying182
 a164:=Tryz.isAgg182
 z164:=Tryz.sizeOf182
 v164:=Tryz.zeroValue182
def AdY:Builder.Extra TP Tryz.laysReplaceAll_ren where
 sizeBuilder:=by kernel_rfl
 liesBuilder:=by kernel_rfl
 t5:=Tryz.underlying5
 a5:=Tryz.isAgg5
 z5:=Tryz.sizeOf5
 v5:=Tryz.zeroValue5
 infoByte:=by kernel_rfl
 cellsByte:=by kernel_rfl
 sizeByte:=by kernel_rfl
 neB5:=lz
end
section
open Go Go.Proofs Go.Abs
variable {G:Ah}
def decw (l:List UInt8) (p:Nat) (h:p<l.length):((l.getD p 0).toNat<128/\dec l p=((l.getD p 0).toNat,1)) \/
  (128<=(dec l p).1/\1<=(dec l p).2/\p+(dec l p).2<=l.length/\∀ i,i<(dec l p).2->128<=(l.getD (p+i) 0).toNat):=by
 by_cases h0:(l.getD p 0).toNat<128;·exact .inl ⟨h0,dec_ascii h h0⟩
 right;have hget:∀ k,((bs l).get! (p+k)).toNat=(l.getD (p+k) 0).toNat:=fun k=>by
  show (l.toArray.getD (p+k) default).toNat=_
  simp[AbY];rfl
 have hsz:(bs l).size=l.length:=DQ;unfold dec Utf8.decode;have hget0:((bs l).get! p).toNat=(l.getD p 0).toNat:=hget 0;simp only[hget,hsz,AgD,hget0];have hb:∀ k,(l.getD (p+k) 0).toNat<256:=fun k=>(l.getD (p+k) 0).toNat_lt;have hb1:=hb 1;have hb2:=hb 2;have hb3:=hb 3;have hb0:=hb 0;rw[AgD] at hb0;rw[if_neg h0]
 have one:∀ i,i<1→128≤(l.getD (p+i) 0).toNat:=fun i hi=>by obtain rfl:i=0:=by omega
                                                           rw[AgD];omega
 split
 ·rename_i h1;simp only[Agz,beq_iff_eq,decide_eq_true_eq] at h1;split
  ·rename_i h2;refine ⟨lA,lA,lA,fun i hi=>?_⟩;rcases (by omega:i=0\/i=1) with rfl | rfl
   ·rw[AgD];omega
   omega
  exact ⟨gH,lA,lA,one⟩
 split
 ·rename_i h1;simp only[Agz,beq_iff_eq,decide_eq_true_eq] at h1;split
  ·rename_i h2;simp only[Agz,decide_eq_true_eq] at h2;refine ⟨lA,lA,lA,fun i hi=>?_⟩;rcases (by omega:i=0\/i=1\/i=2) with rfl | rfl | rfl
   ·rw[AgD];omega
   ·omega
   omega
  exact ⟨gH,lA,lA,one⟩
 split
 ·rename_i h1;simp only[Agz,beq_iff_eq,decide_eq_true_eq] at h1;split
  ·rename_i h2;simp only[Agz,decide_eq_true_eq] at h2;refine ⟨lA,lA,lA,fun i hi=>?_⟩;rcases (by omega:i=0\/i=1\/i=2\/i=3) with rfl | rfl | rfl | rfl
   ·rw[AgD];omega
   ·omega
   ·omega
   omega
  exact ⟨gH,lA,lA,one⟩
 exact ⟨gH,lA,lA,one⟩
end
section
open Go Go.Proofs Go.Abs Go.RowKit Go.Shelf Go.Lib
variable {G:Ah}
def WK {P:Program} {w:World} (t u ty e:TypeId) (i:TypeInfo) (ht:P.underlying t=some (.slice e)) (hu:P.underlying u=some .string) (hi:P.info? e=some i) (hz:i.zero=some (.int .u8 0))
  (hsize:i.size=1) (hby:i.bytes=1) (v:Value) (n:Nat) (xs:List Value) (hown:w.ownsRow 0 e 1 v n xs) (s:ByteArray) (h63:n+s.size<=maxLen) (hbytes:n+s.size<=140737488355328) :
  ∃ v' w',(Builtin.append_ #[t,u] ty #[v,.string s]).run P w=.ok v' w'/\w'.ownsRow 0 e 1 v' (n+s.size) (xs++strCells s)/\w.grownBy w' v.ownBlock/\(v'.ownBlock=v.ownBlock\/∀ g,v'.ownBlock=some g->w.heap.size<=g):=by
 obtain ⟨v',w',hr,h2,h3,h4⟩:=run_append_own_string (P:=P) w 0 t u ty e i ht hu hi hz hsize hby v n xs hown s h63 hbytes (Aga _);refine ⟨v',w',hr,h2,h3,?_⟩;have hxl:xs.length=n:=by simpa using hown.1
 rcases hown.2 with ⟨rfl,rfl⟩ | ⟨g,cap,cur,rfl,hbg,hg,hnc,hcm,hcs,htake⟩
 ·right;intro g hgv;obtain rfl:xs=[]:=Agb hxl;obtain ⟨v2,w2,hr2,k2,_⟩:=run_append_own_string (P:=P) w w.heap.size t u ty e i ht hu hi hz hsize hby (.slice none 0 0) 0 [] (World.ownsRow_nil w _ e 1) s h63 hbytes (Aen _);exact pU
 by_cases hroom:n+s.size<=cap
 ·left;have hcs':cur.size=cap:=by simpa using hcs
  have hr2:=run_append_room_string (P:=P) w t u ty e i ht hu hi hsize g n cap cur hg s hroom fp;rw[hr] at hr2;cases hr2;rfl
 right;intro g' hg';have holds:∀ j u,xs[j]?=some u->w.cell? ((⟨g,0,none⟩:Addr).add j)=some u:=hown.cells (g:=g) rfl;have hr2:=run_append_grow_string (P:=P) w t u ty e i (.int .u8 0) ht hu hi hz ⟨g,0,none⟩ n cap xs fM holds s lA fp bA;exact pG
def JP {P:Program} {w:World} {ops:Array Oper} {rest:List Oper} {o:Oper} {a:Act} {Q:Exit->Act->World->Prop} (hgd:o.guard=none) (sl x:Operand) (t u:TypeId)
  (ho:o.op=.call {callee:=.builtin .append,args:=#[sl,x],argTypes:=#[t,u]})
  (e:TypeId) (i:TypeInfo) (ht:P.underlying t=some (.slice e)) (hu:P.underlying u=some .string) (hi:P.info? e=some i) (hz:i.zero=some (.int .u8 0))
  (hsize:i.size=1) (hby:i.bytes=1) (v:Value) (n:Nat) (xs:List Value) (hs:a.eval sl=v) (hown:w.ownsRow 0 e 1 v n xs) (s:ByteArray) (hx:a.eval x=.string s)
  (h63:n+s.size<=maxLen) (hbytes:n+s.size<=140737488355328)
  (h:∀ v' w',w'.ownsRow 0 e 1 v' (n+s.size) (xs++strCells s)->w.grownBy w' v.ownBlock->(v'.ownBlock=v.ownBlock\/∀ g,v'.ownBlock=some g->w.heap.size<=g)->wpList P ops Q rest (a.put o.dst v') w'):wpList P ops Q (o::rest) a w:=by
 refine wpList_plain hgd fun K hK=>?_;obtain ⟨v',w',hr,h2,h3,h4⟩:=WK (P:=P) (w:=w) t u o.type e i ht hu hi hz hsize hby v n xs hown s h63 hbytes;exact nU
def Eo {w:World} {b o:Nat} {v:Value} {c:Array Value} {T:TypeId} {fz:Nat × Nat} (h:w.heap[b]?=some (.cells c T fz)):(w.setCell ⟨b,o,none⟩ v).heap[b]?=some (.cells (c.setIfInBounds o v) T fz):=by
 show (w.heap.modify b _)[b]?=_
 rw[AgH,if_pos rfl,h];rfl
def CE {w:World} {b o k:Nat} {v:Value} (h:k≠b):(w.setCell ⟨b,o,none⟩ v).heap[k]?=w.heap[k]?:=by
 show (w.heap.modify b _)[k]?=_
 rw[AgH,if_neg (Ne.symm h)]
def ET {w:World} {a:Addr} {v:Value}:(w.setCell a v).heap.size=w.heap.size:=by simp[World.setCell]
structure Ad9 (T e:TypeId) (b:Nat) (v:Value) (l:List Value) (w w':World):Prop where
 os:w'.os=w.os
 tape:w'.tape=w.tape
 output:w'.output=w.output
 size:w.heap.size<=w'.heap.size
 keep:∀ k,k<w.heap.size->k≠b->some k≠v.ownBlock->w'.heap[k]?=w.heap[k]?
 left:∃ v',w'.heap[b]?=some (.cells #[.pointer (some ⟨b,0,none⟩),v'] T (0,0))/\w'.ownsRow 0 e 1 v' l.length l/\(v'.ownBlock=v.ownBlock\/∀ g,v'.ownBlock=some g->w.heap.size<=g)
def Ry {P:Program} {ρ:Ren} (L:Lays.n240 P ρ) (X:Builder.X72 P ρ) (b:Nat) (used:Bool) (v:Value) (w:World) (hbk:w.heap[b]?=some (.cells #[.pointer (if used then some ⟨b,0,none⟩ else none),v] (ρ.t 72) (0,0))) :
  Calls P (ρ.f 240) #[.pointer (some ⟨b,0,none⟩)] w fun e w'=>e=.returned (.tuple #[])/\w'.os=w.os/\w'.tape=w.tape/\w'.output=w.output/\w'.heap.size=w.heap.size/\(∀ k,k≠b->w'.heap[k]?=w.heap[k]?) /\
   w'.heap[b]?=some (.cells #[.pointer (some ⟨b,0,none⟩),v] (ρ.t 72) (0,0)):=by
 have c0:w.cell? ⟨b,0,none⟩=some (.pointer (if used then some ⟨b,0,none⟩ else none)):=by rw[Lib.cell_of_heap hbk];rfl
 cases used;·refine (Any.Builder_copyCheck_fresh L X b w c0 (by simp[World.shape?,hbk]) (Lib.frozen_of_heap hbk 0)).mono ?_;rintro e w' ⟨rfl,rfl⟩;exact ⟨rfl,rfl,rfl,rfl,ET,fun k hk=>CE hk,by rw[Eo hbk];rfl⟩
 refine (Any.Builder_copyCheck_used L X b w c0).mono ?_;rintro e w' ⟨rfl,rfl⟩;exact ⟨rfl,rfl,rfl,rfl,rfl,fun _ _=>rfl,hbk⟩
def U0 {T e:TypeId} {b:Nat} {v:Value} {l:List Value} {w w1:World} (hown:w.ownsRow 0 e 1 v l.length l) (hne:v.ownBlock≠some b) (ho:∀ k,k≠b->w1.heap[k]?=w.heap[k]?):w1.ownsRow 0 e 1 v l.length l:=by
 refine ⟨hown.1,?_⟩;rcases hown.2 with h | ⟨g,cap,cur,rfl,h1,h2,h3⟩
 ·exact .inl h
 exact .inr ⟨g,cap,cur,rfl,h1,(ho g (fun e=>hne kB)).trans h2,h3⟩
def MD {P:Program} {ρ:Ren} (L:Lays.n166 P ρ) (X:Builder.Extra P ρ) (b:Nat) (used:Bool) (v:Value) (l:List Value) (s:ByteArray) (w:World)
  (hbk:w.heap[b]?=some (.cells #[.pointer (if used then some ⟨b,0,none⟩ else none),v] (ρ.t 72) (0,0))) (hown:w.ownsRow 0 (ρ.t 5) 1 v l.length l) (hne:v.ownBlock≠some b) (hlen:l.length+s.size<=140737488355328) :
  Calls P (ρ.f 166) #[.pointer (some ⟨b,0,none⟩),.string s] w fun e w'=>e=.returned (.tuple #[.int .i64 s.size,.nilIface])/\Ad9 (ρ.t 72) (ρ.t 5) b v (l++strCells s) w w':=by
 obtain ⟨i0,hi,hz0,hz1,hz2⟩:=info_parts X.infoByte;have mixed:=L.mixed;have t72:=L.t72;have a72:=L.a72;have z72:=L.z72;have v72:=L.v72;have u72:=run_underlying L.t72
 have t70:=L.t70;have a70:=L.a70;have z70:=L.z70;have v70:=L.v70;have u70:=run_underlying L.t70
 have t37:=L.t37;have a37:=L.a37;have z37:=L.z37;have v37:=L.v37;have u37:=run_underlying L.t37
 have t3:=L.t3;have a3:=L.a3;have z3:=L.z3;have v3:=L.v3;have u3:=run_underlying L.t3
 have t9:=L.t9;have a9:=L.a9;have z9:=L.z9;have v9:=L.v9;have u9:=run_underlying L.t9
 have t4:=L.t4;have a4:=L.a4;have z4:=L.z4;have v4:=L.v4;have u4:=run_underlying L.t4
 have t164:=L.t164;have a164:=L.a164;have z164:=L.z164;have v164:=L.v164;have u164:=run_underlying L.t164
 have t5:=X.t5;have a5:=X.a5;have z5:=X.z5;have v5:=X.v5;have u5:=run_underlying X.t5
 have e240:∀ args w,(callFunc (ρ.f 240) args).run P w=.ok (.enter (ρ.f 240) args) w:=enters_of L.f240 (by kernel_rfl) rfl;have cc:=Ry {L with} X.toX72 b used v w hbk;go_enter L.f166,Body.n166_ntmps ρ;go_wp2_with (go_at_fn (ρ.f 240);refine cc.mono ?_);rintro e w1 ⟨rfl,q1,q2,q3,q4,q5,hb1⟩;have hown1:w1.ownsRow 0 (ρ.t 5) 1 v l.length l:=U0 (T:=ρ.t 72) hown hne q5;clear cc hown;have c0:w1.cell? ⟨b,0,none⟩=some (.pointer (some ⟨b,0,none⟩)):=eQ
 have c1:w1.cell? ⟨b,1,none⟩=some v:=eQ
 go_wp2_with (at_builtin;refine JP rfl _ _ (ρ.t 37) (ρ.t 9) rfl (ρ.t 5) i0 L.t37 L.t9 hi hz0 hz1 hz2 _ _ _ rfl hown1 s rfl ?c3 ?c4 ?_);case c3=>unfold maxLen;omega
 case c4=>omega
 intro v' w2 hown' hgrow hor;have hlt:b<w1.heap.size:=(Agy.1 hb1).1;have hb2:w2.heap[b]?=some (.cells #[.pointer (some ⟨b,0,none⟩),v] (ρ.t 72) (0,0)):=by rw[hgrow.block b hlt (fun e=>hne e.symm)];exact hb1
 have d0:w2.cell? ⟨b,0,none⟩=some (.pointer (some ⟨b,0,none⟩)):=eR
 have d1:w2.cell? ⟨b,1,none⟩=some v:=eR
 have f1:w2.frozen? ⟨b,1,none⟩=false:=Lib.frozen_of_heap hb2 1;obtain ⟨ao,n',cap,rfl⟩:∃ ao n' cap,v'=.slice ao n' cap:=by
  rcases hown'.2 with ⟨hv,_⟩ | ⟨g,cap,cur,hv,_⟩
  ·exact ⟨_,_,_,hv⟩
  exact ⟨_,_,_,hv⟩
 go_wp2;go_ret2;refine ⟨rfl,hgrow.os.trans q1,hgrow.tape.trans q2,hgrow.output.trans q3,?_,fun k hk h1 h2=>?_,.slice ao n' cap,?_,?_,?_⟩;·rw[ET];have:=hgrow.size;omega
 ·rw[CE h1,hgrow.block k lA h2,q5 k h1]
 ·rw[Eo hb2];rfl
 ·rw[show (l++strCells s).length=l.length+s.size by rw[Aes,Lib.strCells_length]];have hnb:Value.ownBlock (.slice ao n' cap)≠some b:=by
   intro e;rcases hor with h | h
   ·rw[h] at e;exact hne e
   have:=h b e;omega
  refine ⟨hown'.1,?_⟩;rcases hown'.2 with h | ⟨g,cp,cur,e1,k1,k2,k3⟩
  ·exact .inl h
  refine .inr ⟨g,cp,cur,e1,k1,?_,k3⟩;exact pR
 rcases hor with h | h
 ·exact .inl h
 exact .inr fun g hg=>by have:=h g hg;omega
def WL {P:Program} {w:World} (t ty e:TypeId) (i:TypeInfo) (ht:P.underlying t=some (.slice e)) (hi:P.info? e=some i) (hz:i.zero=some (.int .u8 0))
  (hsize:i.size=1) (hby:i.bytes=1) (v:Value) (n:Nat) (xs:List Value) (hown:w.ownsRow 0 e 1 v n xs) (ad:Addr) (k:Nat) (u:Value) (hu:w.cell? ad=some u) (h1:u.oneCell'=true) (hbytes:n+1<=140737488355328) :
  ∃ v' w',(Builtin.append_ #[t,t] ty #[v,.slice (some ad) 1 k]).run P w=.ok v' w'/\w'.ownsRow 0 e 1 v' (n+1) (xs++[u])/\w.grownBy w' v.ownBlock/\(v'.ownBlock=v.ownBlock\/∀ g,v'.ownBlock=some g->w.heap.size<=g):=by
 have hnews:∀ j x,[u][j]?=some x->w.cell? (ad.add j)=some x:=by
  intro j x hj
  match j,hj with
  | 0,hj=>simp at hj;subst hj;simpa[Addr.add] using hu
 have hone:∀ x∈[u],x.oneCell'=true:=by intro x hx;simp at hx;subst hx;exact h1
 have h63:n+1<=maxLen:=by unfold maxLen;omega
 obtain ⟨v',w',hr,h2,h3,h4⟩:=run_append_own (P:=P) w 0 t ty e i (.int .u8 0) 1 1 ht hi hz hsize hby rfl lz v n xs hown ad 1 k [u] rfl hnews hone h63 lA (Aga _);refine ⟨v',w',hr,h2,h3,?_⟩;have hxl:xs.length=n:=by simpa using hown.1
 rcases hown.2 with ⟨rfl,rfl⟩ | ⟨g,cap,cur,rfl,hbg,hg,hnc,hcm,hcs,htake⟩
 ·right;intro g hgv;obtain rfl:xs=[]:=Agb hxl;obtain ⟨v2,w2,hr2,k2,_⟩:=run_append_own (P:=P) w w.heap.size t ty e i (.int .u8 0) 1 1 ht hi hz hsize hby rfl lz (.slice none 0 0) 0 [] (World.ownsRow_nil w _ e 1) ad 1 k [u] rfl hnews hone h63 lA (Aen _);exact pU
 by_cases hroom:n+1<=cap
 ·left;have hcs':cur.size=cap:=by simpa using hcs
  have hr2:=run_append_room (P:=P) w t ty e i ht hi g n cap cur hg ad 1 k [u] (by rw[hsize];rfl) hnews hone hroom (by rw[hsize];simp;omega);rw[hr] at hr2;cases hr2;rfl
 right;intro g' hg';have holds:∀ j u,xs[j]?=some u->w.cell? ((⟨g,0,none⟩:Addr).add j)=some u:=hown.cells (g:=g) rfl;have hr2:=run_append_grow (P:=P) w t ty e i (.int .u8 0) ht hi hz ⟨g,0,none⟩ n cap xs fM holds ad 1 k [u] (by rw[hsize];rfl) hnews lA lA bA;exact pG
def JQ {P:Program} {w:World} {ops:Array Oper} {rest:List Oper} {o:Oper} {a:Act} {Q:Exit->Act->World->Prop} (hgd:o.guard=none) (sl x:Operand) (t:TypeId)
  (ho:o.op=.call {callee:=.builtin .append,args:=#[sl,x],argTypes:=#[t,t]})
  (e:TypeId) (i:TypeInfo) (ht:P.underlying t=some (.slice e)) (hi:P.info? e=some i) (hz:i.zero=some (.int .u8 0))
  (hsize:i.size=1) (hby:i.bytes=1) (v:Value) (n:Nat) (xs:List Value) (hs:a.eval sl=v) (hown:w.ownsRow 0 e 1 v n xs) (ad:Addr) (k:Nat) (u:Value) (hx:a.eval x=.slice (some ad) 1 k) (hu:w.cell? ad=some u) (h1:u.oneCell'=true)
  (hbytes:n+1<=140737488355328)
  (h:∀ v' w',w'.ownsRow 0 e 1 v' (n+1) (xs++[u])->w.grownBy w' v.ownBlock->(v'.ownBlock=v.ownBlock\/∀ g,v'.ownBlock=some g->w.heap.size<=g)->wpList P ops Q rest (a.put o.dst v') w'):wpList P ops Q (o::rest) a w:=by
 refine wpList_plain hgd fun K hK=>?_;obtain ⟨v',w',hr,h2,h3,h4⟩:=WL (P:=P) (w:=w) t o.type e i ht hi hz hsize hby v n xs hown ad k u hu h1 hbytes;exact nU
def KQ (w:World) (o:Obj) (k:Nat) (h:k<w.heap.size):(w.alloc o).heap[k]?=w.heap[k]?:=by
 show (w.heap.push o)[k]?=_
 rw[Array.getElem?_push];split;·omega
 rfl
def Ph {P:Program} {ρ:Ren} (L:Lays.n167 P ρ) (X:Builder.Extra P ρ) (b:Nat) (used:Bool) (v:Value) (l:List Value) (c:Int) (w:World)
  (hbk:w.heap[b]?=some (.cells #[.pointer (if used then some ⟨b,0,none⟩ else none),v] (ρ.t 72) (0,0))) (hown:w.ownsRow 0 (ρ.t 5) 1 v l.length l) (hne:v.ownBlock≠some b) (hlen:l.length+1<=140737488355328) :
  Calls P (ρ.f 167) #[.pointer (some ⟨b,0,none⟩),.int .u8 c] w fun e w'=>e=.returned .nilIface/\Ad9 (ρ.t 72) (ρ.t 5) b v (l++[.int .u8 c]) w w':=by
 obtain ⟨i0,hi,hz0,hz1,hz2⟩:=info_parts X.infoByte;have mixed:=L.mixed;have t72:=L.t72;have a72:=L.a72;have z72:=L.z72;have v72:=L.v72;have u72:=run_underlying L.t72
 have t70:=L.t70;have a70:=L.a70;have z70:=L.z70;have v70:=L.v70;have u70:=run_underlying L.t70
 have t5:=L.t5;have a5:=L.a5;have z5:=L.z5;have v5:=L.v5;have u5:=run_underlying L.t5
 have t37:=L.t37;have a37:=L.a37;have z37:=L.z37;have v37:=L.v37;have u37:=run_underlying L.t37
 have t9:=L.t9;have a9:=L.a9;have z9:=L.z9;have v9:=L.v9;have u9:=run_underlying L.t9
 have t4:=L.t4;have a4:=L.a4;have z4:=L.z4;have v4:=L.v4;have u4:=run_underlying L.t4
 have t164:=L.t164;have a164:=L.a164;have z164:=L.z164;have v164:=L.v164;have u164:=run_underlying L.t164
 have e240:∀ args w,(callFunc (ρ.f 240) args).run P w=.ok (.enter (ρ.f 240) args) w:=enters_of L.f240 (by kernel_rfl) rfl;have cc:=Ry {L with} X.toX72 b used v w hbk;go_enter L.f167,Body.n167_ntmps ρ;go_wp2_with (go_at_fn (ρ.f 240);refine cc.mono ?_);rintro e w1 ⟨rfl,q1,q2,q3,q4,q5,hb1⟩;have hown1:w1.ownsRow 0 (ρ.t 5) 1 v l.length l:=U0 (T:=ρ.t 72) hown hne q5;clear cc hown;have hlt:b<w1.heap.size:=(Agy.1 hb1).1;have c0:w1.cell? ⟨b,0,none⟩=some (.pointer (some ⟨b,0,none⟩)):=eQ
 have c1:w1.cell? ⟨b,1,none⟩=some v:=eQ
 go_wp2_with (at_builtin;refine JQ rfl _ _ (ρ.t 37) rfl (ρ.t 5) i0 L.t37 hi hz0 hz1 hz2 _ _ _ rfl (hown1.alloc _) ⟨w.heap.size,0,none⟩ 1 (.int .u8 c) rfl ?c1 ?c2 ?c4 ?_);case c1=>rw[<-q4];simp
 case c2=>rfl
 case c4=>omega
 intro v' w2 hown' hgrow hor;have hb2:w2.heap[b]?=some (.cells #[.pointer (some ⟨b,0,none⟩),v] (ρ.t 72) (0,0)):=by rw[hgrow.block b jW (fun e=>hne e.symm),KQ w1 _ b hlt];exact hb1
 have d0:w2.cell? ⟨b,0,none⟩=some (.pointer (some ⟨b,0,none⟩)):=eR
 have d1:w2.cell? ⟨b,1,none⟩=some v:=eR
 have f1:w2.frozen? ⟨b,1,none⟩=false:=Lib.frozen_of_heap hb2 1;obtain ⟨ao,n',cap,rfl⟩:∃ ao n' cap,v'=.slice ao n' cap:=by
  rcases hown'.2 with ⟨hv,_⟩ | ⟨g,cap,cur,hv,_⟩
  ·exact ⟨_,_,_,hv⟩
  exact ⟨_,_,_,hv⟩
 go_wp2;go_ret;refine ⟨rfl,hgrow.os.trans q1,hgrow.tape.trans q2,hgrow.output.trans q3,?_,fun k hk h1 h2=>?_,.slice ao n' cap,?_,?_,?_⟩;·rw[ET];have:=hgrow.size;first | omega | (simp at this;omega)
 ·rw[CE h1,hgrow.block k jW h2,KQ w1 _ k lA,q5 k h1]
 ·rw[Eo hb2];rfl
 ·rw[show (l++[Value.int .u8 c]).length=l.length+1 by simp];have hnb:Value.ownBlock (.slice ao n' cap)≠some b:=by
   intro e;rcases hor with h | h
   ·rw[h] at e;exact hne e
   have:=h b e;first | omega | (simp at this;omega)
  refine ⟨hown'.1,?_⟩;rcases hown'.2 with h | ⟨g,cp,cur,e1,k1,k2,k3⟩
  ·exact .inl h
  refine .inr ⟨g,cp,cur,e1,k1,?_,k3⟩;exact pR
 rcases hor with h | h
 ·exact .inl h
 exact .inr fun g hg=>by have:=h g hg;first | omega | (simp at this;omega)
structure Ada (v:Value) (w w':World):Prop where
 os:w'.os=w.os
 tape:w'.tape=w.tape
 output:w'.output=w.output
 size:w.heap.size<=w'.heap.size
 keep:∀ k,k<w.heap.size->some k≠v.ownBlock->w'.heap[k]?=w.heap[k]?
def Ada.of {v:Value} {w w':World} (h:Below w.heap.size w w'):Ada v w w':=⟨h.os,h.tape,h.output,h.size,fun k hk _=>h.block k hk⟩
def Ac2 {P:Program} {ρ:Ren} (L:Lays.n170 P ρ) (b:Nat) (used:Bool) (v:Value) (l:List Value) (w:World)
  (hbk:w.heap[b]?=some (.cells #[.pointer (if used then some ⟨b,0,none⟩ else none),v] (ρ.t 72) (0,0))) (hown:w.ownsRow 0 (ρ.t 5) 1 v l.length l) (hne:v.ownBlock≠some b) :
  Calls P (ρ.f 170) #[.pointer (some ⟨b,0,none⟩)] w fun e w'=>e=.returned (.int .i64 l.length)/\w'=w:=by
 refine Any.Builder_Len L 0 b l w ?_;cases used;·exact .inl ⟨Aga _,v,hbk,hown,hne⟩
 exact .inr ⟨Aga _,v,hbk,hown,hne⟩
def WG {P:Program} {ρ:Ren} (L:Lays.n169 P ρ) (X:Builder.Extra P ρ) (b:Nat) (p v:Value) (l:List UInt8) (w:World)
  (hbk:w.heap[b]?=some (.cells #[p,v] (ρ.t 72) (0,0))) (hown:w.ownsRow 0 (ρ.t 5) 1 v l.length (Lib.byteCells l)) :
  Calls P (ρ.f 169) #[.pointer (some ⟨b,0,none⟩)] w fun e w'=>e=.returned (.string ⟨l.toArray⟩)/\Ada v w w':=by
 by_cases h0:l=[]
 ·subst h0;rcases hown.2 with ⟨rfl,_⟩ | ⟨g,cap,cur,rfl,hbg,hg,hnc,hcm,hcs,htake⟩
  ·refine (Any.Builder_String_nil L X w.heap.size b p w hbk).mono ?_;exact qj
  by_cases hc:cap=0;·subst hc;refine (Any.Builder_String_noroom L X w.heap.size b g p cur w (Aen _) hbk hg).mono ?_;rintro e w' ⟨rfl,hb⟩;exact ⟨rfl,.of hb⟩
  refine (Any.Builder_String_room L X w.heap.size b g cap p w hc hbk).mono ?_;exact qj
 have hl0:l.length≠0:=by simpa using h0
 obtain ⟨g,cap,cur,rfl,hbg,hg,hnc,hcm,hcs,htake⟩:∃ g cap cur,v=.slice (some ⟨g,0,none⟩) l.length cap/\0<=g/\w.heap[g]?=some (.cells cur (ρ.t 5) (0,0))/\l.length<=cap/\cap<=maxLen/\cur.size=cap*1/\cur.toList.take (l.length*1)=Lib.byteCells l:=by
  rcases hown.2 with ⟨_,hz⟩ | ⟨g,cap,cur,hv,r⟩
  ·exact absurd hz hl0
  exact ⟨g,cap,cur,hv,r⟩
 have c1:w.drew.cell? ⟨b,1,none⟩=some (.slice (some ⟨g,0,none⟩) l.length cap):=by have:w.drew.heap[b]?=some (.cells #[p,.slice (some ⟨g,0,none⟩) l.length cap] (ρ.t 72) (0,0)):=hbk;rw[Lib.cell_of_heap this];rfl
 have hSD:(Builtin.unsafeSliceData_ #[(ρ.t 37)] (ρ.t 127) #[.slice (some ⟨g,0,none⟩) l.length cap]).run P w.drew=.ok (.pointer (some ⟨g,0,none⟩)) w.drew :=
  Lib.run_unsafeSliceData_row _ _ _ _ _ _ lA
 have hUS:(Builtin.unsafeString_ #[(ρ.t 127),(ρ.t 3)] (ρ.t 9) #[.pointer (some ⟨g,0,none⟩),.int .i64 l.length]).run P w.drew=.ok (.string ⟨l.toArray⟩) (w.drew.freeze ⟨g,0,none⟩ l.length):=by refine Lib.run_unsafeString_row w.drew (ρ.t 127) (ρ.t 3) (ρ.t 9) (ρ.t 5) L.t127 X.cellsByte g cur.size (by have hg':w.drew.heap[g]?=some (.cells cur (ρ.t 5) (0,0)):=hg;simp[World.shape?,hg']) l h0 lA (by unfold maxLen at hcm;omega) ?_;intro j x hx;exact hown.cells (g:=g) rfl j (.int .u8 x.toNat) (by simp[Lib.byteCells,hx])
 have mixed:=L.mixed;have t72:=L.t72;have a72:=L.a72;have z72:=L.z72;have v72:=L.v72;have u72:=run_underlying L.t72
 have t70:=L.t70;have a70:=L.a70;have z70:=L.z70;have v70:=L.v70;have u70:=run_underlying L.t70
 have t37:=L.t37;have a37:=L.a37;have z37:=L.z37;have v37:=L.v37;have u37:=run_underlying L.t37
 have t127:=L.t127;have a127:=L.a127;have z127:=L.z127;have v127:=L.v127;have u127:=run_underlying L.t127
 have t3:=L.t3;have a3:=L.a3;have z3:=L.z3;have v3:=L.v3;have u3:=run_underlying L.t3
 have t9:=L.t9;have a9:=L.a9;have z9:=L.z9;have v9:=L.v9;have u9:=run_underlying L.t9
 have t5:=X.t5;have a5:=X.a5;have z5:=X.z5;have v5:=X.v5;have u5:=run_underlying X.t5
 have fin:Ada (.slice (some ⟨g,0,none⟩) l.length cap) w (w.drew.freeze ⟨g,0,none⟩ l.length):=by
  unfold World.freeze;rw[if_neg hl0];refine ⟨rfl,rfl,rfl,lC,fun k hk hne=>?_⟩;show (w.heap.modify g _)[k]?=_
  rw[AgH,if_neg (fun e=>hne (by rw[<-e];rfl))]
 go_enter L.f169,Body.n169_ntmps ρ;go_wp2;go_region_o;all_goals (go_wp2;go_ret;exact ⟨rfl,fin⟩)
def ptr_inv {h:Held} {ρ:Abs.Place} {u:Value} {g S:Nat} (r:R h ρ u (.ptr 0 0)) (hρ:ρ 0=some (g,S)):u=.pointer (some ⟨g,0,none⟩):=by
 cases r with
 | ptr b off g' S' h1=>rw[hρ] at h1;cases h1;rfl
def XT {h:Held} {ρ:Abs.Place} {H:List Ae} {w w':World} {T e:TypeId} {g S:Nat} {v:Value} {l:List UInt8} (s:Sim G h ρ (hp H) w) (hm:0<H.length) (hρ0:ρ 0=some (g,S)) (hh:∀ j,h g j=none)
  (hv:∀ g1,v.ownBlock=some g1->(∃ i S1,ρ i=some (g1,S1))/\g1≠g/\∀ j,h g1 j=none) (bw:Ad9 T e g v (byteCells l) w w') :
  ∃ ρ',Sim G h ρ' (hp (.bld T true l.length (some H.length)::(AbZ (H.length-1) .dead++[.buf e l]))) w'/\A6 h ρ w h ρ' w':=by
 obtain ⟨v',b1,b2,b3⟩:=bw.left;have bl:(byteCells l).length=l.length:=byteCells_length l;rw[bl] at b2;have hgl:g<w.heap.size:=(s.dom 0 g S hρ0).1;have hρm:ρ H.length=none:=by
  cases hx:ρ H.length with
  | none=>rfl
  | some x=>obtain ⟨_,b,hb⟩:=s.dom _ x.1 x.2 hx;simp[hp] at hb
 have hkept:∀ b o u,h b o=some u->w'.heap[b]?=w.heap[b]?:=by intro b o u hbu;refine bw.keep b (s.held_lt hbu) (fun e=>by rw[e,hh] at hbu;cases hbu) (fun e=>?_);have:=(hv b e.symm).2.2 o;rw[hbu] at this;cases this
 have hprom:∀ b o u,h b o=some u->w'.cell? ⟨b,o,none⟩=some u:=by intro b o u hbu;have:=s.prom b o u hbu;rw[<-this];simp[World.cell?,hkept b o u hbu]
 have key:∃ ρ':Abs.Place,ρ.le ρ'/\(∀ i g2 S2,ρ' i=some (g2,S2)->i=H.length\/ρ i=some (g2,S2))/\(∀ i,i≠H.length->ρ' i=ρ i)/\Vm ρ' v' l.length (some H.length)/\GO h ρ' w' H.length (.buf e l) /\
   (∀ g2 S2,ρ' H.length=some (g2,S2)->g2≠g/\g2<w'.heap.size/\((∃ i S1,ρ i=some (g2,S1))\/w.heap.size<=g2)):=by
  rcases b2.2 with ⟨rfl,h0⟩ | ⟨g2,cap,cur,rfl,_,k1,k2,k3,k4,k5⟩
  ·refine ⟨ρ,Place.le_refl _,fun i g2 S2 e=>.inr e,fun _ _=>rfl,.inl ⟨rfl,h0⟩,.inl ⟨hρm,Agb h0⟩,fun g2 S2 e=>by rw[hρm] at e;cases e⟩
  have hg2:g2≠g/\((∃ i S1,ρ i=some (g2,S1))\/w.heap.size<=g2)/\∀ j,h g2 j=none:=by
   rcases b3 with b3 | b3
   ·obtain ⟨c1,c2,c3⟩:=hv g2 b3.symm;exact ⟨c2,.inl c1,c3⟩
   have:=b3 g2 rfl;refine ⟨lA,.inr this,fun j=>?_⟩;cases hj:h g2 j with
   | none=>rfl
   | some u=>have:=s.held_lt hj;omega
  have hlt:g2<w'.heap.size:=(Agy.1 k1).1;refine ⟨E7 ρ H.length (g2,cap),fun i x e=>?_,fun i g3 S3 e=>?_,fun i hi=>by simp[E7,hi],.inr ⟨g2,cap,rfl,Aw _ _ _,k2⟩,.inr ⟨g2,cap,cur,Aw _ _ _,k1,by simpa using k4,k3,lA,fun j x hx=>?_,hg2.2.2⟩,fun g3 S3 e=>?_⟩
  ·by_cases hi:i=H.length;·subst hi;rw[hρm] at e;cases e
   simp[E7,hi,e]
  ·by_cases hi:i=H.length;·exact .inl hi
   simp[E7,hi] at e;exact .inr e
  ·have hj:j<l.length:=(Aeq.1 hx).1;have h1:(cur.toList.take (l.length*1))[j]?=(byteCells l)[j]?:=(by rw[k5])
   rw[AgP,if_pos lA] at h1;rw[<-AgI,h1];simp[byteCells,hx]
  rw[Aw] at e;cases e;exact ⟨hg2.1,hlt,hg2.2.1⟩
 obtain ⟨ρ',p1,p2,p3,p4,p5,p6⟩:=key;have hρ0':ρ' 0=some (g,S):=p1 _ _ hρ0;have hlen:(Ae.bld T true l.length (some H.length)::(AbZ (H.length-1) Ae.dead++[.buf e l])).length=H.length+1:=jW
 have hat:∀ i b,(Ae.bld T true l.length (some H.length)::(AbZ (H.length-1) Ae.dead++[.buf e l]))[i]?=some b->(i=0/\b=.bld T true l.length (some H.length))\/(i=H.length/\b=.buf e l)\/(0<i/\i<H.length/\b=.dead):=by
  intro i b hi;rcases i with _ | i
  ·simp at hi;exact .inl ⟨rfl,hi.symm⟩
  rw[List.getElem?_cons_succ] at hi;by_cases hc:i<H.length-1;·rw[AgT iX,List.getElem?_replicate,if_pos hc] at hi;cases hi;exact .inr (.inr ⟨lA,lA,rfl⟩)
  rw[List.getElem?_append_right iX] at hi;have:i-(AbZ (H.length-1) Ae.dead).length=0:=by have:=(Aeq.1 hi).1;simp at this ⊢;omega
  rw[this] at hi;simp at hi this;exact .inr (.inl ⟨lA,hi.symm⟩)
 have hex:∀ i,i<H.length+1->∃ b,hp (Ae.bld T true l.length (some H.length)::(AbZ (H.length-1) Ae.dead++[.buf e l])) i=some b:=by intro i hi;refine ⟨_,Aeg (by rw[hlen];exact hi)⟩
 refine ⟨ρ',⟨hprom,s.glob,fun i b hb=>?_,fun i g2 S2 e2=>?_,fun i j g2 S2 S2' e1 e2 l1 l2=>?_⟩,⟨bw.os,bw.tape,bw.output,bw.size,fun k hk hn=>?_,Held.le_refl _,fun _ _ _ _=>rfl,p1,fun i g2 S2 e2=>?_⟩⟩
 ·rcases hat i b hb with ⟨rfl,rfl⟩ | ⟨rfl,rfl⟩ | ⟨_,_,rfl⟩
  ·exact ⟨g,S,v',hρ0',b1,p4,hh⟩
  ·exact p5
  trivial
 ·rcases p2 i g2 S2 e2 with rfl | e3
  ·exact ⟨(p6 _ _ e2).2.1,hex _ lA⟩
  obtain ⟨c1,b,c2⟩:=s.dom i g2 S2 e3;have:i<H.length:=(Aeq.1 c2).1;exact ⟨by have:=bw.size;omega,hex _ lA⟩
 ·have lv:∀ i,BC (hp (Ae.bld T true l.length (some H.length)::(AbZ (H.length-1) Ae.dead++[.buf e l]))) i->i=0\/i=H.length:=by
   intro i ⟨b,hb,hne⟩;rcases hat i b hb with ⟨h1,_⟩ | ⟨h1,_⟩ | ⟨_,_,h1⟩
   ·exact .inl h1
   ·exact .inr h1
   exact absurd h1 hne
  rcases lv i l1 with rfl | rfl<;>rcases lv j l2 with rfl | rfl
  ·rfl
  ·rw[hρ0'] at e1;cases e1;exact absurd rfl (p6 _ _ e2).1
  ·rw[hρ0'] at e2;cases e2;exact absurd rfl (p6 _ _ e1).1
  rfl
 ·refine bw.keep k hk (fun e=>hn 0 S (e▸hρ0)) (fun e=>?_);obtain ⟨⟨i,S1,c⟩,_⟩:=hv k e.symm;exact hn i S1 c
 rcases p2 i g2 S2 e2 with rfl | e3
 ·exact (p6 _ _ e2).2.2
 exact .inl ⟨i,S2,e3⟩
def Tryz.laysWriteString:Lays.n166 TP Tryz.laysReplaceAll_ren:={Tryz.laysReplaceAll with}
def Tryz.laysString_ren:Go.Shelf.Ren:=⟨fun | 169=>40 | n=>n,fun | 70=>77 | 9=>9 | 0=>0 | 72=>79 | 37=>22 | 127=>126 | 3=>3 | 5=>5 | n=>n,fun | n=>n⟩
def Tryz.laysString:Go.Proofs.Lays.n169 TP Tryz.laysString_ren where
 mixed:=by kernel_rfl
 f169:=Tryz.func40.trans (congrArg some (by kernel_rfl))
 t0:=Tryz.underlying0
 a0:=Tryz.isAgg0
 z0:=Tryz.sizeOf0
 v0:=Tryz.zeroValue0
 t3:=Tryz.underlying3
 a3:=Tryz.isAgg3
 z3:=Tryz.sizeOf3
 v3:=Tryz.zeroValue3
 t9:=Tryz.underlying9
 a9:=Tryz.isAgg9
 z9:=Tryz.sizeOf9
 v9:=Tryz.zeroValue9
 t37:=Tryz.underlying22
 a37:=Tryz.isAgg22
 z37:=Tryz.sizeOf22
 v37:=Tryz.zeroValue22
 t70:=Tryz.underlying77
 a70:=Tryz.isAgg77
 z70:=Tryz.sizeOf77
 v70:=Tryz.zeroValue77
 t72:=Tryz.underlying79
 a72:=Tryz.isAgg79
 z72:=Tryz.sizeOf79
 v72:=Tryz.zeroValue79
 t127:=Tryz.underlying126
 a127:=Tryz.isAgg126
 z127:=Tryz.sizeOf126
 v127:=Tryz.zeroValue126
def AdX:Builder.Extra TP Tryz.laysString_ren where
 sizeBuilder:=by kernel_rfl
 liesBuilder:=by kernel_rfl
 t5:=Tryz.underlying5
 a5:=Tryz.isAgg5
 z5:=Tryz.sizeOf5
 v5:=Tryz.zeroValue5
 infoByte:=by kernel_rfl
 cellsByte:=by kernel_rfl
 sizeByte:=by kernel_rfl
 neB5:=lz
def Tryz.laysLen_ren:Go.Shelf.Ren:=⟨fun | 170=>39 | n=>n,fun | 70=>77 | 3=>3 | 0=>0 | 72=>79 | 37=>22 | 5=>5 | n=>n,fun | n=>n⟩
def Tryz.laysLen:Go.Proofs.Lays.n170 TP Tryz.laysLen_ren where
 mixed:=by kernel_rfl
 f170:=Tryz.func39.trans (congrArg some (by kernel_rfl))
 t0:=Tryz.underlying0
 a0:=Tryz.isAgg0
 z0:=Tryz.sizeOf0
 v0:=Tryz.zeroValue0
 t3:=Tryz.underlying3
 a3:=Tryz.isAgg3
 z3:=Tryz.sizeOf3
 v3:=Tryz.zeroValue3
 t37:=Tryz.underlying22
 a37:=Tryz.isAgg22
 z37:=Tryz.sizeOf22
 v37:=Tryz.zeroValue22
 t70:=Tryz.underlying77
 a70:=Tryz.isAgg77
 z70:=Tryz.sizeOf77
 v70:=Tryz.zeroValue77
 t72:=Tryz.underlying79
 a72:=Tryz.isAgg79
 z72:=Tryz.sizeOf79
 v72:=Tryz.zeroValue79
abbrev BN (used:Bool):List Ae:=[.bld 79 used 0 none]
abbrev BL (used:Bool) (l:List UInt8):List Ae:=[.bld 79 used l.length (some 1),.buf 5 l]
def S6 {h:Held} {ρ:Abs.Place} {w:World} {used:Bool} {l:List UInt8} {T e:TypeId} (s:Sim G h ρ (hp [.bld T used l.length (some 1),.buf e l]) w) :
  ∃ g S v,ρ 0=some (g,S)/\(∀ j,h g j=none)/\w.heap[g]?=some (.cells #[.pointer (if used then some ⟨g,0,none⟩ else none),v] T (0,0))/\w.ownsRow 0 e 1 v l.length (byteCells l) /\
   ∀ g1,v.ownBlock=some g1->(∃ i S1,ρ i=some (g1,S1))/\g1≠g/\∀ j,h g1 j=none:=by
 obtain ⟨g,S,v,h1,h2,h3,h4⟩:=s.blk 0 _ rfl;refine ⟨g,S,v,h1,h4,h2,?_⟩;have bl:(byteCells l).length=l.length*1:=by rw[byteCells_length,Ahf]
 rcases h3 with ⟨rfl,h0⟩ | ⟨g1,cap,rfl,h5,h6⟩
 ·exact ⟨⟨bl,.inl ⟨rfl,h0⟩⟩,fun g1 e=>lh⟩
 rcases s.blk 1 _ rfl with ⟨k1,_⟩ | ⟨g2,S2,c,k1,k2,k3,k4,k5,k6,k7⟩
 ·rw[h5] at k1;cases k1
 rw[h5] at k1;cases k1;refine ⟨⟨bl,.inr ⟨g1,cap,c,rfl,Aga _,k2,h6,k4,lA,?_⟩⟩,fun g3 e=>?_⟩
 ·apply List.ext_getElem?;intro j;rw[AgP];split
  ·rename_i hj;have hj':j<l.length:=lA
   rw[AgI,k6 j l[j] (Aeg hj')];simp[byteCells,hj']
  rename_i hj;rw[AfI fw]
 have:g1=g3:=Option.some.inj e;subst this;refine ⟨⟨1,_,h5⟩,fun e=>?_,k7⟩;subst e;have:=s.inj 0 1 g1 _ _ h1 h5 ⟨_,rfl,lC⟩ ⟨_,rfl,lC⟩;cases this
def KV (used:Bool) (l x:List UInt8) (hl:l.length<=10000000000000) (hx:x.length<=10000000000000) :
  Ctr TP G 68 [.ptr 0 0,.d (S x)] (BL used l) (.tup [.d (.int .i64 x.length),.undef]) [.bld 79 true (l++x).length (some 2),.dead,.buf 5 (l++x)]:=by
 refine ⟨go68,fun h ρ w vs s r=>?_⟩;obtain ⟨v,u,rfl,hv,hu⟩:=r.inv2;obtain ⟨g,S,vb,h1,h4,h2,h3,h5⟩:=S6 s;rw[ptr_inv hv h1,hu.str_inv];have hne:vb.ownBlock≠some g:=fun e=>(h5 g e).2.1 rfl;refine (MD Tryz.laysWriteString AdY g used vb (byteCells l) (bs x) w h2 eF hne (by rw[DQ,byteCells_length];omega)).mono ?_;rintro e w' ⟨rfl,bw⟩;obtain ⟨ρ',s1,s2⟩:=XT (l:=l++x) s lC h1 h4 h5 eG;refine ⟨_,h,ρ',rfl,s1,?_,s2⟩;refine .tup _ _ rfl fun i v y hv hy=>?_;rcases i with _ | _ | i<;>simp at hv hy
 ·subst hv;subst hy;rw[DQ];exact .d _ _ (.int _ _)
 subst hv;subst hy;exact .undef _
def AaS (used:Bool) (l:List UInt8):Ctr TP G 39 [.ptr 0 0] (BL used l) (.d (.int .i64 l.length)) (BL used l):=by refine ⟨go39,fun h ρ w vs s r=>?_⟩;obtain ⟨v,rfl,hv⟩:=r.inv1;obtain ⟨g,S,vb,h1,h4,h2,h3,h5⟩:=S6 s;rw[ptr_inv hv h1];have hne:vb.ownBlock≠some g:=fun e=>(h5 g e).2.1 rfl;refine (Ac2 Tryz.laysLen g used vb (byteCells l) w h2 eF hne).mono ?_;rintro e w' ⟨rfl,rfl⟩;rw[byteCells_length];exact ⟨_,h,ρ,rfl,s,.d _ _ (.int _ _),A6.refl _ _ _⟩
def Tryz.laysWriteByte_ren:Go.Shelf.Ren:=⟨fun | 167=>70 | n=>Tryz.laysReplaceAll_ren.f n,Tryz.laysReplaceAll_ren.t,Tryz.laysReplaceAll_ren.g⟩
def Tryz.laysWriteByte:Lays.n167 TP Tryz.laysWriteByte_ren :=
 {Tryz.laysReplaceAll with f167:=Tryz.func70.trans (congrArg some (by kernel_rfl)),t5:=Tryz.underlying5,a5:=Tryz.isAgg5,z5:=Tryz.sizeOf5,v5:=Tryz.zeroValue5}
def AdW:Builder.Extra TP Tryz.laysWriteByte_ren where
 sizeBuilder:=by kernel_rfl
 liesBuilder:=by kernel_rfl
 t5:=Tryz.underlying5
 a5:=Tryz.isAgg5
 z5:=Tryz.sizeOf5
 v5:=Tryz.zeroValue5
 infoByte:=by kernel_rfl
 cellsByte:=by kernel_rfl
 sizeByte:=by kernel_rfl
 neB5:=lz
def Nf (used:Bool) (l:List UInt8) (c:UInt8) (hl:l.length<=10000000000000) :
  Ctr TP G 70 [.ptr 0 0,.d (.int .u8 c.toNat)] (BL used l) .undef [.bld 79 true (l++[c]).length (some 2),.dead,.buf 5 (l++[c])]:=by
 refine ⟨go70,fun h ρ w vs s r=>?_⟩;obtain ⟨v,u,rfl,hv,hu⟩:=r.inv2;obtain ⟨g,S,vb,h1,h4,h2,h3,h5⟩:=S6 s;rw[ptr_inv hv h1,hu.int_inv];have hne:vb.ownBlock≠some g:=fun e=>(h5 g e).2.1 rfl;refine (Ph Tryz.laysWriteByte AdW g used vb (byteCells l) c.toNat w h2 eF hne fw).mono ?_;rintro e w' ⟨rfl,bw⟩;obtain ⟨ρ',s1,s2⟩:=XT (l:=l++[c]) s lC h1 h4 h5 eG;exact ⟨_,h,ρ',rfl,s1,.undef _,s2⟩
def LP (used:Bool) (l:List UInt8):Ctr TP G 40 [.ptr 0 0] (BL used l) (.d (S l)) [.dead,.dead]:=by
 refine ⟨go40,fun h ρ w vs s r=>?_⟩;obtain ⟨v,rfl,hv⟩:=r.inv1;obtain ⟨g,S,vb,h1,h4,h2,h3,h5⟩:=S6 s;rw[ptr_inv hv h1];refine (WG Tryz.laysString AdX g _ vb l w h2 h3).mono ?_;rintro e w' ⟨rfl,hb⟩;have hpr:∀ b o u,h b o=some u->w'.cell? ⟨b,o,none⟩=some u:=fun b o u e=>by rw[<-s.prom b o u e];have:w'.heap[b]?=w.heap[b]?:=hb.keep b (s.held_lt e) (fun e2=>by have:=(h5 b e2.symm).2.2 o;rw[e] at this;cases this);simp[World.cell?,this]
 have st:A6 h ρ w h ρ w':=⟨hb.os,hb.tape,hb.output,hb.size,fun k hk1 hn=>hb.keep k hk1 (fun e2=>by obtain ⟨⟨i,S1,c⟩,_⟩:=h5 k e2.symm;exact hn i S1 c),Held.le_refl _,fun _ _ _ _=>rfl,Place.le_refl _,fun i g S e=>.inl ⟨i,S,e⟩⟩;have hd:∀ i b,hp [Ae.dead,Ae.dead] i=some b->b=.dead:=by
  intro i b e;rcases i with _ | _ | i<;>simp[hp] at e
  ·exact e.symm
  exact e.symm
 refine ⟨_,h,ρ,rfl,⟨hpr,s.glob,fun i b e=>by rw[hd i b e];trivial,fun i g S e=>?_,fun i j g S S' e1 e2 l1 l2=>?_⟩,.d _ _ (.str _),st⟩;·obtain ⟨c1,b,c2⟩:=s.dom i g S e;have hi:i<2:=(Aeq.1 c2).1;refine ⟨by have:=hb.size;omega,.dead,?_⟩;rcases (by omega:i=0\/i=1) with rfl | rfl<;>rfl
 obtain ⟨b,c1,c2⟩:=l1;exact absurd (hd i b c1) c2
end
section
open Go Go.Proofs Go.Abs
variable {G:Ah}
def strs (l:List (List UInt8)):List D:=l.map fun s=>S s
def strs_length {l:List (List UInt8)}:(strs l).length=l.length:=by simp[strs]
def strs_unf {l:List (List UInt8)}:(strs l).map unf0=strs l:=by simp[strs,unf0]
def strs_getD {l:List (List UInt8)} {i:Nat} (h:i<l.length):(strs l).getD i .nilp=S (l.getD i []):=by simp[strs,AbY,h]
abbrev Ss (l:List (List UInt8)) (full:Bool):D:=.sl l.length full (strs l)
def wordsL:List (List UInt8):=[[97,110,110],[98,111,98],[99,121],[66,101,114,110],[85,108,109],[78,101,119,32,89,111,114,107],[121,111,114,107,32,110,101,119],[97,45,49],[98,45,50,50],[120],[122,195,188,114,105,99,104],[65,110,110],[98,111],[99,97,116],[98,97,116],[114,97,116]]
abbrev DiceM (t:List Int) (k:Nat):Ae:=.box [.d (.sl t.length false (Ar .u8 t)),.d (.int .i64 (min k t.length:Nat))]
def OkM (t:List Int):Prop:=t.length<=300/\∀ i,0<=t.getD i 0/\t.getD i 0<=255
def new_spec (t:List Int) (ht:t.length<=9223372036854775807):Ctr TP G 8 [.d (.sl t.length false (Ar .u8 t))] [] (.ptr 0 0) [DiceM (t.take 300) 0]:=by
 refine Ctr.body (M:=M0) Ak Tryz.func8 rfl go8 ?_;rcases AeA 300 t.length with h | h
 ·have e:(t.take 300).length=300:=by rw[Af2];omega
  simp(disch:=try exact aa)only[Tryz.f8,↓Ab,Ad,↓reduceIte,Qu,Qv,QF];exact ⟨[some 0],rfl,lC,by simp[HW,BW,SW,AW];omega,.inl kP⟩
 have e:t.take 300=t:=Aeu h;simp(disch:=try exact aa)only[Tryz.f8,e,↓Ab,Ad,↓reduceIte,Qu,Qv];exact mY
def pk (t:List Int) (k:Nat) (n:Int):Int:=t.getD k 0 % n
def pk_range {t:List Int} {k:Nat} {n:Int} (h:0<n):0<=pk t k n/\pk t k n<n:=⟨Int.emod_nonneg _ lA,Int.emod_lt_of_pos _ h⟩
def pk_nat (t:List Int) (k:Nat) (n:Int) (h:0<n):∃ c:Nat,pk t k n=c/\(c:Int)<n:=⟨(pk t k n).toNat,eI,eI⟩
def pick_spec (t:List Int) (k:Nat) (n:Int) (ht:OkM t) (h0:0<n) (h1:n<=1000) :
  Ctr TP G 25 [.ptr 0 0,.d (.int .i64 n)] [DiceM t k] (.d (.int .i64 (pk t k n))) [DiceM t (k+1)]:=by
 obtain ⟨ht,htt⟩:=ht;refine Ctr.body (M:=M0) Ak Tryz.func25 rfl go25 ?_;rcases AeA k t.length with h | h
 ·have e1:min k t.length=k:=by omega
  have e2:min (k+1) t.length=k+1:=lA
  obtain ⟨b1,b2⟩:=htt k;have e3:(t.getD k 0).tmod n=pk t k n:=Int.tmod_eq_emod_of_nonneg b1;simp only[e1,e2,DiceM];simp(disch:=try exact aa)only[Tryz.f25,e3,↓Ab,Ad,↓reduceIte,Qu,Qv];refine ⟨lD,lD,?_⟩;exact mY
 have e1:min k t.length=t.length:=lA
 have e2:min (k+1) t.length=t.length:=lA
 have e3:pk t k n=0:=by rw[pk,AbY,AfI h];simp
 simp only[e1,e2,e3,DiceM];simp(disch:=try exact aa)only[Tryz.f25,↓Ab,Ad,↓reduceIte,Qu,Qv];refine ⟨lD,?_⟩;exact mY
def words_spec:Ctr TP G 52 [] [] (.d (Ss wordsL false)) []:=by refine Ctr.pure (M:=M0) Ak Tryz.func52 rfl go52 ?_;simp(disch:=try exact aa)only[Tryz.f52,↓Ab,Ad,↓reduceIte,↓Qe,Qu,Qz];try rfl
abbrev Row:=List (List UInt8)
def ixF {α:Type} (p:α->Bool):List α->Int->Int
 | [],_=>-1
 | x::r,k=>if p x then k else ixF p r (k+1)
def I3 {α:Type} {p:α->Bool}:∀ (l:List α) (k:Int),0<=k->(0<=ixF p l k↔l.any p=true)
 | [],k,h=>by simp[ixF]
 | x::r,k,h=>by
   rw[ixF,Ahp];cases hx:p x;·simpa using I3 r (k+1) lA
   simpa using h
def Oc {α:Type} {p:α->Bool} {l:List α} {i:Nat} {d:α} (h:i<l.length):ixF p (l.drop i) i=if p (l.getD i d) then (i:Int) else ixF p (l.drop (i+1)) (i+1:Nat):=by rw[Af0 h,ixF,AbY,Aeg h];rfl
def Ds {α:Type} {l:List α} {i:Nat} {d:α} (h:i<l.length):l.getD i d∈l:=fO
def Oi (f:FuncId) (p:List UInt8->Bool) (l:Row) (full:Bool) (hl:l.length<=1000000000) (hp:∀ s∈l,Ctr TP G f [.d (S s)] [] (.d (.bool (p s))) []) :
  Ctr TP G 146 [.d (Ss l full),.d (.fn (.func f) [] [])] [] (.d (.int .i64 (ixF p l 0))) []:=by
 refine Ctr.pure (M:=M0) Ak Tryz.func146 rfl Afk ?_;have sl:=@strs_length l;simp only[Tryz.f146,↓Ab,Ad,Qu,Qv,QE];refine Al.fr 131 (α:=Nat) (fun i=>l.length-i) (fun i=>[(8,.d (.int .i64 i))]) (fun _=>[]) (fun i=>i<=l.length/\ixF p l 0=ixF p (l.drop i) i) 0 ⟨Aga _,rfl⟩ ?_ ?_;·exact nD
 rintro i ⟨h1,h2⟩;simp only[Bm,Aew,Aex];rw[h2];rcases AeA i l.length with h | h
 ·have g:=strs_getD h;rw[Oc (d:=[]) h];simp(disch:=try exact aa)only[sl,g,↓Ab,Ad,↓reduceIte,QE];refine Aa.pure (hp _ (Ds h)) ?_;cases hx:p (l.getD i []);·simp(disch:=try exact aa)only[↓Ab,Ad,↓reduceIte,QE];exact mJ
  simp only[↓Ab,Ad,↓reduceIte,↓Qe,QE]
 rw[AgY h];exact pA
def KF (f:FuncId) (p:List UInt8->Bool) (l:Row) (full:Bool) (hl:l.length<=1000000000) (hp:∀ s∈l,Ctr TP G f [.d (S s)] [] (.d (.bool (p s))) []) :
  Ctr TP G 105 [.d (Ss l full),.d (.fn (.func f) [] [])] [] (.d (.bool (l.any p))) []:=by
 refine Ctr.pure (M:=M0) Ak Tryz.func105 rfl AfT ?_;simp only[Tryz.f105,↓Ab,Ad,↓reduceIte,Qu,Qv];refine Aa.of (Oi f p l false hl hp) lD ?_;have hi:=I3 (p:=p) l 0 (Int.le_refl _);generalize ixF p l 0=z at *;rcases (by omega:0<=z\/z<0) with h | h
 ·exact pp
 have:l.any p=false:=by cases hx:l.any p with
  | false=>rfl
  | true=>have:=hi.2 hx;omega
 rw[this];exact pK
def RS {α:Type} {a b:List α} {i:Nat} {d:α} (h:i<a.length) (hl:a.length=b.length) (ht:a.take i=b.take i) (he:a.getD i d=b.getD i d):a.take (i+1)=b.take (i+1):=by
 have h2:i<b.length:=lA
 rw[Af1,Af1,ht,Aeg h,Aeg h2];rw[AbY,AbY,Aeg h,Aeg h2] at he;simp only[Af7] at he;rw[he]
def VL (a b:Row) (fa fb:Bool) (ha:a.length<=10000000000) (hb:b.length<=10000000000):Ctr TP G 46 [.d (Ss a fa),.d (Ss b fb)] [] (.d (.bool (decide (a=b)))) []:=by
 obtain ⟨r,hr⟩:∃ r,r=decide (a=b):=⟨_,rfl⟩;rw[<-hr];refine Ctr.pure (M:=M0) Ak Tryz.func46 rfl go46 ?_;have al:=@strs_length a;have bl:=@strs_length b;by_cases hl:a.length=b.length
 ·simp(disch:=try exact aa)only[Tryz.f46,↓Ab,Ad,Qu,Qv];refine Al.fr 4099 (α:=Nat) (fun i=>a.length-i) (fun i=>[(13,.d (.int .i64 i))]) (fun _=>[]) (fun i=>i<=a.length/\a.take i=b.take i) 0 ⟨Aga _,lC⟩ ?_ ?_;·exact nD
  rintro i ⟨h1,h2⟩;simp only[Bm,Aew,Aex];rcases AeA i a.length with h | h
  ·have ga:=strs_getD h;have gb:=strs_getD (show i<b.length by omega);by_cases he:a.getD i []=b.getD i []
   ·simp(disch:=try exact aa)only[Af,al,bl,ga,gb,he,↓Ab,Ad,↓reduceIte];exact ⟨lD,i+1,⟨h,RS h hl h2 he⟩,iz,nE⟩
   simp(disch:=try exact aa)only[Af,al,bl,ga,gb,he,↓Ab,Ad,↓reduceIte,↓Qe];refine ⟨lD,?_⟩;have:¬a=b:=fun e=>he lB;simp[hr,this]
  rw[Aeu h,Aeu lA] at h2;simp(disch:=try exact aa)only[↓Ab,Ad,↓Qe];simp[hr,h2]
 simp(disch:=try exact aa)only[Tryz.f46,↓Ab,Ad,↓Qe,Qu,Qv];have:¬a=b:=fun e=>hl lB;simp[hr,this]
def XN:List UInt8:=[48,49,50,51,52,53,54,55,56,57,97,98,99,100,101,102,103,104,105,106,107,108,109,110,111,112,113,114,115,116,117,118,119,120,121,122]
def EB:List UInt8:=(AgQ 100).flatMap fun n=>[UInt8.ofNat (48+n / 10),UInt8.ofNat (48+n % 10)]
def Fl:(([48,48,48,49,48,50,48,51,48,52,48,53,48,54,48,55,48,56,48,57,49,48,49,49,49,50,49,51,49,52,49,53,49,54,49,55,49,56,49,57,50,48,50,49,50,50,50,51,50,52]:List UInt8).append [50,53,50,54,50,55,50,56,50,57,51,48,51,49,51,50,51,51,51,52,51,53,51,54,51,55,51,56,51,57,52,48,52,49,52,50,52,51,52,52,52,53,52,54,52,55,52,56,52,57]).append (List.append [53,48,53,49,53,50,53,51,53,52,53,53,53,54,53,55,53,56,53,57,54,48,54,49,54,50,54,51,54,52,54,53,54,54,54,55,54,56,54,57,55,48,55,49,55,50,55,51,55,52] [55,53,55,54,55,55,55,56,55,57,56,48,56,49,56,50,56,51,56,52,56,53,56,54,56,55,56,56,56,57,57,48,57,49,57,50,57,51,57,52,57,53,57,54,57,55,57,56,57,57])=EB:=iY
def DY:EB.length=200:=iY
def CQ (n:Nat):List UInt8:=if n<10 then [UInt8.ofNat (48+n)] else [UInt8.ofNat (48+n / 10),UInt8.ofNat (48+n % 10)]
def AaZ {n:Nat} (h:n<10):(XN.take (n+1)).drop n=CQ n:=by
 have:∀ n:Fin 10,(XN.take (n.val+1)).drop n.val=CQ n.val:=lz
 exact this ⟨n,h⟩
def AaY {n:Nat} (h1:10<=n) (h:n<100):(EB.take (n*2+2)).drop (n*2)=CQ n:=by
 have:∀ n:Fin 100,10<=n.val->(EB.take (n.val*2+2)).drop (n.val*2)=CQ n.val:=iY
 exact this ⟨n,h⟩ h1
def PW (n:Nat):1<=(CQ n).length/\(CQ n).length<=2:=by unfold CQ;split<;>simp
def Vy (n:Nat) (h:n<100):Ctr TP G 160 [.d (.int .i64 n)] [] (.d (S (CQ n))) []:=by
 refine Ctr.pure (M:=M0) Ak Tryz.func160 rfl Ae9 ?_;rcases AeA n 10 with h1 | h1
 ·rw[<-AaZ h1];simp(disch:=try exact aa)only[Af,Tryz.f160,↓Ab,Ad,↓Qe,Qu,Qv];first | done | rfl
 rw[<-AaY h1 h];have e1:((n:Int)*2).toNat=n*2:=lA
 have e2:((n:Int)*2+2).toNat=n*2+2:=lA
 simp(disch:=try exact aa)only[Af,Fl,DY,e1,e2,Tryz.f160,↓Ab,Ad,↓Qe,Qv];first | done | rfl
def Ip (n:Nat) (h:n<100):Ctr TP G 121 [.d (.int .i64 n),.d (.int .i64 10)] [] (.d (S (CQ n))) []:=by refine Ctr.pure (M:=M0) Ak Tryz.func121 rfl Adt ?_;simp(disch:=try exact aa)only[Tryz.f121,↓Ab,Ad,↓reduceIte,Qu,Qv];refine Aa.pure (Vy n h) ?_;exact qg
def Wf (n:Nat) (h:n<100):Ctr TP G 93 [.d (.int .i64 n)] [] (.d (S (CQ n))) []:=by refine Ctr.pure (M:=M0) Ak Tryz.func93 rfl go93 ?_;simp only[Tryz.f93,↓Ab,Ad,↓reduceIte,Qv];refine Aa.pure (Ip n h) ?_;exact qg
def YP (n:Nat) (h:n<100):Ctr TP G 51 [.d (.int .i64 n)] [] (.d (S (CQ n))) []:=by refine Ctr.pure (M:=M0) Ak Tryz.func51 rfl go51 ?_;simp only[Tryz.f51,↓Ab,Ad,↓reduceIte,Qv];refine Aa.pure (Wf n h) ?_;exact qg
def E2:List (List UInt8):=[[],[],[],[45],[43]]
def Dz:List (List UInt8):=[[53],[53,48],[48],[49,50,53],[48,48,55],[48,48,48,48,48,48,48,48,49]]
def Ge (c:UInt8):Bool:=decide (c.toNat<48) || decide (57<c.toNat)
def Ih (t:List Int) (k:Nat):List UInt8:=E2.getD (pk t k 5).toNat []++CQ (pk t (k+1) 40).toNat
def Kp (t:List Int) (k:Nat):List UInt8:=if pk t (k+2) 3=0 then (if Ge ((Ih t k).getD 0 0)=true then Ih t k else 48::Ih t k) else Ih t k
def Jw (t:List Int) (k:Nat):List UInt8:=if pk t (k+3) 3=0 then Kp t k++(46::Dz.getD (pk t (k+4) 6).toNat []) else Kp t k
def Pa (t:List Int) (k:Nat):Nat:=if pk t (k+3) 3=0 then k+5 else k+4
def Cj {l:List (List UInt8)} {m:Nat} (h:∀ s∈l,s.length<=m) (i:Nat):(l.getD i []).length<=m:=by
 rcases AeA i l.length with h1 | h1
 ·rw[AbY,Aeg h1];exact h _ (AgJ _)
 rw[AbY,AfI h1];simp
def Uc (t:List Int) (k:Nat):1<=(Ih t k).length/\(Ih t k).length<=3:=by have h1:=PW (pk t (k+1) 40).toNat;have h2:=Cj (l:=E2) (m:=1) lz (pk t k 5).toNat;unfold Ih;rw[Aes];omega
def Ub (t:List Int) (k:Nat):1<=(Kp t k).length/\(Kp t k).length<=4:=by
 have h1:=Uc t k;unfold Kp;split
 ·split;·omega
  rw[Aet];omega
 omega
def Ig (t:List Int) (k:Nat):1<=(Jw t k).length/\(Jw t k).length<=20:=by
 have h1:=Ub t k;have h2:=Cj (l:=Dz) (m:=9) lz (pk t (k+4) 6).toNat;unfold Jw;split;·rw[Aes,Aet];omega
 omega
def BB:[D.str (bs []),D.str (bs []),D.str (bs []),D.str (bs [45]),D.str (bs [43])]=strs E2:=rfl
def Bj:[D.str (bs [53]),D.str (bs [53,48]),D.str (bs [48]),D.str (bs [49,50,53]),D.str (bs [48,48,55]),D.str (bs [48,48,48,48,48,48,48,48,49])]=strs Dz:=rfl
def Ie (t:List Int) (k:Nat) (ht:OkM t):Ctr TP G 26 [.ptr 0 0] [DiceM t k] (.d (S (Jw t k))) [DiceM t (Pa t k)]:=by
 refine Ctr.body (M:=M0) Ak Tryz.func26 rfl go26 ?_;have ls:=@strs_length E2;have lf:=@strs_length Dz;have ls':E2.length=5:=rfl;have lf':Dz.length=6:=rfl;obtain ⟨a,ha,ha2⟩:=pk_nat t k 5 lz;obtain ⟨b,hb,hb2⟩:=pk_nat t (k+1) 40 lz;have e1:Ih t k=E2.getD a []++CQ b:=by rw[Ih,ha,hb];rfl
 have lg:=Cj (l:=E2) (m:=1) lz a;have li:=PW b;have l1:=Uc t k;have l2:=Ub t k;have gs:=strs_getD (l:=E2) (i:=a) lA;simp(disch:=try exact aa)only[Tryz.f26,BB,strs_unf,↓Ab,Ad,↓reduceIte,Qu,Qv,Qz];refine Aa.by (pick_spec t k 5 ht lz lz) lD lD (Aen _) ?_;rw[ha];simp(disch:=try exact aa)only[gs,ls,ls',↓Ab,Ad,↓reduceIte,Qu];refine Aa.by (pick_spec t (k+1) 40 ht lz lz) lD lD (Aen _) ?_;rw[hb];simp(disch:=try exact aa)only[↓Ab,Ad,↓reduceIte,Qu];refine Aa.of (YP b lA) lD ?_;simp(disch:=try exact aa)only[Af,e1.symm,↓Ab,Ad,↓reduceIte,Qu];refine ⟨lD,?_⟩;refine Aa.by (pick_spec t (k+1+1) 3 ht lz lz) lD lD (Aen _) ?_;have e2:Kp t k=(if pk t (k+1+1) 3=0 then (if Ge ((Ih t k).getD 0 0)=true then Ih t k else 48::Ih t k) else Ih t k):=rfl;have tail:∀ r:List UInt8,r=Kp t k->Jw t k=(if pk t (k+1+1+1) 3=0 then r++(46::Dz.getD (pk t (k+1+1+1+1) 6).toNat []) else r):=by rintro r rfl;rfl
 have ek:Pa t k=(if pk t (k+1+1+1) 3=0 then k+1+1+1+1+1 else k+1+1+1+1):=rfl;generalize Ih t k=r1 at *;by_cases h3:pk t (k+1+1) 3=0
 ·rw[h3];rw[if_pos h3] at e2;by_cases c1:(r1.getD 0 0).toNat<48
  ·have c3:Ge (r1.getD 0 0)=true:=(by unfold Ge;rw[decide_eq_true c1];rfl);have hr:r1=Kp t k:=(by rw[e2,if_pos c3]);have tl:=tail (r1) hr;have lr:(r1).length<=4:=gW
   simp(disch:=try exact aa)only[Af,↓Ab,Ad,↓reduceIte,Qu,QF];refine Aa.by (pick_spec t (k+1+1+1) 3 ht lz lz) lD lD (Aen _) ?_;by_cases h4:pk t (k+1+1+1) 3=0
   ·rw[if_pos h4] at tl ek;rw[h4,tl,ek];obtain ⟨d,hd,hd2⟩:=pk_nat t (k+1+1+1+1) 6 lz;have gs2:=strs_getD (l:=Dz) (i:=d) lA;have lg2:=Cj (l:=Dz) (m:=9) lz d;rw[hd,Aer];simp(disch:=try exact aa)only[Bj,strs_unf,↓Ab,Ad,↓reduceIte,Qu,Qz];refine Aa.by (pick_spec t (k+1+1+1+1) 6 ht lz lz) lD lD (Aen _) ?_;rw[hd];simp(disch:=try exact aa)only[Af,gs2,lf,lf',↓Ab,Ad,↓reduceIte,Qu];first
    | exact mY
    | refine ⟨lD,?_⟩
      exact mZ
   rw[if_neg h4] at tl ek;exact oe
  by_cases c2:57<(r1.getD 0 0).toNat
  ·have c3:Ge (r1.getD 0 0)=true:=(by unfold Ge;rw[decide_eq_true c2,Bool.or_true]);have hr:r1=Kp t k:=(by rw[e2,if_pos c3]);have tl:=tail (r1) hr;have lr:(r1).length<=4:=gW
   simp(disch:=try exact aa)only[Af,↓Ab,Ad,↓reduceIte,Qu,QF];refine Aa.by (pick_spec t (k+1+1+1) 3 ht lz lz) lD lD (Aen _) ?_;by_cases h4:pk t (k+1+1+1) 3=0
   ·rw[if_pos h4] at tl ek;rw[h4,tl,ek];obtain ⟨d,hd,hd2⟩:=pk_nat t (k+1+1+1+1) 6 lz;have gs2:=strs_getD (l:=Dz) (i:=d) lA;have lg2:=Cj (l:=Dz) (m:=9) lz d;rw[hd,Aer];simp(disch:=try exact aa)only[Bj,strs_unf,↓Ab,Ad,↓reduceIte,Qu,Qz];refine Aa.by (pick_spec t (k+1+1+1+1) 6 ht lz lz) lD lD (Aen _) ?_;rw[hd];simp(disch:=try exact aa)only[Af,gs2,lf,lf',↓Ab,Ad,↓reduceIte,Qu];first
    | exact mY
    | refine ⟨lD,?_⟩
      exact mZ
   rw[if_neg h4] at tl ek;exact oe
  have c3:Ge (r1.getD 0 0)=false:=by unfold Ge;rw[decide_eq_false c1,decide_eq_false c2];rfl
  have hr:48::r1=Kp t k:=by rw[e2,c3,if_neg Bool.false_ne_true]
  have tl:=tail (48::r1) hr;have lr:(48::r1).length<=4:=gW
  simp(disch:=try exact aa)only[Af,↓Ab,Ad,↓reduceIte,Qu,QF];refine Aa.by (pick_spec t (k+1+1+1) 3 ht lz lz) lD lD (Aen _) ?_;by_cases h4:pk t (k+1+1+1) 3=0
  ·rw[if_pos h4] at tl ek;rw[h4,tl,ek];obtain ⟨d,hd,hd2⟩:=pk_nat t (k+1+1+1+1) 6 lz;have gs2:=strs_getD (l:=Dz) (i:=d) lA;have lg2:=Cj (l:=Dz) (m:=9) lz d;rw[hd,Aer];generalize hX:48::r1=X at *;simp(disch:=try exact aa)only[Bj,strs_unf,↓Ab,Ad,↓reduceIte,Qu,Qz];refine Aa.by (pick_spec t (k+1+1+1+1) 6 ht lz lz) lD lD (Aen _) ?_;rw[hd];simp(disch:=try exact aa)only[Af,gs2,lf,lf',↓Ab,Ad,↓reduceIte,Qu];first
   | exact mY
   | refine ⟨lD,?_⟩
     exact mZ
  rw[if_neg h4] at tl ek;exact oe
 rw[if_neg h3] at e2;generalize pk t (k+1+1) 3=z3 at *;have hr:r1=Kp t k:=e2.symm;have tl:=tail (r1) hr;have lr:(r1).length<=4:=gW
 simp(disch:=try exact aa)only[↓Ab,Ad,↓reduceIte,Qu];refine Aa.by (pick_spec t (k+1+1+1) 3 ht lz lz) lD lD (Aen _) ?_;by_cases h4:pk t (k+1+1+1) 3=0
 ·rw[if_pos h4] at tl ek;rw[h4,tl,ek];obtain ⟨d,hd,hd2⟩:=pk_nat t (k+1+1+1+1) 6 lz;have gs2:=strs_getD (l:=Dz) (i:=d) lA;have lg2:=Cj (l:=Dz) (m:=9) lz d;rw[hd,Aer];simp(disch:=try exact aa)only[Bj,strs_unf,↓Ab,Ad,↓reduceIte,Qu,Qz];refine Aa.by (pick_spec t (k+1+1+1+1) 6 ht lz lz) lD lD (Aen _) ?_;rw[hd];simp(disch:=try exact aa)only[Af,gs2,lf,lf',↓Ab,Ad,↓reduceIte,Qu];first
  | exact mY
  | refine ⟨lD,?_⟩
    exact mZ
 rw[if_neg h4] at tl ek;exact oe
def Ej:List (List UInt8):=[[50,48,50,52],[49,57,57,57],[50,48,50,54],[49,57,48,48],[48,48,48,49],[57,57,57,57]]
def Dr:List (List UInt8):=[[48,49],[48,50],[49,50],[49,49],[49,51]]
def GI:List (List UInt8):=[[48,49],[50,56],[50,57],[51,48],[51,49]]
def Mf (t:List Int) (k:Nat):List UInt8 :=
 let y:=Ej.getD (pk t k 6).toNat []
 let m:=Dr.getD (pk t (k+1) 5).toNat []
 let e:=GI.getD (pk t (k+2) 5).toNat []
 if pk t (k+3) 3=0 then y++[45]++m++[45]++e else if pk t (k+3) 3=1 then y++[47]++m++[47]++e else e++[46]++m++[46]++y
def IV:[D.str (bs [50,48,50,52]),D.str (bs [49,57,57,57]),D.str (bs [50,48,50,54]),D.str (bs [49,57,48,48]),D.str (bs [48,48,48,49]),D.str (bs [57,57,57,57])]=strs Ej:=rfl
def GW:[D.str (bs [48,49]),D.str (bs [48,50]),D.str (bs [49,50]),D.str (bs [49,49]),D.str (bs [49,51])]=strs Dr:=rfl
def Kk:[D.str (bs [48,49]),D.str (bs [50,56]),D.str (bs [50,57]),D.str (bs [51,48]),D.str (bs [51,49])]=strs GI:=rfl
def Za (t:List Int) (k:Nat) (ht:OkM t):Ctr TP G 53 [.ptr 0 0] [DiceM t k] (.d (S (Mf t k))) [DiceM t (k+4)]:=by
 obtain ⟨r,hr⟩:∃ r,r=Mf t k:=⟨_,rfl⟩;rw[<-hr];unfold Mf at hr;refine Ctr.body (M:=M0) Ak Tryz.func53 rfl go53 ?_;obtain ⟨a,ha,ha2⟩:=pk_nat t k 6 lz;obtain ⟨b,hb,hb2⟩:=pk_nat t (k+1) 5 lz;obtain ⟨c,hc,hc2⟩:=pk_nat t (k+2) 5 lz;obtain ⟨e,he,he2⟩:=pk_nat t (k+3) 3 lz;rw[ha,hb,hc,he] at hr;simp only[Aer] at hr;have l1:=@strs_length Ej;have l2:=@strs_length Dr;have l3:=@strs_length GI;have n1:Ej.length=6:=rfl;have n2:Dr.length=5:=rfl;have n3:GI.length=5:=rfl;have g1:=strs_getD (l:=Ej) (i:=a) lA;have g2:=strs_getD (l:=Dr) (i:=b) lA;have g3:=strs_getD (l:=GI) (i:=c) lA;have s1:=Cj (l:=Ej) (m:=4) lz a;have s2:=Cj (l:=Dr) (m:=2) lz b;have s3:=Cj (l:=GI) (m:=2) lz c;generalize Ej.getD a []=y at *;generalize Dr.getD b []=m at *;generalize GI.getD c []=dd at *;simp(disch:=try exact aa)only[IV,strs_unf,Tryz.f53,↓Ab,Ad,↓reduceIte,Qu,Qv,Qz];refine Aa.by (pick_spec t k 6 ht lz lz) lD lD (Aen _) ?_;rw[ha];simp(disch:=try exact aa)only[GW,strs_unf,l1,n1,g1,↓Ab,Ad,↓reduceIte,Qu,Qz];refine Aa.by (pick_spec t (k+1) 5 ht lz lz) lD lD (Aen _) ?_;rw[hb];simp(disch:=try exact aa)only[Kk,strs_unf,l2,n2,g2,↓Ab,Ad,↓reduceIte,Qu,Qz];refine Aa.by (pick_spec t (k+1+1) 5 ht lz lz) lD lD (Aen _) ?_;rw[hc];simp(disch:=try exact aa)only[l3,n3,g3,↓Ab,Ad,↓reduceIte,Qu];refine Aa.by (pick_spec t (k+1+1+1) 3 ht lz lz) lD lD (Aen _) ?_;rw[he];rcases (by omega:e=0\/e=1\/e=2) with rfl | rfl | rfl
 all_goals
  simp(disch:=try exact aa)only[Af,↓Ab,Ad,↓reduceIte,Qu];rw[hr];exact mY
def IA:List (List UInt8):=[[121,101,115],[110,111],[84,82,85,69],[70,97,108,115,101],[32,121,101,115,32]]
def PF:[D.str (bs [121,101,115]),D.str (bs [110,111]),D.str (bs [84,82,85,69]),D.str (bs [70,97,108,115,101]),D.str (bs [32,121,101,115,32])]=strs IA:=rfl
def Gb:List (List UInt8):=[[32,107,103],[103],[32,107,109],[109],[32,109,105,110],[37],[32,109,109]]
def Le:[D.str (bs [32,107,103]),D.str (bs [103]),D.str (bs [32,107,109]),D.str (bs [109]),D.str (bs [32,109,105,110]),D.str (bs [37]),D.str (bs [32,109,109])]=strs Gb:=rfl
def Ii:List (List UInt8):=[[],[32],[78,65],[45],[110,111,110,101],[63],[110,117,108,108]]
def PD:[D.str (bs []),D.str (bs [32]),D.str (bs [78,65]),D.str (bs [45]),D.str (bs [110,111,110,101]),D.str (bs [63]),D.str (bs [110,117,108,108])]=strs Ii:=rfl
def L8:List (List UInt8):=[[97,44,98],[34,113,34],[39],[120,59,121],[108,10,105],[99,13,114],[32,112,97,100,32],[9],[124],[],[195,169],[123],[97,34,98],[13,10]]
def TO:[D.str (bs [97,44,98]),D.str (bs [34,113,34]),D.str (bs [39]),D.str (bs [120,59,121]),D.str (bs [108,10,105]),D.str (bs [99,13,114]),D.str (bs [32,112,97,100,32]),D.str (bs [9]),D.str (bs [124]),D.str (bs []),D.str (bs [195,169]),D.str (bs [123]),D.str (bs [97,34,98]),D.str (bs [13,10])]=strs L8:=rfl
def FF (t:List Int) (k c:Nat):List UInt8 :=
 if c=0 then wordsL.getD (pk t k 16).toNat [] else if c=1 then Jw t k else if c=2 then Mf t k else if c=3 then IA.getD (pk t k 5).toNat [] else
  if c=4 then Jw t k++Gb.getD (pk t (Pa t k) 7).toNat [] else if c=5 then Ii.getD (pk t k 7).toNat [] else L8.getD (pk t k 14).toNat []
def fieldK (t:List Int) (k c:Nat):Nat:=if c=1 then Pa t k else if c=2 then k+4 else if c=4 then Pa t k+1 else k+1
def Mc (t:List Int) (k c:Nat) (ht:OkM t) (hc:c<=100):Ctr TP G 27 [.ptr 0 0,.d (.int .i64 c)] [DiceM t k] (.d (S (FF t k c))) [DiceM t (fieldK t k c)]:=by
 obtain ⟨r,hr⟩:∃ r,r=FF t k c:=⟨_,rfl⟩;obtain ⟨k2,hk⟩:∃ k2,k2=fieldK t k c:=⟨_,rfl⟩;rw[<-hr,<-hk];unfold FF at hr;unfold fieldK at hk;refine Ctr.body (M:=M0) Ak Tryz.func27 rfl go27 ?_;rcases (by omega:c=0\/c=1\/c=2\/c=3\/c=4\/c=5\/5<c) with rfl | rfl | rfl | rfl | rfl | rfl | h
 ·simp only[if_true,if_false,show ¬(0=1) by decide,show ¬(0=2) by decide,show ¬(0=4) by decide] at hr hk;subst hk;obtain ⟨a,ha,ha2⟩:=pk_nat t k 16 lz;rw[ha] at hr;simp only[Aer] at hr;have l1:=@strs_length wordsL;have n1:wordsL.length=16:=rfl;have g1:=strs_getD (l:=wordsL) (i:=a) lA;generalize wordsL.getD a []=y at *;simp only[Tryz.f27,↓Ab,Ad,↓reduceIte,Qu,Qv];refine Aa.of words_spec lD ?_;simp only[↓Ab,Ad,↓reduceIte];refine Aa.of words_spec lD ?_;simp only[n1,↓Ab,Ad,↓reduceIte];refine Aa.by (pick_spec t k 16 ht lz lz) lD lD (Aen _) ?_;rw[ha];simp(disch:=try exact aa)only[l1,n1,g1,↓Ab,Ad,↓reduceIte];rw[hr];exact mY
 ·simp only[if_true,if_false,show ¬(1=0) by decide] at hr hk;subst hk hr;simp(disch:=try exact aa)only[Tryz.f27,↓Ab,Ad,↓reduceIte,Qu,Qv];refine Aa.by (Ie t k ht) lD lD (Aen _) ?_;exact pb
 ·simp only[if_true,if_false,show ¬(2=0) by decide,show ¬(2=1) by decide] at hr hk;subst hk hr;simp(disch:=try exact aa)only[Tryz.f27,↓Ab,Ad,↓reduceIte,Qu,Qv];refine Aa.by (Za t k ht) lD lD (Aen _) ?_;exact pb
 ·simp only[if_true,if_false,show ¬(3=0) by decide,show ¬(3=1) by decide,show ¬(3=2) by decide,show ¬(3=4) by decide] at hr hk;subst hk;obtain ⟨a,ha,ha2⟩:=pk_nat t k 5 lz;rw[ha] at hr;simp only[Aer] at hr;have l1:=@strs_length IA;have n1:IA.length=5:=rfl;have g1:=strs_getD (l:=IA) (i:=a) lA;generalize IA.getD a []=y at *;simp(disch:=try exact aa)only[PF,strs_unf,Tryz.f27,↓Ab,Ad,↓reduceIte,Qu,Qv,Qz];refine Aa.by (pick_spec t k 5 ht lz lz) lD lD (Aen _) ?_;exact oA
 ·simp only[if_true,if_false,show ¬(4=0) by decide,show ¬(4=1) by decide,show ¬(4=2) by decide,show ¬(4=3) by decide] at hr hk;have nl:=(Ig t k).2;obtain ⟨a,ha,ha2⟩:=pk_nat t (Pa t k) 7 lz;rw[ha] at hr;simp only[Aer] at hr;have l1:=@strs_length Gb;have n1:Gb.length=7:=rfl;have g1:=strs_getD (l:=Gb) (i:=a) lA;have s1:=Cj (l:=Gb) (m:=4) lz a;generalize Gb.getD a []=y at *;simp(disch:=try exact aa)only[Tryz.f27,↓Ab,Ad,↓reduceIte,Qu,Qv];refine Aa.by (Ie t k ht) lD lD (Aen _) ?_;generalize Pa t k=kk at *;generalize Jw t k=nn at *;subst hk;simp(disch:=try exact aa)only[Le,strs_unf,↓Ab,Ad,↓reduceIte,Qu,Qz];refine Aa.by (pick_spec t kk 7 ht lz lz) lD lD (Aen _) ?_;rw[ha];simp(disch:=try exact aa)only[Af,l1,n1,g1,↓Ab,Ad,↓reduceIte,Qu];rw[hr];first | exact ⟨[some 0],rfl,lC,gU,.inl kP⟩ | (refine ⟨lD,?_⟩;exact mZ)
 ·simp only[if_true,if_false,show ¬(5=0) by decide,show ¬(5=1) by decide,show ¬(5=2) by decide,show ¬(5=3) by decide,show ¬(5=4) by decide] at hr hk;subst hk;obtain ⟨a,ha,ha2⟩:=pk_nat t k 7 lz;rw[ha] at hr;simp only[Aer] at hr;have l1:=@strs_length Ii;have n1:Ii.length=7:=rfl;have g1:=strs_getD (l:=Ii) (i:=a) lA;generalize Ii.getD a []=y at *;simp(disch:=try exact aa)only[PD,strs_unf,Tryz.f27,↓Ab,Ad,↓reduceIte,Qu,Qv,Qz];refine Aa.by (pick_spec t k 7 ht lz lz) lD lD (Aen _) ?_;exact oA
 simp only[if_false,show ¬c=0 by omega,show ¬c=1 by omega,show ¬c=2 by omega,show ¬c=3 by omega,show ¬c=4 by omega,show ¬c=5 by omega] at hr hk;subst hk;obtain ⟨a,ha,ha2⟩:=pk_nat t k 14 lz;rw[ha] at hr;simp only[Aer] at hr;have l1:=@strs_length L8;have n1:L8.length=14:=rfl;have g1:=strs_getD (l:=L8) (i:=a) lA;generalize L8.getD a []=y at *;simp(disch:=try exact aa)only[TO,strs_unf,Tryz.f27,↓Ab,Ad,↓reduceIte,Qu,Qv,Qz];refine Aa.by (pick_spec t k 14 ht lz lz) lD lD (Aen _) ?_;exact oA
end
section
open Go Go.Proofs Go.Abs Go.RowKit Go.Shelf
variable {G:Ah}
end
section
open Go Go.Proofs Go.Abs
variable {G:Ah}
end
section
open Go Go.Proofs Go.Abs
end
section
open Go Go.Proofs Go.Abs
variable {G:Ah}
end
section
open Go Go.Proofs Go.Abs Go.RowKit Go.Shelf
variable {G:Ah}
end
section
open Go Go.Proofs Go.Abs
variable {G:Ah}
def HI (G:Ah):Prop:=∀ n:Nat,n<=1048576->Ctr TP G 51 [.d (.int .i64 n)] [] (.d (S (Lib.decDigits n))) []
end
section
open Go Go.Proofs Go.Abs Go.RowKit Go.Shelf
variable {G:Ah}
end
section
open Go Go.Proofs Go.Abs
variable {G:Ah}
def prD (k:Nat):List UInt8:=[UInt8.ofNat (48+k / 10),UInt8.ofNat (48+k % 10)]
def dd2 {n:Nat} (h:100<=n):Lib.decDigits n=Lib.decDigits (n / 100)++prD (n % 100):=by rw[Lib.decDigits,dif_neg lA,Lib.decDigits,dif_neg lA,AgE,AgV,prD];rw[show n / 10 % 10=n % 100 / 10 by omega,show n % 100 % 10=n % 10 by omega];rfl
def Abq {n:Nat} (h:n<10):Lib.decDigits n=[UInt8.ofNat (48+n)]:=Lib.decDigits_one h
def Abp {n:Nat} (h1:10<=n) (h:n<100):Lib.decDigits n=prD n:=Lib.decDigits_two lA h
def dd3 {n:Nat} (h1:100<=n) (h:n<1000):Lib.decDigits n=[UInt8.ofNat (48+n / 100)]++prD (n % 100):=by rw[dd2 h1,Abq lA]
def dd4 {n:Nat} (h1:1000<=n) (h:n<10000):Lib.decDigits n=prD (n / 100)++prD (n % 100):=by rw[dd2 lA,Abp lA lA]
def dd5 {n:Nat} (h1:10000<=n) (h:n<100000):Lib.decDigits n=[UInt8.ofNat (48+n / 10000)]++prD (n % 10000 / 100)++prD (n % 10000 % 100):=by rw[dd2 lA,dd3 lA lA,AgE,show n / 100 % 100=n % 10000 / 100 by omega,show n % 10000 % 100=n % 100 by omega]
def dd6 {n:Nat} (h1:100000<=n) (h:n<1000000):Lib.decDigits n=prD (n / 10000)++prD (n % 10000 / 100)++prD (n % 10000 % 100):=by rw[dd2 lA,dd4 lA lA,AgE,show n / 100 % 100=n % 10000 / 100 by omega,show n % 10000 % 100=n % 100 by omega]
def dd7 {n:Nat} (h1:1000000<=n) (h:n<10000000):Lib.decDigits n=[UInt8.ofNat (48+n / 10000 / 100)]++prD (n / 10000 % 100)++prD (n % 10000 / 100)++prD (n % 10000 % 100):=by rw[dd2 lA,dd5 lA lA,show n % 10000 % 100=n % 100 by omega,show n / 100 / 10000=n / 10000 / 100 by omega,show n / 100 % 10000 / 100=n / 10000 % 100 by omega,show n / 100 % 10000 % 100=n % 10000 / 100 by omega]
def Adh {k:Nat} (h:k<100):(EB.getD (k*2) 0).toNat=48+k / 10/\(EB.getD (k*2+1) 0).toNat=48+k % 10:=by
 have:∀ k:Fin 100,(EB.getD (k.val*2) 0).toNat=48+k.val / 10/\(EB.getD (k.val*2+1) 0).toNat=48+k.val % 10:=iY
 exact this ⟨k,h⟩
def Tu (a:Nat):(a:Int).tdiv 100=((a / 100:Nat):Int):=(Ahn a 100).symm
def Tt (a:Nat):(a:Int).tmod 100=((a % 100:Nat):Int):=(Aho a 100).symm
def J3 (a:Nat):(a:Int).tdiv 10000=((a / 10000:Nat):Int):=(Ahn a 10000).symm
def J2 (a:Nat):(a:Int).tmod 10000=((a % 10000:Nat):Int):=(Aho a 10000).symm
def tn2 (k:Nat):((k:Int)*2).toNat=k*2:=lA
def tn3 (k:Nat):((k:Int)*2+1).toNat=k*2+1:=lA
def smA {k:Nat} (h:k<100):(EB.getD (k*2) 0).toNat=48+k / 10:=(Adh h).1
def smB {k:Nat} (h:k<100):(EB.getD (k*2+1) 0).toNat=48+k % 10:=(Adh h).2
def Abf (n:Nat) (h1:100<=n) (h:n<1000):Ctr TP G 162 [.lsl 0 1 1 3,.d (.int .u64 n)] [.row false (Ar .u8 (AbZ 24 0))] .undef
  [.row false (Ar .u8 ([0,((48+n / 100:Nat):Int),((48+n % 100 / 10:Nat):Int),((48+n % 100 % 10:Nat):Int)]++AbZ 20 0))]:=by
 refine Ctr.body (M:=M0) Ak Tryz.func162 rfl Uy ?_;simp only[Tryz.f162,↓Ab,Ad,Qu,Qv];refine Al.fx 1 (α:=Unit) (β:=Unit) (fun _=>0) (fun _=>[(1,.d (.int .u64 n)),(4,.d (.int .i64 3))]) (fun _=>[.row false (Ar .u8 (AbZ 24 0))]) (fun _=>True) 1 (fun _=>[(1,.d (.int .u64 n)),(4,.d (.int .i64 3))]) (fun _=>[.row false (Ar .u8 (AbZ 24 0))]) (fun _=>True) () trivial ?_ ?_ ?_;·exact nj
 ·exact oG
 rintro ⟨⟩ -;simp only[Bm,Aew,Aex];simp(disch:=try exact aa)only[Af,Fl,DY,Tu,Tt,tn2,tn3,smA,smB,↓Ab,Ad,↓reduceIte,Qu,QB,QF];first | (exact mZ) | (refine ⟨lD,?_⟩;exact m4) | (refine ⟨lD,lD,?_⟩;exact mZ) | (refine ⟨lD,lD,lD,?_⟩;exact mZ)
def Abe (n:Nat) (h1:1000<=n) (h:n<10000):Ctr TP G 162 [.lsl 0 1 1 4,.d (.int .u64 n)] [.row false (Ar .u8 (AbZ 24 0))] .undef
  [.row false (Ar .u8 ([0,((48+n % 10000 / 100 / 10:Nat):Int),((48+n % 10000 / 100 % 10:Nat):Int),((48+n % 10000 % 100 / 10:Nat):Int),((48+n % 10000 % 100 % 10:Nat):Int)]++AbZ 19 0))]:=by
 refine Ctr.body (M:=M0) Ak Tryz.func162 rfl Uy ?_;simp only[Tryz.f162,↓Ab,Ad,Qu,Qv];refine Al.fx 1 (α:=Unit) (β:=Unit) (fun _=>0) (fun _=>[(1,.d (.int .u64 n)),(4,.d (.int .i64 4))]) (fun _=>[.row false (Ar .u8 (AbZ 24 0))]) (fun _=>True) 1 (fun _=>[(1,.d (.int .u64 n)),(4,.d (.int .i64 4))]) (fun _=>[.row false (Ar .u8 (AbZ 24 0))]) (fun _=>True) () trivial ?_ ?_ ?_;·exact nj
 ·exact oG
 rintro ⟨⟩ -;exact nO
def Abd (n:Nat) (h1:10000<=n) (h:n<100000):Ctr TP G 162 [.lsl 0 1 1 5,.d (.int .u64 n)] [.row false (Ar .u8 (AbZ 24 0))] .undef
  [.row false (Ar .u8 ([0,((48+n / 10000:Nat):Int),((48+n % 10000 / 100 / 10:Nat):Int),((48+n % 10000 / 100 % 10:Nat):Int),((48+n % 10000 % 100 / 10:Nat):Int),((48+n % 10000 % 100 % 10:Nat):Int)]++AbZ 18 0))]:=by
 refine Ctr.body (M:=M0) Ak Tryz.func162 rfl Uy ?_;simp only[Tryz.f162,↓Ab,Ad,Qu,Qv];refine Al.fx 1 (α:=Unit) (β:=Unit) (fun _=>0) (fun _=>[(1,.d (.int .u64 n)),(4,.d (.int .i64 5))]) (fun _=>[.row false (Ar .u8 (AbZ 24 0))]) (fun _=>True) 1 (fun _=>[(1,.d (.int .u64 n)),(4,.d (.int .i64 5))]) (fun _=>[.row false (Ar .u8 (AbZ 24 0))]) (fun _=>True) () trivial ?_ ?_ ?_;·exact nj
 ·exact oG
 rintro ⟨⟩ -;exact nO
def Abc (n:Nat) (h1:100000<=n) (h:n<1000000):Ctr TP G 162 [.lsl 0 1 1 6,.d (.int .u64 n)] [.row false (Ar .u8 (AbZ 24 0))] .undef
  [.row false (Ar .u8 ([0,((48+n / 10000 % 100 / 10:Nat):Int),((48+n / 10000 % 100 % 10:Nat):Int),((48+n % 10000 / 100 / 10:Nat):Int),((48+n % 10000 / 100 % 10:Nat):Int),((48+n % 10000 % 100 / 10:Nat):Int),((48+n % 10000 % 100 % 10:Nat):Int)]++AbZ 17 0))]:=by
 refine Ctr.body (M:=M0) Ak Tryz.func162 rfl Uy ?_;simp only[Tryz.f162,↓Ab,Ad,Qu,Qv];refine Al.fx 1 (α:=Unit) (β:=Unit) (fun _=>0) (fun _=>[(1,.d (.int .u64 n)),(4,.d (.int .i64 6))]) (fun _=>[.row false (Ar .u8 (AbZ 24 0))]) (fun _=>True) 1 (fun _=>[(1,.d (.int .u64 n)),(4,.d (.int .i64 6))]) (fun _=>[.row false (Ar .u8 (AbZ 24 0))]) (fun _=>True) () trivial ?_ ?_ ?_;·exact nj
 ·exact oG
 rintro ⟨⟩ -;exact nP
def Abb (n:Nat) (h1:1000000<=n) (h:n<10000000):Ctr TP G 162 [.lsl 0 1 1 7,.d (.int .u64 n)] [.row false (Ar .u8 (AbZ 24 0))] .undef
  [.row false (Ar .u8 ([0,((48+n / 10000 / 100:Nat):Int),((48+n / 10000 % 100 / 10:Nat):Int),((48+n / 10000 % 100 % 10:Nat):Int),((48+n % 10000 / 100 / 10:Nat):Int),((48+n % 10000 / 100 % 10:Nat):Int),((48+n % 10000 % 100 / 10:Nat):Int),((48+n % 10000 % 100 % 10:Nat):Int)]++AbZ 16 0))]:=by
 refine Ctr.body (M:=M0) Ak Tryz.func162 rfl Uy ?_;simp only[Tryz.f162,↓Ab,Ad,Qu,Qv];refine Al.fx 1 (α:=Unit) (β:=Unit) (fun _=>0) (fun _=>[(1,.d (.int .u64 n)),(4,.d (.int .i64 7))]) (fun _=>[.row false (Ar .u8 (AbZ 24 0))]) (fun _=>True) 1 (fun _=>[(1,.d (.int .u64 n)),(4,.d (.int .i64 7))]) (fun _=>[.row false (Ar .u8 (AbZ 24 0))]) (fun _=>True) () trivial ?_ ?_ ?_;·exact nj
 ·exact oG
 rintro ⟨⟩ -;exact nP
def HP (G:Ah):Prop:=G 3=some (Ar .u64 Lib.pow10Tab)
def Tryz.laysLen64_ren:Go.Shelf.Ren:=⟨fun | 129=>191 | n=>n,fun | 53=>177 | 3=>3 | 4=>4 | 46=>155 | 5=>5 | 9=>9 | n=>n,fun | n=>n⟩
def Tryz.laysLen64:Go.Proofs.Lays.n129 TP Tryz.laysLen64_ren where
 mixed:=by kernel_rfl
 f129:=Tryz.func191.trans (congrArg some (by kernel_rfl))
 t3:=Tryz.underlying3
 a3:=Tryz.isAgg3
 z3:=Tryz.sizeOf3
 v3:=Tryz.zeroValue3
 t4:=Tryz.underlying4
 a4:=Tryz.isAgg4
 z4:=Tryz.sizeOf4
 v4:=Tryz.zeroValue4
 t5:=Tryz.underlying5
 a5:=Tryz.isAgg5
 z5:=Tryz.sizeOf5
 v5:=Tryz.zeroValue5
 t9:=Tryz.underlying9
 a9:=Tryz.isAgg9
 z9:=Tryz.sizeOf9
 v9:=Tryz.zeroValue9
 t46:=Tryz.underlying155
 a46:=Tryz.isAgg155
 z46:=Tryz.sizeOf155
 v46:=Tryz.zeroValue155
 t53:=Tryz.underlying177
 a53:=Tryz.isAgg177
 z53:=Tryz.sizeOf177
 v53:=Tryz.zeroValue177
def V9 (n:Nat) (h:n<18446744073709551616):Ctr TP G 191 [.d (.int .u64 n)] [] (.d (.int .i64 (Lib.bitLen n))) []:=by refine Ctr.of_calls AeP fun h ρ w vs q r=>?_;obtain ⟨v,rfl,hv⟩:=r.inv1;rw[hv.int_inv];refine (Any.bits_Len64 Tryz.laysLen64 n w lA lA).mono ?_;rintro e w' ⟨rfl,rfl⟩;exact ⟨_,rfl,.int _ _,.refl _ _⟩
def V8 (x:Nat) (h:x<=64):Ctr TP G 190 [.d (.int .i64 x)] [] (.d (.int .i64 (Lib.l10 x))) []:=by refine Ctr.pure (M:=M0) Ak Tryz.func190 rfl AeQ ?_;simp(disch:=try exact aa)only[Tryz.f190,↓Ab,Ad,↓Qe,Qv,QD,QF];unfold Lib.l10;omega
def WE (b:Bool):Ctr TP G 192 [.d (.bool b)] [] (.d (.int .i64 (if b=true then 1 else 0))) []:=by
 refine Ctr.pure (M:=M0) Ak Tryz.func192 rfl AeO ?_;cases b;·simp only[Tryz.f192,↓Ab,Ad,↓reduceIte,↓Qe,Qv];try rfl
 simp only[Tryz.f192,↓Ab,Ad,↓reduceIte,↓Qe,Qv];try rfl
def Zm {n:Nat} (h2:n<10000000):Lib.bitLen n<=24:=Lib.bitLen_le n 24 lz lA
def NY (hP:HP G) (n:Nat) (h1:1<=n) (h2:n<10000000):Ctr TP G 161 [.d (.int .u64 n)] [] (.d (.int .i64 (Lib.nDigits n))) []:=by
 refine Ctr.pure (M:=M0) Ak Tryz.func161 rfl Ae8 ?_;have hP':G 3=some (Ar .u64 Lib.pow10Tab):=hP;obtain ⟨e1,e2⟩:=Lib.numDigits_eq n h1 lA;have hb:=Zm h2;have g0:=ints_getD (k:=.u64) (d:=.nilp) (l:=Lib.pow10Tab) (i:=Lib.l10 (Lib.bitLen n)) (by rw[Lib.pow10Tab_length];omega);rw[Lib.pow10Tab_at _ lA] at g0;have pl:=@ints_length .u64 Lib.pow10Tab;rw[Lib.pow10Tab_length] at pl;simp only[Tryz.f161,↓Ab,Ad,↓reduceIte,Qv];refine Aa.pure (V9 n lA) ?_;simp only[↓Ab,Ad,↓reduceIte];refine Aa.pure (V8 (Lib.bitLen n) lA) ?_;generalize Lib.l10 (Lib.bitLen n)=q at *;generalize (10:Nat)^q=t at *;simp(disch:=try exact aa)only[hP',pl,g0,↓Ab,Ad,↓reduceIte];refine Aa.pure (WE _) ?_;rw[<-e1];by_cases ht:t<=n
 ·rw[show decide ((t:Int)<=(n:Int))=true from decide_eq_true lA,if_pos rfl,if_pos ht];exact pz
 rw[show decide ((t:Int)<=(n:Int))=false from decide_eq_false lA,if_neg ht,if_neg (show ¬(false=true) by decide)];exact pz
def MI:B8:=fun k=>k == 162
def OS:MI 162=true:=rfl
def OT {k:Nat} (h:k≠162):MI k=false:=by simpa only[MI,beq_eq_false_iff_ne] using h
def Ui {n k m:Nat} (h1:10^k<=n) (h2:n<10^(k+1)) (e:m=k+1):((Lib.nDigits n:Nat):Int)=m:=by rw[Lib.nDigits_unique k n h1 h2,e]
def EV {k:Nat} (h:k<10):((UInt8.ofNat (48+k)).toNat:Int)=((48+k:Nat):Int):=jW
def KB (l z:List UInt8):cut (Ar .u8 ([0]++(AB l++AB z))) 1 l.length=Ar .u8 (AB l):=by simp only[cut,Ar,AB,Agu,Aev,List.map_map,List.singleton_append,Ag4,List.drop_zero];rw[List.take_append_of_le_length lC,Aeu lC]
def row3 {n:Nat} (h1:100<=n) (h:n<1000):Ar .u8 ([0,((48+n / 100:Nat):Int),((48+n % 100 / 10:Nat):Int),((48+n % 100 % 10:Nat):Int)]++AbZ 20 0)=Ar .u8 ([0]++(AB (Lib.decDigits n)++AB (AbZ 20 0))):=by rw[dd3 h1 h,prD];simp only[AB,Agu,Aev,Agp];rw[EV lA,EV lA,EV lA];rfl
def row4 {n:Nat} (h1:1000<=n) (h:n<10000):Ar .u8 ([0,((48+n % 10000 / 100 / 10:Nat):Int),((48+n % 10000 / 100 % 10:Nat):Int),((48+n % 10000 % 100 / 10:Nat):Int),((48+n % 10000 % 100 % 10:Nat):Int)]++AbZ 19 0)=Ar .u8 ([0]++(AB (Lib.decDigits n)++AB (AbZ 19 0))):=by rw[dd4 h1 h,AgA h,prD,prD];simp only[AB,Agu,Aev,Agp];rw[EV lA,EV lA,EV lA,EV lA];rfl
def row5 {n:Nat} (h1:10000<=n) (h:n<100000):Ar .u8 ([0,((48+n / 10000:Nat):Int),((48+n % 10000 / 100 / 10:Nat):Int),((48+n % 10000 / 100 % 10:Nat):Int),((48+n % 10000 % 100 / 10:Nat):Int),((48+n % 10000 % 100 % 10:Nat):Int)]++AbZ 18 0)=Ar .u8 ([0]++(AB (Lib.decDigits n)++AB (AbZ 18 0))):=by rw[dd5 h1 h,prD,prD];simp only[AB,Agu,Aev,Agp];rw[EV lA,EV lA,EV lA,EV lA,EV lA];rfl
def row6 {n:Nat} (h1:100000<=n) (h:n<1000000):Ar .u8 ([0,((48+n / 10000 % 100 / 10:Nat):Int),((48+n / 10000 % 100 % 10:Nat):Int),((48+n % 10000 / 100 / 10:Nat):Int),((48+n % 10000 / 100 % 10:Nat):Int),((48+n % 10000 % 100 / 10:Nat):Int),((48+n % 10000 % 100 % 10:Nat):Int)]++AbZ 17 0)=Ar .u8 ([0]++(AB (Lib.decDigits n)++AB (AbZ 17 0))):=by rw[dd6 h1 h,AgA (show n / 10000<100 by omega),prD,prD,prD];simp only[AB,Agu,Aev,Agp];rw[EV lA,EV lA,EV lA,EV lA,EV lA,EV lA];rfl
def row7 {n:Nat} (h1:1000000<=n) (h:n<10000000):Ar .u8 ([0,((48+n / 10000 / 100:Nat):Int),((48+n / 10000 % 100 / 10:Nat):Int),((48+n / 10000 % 100 % 10:Nat):Int),((48+n % 10000 / 100 / 10:Nat):Int),((48+n % 10000 / 100 % 10:Nat):Int),((48+n % 10000 % 100 / 10:Nat):Int),((48+n % 10000 % 100 % 10:Nat):Int)]++AbZ 16 0)=Ar .u8 ([0]++(AB (Lib.decDigits n)++AB (AbZ 16 0))):=by rw[dd7 h1 h,prD,prD,prD];simp only[AB,Agu,Aev,Agp];rw[EV lA,EV lA,EV lA,EV lA,EV lA,EV lA,EV lA];rfl
def Mw (hP:HP G) (n:Nat) (h1:100<=n) (h2:n<10000000):Ctr TP G 121 [.d (.int .i64 n),.d (.int .i64 10)] [] (.d (S (Lib.decDigits n))) []:=by
 refine Ctr.pure (M:=MI) Ak Tryz.func121 rfl Adt ?_;simp(disch:=try exact aa)only[OT,Tryz.f121,↓Ab,Ad,↓reduceIte,Qu,Qv];refine Aa.pure (NY hP n lA h2) ?_;have dl:=Lib.decDigits_length n;rcases (by omega:n<1000\/(1000<=n/\n<10000)\/(10000<=n/\n<100000)\/(100000<=n/\n<1000000)\/1000000<=n) with h | ⟨h3,h4⟩ | ⟨h3,h4⟩ | ⟨h3,h4⟩ | h
 ·have en:((Lib.nDigits n:Nat):Int)=3:=Ui (k:=2) lA lA rfl;have dl2:(Lib.decDigits n).length=3:=by omega
  have sp:=Abf (G:=G) n h1 h;rw[row3 h1 h] at sp;rw[en];simp(disch:=try exact aa)only[OS,OT,↓Ab,Ad,↓reduceIte,Qu,Qv,QA,QF];generalize Lib.decDigits n=dg at *;refine Aa.by sp lD lD lC ?_;have cr:=KB dg (AbZ 20 0);rw[dl2] at cr;have rl:(Ar .u8 ([0]++(AB dg++AB (AbZ 20 0)))).length=24:=bF
  generalize Ar .u8 ([0]++(AB dg++AB (AbZ 20 0)))=rw at *;exact oy
 ·have en:((Lib.nDigits n:Nat):Int)=4:=Ui (k:=3) lA lA rfl;have dl2:(Lib.decDigits n).length=4:=by omega
  have sp:=Abe (G:=G) n h3 h4;rw[row4 h3 h4] at sp;rw[en];simp(disch:=try exact aa)only[OS,OT,↓Ab,Ad,↓reduceIte,Qu,Qv,QA,QF];generalize Lib.decDigits n=dg at *;refine Aa.by sp lD lD lC ?_;have cr:=KB dg (AbZ 19 0);rw[dl2] at cr;have rl:(Ar .u8 ([0]++(AB dg++AB (AbZ 19 0)))).length=24:=bF
  generalize Ar .u8 ([0]++(AB dg++AB (AbZ 19 0)))=rw at *;exact oy
 ·have en:((Lib.nDigits n:Nat):Int)=5:=Ui (k:=4) lA lA rfl;have dl2:(Lib.decDigits n).length=5:=by omega
  have sp:=Abd (G:=G) n h3 h4;rw[row5 h3 h4] at sp;rw[en];simp(disch:=try exact aa)only[OS,OT,↓Ab,Ad,↓reduceIte,Qu,Qv,QA,QF];generalize Lib.decDigits n=dg at *;refine Aa.by sp lD lD lC ?_;have cr:=KB dg (AbZ 18 0);rw[dl2] at cr;have rl:(Ar .u8 ([0]++(AB dg++AB (AbZ 18 0)))).length=24:=bF
  generalize Ar .u8 ([0]++(AB dg++AB (AbZ 18 0)))=rw at *;exact oy
 ·have en:((Lib.nDigits n:Nat):Int)=6:=Ui (k:=5) lA lA rfl;have dl2:(Lib.decDigits n).length=6:=by omega
  have sp:=Abc (G:=G) n h3 h4;rw[row6 h3 h4] at sp;rw[en];simp(disch:=try exact aa)only[OS,OT,↓Ab,Ad,↓reduceIte,Qu,Qv,QA,QF];generalize Lib.decDigits n=dg at *;refine Aa.by sp lD lD lC ?_;have cr:=KB dg (AbZ 17 0);rw[dl2] at cr;have rl:(Ar .u8 ([0]++(AB dg++AB (AbZ 17 0)))).length=24:=bF
  generalize Ar .u8 ([0]++(AB dg++AB (AbZ 17 0)))=rw at *;exact oy
 have en:((Lib.nDigits n:Nat):Int)=7:=Ui (k:=6) lA lA rfl;have dl2:(Lib.decDigits n).length=7:=lA
 have sp:=Abb (G:=G) n h h2;rw[row7 h h2] at sp;rw[en];simp(disch:=try exact aa)only[OS,OT,↓Ab,Ad,↓reduceIte,Qu,Qv,QA,QF];generalize Lib.decDigits n=dg at *;refine Aa.by sp lD lD lC ?_;have cr:=KB dg (AbZ 16 0);rw[dl2] at cr;have rl:(Ar .u8 ([0]++(AB dg++AB (AbZ 16 0)))).length=24:=bF
 generalize Ar .u8 ([0]++(AB dg++AB (AbZ 16 0)))=rw at *;exact oy
def YQ {n:Nat} (h:n<100):CQ n=Lib.decDigits n:=by
 unfold CQ;split;·rw[Abq lA]
 rw[Abp lA h];rfl
def Mx (hP:HP G) (n:Nat) (h2:n<10000000):Ctr TP G 121 [.d (.int .i64 n),.d (.int .i64 10)] [] (.d (S (Lib.decDigits n))) []:=by
 rcases AeA n 100 with h | h
 ·rw[<-YQ h];exact Ip n h
 exact Mw hP n h h2
def Us (hP:HP G) (n:Nat) (h:n<10000000):Ctr TP G 93 [.d (.int .i64 n)] [] (.d (S (Lib.decDigits n))) []:=by refine Ctr.pure (M:=M0) Ak Tryz.func93 rfl go93 ?_;simp only[Tryz.f93,↓Ab,Ad,↓reduceIte,Qv];refine Aa.pure (Mx hP n h) ?_;exact qg
def Od (hP:HP G) (n:Nat) (h:n<10000000):Ctr TP G 51 [.d (.int .i64 n)] [] (.d (S (Lib.decDigits n))) []:=by refine Ctr.pure (M:=M0) Ak Tryz.func51 rfl go51 ?_;simp only[Tryz.f51,↓Ab,Ad,↓reduceIte,Qv];refine Aa.pure (Us hP n h) ?_;exact qg
def Aeo (hP:HP G):HI G:=fun n hn=>Od hP n lA
end
section
open Go Go.Proofs Go.Abs Go.RowKit Go.ChangeShapes Go.WideShapes Go.ChangeAt Go.Shelf Go.Joins Go.Deep
def YN {l:List Int} {i:Nat} {d:Int} (h:i<l.length):l.getD i d∈l:=fO
def own:ownKnob Tryz.prog.godebug=none:=by kernel_rfl
def AcD:laidOutB TP=true:=by kernel_rfl
def cU8:Tryz.prog.cellsOf 5=1:=by kernel_rfl
def cU64:Tryz.prog.cellsOf 177=1:=by kernel_rfl
def Acy {l:List Int} (h:∀ n∈l,(Lit.int .u8 n).wf=true):∀ i,0<=l.getD i 0/\l.getD i 0<=255:=by
 intro i;rcases AeA i l.length with hi | hi
 ·have:=h _ (YN (d:=0) hi);simp[Lit.wf,IntKind.min,IntKind.max,IntKind.bits,IntKind.signed] at this;rw[AbY];omega
 rw[AbY,AfI hi];simp
def G1 (_b:Bool):Ah:=fun g=>if g=0 then some Ha else if g=1 then some OR else if g=3 then some (Ar .u64 Lib.pow10Tab)
 else none
def Ab2:U8Types TP Tryz.laysValid_ren:=U8Types.of196 Tryz.laysValid
def Ab3:U8Extra TP Tryz.laysValid_ren where
 n3:=by kernel_rfl
 n4:=by kernel_rfl
 y3:=by kernel_rfl
 y4:=by kernel_rfl
 c5:=by kernel_rfl
 c119:=by kernel_rfl
 c138:=by kernel_rfl
def Aa9:Rows.laid_unicode_utf8_first=Lib.firstData:=by kernel_rfl
def Zs:(Rows.laid_unicode_utf8_acceptRanges:DataW Unit)=Lib.acceptData:=by kernel_rfl
def AdN:(Rows.laid_internal_strconv_uint64pow10:DataW Unit)=Lib.tabData .u64 Lib.pow10Tab:=by kernel_rfl
def gPow:Tryz.prog.globalNamed "internal/strconv.uint64pow10" = some 3:=by kernel_rfl
def tPow:(Tryz.prog.globals[3]?).map (·.type)=some 249:=by kernel_rfl
def cPow:Tryz.prog.cellsOf 249=20:=by kernel_rfl
def AdU {X:World} {b:Bool} (h1:Lib.VarReads TP X "unicode/utf8.first" Rows.laid_unicode_utf8_first) (h2:Lib.VarReads TP X "unicode/utf8.acceptRanges" Rows.laid_unicode_utf8_acceptRanges)
  (h3:Lib.VarReads TP X "internal/strconv.uint64pow10" Rows.laid_internal_strconv_uint64pow10)
  (_h4:b=true->True):Tg (G1 b) X:=by
 rw[Aa9] at h1;rw[Zs] at h2;rw[AdN] at h3;obtain ⟨t1,t2⟩:Lib.Utf8Tabs 0 1 X:=utf8Tabs_of_readsT Ab2 Ab3 h1 h2;intro g ds hg;unfold G1 at hg;split at hg
 ·rename_i e;subst e;cases hg;refine ⟨fun i=>.int .u8 (Lib.firstT i),fun i x hx=>?_,fun i x hx=>?_⟩;·have hi:i<256:=cA;exact t1 i hi
  have hi:i<256:=cA
  simp[Ha,hi] at hx;subst hx;exact .int _ _
 split at hg
 ·rename_i e;subst e;cases hg;refine ⟨fun i=>.int .u8 ((if i % 2=0 then Lib.accLo (i / 2) else Lib.accHi (i / 2):Nat):Int),fun i x hx=>?_,fun i x hx=>?_⟩
  ·have hi:i<32:=cB;obtain ⟨a,b⟩:=t2 (i / 2) lA;rcases (by omega:i % 2=0\/i % 2=1) with h0 | h0
   ·show X.cell? ⟨_,i,none⟩=_
    simp only[if_pos h0];rw[<-a,show 2*(i / 2)=i by omega]
   show X.cell? ⟨_,i,none⟩=_
   simp only[if_neg (show ¬i % 2=0 by omega)];rw[<-b,show 2*(i / 2)+1=i by omega]
  have hi:i<32:=cB
  simp only[OR,Agx,Ag3 hi,AgL,Option.some.injEq] at hx;subst hx;exact .int _ _
 split at hg
 ·rename_i e;subst e;cases hg;obtain ⟨g',t,cs,fuel,p,hg',ht',hvar,hd⟩:=h3;obtain rfl:=Option.some.inj (gPow.symm.trans hg');obtain rfl:=Option.some.inj (tPow.symm.trans ht');have hcs:=Lib.cells_of_tab Tryz.underlying249 Tryz.underlying177 cU64 cPow hd;refine ⟨fun i=>.int .u64 (Lib.pow10Tab.getD i 0),fun i x hx=>?_,fun i x hx=>?_⟩
  ·have hi:i<Lib.pow10Tab.length:=cC;show X.cell? ⟨_,i,none⟩=_
   rw[World.var?_cell hg' hvar i,<-AgI,hcs];simp[hi]
  have hi:i<Lib.pow10Tab.length:=cC
  simp only[Ar,Agx,Aeg hi,AgL,Option.some.injEq] at hx;subst hx;show RD _ (Value.int .u64 (Lib.pow10Tab.getD i 0)) _
  rw[AbY,Aeg hi];exact .int _ _
 cases hg
end
namespace Num
open Go Go.Proofs Go.Abs
structure Hid (p:Prop):Prop where
 out:p
def B:Nat:=4294967296
def val:List Nat->Nat
 | []=>0
 | d::l=>d+B*val l
def toW (n:Nat):List Nat:=if h:n=0 then [] else n % B::toW (n / B)
termination_by n
decreasing_by exact AgN lA lz
def Dig (l:List Nat):Prop:=∀ d,d∈l->d<B
def A5:toW 0=[]:=by rw[toW];simp
def E9 {n:Nat} (h:n≠0):toW n=n % B::toW (n / B):=by rw[toW];simp[h]
def Bf (n:Nat):val (toW n)=n:=by
 induction n using AgK with
 | _ n ih =>
  by_cases h:n=0;·subst h;rw[A5];rfl
  rw[E9 h,val,ih (n / B) (AgN lA lz)];exact AgO n B
def Bg (n:Nat):Dig (toW n):=by
 induction n using AgK with
 | _ n ih =>
  by_cases h:n=0;·subst h;rw[A5];intro d hd;cases hd
  rw[E9 h];intro d hd;rcases Ag7.1 hd with rfl | hd
  ·exact Ahr _ lz
  exact ih (n / B) (AgN lA lz) d hd
def BZ (l m:List Nat):val (l++m)=val l+B^l.length*val m:=by
 induction l with
 | nil=>simp[val]
 | cons d l ih=>simp only[Ahd,val,ih,Aet,AgF,AeB];rw[Ag8];congr 2;rw[<-AgC,AgB B]
def GR {l:List Nat} (h:Dig l):val l<B^l.length:=by
 induction l with
 | nil=>simp[val]
 | cons d l ih =>have h1:=h d lC;have h2:=ih fun x hx=>h x kI;simp only[val,Aet,AgF];have:B*(val l+1)<=B*B^l.length:=Ag5 _ h2;rw[AgB (B^l.length)];rw[AeB] at this;omega
def Dig.append {l m:List Nat} (h1:Dig l) (h2:Dig m):Dig (l++m):=fun d hd=>by
 rcases Ahj.1 hd with h | h
 ·exact h1 d h
 exact h2 d h
def Dig.take {l:List Nat} (h:Dig l) (n:Nat):Dig (l.take n):=fun d hd=>h d (Ag1 hd)
def Dig.drop {l:List Nat} (h:Dig l) (n:Nat):Dig (l.drop n):=fun d hd=>h d (List.mem_of_mem_drop hd)
def Dig.getD {l:List Nat} (h:Dig l) (i:Nat):l.getD i 0<B:=by
 rw[AbY];cases e:l[i]? with
 | none=>decide
 | some x=>exact h x (List.mem_of_getElem? e)
def Vu {l:List Nat} {k:Nat} (h:k<l.length):l.take (k+1)=l.take k++[l.getD k 0]:=by rw[Af1,AbY,Aeg h];rfl
def Jj {l:List Nat} {k:Nat} (h:k<l.length):val (l.take (k+1))=val (l.take k)+B^k*l.getD k 0:=by rw[Vu h,BZ];simp[val,Ag0 (Aha h)]
def ZO {l:List Nat} (h:Dig l) (hl:l=[]\/l.getD (l.length-1) 0≠0):toW (val l)=l:=by
 induction l with
 | nil=>exact A5
 | cons d l ih =>
  have h1:=h d lC;have hB:(0:Nat)<B:=lz
  have hv:val (d::l)≠0:=by
   simp only[val];by_cases hn:l=[];·subst hn;simp at hl;simp[val];omega
   have h3:=ih (fun x hx=>h x kI) (.inr (by
    rcases hl with h0 | h0
    ·cases h0
    have:l.length≠0:=by simpa using hn
    have e:(d::l).length-1=(l.length-1)+1:=jW;rw[e] at h0;simpa using h0))
   intro h0;have:val l=0:=by
    have:=Nat.eq_zero_of_add_eq_zero_left h0;rcases Nat.mul_eq_zero.1 this with h | h
    ·omega
    exact h
   rw[this,A5] at h3;exact hn h3.symm
  rw[E9 hv];have e1:val (d::l) % B=d:=by simp only[val];rw[AgU];exact AgA h1
  have e2:val (d::l) / B=val l:=by simp only[val];rw[Ag2 _ _ hB,Ahe h1,AgX]
  rw[e1,e2];by_cases hn:l=[];·subst hn;simp[val,A5]
  rw[ih (fun x hx=>h x kI) (.inr (by
    rcases hl with h0 | h0
    ·cases h0
    have:l.length≠0:=by simpa using hn
    have e:(d::l).length-1=(l.length-1)+1:=jW;rw[e] at h0;simpa using h0))]
def ZP {n:Nat} (h:n≠0):(toW n).getD ((toW n).length-1) 0≠0:=by
 induction n using AgK with
 | _ n ih =>
  rw[E9 h];by_cases h2:n / B=0
  ·rw[h2,A5];simp;have:n<B:=by
    rcases Nat.div_eq_zero_iff.1 h2 with h | h
    ·exact absurd h lz
    exact h
   rw[AgA this];exact h
  have:=ih _ (AgN lA lz) h2;have hl:(toW (n / B)).length≠0:=by rw[E9 h2];simp
  have e:(n % B::toW (n / B)).length-1=((toW (n / B)).length-1)+1:=jW
  rw[e];simpa using this
def WZ {n:Nat}:toW n=[]↔n=0:=by
 constructor;·intro h;have:=Bf n;rw[h] at this;exact this.symm
 rintro rfl;exact A5
def Cy {n k:Nat} (h:n<B^k):(toW n).length<=k:=by
 induction k generalizing n with
 | zero=>have:n=0:=by simpa using h
         subst this;simp[A5]
 | succ k ih =>
  by_cases h0:n=0;·subst h0;simp[A5]
  rw[E9 h0];simp only[Aet];have:n / B<B^k:=by rw[Agw lz];rw[<-AgF];exact h
  have:=ih this;omega
def Ls {n k:Nat} (h:k<(toW n).length):B^k<=n:=by
 by_cases hn:B^k<=n;·exact hn
 have:=Cy (n:=n) (k:=k) lA;omega
def CZ (n:Nat):n<B^(toW n).length:=by have:=GR (Bg n);rwa[Bf] at this
def Af6 {n:Nat} (h:n<4294967296):n / 2147483648=(n.testBit 31).toNat:=by
 rw[AgG,show (2:Nat)^31=2147483648 from rfl];by_cases h1:n / 2147483648=1;·simp[h1]
 have:n / 2147483648=0:=lA
 simp[this]
def WH {n:Nat} (h:n<4294967296):n.testBit 31=decide (2147483648<=n):=by rw[AgG,show (2:Nat)^31=2147483648 from rfl];apply decide_eq_decide.2;omega
def Ad5 {x y c d:Nat} (hx:x<4294967296) (hy:y<4294967296) (hc:c<=1) (hd:d=(x+4294967296-y-c) % 4294967296) :
  (((4294967295-x) &&& y) ||| ((4294967295-(x ^^^ y)) &&& d)) / 2147483648=if x<y+c then 1 else 0:=by
 have hxy:x ^^^ y<2^32:=Nat.xor_lt_two_pow lA lA;have hd':d<4294967296:=lA
 have h1:((4294967295-x) &&& y)<2^32:=Ag9 _ lA;have h2:((4294967295-(x ^^^ y)) &&& d)<2^32:=Ag9 _ lA;have h3:=Nat.or_lt_two_pow h1 h2;rw[Af6 lA,Nat.testBit_or,Ahk,Ahk];rw[show 4294967295-x=2^32-(x+1) by omega,show 4294967295-(x ^^^ y)=2^32-((x ^^^ y)+1) by omega,Agv lA,Agv hxy,Ahl,
  WH hx,WH hy,WH hd']
 by_cases a:2147483648<=x<;>by_cases b:2147483648<=y<;>by_cases e:2147483648<=d<;>by_cases f:x<y+c<;>simp[a,b,e,f]<;>omega
def AdV {n:Nat} (h:n<4294967296):4294967295 ^^^ n=4294967295-n:=by
 apply Nat.eq_of_testBit_eq;intro i;rw[show 4294967295-n=2^32-(n+1) by omega,Agv lA,Ahl,show (4294967295:Nat)=2^32-1 from rfl,Nat.testBit_two_pow_sub_one];by_cases hi:i<32;·simp[hi]
 have:n.testBit i=false:=Nat.testBit_lt_two_pow (AgS h (by
  calc 4294967296=2^32:=rfl
   _<=2^i:=Nat.pow_le_pow_right lz lA))
 simp[hi,this]
def ZB {n:Nat} (h:n<4294967296):CH .xor .u32 4294967295 (n:Int)=((4294967295-n:Nat):Int):=by have:=IB (a:=4294967295) (b:=n) lA h;rw[AdV h] at this;exact this
def IJ {l:List Nat} {k:Nat} (h:k<l.length):val l=val (l.take k)+B^k*(l.getD k 0+B*val (l.drop (k+1))):=by
 have e:l=l.take k++l.getD k 0::l.drop (k+1):=by rw[AbY,Aeg h];simp
 conv=>lhs;rw[e]
 rw[BZ];simp[val,Ag0 (Aha h)]
def IK {l m:List Nat} {k:Nat} (hl:Dig l) (h1:k<l.length) (h2:k<m.length) (h3:l.drop (k+1)=m.drop (k+1)) (h4:l.getD k 0<m.getD k 0):val l<val m:=by rw[IJ h1,IJ h2,h3];have h5:=GR (hl.take k);rw[Af2,Ag0 (Aha h1)] at h5;have h6:B^k*(l.getD k 0+1+B*val (m.drop (k+1)))<=B^k*(m.getD k 0+B*val (m.drop (k+1))):=Ag5 _ lA;rw[show l.getD k 0+1+B*val (m.drop (k+1))=(l.getD k 0+B*val (m.drop (k+1)))+1 by omega,AeB,Ahf] at h6;omega
def XM {l m:List Nat} {k:Nat} (h1:k<l.length) (h2:k<m.length) (h3:l.drop (k+1)=m.drop (k+1)) (h4:l.getD k 0=m.getD k 0):l.drop k=m.drop k:=by rw[Af0 h1,Af0 h2,h3];simp[AbY,Aeg h1,Aeg h2] at h4;rw[h4]
def Ek {a b:Nat} (h:(toW a).length<(toW b).length):a<b:=AgS (CZ a) (Ls h)
def IP {x y c:Nat} (hx:x<B) (hy:y<B) (hc:c<=1):(x+B-y-c) % B+y+c=x+B*(if x<y+c then 1 else 0):=by simp only[B] at *;split<;>omega
def Acz {o m l P d mk lk c q:Nat} (h1:o+m=l+P*c) (h2:d+mk+c=lk+q):o+P*d+(m+P*mk)=l+P*lk+P*q:=by have:=congrArg (P*·) h2;simp only[AeB] at this;omega
def cmpI (a b:Int):Int:=if a<b then -1 else if b<a then 1 else 0
def F6 {a b:Int} (h:a<b):cmpI a b=-1:=by simp[cmpI,h]
def F7 {a b:Int} (h:b<a):cmpI a b=1:=by simp[cmpI,h,show ¬a<b by omega]
def Fh {a b:Int} (h:a=b):cmpI a b=0:=by simp[cmpI,h]
def Rp {a b:Int}:cmpI a b=0↔a=b:=by
 refine ⟨fun h=>?_,Fh⟩;by_cases h1:a<b;·rw[F6 h1] at h;omega
 by_cases h2:b<a;·rw[F7 h2] at h;omega
 omega
def XS {a b c d:Int} (h1:a<b->c<d) (h2:b<a->d<c) (h3:a=b->c=d):cmpI a b=cmpI c d:=by
 by_cases h:a<b;·rw[F6 h,F6 (h1 h)]
 by_cases h':b<a;·rw[F7 h',F7 (h2 h')]
 have:a=b:=lA
 rw[Fh this,Fh (h3 this)]
def Bo (l:List Nat) (k:Nat):val (l.take (k+1))=val (l.take k)+B^k*l.getD k 0:=by
 by_cases h:k<l.length;·exact Jj h
 rw[Aeu lA,Aeu lA,AbY,AfI lA];simp
def V2 {l m out:List Nat} {k c d q:Nat} (ho:out.length=k) (hv:val out+val (m.take k)=val (l.take k)+B^k*c) (h:d+m.getD k 0+c=l.getD k 0+B*q) :
  val (out++[d])+val (m.take (k+1))=val (l.take (k+1))+B^(k+1)*q:=by
 have e3:=Acz hv h;have e4:B^(k+1)=B^k*B:=AgF ..;rw[Bo l k,Bo m k,BZ,ho,e4,AgC];simpa[val] using e3
def YM {P o a b c:Nat} (h:o+b=a+P*c) (ho:o<P) (hab:b<=a) (hc:c<=1):o=a-b:=by
 have:c=0\/c=1:=lA
 rcases this with rfl | rfl
 ·rw[Nat.mul_zero] at h;omega
 rw[Ahf] at h;omega
def RO {l:List Nat} {p d:Nat} (h:p<l.length):val (l.set p d)+B^p*l.getD p 0=val l+B^p*d:=by have h1:=IJ (l:=l.set p d) (k:=p) ji;have h2:=IJ h;rw[List.take_set_of_le (Aen _),List.drop_set_of_lt (Nat.lt_succ_self p),AbY,List.getElem?_set_self h] at h1;simp only[Af7,AeB,Nat.succ_eq_add_one] at h1 h2;omega
def Dig.set {l:List Nat} (h:Dig l) {p d:Nat} (hd:d<B):Dig (l.set p d):=fun x hx=>by
 rcases List.mem_or_eq_of_mem_set hx with h1 | h1
 ·exact h x h1
 omega
def Dig.zeros (n:Nat):Dig (AbZ n 0):=fun d hd=>by have:=List.eq_of_mem_replicate hd;subst this;decide
def KW (n:Nat):val (AbZ n 0)=0:=by
 induction n with
 | zero=>rfl
 | succ n ih=>simp[Ag6,val,ih]
def I1 {x y:Nat} (hx:x<B) (hy:y<B):x*y<=18446744065119617025:=by simp only[B] at *;exact Nat.mul_le_mul (Ahb hx) (Ahb hy)
def Nk {q o m:List Nat} {i j c x s:Nat} (hp:i+j<q.length) (hs:s=c+(x*m.getD j 0+q.getD (i+j) 0)) (hv:val q+B^(i+j)*c=val o+B^i*(x*val (m.take j))) :
  val (q.set (i+j) (s % B))+B^(i+(j+1))*(s / B)=val o+B^i*(x*val (m.take (j+1))):=by
 have h1:=RO (l:=q) (p:=i+j) (d:=s % B) hp;have h2:=AgO s B;have h3:B^(i+j)*(s % B)+B^(i+(j+1))*(s / B)=B^(i+j)*s:=by rw[<-Ag8 i j 1,AgF,AgC,<-AeB,h2]
 have h4:B^(i+j)*s=B^(i+j)*c+(B^i*(x*(B^j*m.getD j 0))+B^(i+j)*q.getD (i+j) 0):=by rw[hs,AeB,AeB];congr 2;rw[Ahg,AgC,Nat.mul_left_comm (B^j)]
 have h5:B^i*(x*val (m.take (j+1)))=B^i*(x*val (m.take j))+B^i*(x*(B^j*m.getD j 0)):=by rw[Bo,AeB,AeB]
 omega
def Ps {q o l:List Nat} {i k c b:Nat} (hp:i+k<q.length) (hz:q.getD (i+k) 0=0) (hv:val q+B^(i+k)*c=val o+B^i*(l.getD i 0*b)) (ho:val o=val (l.take i)*b) :
  val (q.set (i+k) c)=val (l.take (i+1))*b:=by
 have h1:=RO (l:=q) (p:=i+k) (d:=c) hp;rw[hz] at h1;have h2:val (l.take (i+1))*b=val (l.take i)*b+B^i*(l.getD i 0*b):=by rw[Bo,Ahh,AgC]
 omega
def DW {n:Nat}:IntKind.u32.wrap (n:Int)=((n % 4294967296:Nat):Int):=bU
def Aec {n:Nat}:IntKind.u64.wrap (n:Int)=((n % 18446744073709551616:Nat):Int):=bU
def FZ {l:List Nat} {p r d:Nat} (h:p≠r):(l.set p d).getD r 0=l.getD r 0:=by simp[AbY,List.getElem?_set_ne h]
def AdP {h x:Nat} (hx:x<4294967296):h*4294967296 ||| x=h*4294967296+x:=by have:=Nat.shiftLeft_add_eq_or_of_lt (i:=32) (a:=h) (b:=x) hx;rw[Nat.shiftLeft_eq] at this;exact this.symm
def Aas {h x:Nat} (hh:h<4294967296) (hx:x<4294967296):CH .or .u64 ((h:Int)*4294967296) (x:Int)=((h*4294967296+x:Nat):Int):=by have:=Zn (a:=((h*4294967296:Nat):Int)) (b:=(x:Int)) lA lA lA lA;rw[Aer,Aer,AdP hx] at this;exact this
def Jy {n k:Nat} (h:n / 2^k≠0):n.log2=k+(n / 2^k).log2:=by
 have hp:0<2^k:=Nat.two_pow_pos k;have hn:n≠0:=by intro h0;subst h0;simp at h
 have h1:=(Ahm h).1 rfl;refine (Ahm hn).2 ⟨?_,?_⟩;·rw[Ahg,AgB];exact (Nat.le_div_iff_mul_le hp).1 h1.1
 rw[Ag8,Ahg,AgB];exact (Agw hp).1 h1.2
def Md {r x d:Nat} (hr:r<d) (hx:x<B):(r*B+x) / d<B:=by rw[Agw lA];have:(r+1)*B<=d*B:=Nat.mul_le_mul_right _ hr;rw[Ahh,Nat.one_mul] at this;rw[AgB B];omega
def VF {q l:List Nat} {k r d:Nat} (h:k<l.length) (hv:val (l.drop (k+1))=val q*d+r) :
  val (l.drop k)=val ((r*B+l.getD k 0) / d::q)*d+(r*B+l.getD k 0) % d:=by
 have e:l.drop k=l.getD k 0::l.drop (k+1):=by rw[Af0 h,AbY,Aeg h];rfl
 rw[e,val,hv,val];have h1:=AgO (r*B+l.getD k 0) d;generalize (r*B+l.getD k 0) / d=a at *;generalize (r*B+l.getD k 0) % d=b at *;rw[AgB d a] at h1;rw[Ahh,AeB,AgC,AgB B r];omega
def Xh {q:List Nat} {k v:Nat}:(0::(AbZ k 0++q)).set k v=AbZ k 0++v::q:=by
 have e:0::(AbZ k 0++q)=AbZ k 0++0::q:=by rw[<-Ahd,<-Ag6,List.replicate_succ',AgV];rfl
 rw[e,List.set_append_right _ _ lC];simp
def Be:Nat->Nat->List Nat
 | 0,_=>[]
 | k+1,n=>n % B::Be k (n / B)
def AK (k n:Nat):(Be k n).length=k:=by
 induction k generalizing n with
 | zero=>rfl
 | succ k ih=>simp[Be,ih]
def DL (k n:Nat):Dig (Be k n):=by
 induction k generalizing n with
 | zero=>intro d h;cases h
 | succ k ih =>
  intro d h;rcases Ag7.1 h with rfl | h
  ·exact Ahr _ lz
  exact ih _ d h
def UN {l:List Nat} (h:Dig l):Be l.length (val l)=l:=by
 induction l with
 | nil=>rfl
 | cons d l ih =>
  have h1:=h d lC;have hB:(0:Nat)<B:=lz
  simp only[Aet,Be,val];rw[AgU,AgA h1,Ag2 _ _ hB,Ahe h1,AgX,ih fun x hx=>h x kI]
def D4 {k n:Nat} (h:n<B^k):val (Be k n)=n:=by
 induction k generalizing n with
 | zero=>have:n=0:=by simpa using h
         subst this;rfl
 | succ k ih =>
  simp only[Be,val];rw[ih];·exact AgO n B
  rw[Agw lz,<-AgF];exact h
def Hc {l:List Nat} {k n:Nat} (h:Dig l) (hk:l.length=k) (hv:val l=n):l=Be k n:=by subst hk;subst hv;exact (UN h).symm
end Num
end Go.Proofs.YtmidaophnbdcdaaGreatDoor
