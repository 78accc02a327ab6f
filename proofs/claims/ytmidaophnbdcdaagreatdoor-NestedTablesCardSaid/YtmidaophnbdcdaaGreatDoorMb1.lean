/-
  Contracts of the functions, one after another.
-/
import Derived.Test.YtmidaophnbdcdaaGreatDoorLa3
import Derived.Lib.ValidLaws
import Derived.Test.YtmidaophnbdcdaaGreatDoorChecked
import Derived.KernelRfl
import Derived.Shelf.Unicode.ValidAny
import Derived.Ground.NamesProg
import Derived.Lib.DecodeN
import Derived.Shelf.Strings.OnBuilder
import Derived.Lib.Strings
import Derived.Lib.Slices
import Derived.Lib.Walk
import Derived.Lib.Bytealg
import Derived.Shelf.Strings.Trim
import Derived.Shelf.Strings.Replace
import Derived.Shelf.Strings.Repeat
import Derived.Shelf.Strings.Builder1
import Derived.Shelf.Utf8.RuneCount
import Derived.Shelf.Strings.Prefix
import Derived.Shelf.Small.Wraps
import Derived.Lib.OthersKept
import Derived.Lib.MapLaws
import Derived.Lib.RuneBytes
import Derived.Lib.ItoaNum
import Derived.Lib.ItoaMem
import Derived.Lib.ItoaLen
import Derived.Shelf.Strconv.AtoiAll
import Derived.Lib.AtoiErrMem
import Derived.Shelf.Strconv.Itoa0
import Derived.Test.YtmidaophnbdcdaaGreatDoorCards
import Derived.Test.YtmidaophnbdcdaaGreatDoorTie
import Derived.Lib.LaidU8T
import Derived.Lib.LaidTab
import Derived.LaidLaws
import Derived.Shelf.Vars
import Derived.Lib.SmallJoins
set_option linter.all false
open Go.Abs renaming Bm->HW,DN->BW,CK->SW,Aw->AW,B5->sA,Ap->kZ
open Go.Proofs.Tryz renaming prog->TP
set_option maxHeartbeats 8000000
set_option maxRecDepth 1000000
open Go.Abs renaming Gb->Qa,Cp->Qb,B3->Qc,Cm->Qd,Ed->Qe,AU->Qf,A3->Qg,AL->Qh,BH->Qi,DT->Qj,EQ->Qk,Ga->Ql,Cl->Qm,Co->Qn,B2->Qo,Dj->Qr,unfA->Qs,Hw->QJ,KB->QL,CU->QM,En->QN,GW->QO,Dz->QP,Ce->QQ
open Go.Abs.AV renaming one->Qp
open Go.Abs.D renaming one->Qq
open Go.IntKind renaming signed->Qt
open Nat renaming reduceAdd->Qu,reduceSub->Qv,reduceMul->Qw,reducePow->Qx,reduceDiv->Qy,reduceMod->Qz,reduceEqDiff->QI,reduceBEq->QK
open Int renaming reduceAdd->QA,reduceSub->QB,reduceMul->QC,reducePow->QD,reduceNeg->QE,reduceToNat->QF,reduceLT->QG,reduceLE->QH
open List renaming getD_eq_getElem?_getD->AaZ,replicate->Aa0,getElem?_eq_getElem->Ac7,getElem?_eq_some_iff->Adf,take_of_length_le->Adi,length_cons->Adk,length_append->Adl,map_cons->Adm,getElem?_eq_none->Adq,length_replicate->Aet,drop_eq_getElem_cons->AeJ,length_take->AeL,set_cons_zero->AeQ,set_cons_succ->AeR,length_nil->AeT,map_append->AeU,getElem?_map->Ae8,map_nil->Aff,getElem?_take->Afk,take_add_one->Afm,getElem_mem->Afr,eq_nil_of_length_eq_zero->Afs,append_nil->Afv,range->Afy,take_zero->Afz,getElem?_append_left->AfC,append_assoc->AfE,getElem?_cons_zero->AfH,drop_length->AfI,getElem?_replicate->AfJ,drop_eq_nil_of_le->AfL,foldl->AfM,nil_append->AfN,mem_of_mem_take->AfO,getElem?_range->AfQ,drop_succ_cons->AfR,replicate_succ->AfT,mem_cons->AfU,cons_append->AfZ,length_set->Af4,mem_append->Af5,drop_zero->Agb,any_cons->Agc
open Nat renaming le_refl->Ada,reduceMod->Adn,reduceDiv->Ado,mul_add->Adp,div_lt_iff_lt_mul->AeI,lt_or_ge->AeK,testBit_two_pow_sub_succ->Ae6,mul_assoc->Ae7,add_zero->Afd,mod_eq_of_lt->Afg,pow_succ->Afh,mul_comm->Afi,mod_add_div->Afj,and_lt_two_pow->Afl,div_div_eq_div_mul->Afn,testBit_eq_decide_div_mod_eq->Afo,strongRecOn->Aft,div_lt_self->Afw,min_eq_left->Afx,lt_of_lt_of_le->AfB,add_mul_mod_self_left->AfD,zero_le->AfF,add_assoc->AfG,zero_add->AfK,add_mul_div_left->AfP,mul_le_mul_left->AfS,mod_lt->AfV,xor_lt_two_pow->AfW,le_of_lt->AfX,le_pred_of_lt->AfY,div_eq_of_lt->Af0,mul_one->Af1,pow_add->Af2,add_mul->Af3,testBit_and->Af6,testBit_xor->Af7,log2_eq_iff->Af8,mul_zero->Age,sub_lt->Agf
open Int renaming toNat_natCast->Adj,ofNat_tdiv->Af9,ofNat_tmod->Aga
open Option renaming getD_some->Afc,map_some->Afu
open Bool renaming and_eq_true->Afe,or_false->Agd
open Array renaming getElem?_modify->Afp,getElem?_toList->Afq,getElem?_eq_some_iff->AfA
namespace Go.Proofs.YtmidaophnbdcdaaGreatDoor
section
structure Dia where
 del:UInt8
 quo:UInt8
 trim:Bool
def trimR (d:Dia) (l:List UInt8):List UInt8:=if d.trim then (l.reverse.dropWhile (· == 32)).reverse else l
end
section
open Go.Lib
def UD {n b1 b2 b3 sz lo hi k:Nat} (h:checkN n b1 b2 b3 sz lo hi=some k):k=sz/\2<=sz/\sz<=4/\sz<=n/\lo<=b1/\b1<=hi/\(3<=sz->128<=b2/\b2<=191)/\(4<=sz->128<=b3/\b3<=191):=by
 unfold checkN at h;split at h
 ·split at h;·cases h
  cases h;omega
 split at h
 ·split at h;·cases h
  cases h;omega
 split at h
 ·split at h;·cases h
  cases h;omega
 cases h
def Yt {n b1 b2 b3 sz lo hi:Nat} (h1:2<=sz) (h2:sz<=4) (hn:sz<=n) (hl:lo<=b1) (hh:b1<=hi) (h3:3<=sz->128<=b2/\b2<=191) (h4:4<=sz->128<=b3/\b3<=191):checkN n b1 b2 b3 sz lo hi=some sz:=by
 unfold checkN;rcases (by omega:sz=2\/sz=3\/sz=4) with rfl | rfl | rfl
 ·rw[if_pos rfl,if_neg (by omega)]
 ·have:=h3 (by omega);rw[if_neg (by decide),if_pos rfl,if_neg (by omega)]
 have:=h3 (by omega);have:=h4 (by omega);rw[if_neg (by decide),if_neg (by decide),if_pos rfl,if_neg (by omega)]
def AaI:∀ b:Fin 256,2<=firstT b.val % 8->firstT b.val % 8<=4->128<=accLo (firstT b.val / 16):=by decide
def S9 {l:List UInt8} (h:validD l=true):l=[]\/∃ p m,l=p++m/\p≠[]/\validD m=true/\(∀ m',validD (p++m')=validD m')/\((∃ c,p=[c]/\c.toNat<128)\/∀ c∈p,128<=c.toNat):=by
 match l,h with
 | [],_=>exact .inl rfl
 | c::r,h =>
  right;by_cases hc:c.toNat<128;·exact ⟨[c],r,rfl,by simp,by rwa[validD_cons c r hc] at h,fun m'=>validD_cons c m' hc,.inl ⟨c,rfl,hc⟩⟩
  have h0:128<=((c::r).getD 0 0).toNat:=by show 128<=c.toNat;omega
  have hv:=validD_lead (c::r) (by simp) h0;rw[h] at hv;cases hk:checkN (c::r).length ((c::r).getD 1 0).toNat ((c::r).getD 2 0).toNat ((c::r).getD 3 0).toNat (firstT ((c::r).getD 0 0).toNat % 8) (accLo (firstT ((c::r).getD 0 0).toNat / 16)) (accHi (firstT ((c::r).getD 0 0).toNat / 16)) with
  | none=>rw[hk] at hv;cases hv
  | some k =>
   rw[hk] at hv;obtain ⟨ek,k1,k2,k3,k4,k5,k6,k7⟩:=UD hk;have lo:=AaI ⟨((c::r).getD 0 0).toNat,UInt8.toNat_lt _⟩ k1 k2;simp only at lo;generalize hl:c::r=l at *;clear hl hc;have hg:∀ m' j,j<k->(l.take k++m').getD j 0=l.getD j 0:=(by intro m' j hj;rw[AaZ,AaZ,AfC (by rw[AeL];omega),Afk,if_pos hj])
   have hkl:k<=l.length:=(by omega);have hlt:(l.take k).length=k:=(by rw[AeL];omega);refine ⟨l.take k,l.drop k,(List.take_append_drop k l).symm,?_,hv.symm,fun m'=>?_,.inr ?_⟩;·intro e;rw[e] at hlt;simp at hlt;omega
   ·have hne:l.take k++m'≠[]:=by
     intro e;have:=congrArg List.length e;rw[Adl,hlt] at this;simp only[AeT] at this;omega
    have g0:=hg m' 0 (by omega);have g1:=hg m' 1 (by omega);rw[validD_lead _ hne (by rw[g0];exact h0),g0,g1,Yt (sz:=firstT (l.getD 0 0).toNat % 8) k1 k2 (by rw[Adl,AeL];omega) k4 k5 (fun h3=>by rw[hg m' 2 (by omega)];exact k6 h3) (fun h4=>by rw[hg m' 3 (by omega)];exact k7 h4)];show validD ((l.take k++m').drop (firstT (l.getD 0 0).toNat % 8))=_
    rw[<-ek,List.drop_left' hlt]
   intro x hx;obtain ⟨j,hj,rfl⟩:=List.getElem_of_mem hx;rw[AeL] at hj;rw[List.getElem_take];have e:l[j]=l.getD j 0:=(by rw[AaZ,Ac7 (by omega)];rfl)
   rw[e];rcases (by omega:j=0\/j=1\/j=2\/j=3) with rfl | rfl | rfl | rfl
   ·exact h0
   ·omega
   ·exact (k6 (by omega)).1
   exact (k7 (by omega)).1
def RP:∀ (n:Nat) (a b:List UInt8),a.length=n->validD a=true->validD (a++b)=validD b:=by
 intro n;induction n using Aft with
 | _ n ih =>
  intro a b hn ha;rcases S9 ha with rfl | ⟨p,m,rfl,hp,hm,hall,_⟩
  ·rfl
  have:=List.length_pos_iff.2 hp;rw[AfE,hall,ih m.length (by rw[Adl] at hn;omega) m b rfl hm]
def Xr {a b:List UInt8} (ha:validD a=true) (hb:validD b=true):validD (a++b)=true:=by rw[RP _ a b rfl ha];exact hb
end
section
open Go Go.Proofs Go.Abs
def st2:DW TP 2=false:=by kernel_rfl
def ti9:A5 TP 9=some ⟨.string,1,16,[.str .empty]⟩:=by kernel_rfl
def go3:Ao TP 3=true:=by kernel_rfl
def go7:Ao TP 7=true:=by kernel_rfl
def go8:Ao TP 8=true:=by kernel_rfl
def go9:Ao TP 9=true:=by kernel_rfl
def go10:Ao TP 10=true:=by kernel_rfl
def go11:Ao TP 11=true:=by kernel_rfl
def go12:Ao TP 12=true:=by kernel_rfl
def go13:Ao TP 13=true:=by kernel_rfl
def go14:Ao TP 14=true:=by kernel_rfl
def go15:Ao TP 15=true:=by kernel_rfl
def go16:Ao TP 16=true:=by kernel_rfl
def go19:Ao TP 19=true:=by kernel_rfl
def go20:Ao TP 20=true:=by kernel_rfl
def go23:Ao TP 23=true:=by kernel_rfl
def go25:Ao TP 25=true:=by kernel_rfl
def go26:Ao TP 26=true:=by kernel_rfl
def go27:Ao TP 27=true:=by kernel_rfl
def go28:Ao TP 28=true:=by kernel_rfl
def go29:Ao TP 29=true:=by kernel_rfl
def go30:Ao TP 30=true:=by kernel_rfl
def Z5:Ao TP 31=true:=by kernel_rfl
def go32:Ao TP 32=true:=by kernel_rfl
def go33:Ao TP 33=true:=by kernel_rfl
def AcK:Ao TP 34=true:=by kernel_rfl
def go35:Ao TP 35=true:=by kernel_rfl
def go36:Ao TP 36=true:=by kernel_rfl
def go37:Ao TP 37=true:=by kernel_rfl
def go40:Ao TP 40=true:=by kernel_rfl
def go42:Ao TP 42=true:=by kernel_rfl
def Uh:Ao TP 43=true:=by kernel_rfl
def go47:Ao TP 47=true:=by kernel_rfl
def go48:Ao TP 48=true:=by kernel_rfl
def go51:Ao TP 51=true:=by kernel_rfl
def go52:Ao TP 52=true:=by kernel_rfl
def go53:Ao TP 53=true:=by kernel_rfl
def go54:Ao TP 54=true:=by kernel_rfl
def go55:Ao TP 55=true:=by kernel_rfl
def go56:Ao TP 56=true:=by kernel_rfl
def go57:Ao TP 57=true:=by kernel_rfl
def go58:Ao TP 58=true:=by kernel_rfl
def go59:Ao TP 59=true:=by kernel_rfl
def AbF:Ao TP 60=true:=by kernel_rfl
def go61:Ao TP 61=true:=by kernel_rfl
def go62:Ao TP 62=true:=by kernel_rfl
def go63:Ao TP 63=true:=by kernel_rfl
def go64:Ao TP 64=true:=by kernel_rfl
def go65:Ao TP 65=true:=by kernel_rfl
def go66:Ao TP 66=true:=by kernel_rfl
def go67:Ao TP 67=true:=by kernel_rfl
def go70:Ao TP 70=true:=by kernel_rfl
def go71:Ao TP 71=true:=by kernel_rfl
def go73:Ao TP 73=true:=by kernel_rfl
def go74:Ao TP 74=true:=by kernel_rfl
def go75:Ao TP 75=true:=by kernel_rfl
def go76:Ao TP 76=true:=by kernel_rfl
def go77:Ao TP 77=true:=by kernel_rfl
def go78:Ao TP 78=true:=by kernel_rfl
def Sv:Ao TP 79=true:=by kernel_rfl
def go80:Ao TP 80=true:=by kernel_rfl
def Z4:Ao TP 81=true:=by kernel_rfl
def go82:Ao TP 82=true:=by kernel_rfl
def go85:Ao TP 85=true:=by kernel_rfl
def go86:Ao TP 86=true:=by kernel_rfl
def go87:Ao TP 87=true:=by kernel_rfl
def go93:Ao TP 93=true:=by kernel_rfl
def go95:Ao TP 95=true:=by kernel_rfl
def go96:Ao TP 96=true:=by kernel_rfl
def AcJ:Ao TP 97=true:=by kernel_rfl
def go98:Ao TP 98=true:=by kernel_rfl
def AeH:Ao TP 102=true:=by kernel_rfl
def AeG:Ao TP 103=true:=by kernel_rfl
def AeF:Ao TP 104=true:=by kernel_rfl
def AeE:Ao TP 105=true:=by kernel_rfl
def AeD:Ao TP 106=true:=by kernel_rfl
def AeC:Ao TP 107=true:=by kernel_rfl
def AeB:Ao TP 108=true:=by kernel_rfl
def AeA:Ao TP 109=true:=by kernel_rfl
def Aez:Ao TP 110=true:=by kernel_rfl
def Aey:Ao TP 111=true:=by kernel_rfl
def Aex:Ao TP 112=true:=by kernel_rfl
def Aew:Ao TP 113=true:=by kernel_rfl
def Aev:Ao TP 114=true:=by kernel_rfl
def Aeu:Ao TP 115=true:=by kernel_rfl
def Ack:Ao TP 116=true:=by kernel_rfl
def Acj:Ao TP 121=true:=by kernel_rfl
def Aes:Ao TP 122=true:=by kernel_rfl
def Aer:Ao TP 123=true:=by kernel_rfl
def Aeq:Ao TP 124=true:=by kernel_rfl
def Aep:Ao TP 125=true:=by kernel_rfl
def Aeo:Ao TP 126=true:=by kernel_rfl
def Aen:Ao TP 127=true:=by kernel_rfl
def Aem:Ao TP 131=true:=by kernel_rfl
def Ael:Ao TP 132=true:=by kernel_rfl
def Aci:Ao TP 133=true:=by kernel_rfl
def Aek:Ao TP 134=true:=by kernel_rfl
def Aej:Ao TP 135=true:=by kernel_rfl
def Aei:Ao TP 136=true:=by kernel_rfl
def Aeh:Ao TP 137=true:=by kernel_rfl
def Aeg:Ao TP 138=true:=by kernel_rfl
def Aef:Ao TP 139=true:=by kernel_rfl
def Aee:Ao TP 140=true:=by kernel_rfl
def Aed:Ao TP 141=true:=by kernel_rfl
def Aec:Ao TP 142=true:=by kernel_rfl
def Aeb:Ao TP 143=true:=by kernel_rfl
def Aea:Ao TP 144=true:=by kernel_rfl
def Ad9:Ao TP 145=true:=by kernel_rfl
def Ad8:Ao TP 146=true:=by kernel_rfl
def Ad7:Ao TP 147=true:=by kernel_rfl
def Ad6:Ao TP 148=true:=by kernel_rfl
def Ad5:Ao TP 149=true:=by kernel_rfl
def Ad4:Ao TP 150=true:=by kernel_rfl
def Ad3:Ao TP 151=true:=by kernel_rfl
def Ad2:Ao TP 152=true:=by kernel_rfl
def Ad1:Ao TP 153=true:=by kernel_rfl
def Ad0:Ao TP 154=true:=by kernel_rfl
def AdZ:Ao TP 155=true:=by kernel_rfl
def AdY:Ao TP 156=true:=by kernel_rfl
def AdX:Ao TP 160=true:=by kernel_rfl
def AdW:Ao TP 161=true:=by kernel_rfl
def Ui:Ao TP 162=true:=by kernel_rfl
def AdV:Ao TP 164=true:=by kernel_rfl
def AdU:Ao TP 168=true:=by kernel_rfl
def AdT:Ao TP 169=true:=by kernel_rfl
def Ach:Ao TP 170=true:=by kernel_rfl
def Acg:Ao TP 171=true:=by kernel_rfl
def AdS:Ao TP 172=true:=by kernel_rfl
def AdR:Ao TP 173=true:=by kernel_rfl
def AdQ:Ao TP 174=true:=by kernel_rfl
def AdP:Ao TP 175=true:=by kernel_rfl
def AdO:Ao TP 176=true:=by kernel_rfl
def AdN:Ao TP 177=true:=by kernel_rfl
def AdM:Ao TP 178=true:=by kernel_rfl
def AdL:Ao TP 179=true:=by kernel_rfl
def AdK:Ao TP 180=true:=by kernel_rfl
def AdJ:Ao TP 181=true:=by kernel_rfl
def AdI:Ao TP 182=true:=by kernel_rfl
def AdH:Ao TP 183=true:=by kernel_rfl
def Acf:Ao TP 184=true:=by kernel_rfl
def AdG:Ao TP 185=true:=by kernel_rfl
def AdF:Ao TP 190=true:=by kernel_rfl
def AdE:Ao TP 191=true:=by kernel_rfl
def AdD:Ao TP 192=true:=by kernel_rfl
def Ace:Ao TP 201=true:=by kernel_rfl
def AdC:Ao TP 202=true:=by kernel_rfl
def AdB:Ao TP 203=true:=by kernel_rfl
def AdA:Ao TP 204=true:=by kernel_rfl
def Adz:Ao TP 205=true:=by kernel_rfl
def Ady:Ao TP 206=true:=by kernel_rfl
def Adx:Ao TP 207=true:=by kernel_rfl
def Adw:Ao TP 208=true:=by kernel_rfl
def Acd:Ao TP 211=true:=by kernel_rfl
def Acb:Ao TP 221=true:=by kernel_rfl
def Adv:Ao TP 222=true:=by kernel_rfl
def Adu:Ao TP 223=true:=by kernel_rfl
def Adt:Ao TP 224=true:=by kernel_rfl
def Ads:Ao TP 225=true:=by kernel_rfl
def Aca:Ao TP 246=true:=by kernel_rfl
def Adr:Ao TP 247=true:=by kernel_rfl
def fa0:A5 TP 2=some ⟨.int .i64,1,8,[.int .i64 0]⟩/\Lw TP 2=some .i64/\A5 TP 3=some ⟨.int .i64,1,8,[.int .i64 0]⟩/\H4 TP 3=some (.int .i64 0)/\Lw TP 3=some .i64/\A5 TP 4=some ⟨.bool,1,1,[.bool false]⟩/\H4 TP 4=some (.bool false)/\M5 TP 4=true/\A5 TP 5=some ⟨.int .u8,1,1,[.int .u8 0]⟩/\H4 TP 5=some (.int .u8 0)/\Lw TP 5=some .u8/\DW TP 9=true:=by
 repeat' apply And.intro
 all_goals kernel_rfl
def fa1:A5 TP 22=some ⟨.slice 5,1,24,[.sl 0 true []]⟩/\Au TP 22=some (5,⟨.int .u8,1,1,[.int .u8 0]⟩)/\BA TP 22=true/\DW TP 22=false/\A5 TP 26=some ⟨.slice 9,1,24,[.sl 0 true []]⟩/\Au TP 26=some (9,⟨.string,1,16,[.str .empty]⟩)/\BA TP 26=true/\Bx TP 26=true/\A5 TP 27=some ⟨.slice 29,1,24,[.sl 0 true []]⟩/\Au TP 27=some (29,⟨.struct [(0,3,1),(1,9,1),(2,26,1),(3,27,1)],4,72,[.int .i64 0,.str .empty,.sl 0 true [],.sl 0 true []]⟩)/\BA TP 27=true/\Bx TP 27=true:=by
 repeat' apply And.intro
 all_goals kernel_rfl
def fa2:A5 TP 29=some ⟨.struct [(0,3,1),(1,9,1),(2,26,1),(3,27,1)],4,72,[.int .i64 0,.str .empty,.sl 0 true [],.sl 0 true []]⟩/\A2 TP 29 0=some (0,3,1)/\A2 TP 29 1=some (1,9,1)/\A2 TP 29 2=some (2,26,1)/\A2 TP 29 3=some (3,27,1)/\A5 TP 34=some ⟨.slice 3,1,24,[.sl 0 true []]⟩/\Au TP 34=some (3,⟨.int .i64,1,8,[.int .i64 0]⟩)/\BA TP 34=true/\Bx TP 34=true/\A5 TP 35=some ⟨.slice 43,1,24,[.sl 0 true []]⟩/\Au TP 35=some (43,⟨.struct [(0,3,1),(1,9,1),(2,41,1)],3,48,[.int .i64 0,.str .empty,.sl 0 true []]⟩)/\BA TP 35=true:=by
 repeat' apply And.intro
 all_goals kernel_rfl
def fa3:Bx TP 35=true/\A5 TP 41=some ⟨.slice 46,1,24,[.sl 0 true []]⟩/\Au TP 41=some (46,⟨.struct [(0,9,1),(1,44,1)],2,40,[.str .empty,.sl 0 true []]⟩)/\BA TP 41=true/\Bx TP 41=true/\A5 TP 43=some ⟨.struct [(0,3,1),(1,9,1),(2,41,1)],3,48,[.int .i64 0,.str .empty,.sl 0 true []]⟩/\A2 TP 43 0=some (0,3,1)/\A2 TP 43 1=some (1,9,1)/\A2 TP 43 2=some (2,41,1)/\A5 TP 44=some ⟨.slice 48,1,24,[.sl 0 true []]⟩/\Au TP 44=some (48,⟨.struct [(0,4,1),(1,9,1)],2,24,[.bool false,.str .empty]⟩)/\BA TP 44=true:=by
 repeat' apply And.intro
 all_goals kernel_rfl
def fa4:Bx TP 44=true/\A5 TP 46=some ⟨.struct [(0,9,1),(1,44,1)],2,40,[.str .empty,.sl 0 true []]⟩/\A2 TP 46 0=some (0,9,1)/\A2 TP 46 1=some (1,44,1)/\A5 TP 48=some ⟨.struct [(0,4,1),(1,9,1)],2,24,[.bool false,.str .empty]⟩/\H4 TP 48=some (.agg [.bool false,.str .empty])/\eqT TP 48=some [2,1]/\A2 TP 48 0=some (0,4,1)/\A2 TP 48 1=some (1,9,1)/\A5 TP 58=some ⟨.struct [(0,22,1),(1,3,1)],2,32,[.sl 0 true [],.int .i64 0]⟩/\A2 TP 58 0=some (0,22,1)/\A2 TP 58 1=some (1,3,1):=by
 repeat' apply And.intro
 all_goals kernel_rfl
def fa5:H4 TP 62=some (.sl 0 true [])/\Au TP 62=some (64,⟨.struct [(0,3,1),(1,29,4)],5,80,[.int .i64 0,.int .i64 0,.str .empty,.sl 0 true [],.sl 0 true []]⟩)/\BA TP 62=true/\Bx TP 62=true/\A5 TP 64=some ⟨.struct [(0,3,1),(1,29,4)],5,80,[.int .i64 0,.int .i64 0,.str .empty,.sl 0 true [],.sl 0 true []]⟩/\A2 TP 64 0=some (0,3,1)/\A2 TP 64 1=some (1,29,4)/\A5 TP 69=some ⟨.struct [(0,3,1),(1,35,1)],2,32,[.int .i64 0,.sl 0 true []]⟩/\A2 TP 69 0=some (0,3,1)/\A2 TP 69 1=some (1,35,1)/\A5 TP 79=some ⟨.struct [(0,77,1),(1,22,1)],2,32,[.nilp,.sl 0 true []]⟩/\A5 TP 88=some ⟨.struct [(0,9,1),(1,27,1)],2,40,[.str .empty,.sl 0 true []]⟩:=by
 repeat' apply And.intro
 all_goals kernel_rfl
def fa6:A2 TP 88 0=some (0,9,1)/\A2 TP 88 1=some (1,27,1)/\A5 TP 100=some ⟨.slice 108,1,24,[.sl 0 true []]⟩/\Au TP 100=some (108,⟨.map 9 48,1,8,[.nilm]⟩)/\BA TP 100=true/\Bx TP 100=true/\A5 TP 101=some ⟨.map 9 62,1,8,[.nilm]⟩/\A5 TP 102=some ⟨.map 9 3,1,8,[.nilm]⟩/\A5 TP 104=some ⟨.struct [(0,4,1),(1,34,1),(2,26,1),(3,100,1),(4,26,1),(5,101,1),(6,102,1)],7,120,[.bool false,.sl 0 true [],.sl 0 true [],.sl 0 true [],.sl 0 true [],.nilm,.nilm]⟩/\A2 TP 104 0=some (0,4,1)/\A2 TP 104 1=some (1,34,1)/\A2 TP 104 2=some (2,26,1):=by
 repeat' apply And.intro
 all_goals kernel_rfl
def fa7:A2 TP 104 3=some (3,100,1)/\A2 TP 104 4=some (4,26,1)/\A2 TP 104 5=some (5,101,1)/\A2 TP 104 6=some (6,102,1)/\A5 TP 105=some ⟨.map 9 4,1,8,[.nilm]⟩/\A5 TP 108=some ⟨.map 9 48,1,8,[.nilm]⟩/\Au TP 111=some (112,⟨.slice 160,1,24,[.sl 0 true []]⟩)/\BA TP 111=true/\Bx TP 111=true/\A5 TP 112=some ⟨.slice 160,1,24,[.sl 0 true []]⟩/\Au TP 112=some (160,⟨.struct [(0,9,1),(1,29,4)],5,88,[.str .empty,.int .i64 0,.str .empty,.sl 0 true [],.sl 0 true []]⟩)/\BA TP 112=true:=by
 repeat' apply And.intro
 all_goals kernel_rfl
def fa8:Bx TP 112=true/\A5 TP 128=some ⟨.slice 187,1,24,[.sl 0 true []]⟩/\Au TP 128=some (187,⟨.int .u32,1,4,[.int .u32 0]⟩)/\BA TP 128=true/\Bx TP 128=true/\A5 TP 130=some ⟨.struct [(0,4,1),(1,128,1)],2,32,[.bool false,.sl 0 true []]⟩/\A2 TP 130 0=some (0,4,1)/\A2 TP 130 1=some (1,128,1)/\A5 TP 132=some ⟨.struct [(0,130,2),(2,130,2)],4,64,[.bool false,.sl 0 true [],.bool false,.sl 0 true []]⟩/\A5 TP 141=some ⟨.array 256 4,256,256,[.bool false,.bool false,.bool false,.bool false,.bool false,.bool false,.bool false,.bool false,.bool false,.bool false,.bool false,.bool false,.bool false,.bool false,.bool false,.bool false,.bool false,.bool false,.bool false,.bool false,.bool false,.bool false,.bool false,.bool false,.bool false,.bool false,.bool false,.bool false,.bool false,.bool false,.bool false,.bool false,.bool false,.bool false,.bool false,.bool false,.bool false,.bool false,.bool false,.bool false,.bool false,.bool false,.bool false,.bool false,.bool false,.bool false,.bool false,.bool false,.bool false,.bool false,.bool false,.bool false,.bool false,.bool false,.bool false,.bool false,.bool false,.bool false,.bool false,.bool false,.bool false,.bool false,.bool false,.bool false,.bool false,.bool false,.bool false,.bool false,.bool false,.bool false,.bool false,.bool false,.bool false,.bool false,.bool false,.bool false,.bool false,.bool false,.bool false,.bool false,.bool false,.bool false,.bool false,.bool false,.bool false,.bool false,.bool false,.bool false,.bool false,.bool false,.bool false,.bool false,.bool false,.bool false,.bool false,.bool false,.bool false,.bool false,.bool false,.bool false,.bool false,.bool false,.bool false,.bool false,.bool false,.bool false,.bool false,.bool false,.bool false,.bool false,.bool false,.bool false,.bool false,.bool false,.bool false,.bool false,.bool false,.bool false,.bool false,.bool false,.bool false,.bool false,.bool false,.bool false,.bool false,.bool false,.bool false,.bool false,.bool false,.bool false,.bool false,.bool false,.bool false,.bool false,.bool false,.bool false,.bool false,.bool false,.bool false,.bool false,.bool false,.bool false,.bool false,.bool false,.bool false,.bool false,.bool false,.bool false,.bool false,.bool false,.bool false,.bool false,.bool false,.bool false,.bool false,.bool false,.bool false,.bool false,.bool false,.bool false,.bool false,.bool false,.bool false,.bool false,.bool false,.bool false,.bool false,.bool false,.bool false,.bool false,.bool false,.bool false,.bool false,.bool false,.bool false,.bool false,.bool false,.bool false,.bool false,.bool false,.bool false,.bool false,.bool false,.bool false,.bool false,.bool false,.bool false,.bool false,.bool false,.bool false,.bool false,.bool false,.bool false,.bool false,.bool false,.bool false,.bool false,.bool false,.bool false,.bool false,.bool false,.bool false,.bool false,.bool false,.bool false,.bool false,.bool false,.bool false,.bool false,.bool false,.bool false,.bool false,.bool false,.bool false,.bool false,.bool false,.bool false,.bool false,.bool false,.bool false,.bool false,.bool false,.bool false,.bool false,.bool false,.bool false,.bool false,.bool false,.bool false,.bool false,.bool false,.bool false,.bool false,.bool false,.bool false,.bool false,.bool false,.bool false,.bool false,.bool false,.bool false,.bool false,.bool false,.bool false,.bool false,.bool false,.bool false,.bool false,.bool false,.bool false,.bool false,.bool false,.bool false,.bool false,.bool false,.bool false]⟩/\Au TP 141=none/\FR TP 141=some (256,4,1):=by
 repeat' apply And.intro
 all_goals kernel_rfl
def fa9:Lw TP 155=some .u64/\A5 TP 160=some ⟨.struct [(0,9,1),(1,29,4)],5,88,[.str .empty,.int .i64 0,.str .empty,.sl 0 true [],.sl 0 true []]⟩/\A2 TP 160 0=some (0,9,1)/\A2 TP 160 1=some (1,29,4)/\A5 TP 177=some ⟨.int .u64,1,8,[.int .u64 0]⟩/\Lw TP 177=some .u64/\A5 TP 187=some ⟨.int .u32,1,4,[.int .u32 0]⟩/\Lw TP 187=some .u32/\A5 TP 205=some ⟨.slice 187,1,24,[.sl 0 true []]⟩/\Au TP 205=some (187,⟨.int .u32,1,4,[.int .u32 0]⟩)/\BA TP 205=true/\Bx TP 205=true:=by
 repeat' apply And.intro
 all_goals kernel_rfl
def fa10:A5 TP 222=some ⟨.struct [(0,9,1),(1,29,4)],5,88,[.str .empty,.int .i64 0,.str .empty,.sl 0 true [],.sl 0 true []]⟩/\A2 TP 222 0=some (0,9,1)/\A2 TP 222 1=some (1,29,4)/\Au TP 223=some (222,⟨.struct [(0,9,1),(1,29,4)],5,88,[.str .empty,.int .i64 0,.str .empty,.sl 0 true [],.sl 0 true []]⟩)/\BA TP 223=true/\A5 TP 225=some ⟨.map 5 5,1,8,[.nilm]⟩/\A5 TP 228=some ⟨.array 24 5,24,24,[.int .u8 0,.int .u8 0,.int .u8 0,.int .u8 0,.int .u8 0,.int .u8 0,.int .u8 0,.int .u8 0,.int .u8 0,.int .u8 0,.int .u8 0,.int .u8 0,.int .u8 0,.int .u8 0,.int .u8 0,.int .u8 0,.int .u8 0,.int .u8 0,.int .u8 0,.int .u8 0,.int .u8 0,.int .u8 0,.int .u8 0,.int .u8 0]⟩/\FR TP 228=some (24,5,1)/\Au TP 249=none/\FR TP 249=some (20,177,1):=by
 repeat' apply And.intro
 all_goals kernel_rfl
set_option linter.defProp false in
def awF:=(And.intro (And.intro (And.intro ti9 (And.intro fa0 fa1)) (And.intro fa2 (And.intro fa3 fa4))) (And.intro (And.intro fa5 (And.intro fa6 fa7)) (And.intro fa8 (And.intro fa9 fa10))))
set_option linter.defProp false in
def Ac := And.intro awV (And.intro awX awF)
def Am:Tryz.prog.follows .mixedOrders=true:=by kernel_rfl
end
section
open Go Go.Proofs Go.Abs Go.RowKit Go.Shelf
variable {G:Ah}
abbrev M0:Ci:=fun _=>false
abbrev S (l:List UInt8):D:=.str (bs l)
def Hl:List D:=(Afy 256).map fun c=>.int .u8 (Lib.firstT c)
def OS:List D:=(Afy 32).map fun i=>.int .u8 (if i % 2=0 then Lib.accLo (i / 2) else Lib.accHi (i / 2):Nat)
def HT (G:Ah):Prop:=G 0=some Hl/\G 1=some OS
def Tryz.laysValid_ren:Go.Shelf.Ren:=⟨fun | 196=>55 | 259=>94 | n=>n,fun | 9=>9 | 4=>4 | 3=>3 | 5=>5 | 12=>12 | 119=>151 | 0=>0 | 46=>155 | 139=>154 | 138=>153 | 53=>177 | n=>n,fun | 3=>0 | 4=>1 | n=>n⟩
def Tryz.laysValid:Go.Proofs.Lays.n196 TP Tryz.laysValid_ren where
 mixed:=by kernel_rfl
 f196:=Tryz.func55.trans (congrArg some (by kernel_rfl))
 f259:=Tryz.func94.trans (congrArg some (by kernel_rfl))
 t0:=Tryz.underlying0
 a0:=Tryz.isAgg0
 z0:=Tryz.sizeOf0
 v0:=Tryz.zeroValue0
 t3:=Tryz.underlying3
 a3:=Tryz.isAgg3
 z3:=Tryz.sizeOf3
 v3:=Tryz.zeroValue3
 t4:=Tryz.underlying4
 a4:=Tryz.isAgg4
 z4:=Tryz.sizeOf4
 v4:=Tryz.zeroValue4
 t5:=Tryz.underlying5
 a5:=Tryz.isAgg5
 z5:=Tryz.sizeOf5
 v5:=Tryz.zeroValue5
 t9:=Tryz.underlying9
 a9:=Tryz.isAgg9
 z9:=Tryz.sizeOf9
 v9:=Tryz.zeroValue9
 t12:=Tryz.underlying12
 a12:=Tryz.isAgg12
 z12:=Tryz.sizeOf12
 v12:=Tryz.zeroValue12
 t46:=Tryz.underlying155
 a46:=Tryz.isAgg155
 z46:=Tryz.sizeOf155
 v46:=Tryz.zeroValue155
 t53:=Tryz.underlying177
 a53:=Tryz.isAgg177
 z53:=Tryz.sizeOf177
 v53:=Tryz.zeroValue177
 t119:=Tryz.underlying151
 a119:=Tryz.isAgg151
 z119:=Tryz.sizeOf151
 t138:=Tryz.underlying153
 a138:=Tryz.isAgg153
 z138:=Tryz.sizeOf153
 v138:=Tryz.zeroValue153
 t139:=Tryz.underlying154
 a139:=Tryz.isAgg154
 z139:=Tryz.sizeOf154
 v139:=Tryz.zeroValue154
 g3:=by kernel_rfl
 g4:=by kernel_rfl
def Np {h:Aj} {ρ:Abs.Place} {H:Bf} {w:World} {g:Nat} {l:List Int} (s:Sim G h ρ H w) (e:G g=some (AF .u8 l)) {i:Nat} (hi:i<l.length):w.cell? ⟨g,i,none⟩=some (.int .u8 (l.getD i 0)):=by
 obtain ⟨vs,h1,h2⟩:=s.glob g _ e;have hx:(AF .u8 l)[i]?=some (.int .u8 (l.getD i 0)):=by simp[AF,hi,AaZ]
 have:=s.prom _ _ _ (h1 i _ hx);rw[this];have r:=h2 i _ hx;generalize vs i=v at r;cases r;rfl
def VR:Hl=AF .u8 ((Afy 256).map fun c=>(Lib.firstT c:Int)):=by simp[Hl,AF]
def AaJ:OS=AF .u8 ((Afy 32).map fun i=>((if i % 2=0 then Lib.accLo (i / 2) else Lib.accHi (i / 2):Nat):Int)):=by simp[OS,AF]
def Aa8 {h:Aj} {ρ:Abs.Place} {H:Bf} {w:World} (hT:HT G) (s:Sim G h ρ H w):Lib.Utf8Tabs 0 1 w:=by
 obtain ⟨e1,e2⟩:=hT;rw[VR] at e1;rw[AaJ] at e2;refine ⟨fun c hc=>?_,fun i hi=>⟨?_,?_⟩⟩;·rw[Np s e1 (by simpa using hc)];simp[AaZ,hc]
 ·rw[Np s e2 (by simp;omega)];simp[AaZ,show 2*i<32 by omega]
 rw[Np s e2 (by simp;omega)];simp[AaZ,show 2*i+1<32 by omega,show (2*i+1) % 2=1 by omega,show (2*i+1) / 2=i by omega]
def LR (hT:HT G) (l:List UInt8) (hl:l.length<=9223372036854775807):Ctr TP G 55 [.d (S l)] [] (.d (.bool (Lib.validD l))) []:=by refine Ctr.of_calls go55 fun h ρ w vs q r=>?_;obtain ⟨v,rfl,hv⟩:=r.inv1;rw[hv.str_inv];refine (Any.utf8_ValidString Tryz.laysValid (bs l) w (by rw[ER];exact hl) (Aa8 hT q)).mono ?_;rintro e w' ⟨rfl,hb⟩;exact ⟨_,rfl,.bool _,hb⟩
def ES (hT:HT G) (l:List UInt8) (hl:l.length<=9223372036854775807):Ctr TP G 30 [.d (S l)] [] (.d (.bool (Lib.validD l))) []:=by refine Ctr.pure (M:=M0) Am Tryz.func30 rfl go30 ?_;simp only[Tryz.f30,↓Aa,Ac,↓reduceIte,Qv];refine Ad.pure (LR hT l hl) ?_;simp only[↓Aa,Ac,↓Qe]
def D9 (hT:HT G) (l:List UInt8) (hl:l.length<=9223372036854775807):Ctr TP G 33 [.d (S l)] [] (.d (.bool (Lib.validD l))) []:=by refine Ctr.pure (M:=M0) Am Tryz.func33 rfl go33 ?_;simp only[Tryz.f33,↓Aa,Ac,↓reduceIte,Qv];refine Ad.pure (LR hT l hl) ?_;simp only[↓Aa,Ac,↓Qe]
def hasP (s p:List UInt8):Bool:=decide (s.take p.length=p)
def hasP_le {s p:List UInt8} (h:hasP s p=true):p.length<=s.length:=by have:=of_decide_eq_true h;have h2:=congrArg List.length this;simp at h2;omega
def hasPrefix_spec (s p:List UInt8):Ctr TP G 184 [.d (S s),.d (S p)] [] (.d (.bool (hasP s p))) []:=by refine Ctr.pure (M:=M0) Am Tryz.func184 rfl Acf ?_;simp(disch:=(try simp only[Ab]);omega)only[Af,Tryz.f184,↓Aa,Ac,↓reduceIte,↓Qe,Qu,Qv];refine ⟨fun _=>rfl,fun h=>(decide_eq_false fun e=>h ?_).symm⟩;have:=congrArg List.length e;simp at this;omega
def indexByte_calls (s:ByteArray) (c:Int) (w:World) :
  Calls TP 211 #[.string s,.int .u8 c] w fun e w'=>e=.returned (.int .i64 (Lib.indexByte s.data.toList c.toNat.toUInt8))/\w'=w:=by
 go_enter Tryz.func211,Tryz.ntmps211;go_wp2;rw[run_callFunc_extern Tryz.func235 (by kernel_rfl) (by kernel_rfl) (by kernel_rfl) (e:=Extern.BytealgIndexByte.indexByte) (by kernel_rfl),Lib.run_indexByteString];simp only[Result.andThen];rw[Oper.upon_value];go_wp2;go_ret;exact ⟨rfl,rfl⟩
def indexByte_spec (s:List UInt8) (c:UInt8):Ctr TP G 211 [.d (S s),.d (.int .u8 c.toNat)] [] (.d (.int .i64 (Lib.indexByte s c))) []:=by
 refine Ctr.of_calls Acd fun h ρ w vs q r=>?_;obtain ⟨v,u,rfl,hv,hu⟩:=r.inv2;rw[hv.str_inv,hu.int_inv];refine (indexByte_calls (bs s) c.toNat w).mono ?_;rintro e w' ⟨rfl,rfl⟩;refine ⟨_,rfl,?_,.refl _ _⟩;have:((c.toNat:Int)).toNat.toUInt8=c:=by simp
 rw[this];exact .int _ _
def cutL (c:UInt8):List UInt8->List UInt8
 | []=>[]
 | b::l=>if b=c then [] else b::cutL c l
def cutR (c:UInt8):List UInt8->List UInt8
 | []=>[]
 | b::l=>if b=c then l else cutR c l
def cut_index (c:UInt8):∀ s:List UInt8,(c∈s->∃ k:Nat,Lib.indexByte s c=k/\k<s.length/\s.take k=cutL c s/\s.drop (k+1)=cutR c s)/\(c∉s->Lib.indexByte s c=-1/\cutL c s=s/\cutR c s=[])
 | []=>⟨fun h=>absurd h List.not_mem_nil,fun _=>⟨rfl,rfl,rfl⟩⟩
 | b::l=>by
   obtain ⟨i1,i2⟩:=cut_index c l;by_cases e:b=c;·subst e;refine ⟨fun _=>⟨0,?_,by simp,by simp[cutL],by simp[cutR]⟩,fun h=>absurd (List.mem_cons_self ..) h⟩;simp[Lib.indexByte]
   have e2:¬c=b:=fun h=>e h.symm;refine ⟨fun h=>?_,fun h=>?_⟩;·obtain ⟨k,h1,h2,h3,h4⟩:=i1 ((AfU.1 h).resolve_left e2);refine ⟨k+1,?_,by simpa using h2,by simp[cutL,e,h3],by simp[cutR,e,h4]⟩;simp only[Lib.indexByte,h1];rw[if_neg (by simpa using e),if_neg (by simp)];omega
   obtain ⟨h1,h2,h3⟩:=i2 (fun h2=>h (List.mem_cons_of_mem _ h2));refine ⟨?_,by simp[cutL,e,h2],by simp[cutR,e,h3]⟩;simp only[Lib.indexByte,h1];rw[if_neg (by simpa using e),if_pos (by decide)]
def index1_spec (s:List UInt8) (c:UInt8) (hs:s.length<2^62):Ctr TP G 201 [.d (S s),.d (S [c])] [] (.d (.int .i64 (Lib.indexByte s c))) []:=by
 refine Ctr.pure (M:=M0) Am Tryz.func201 rfl Ace ?_;simp(disch:=(try simp only[Ab]);omega)only[Af,Tryz.f201,↓Aa,Ac,↓reduceIte,↓Qe,Qu,Qv,QE];refine ⟨fun h=>?_,fun h=>?_⟩;·rw[<-h];simp[Lib.indexByte]
 refine Ad.pure (indexByte_spec s c) ?_;simp only[↓Aa,Ac,↓Qe,QE]
def cutS_spec (s:List UInt8) (c:UInt8) (hs:s.length<2^62):Ctr TP G 170 [.d (S s),.d (S [c])] [] (.d (.tup [S (cutL c s),S (cutR c s),.bool (decide (c∈s))])) []:=by
 refine Ctr.pure (M:=M0) Am Tryz.func170 rfl Ach ?_;simp only[Tryz.f170,↓Aa,Ac,↓reduceIte,Qu,Qv];refine Ad.pure (index1_spec s c hs) ?_;obtain ⟨i1,i2⟩:=cut_index c s;by_cases h:c∈s;·obtain ⟨k,h1,h2,h3,h4⟩:=i1 h;rw[h1,decide_eq_true h,<-h3,<-h4];simp(disch:=(try simp only[Ab]);omega)only[Af,↓Aa,Ac,↓Qe];rfl
 obtain ⟨h1,h3,h4⟩:=i2 h;rw[h1,decide_eq_false h,h3,h4];simp(disch:=(try simp only[Ab]);omega)only[↓Aa,Ac,↓Qe,QE]
def cut_spec (s:List UInt8) (c:UInt8) (hs:s.length<2^62):Ctr TP G 133 [.d (S s),.d (S [c])] [] (.d (.tup [S (cutL c s),S (cutR c s),.bool (decide (c∈s))])) []:=by refine Ctr.pure (M:=M0) Am Tryz.func133 rfl Aci ?_;simp only[Tryz.f133,↓Aa,Ac,↓reduceIte,Qu,Qv];refine Ad.pure (cutS_spec s c hs) ?_;simp(disch:=(try simp only[Ab]);omega)only[↓Aa,Ac,↓Qe,Qu]
def DO (s p:List UInt8):Ctr TP G 154 [.d (S s),.d (S p)] [] (.d (.bool (hasP s p))) []:=by refine Ctr.pure (M:=M0) Am Tryz.func154 rfl Ad0 ?_;simp only[Tryz.f154,↓Aa,Ac,↓reduceIte,Qu,Qv];refine Ad.pure (hasPrefix_spec s p) ?_;simp only[↓Aa,Ac,↓Qe]
def Tryz.laysTrim_ren:Go.Shelf.Ren:=⟨fun | 160=>48 | 232=>84 | 231=>83 | 227=>85 | 234=>87 | 233=>86 | 236=>89 | 235=>88 | 228=>116 | 271=>119 | 151=>118 | 197=>117 | 120=>159 | 152=>158 | 260=>157 | 137=>186 | 119=>187 | 224=>188 | 225=>189 | 217=>211 | 266=>235 | n=>n,fun | 9=>9 | 4=>4 | 3=>3 | 5=>5 | 117=>142 | 116=>141 | 0=>0 | 124=>145 | 21=>21 | 105=>173 | 46=>155 | 119=>151 | 139=>154 | 138=>153 | n=>n,fun | 3=>0 | 4=>1 | n=>n⟩
def Tryz.laysTrim:Go.Proofs.Lays.n160 TP Tryz.laysTrim_ren where
 mixed:=by kernel_rfl
 f119:=Tryz.func187.trans (congrArg some (by kernel_rfl))
 f120:=Tryz.func159.trans (congrArg some (by kernel_rfl))
 f137:=Tryz.func186.trans (congrArg some (by kernel_rfl))
 f151:=Tryz.func118.trans (congrArg some (by kernel_rfl))
 f152:=Tryz.func158.trans (congrArg some (by kernel_rfl))
 f160:=Tryz.func48.trans (congrArg some (by kernel_rfl))
 f197:=Tryz.func117.trans (congrArg some (by kernel_rfl))
 f217:=Tryz.func211.trans (congrArg some (by kernel_rfl))
 f224:=Tryz.func188.trans (congrArg some (by kernel_rfl))
 f225:=Tryz.func189.trans (congrArg some (by kernel_rfl))
 f227:=Tryz.func85.trans (congrArg some (by kernel_rfl))
 f228:=Tryz.func116.trans (congrArg some (by kernel_rfl))
 f231:=Tryz.func83.trans (congrArg some (by kernel_rfl))
 f232:=Tryz.func84.trans (congrArg some (by kernel_rfl))
 f233:=Tryz.func86.trans (congrArg some (by kernel_rfl))
 f234:=Tryz.func87.trans (congrArg some (by kernel_rfl))
 f235:=Tryz.func88.trans (congrArg some (by kernel_rfl))
 f236:=Tryz.func89.trans (congrArg some (by kernel_rfl))
 f260:=Tryz.func157.trans (congrArg some (by kernel_rfl))
 f266:=Tryz.func235.trans (congrArg some (by kernel_rfl))
 f271:=Tryz.func119.trans (congrArg some (by kernel_rfl))
 t0:=Tryz.underlying0
 a0:=Tryz.isAgg0
 z0:=Tryz.sizeOf0
 v0:=Tryz.zeroValue0
 t3:=Tryz.underlying3
 a3:=Tryz.isAgg3
 z3:=Tryz.sizeOf3
 v3:=Tryz.zeroValue3
 t4:=Tryz.underlying4
 a4:=Tryz.isAgg4
 z4:=Tryz.sizeOf4
 v4:=Tryz.zeroValue4
 t5:=Tryz.underlying5
 a5:=Tryz.isAgg5
 z5:=Tryz.sizeOf5
 v5:=Tryz.zeroValue5
 t9:=Tryz.underlying9
 a9:=Tryz.isAgg9
 z9:=Tryz.sizeOf9
 v9:=Tryz.zeroValue9
 t21:=Tryz.underlying21
 a21:=Tryz.isAgg21
 z21:=Tryz.sizeOf21
 v21:=Tryz.zeroValue21
 t46:=Tryz.underlying155
 a46:=Tryz.isAgg155
 z46:=Tryz.sizeOf155
 v46:=Tryz.zeroValue155
 t105:=Tryz.underlying173
 a105:=Tryz.isAgg173
 z105:=Tryz.sizeOf173
 v105:=Tryz.zeroValue173
 t116:=Tryz.underlying141
 a116:=Tryz.isAgg141
 z116:=Tryz.sizeOf141
 t117:=Tryz.underlying142
 a117:=Tryz.isAgg142
 z117:=Tryz.sizeOf142
 v117:=Tryz.zeroValue142
 t119:=Tryz.underlying151
 a119:=Tryz.isAgg151
 z119:=Tryz.sizeOf151
 t124:=Tryz.underlying145
 a124:=Tryz.isAgg145
 z124:=Tryz.sizeOf145
 v124:=Tryz.zeroValue145
 t138:=Tryz.underlying153
 a138:=Tryz.isAgg153
 z138:=Tryz.sizeOf153
 v138:=Tryz.zeroValue153
 t139:=Tryz.underlying154
 a139:=Tryz.isAgg154
 z139:=Tryz.sizeOf154
 v139:=Tryz.zeroValue154
 g3:=by kernel_rfl
 g4:=by kernel_rfl
def Tryz.laysReplaceAll_ren:Go.Shelf.Ren:=⟨fun | 166=>68 | 240=>99 | 276=>128 | n=>n,fun | 70=>77 | 9=>9 | 3=>3 | 75=>119 | 0=>0 | 72=>79 | 37=>22 | 4=>4 | 164=>182 | 80=>60 | 5=>5 | n=>n,fun | n=>n⟩
def Tryz.laysReplaceAll:Go.Proofs.Lays.n166 TP Tryz.laysReplaceAll_ren where
 mixed:=by kernel_rfl
 f166:=Tryz.func68.trans (congrArg some (by kernel_rfl))
 f240:=Tryz.func99.trans (congrArg some (by kernel_rfl))
 f276:=Tryz.func128.trans (congrArg some (by kernel_rfl))
 t0:=Tryz.underlying0
 a0:=Tryz.isAgg0
 z0:=Tryz.sizeOf0
 v0:=Tryz.zeroValue0
 t3:=Tryz.underlying3
 a3:=Tryz.isAgg3
 z3:=Tryz.sizeOf3
 v3:=Tryz.zeroValue3
 t4:=Tryz.underlying4
 a4:=Tryz.isAgg4
 z4:=Tryz.sizeOf4
 v4:=Tryz.zeroValue4
 t9:=Tryz.underlying9
 a9:=Tryz.isAgg9
 z9:=Tryz.sizeOf9
 v9:=Tryz.zeroValue9
 t20:=Tryz.underlying20
 a20:=Tryz.isAgg20
 z20:=Tryz.sizeOf20
 v20:=Tryz.zeroValue20
 t37:=Tryz.underlying22
 a37:=Tryz.isAgg22
 z37:=Tryz.sizeOf22
 v37:=Tryz.zeroValue22
 t70:=Tryz.underlying77
 a70:=Tryz.isAgg77
 z70:=Tryz.sizeOf77
 v70:=Tryz.zeroValue77
 t72:=Tryz.underlying79
 a72:=Tryz.isAgg79
 z72:=Tryz.sizeOf79
 v72:=Tryz.zeroValue79
 t75:=Tryz.underlying119
 a75:=Tryz.isAgg119
 z75:=Tryz.sizeOf119
 v75:=Tryz.zeroValue119
 t164:=Tryz.underlying182
 a164:=Tryz.isAgg182
 z164:=Tryz.sizeOf182
 v164:=Tryz.zeroValue182
def trim_spec (s:List UInt8) (hs:s.length<=9223372036854775807):Ctr TP G 48 [.d (S s),.d (S [32])] [] (.d (S (Lib.trimB s 32))) [] :=
 Ctr.of_calls_ss go48 fun h w=>(Any.strings_Trim_one Tryz.laysTrim (bs s) 32 (by decide) w (by rw[ER];exact hs)).mono (by
  rintro e w' ⟨rfl,h | h⟩;·subst h;exact ⟨_,rfl,.str _,.refl _ _⟩
  subst h;exact ⟨_,rfl,.str _,Below.drew (.refl _ _)⟩)
end
section
open Go Go.Proofs Go.Abs
variable {G:Ah}
def setD (l:List UInt8):List D:=(Afy 256).map fun i=>.bool (l.any fun b=>b.toNat == i)
def setB (l:List UInt8):List AV:=(setD l).map .d
def setB_length {l:List UInt8}:(setB l).length=256:=by simp[setB,setD]
def setD_length {l:List UInt8}:(setD l).length=256:=by simp[setD]
def setB_nil:setB []=Aa0 256 (.d (.bool false)):=by rfl
def setD_get {l:List UInt8} {c:UInt8} {d:D}:(setD l).getD c.toNat d=.bool (l.contains c):=by
 have hc:=c.toNat_lt;simp only[setD,AaZ,Ae8,AfQ (show c.toNat<256 by omega),Afu,Afc];rw[List.contains_eq_any_beq];refine congrArg (fun f=>D.bool (l.any f)) ?_;funext b;show (b.toNat == c.toNat)=_
 by_cases h:b=c;·subst h;simp
 have:¬b.toNat=c.toNat:=fun e=>h (UInt8.toNat_inj.1 e);have h':¬c=b:=fun e=>h e.symm;rw[beq_eq_false_iff_ne.2 this];exact (beq_eq_false_iff_ne.2 h').symm
def setB_get {l:List UInt8} {c:UInt8} {d:AV}:(setB l).getD c.toNat d=.d (.bool (l.contains c)):=by have hc:=c.toNat_lt;have:=@setD_get l c .nilp;rw[AaZ,Ac7 (by rw[setD_length];omega)] at this;rw[setB,AaZ,Ae8,Ac7 (by rw[setD_length];omega)];simp only[Afc] at this;rw[Afu,Afc,this]
def setB_set {l:List UInt8} {c:UInt8}:(setB l).set c.toNat (.d (.bool true))=setB (l++[c]):=by
 have hc:=c.toNat_lt;apply List.ext_getElem;·rw[Af4,setB_length,setB_length]
 intro i h1 h2;rw[Af4,setB_length] at h1;rw[List.getElem_set];simp only[setB,setD,List.getElem_map,List.getElem_range,List.any_append,Agc,List.any_nil,Agd];split;·rename_i e;subst e;simp
 rename_i e;have:(c.toNat == i)=false:=by simpa using e
 rw[this,Agd]
def SWeak_map {fl:List (Option Nat)}:∀ l:List D,SW fl (l.map .d) (l.map .d)
 | []=>by simp[SW]
 | x::l=>by simp only[Adm,SW];exact ⟨by simp[AW],SWeak_map l⟩
def setB_weak {fl:List (Option Nat)} {l:List UInt8}:SW fl (setB l) (setB l)=True:=eq_true (SWeak_map _)
def mem_getDU {α:Type} {l:List α} {i:Nat} {d:α} (h:i<l.length):l.getD i d∈l:=by rw[AaZ,Ac7 h];exact Afr h
def setB_two (l:List UInt8):∃ a b cs,setB l=a::b::cs:=by
 have:=@setB_length l
 match h:setB l with
 | []=>rw[h] at this;cases this
 | [_]=>rw[h] at this;cases this
 | a::b::cs=>exact ⟨a,b,cs,rfl⟩
def setB_one {l:List UInt8}:(setB l).all AV.one=true:=by simp[setB,setD,AV.one,D.one]
def setB_seal {H:List Ae} {l:List UInt8}:sealL H (setB l)=some (setD l):=by
 have:∀ m:List D,sealL H (m.map .d)=some m:=fun m=>by
  induction m with
  | nil=>rfl
  | cons x m ih=>simp only[Adm,sealL,sealA,ih]
 exact this _
def setB_refs {l:List UInt8}:refsL (setB l)=[]:=by
 have:∀ m:List D,refsL (m.map .d)=[]:=fun m=>by
  induction m with
  | nil=>rfl
  | cons x m ih=>simp only[Adm,refsL,Ga,ih,Afv]
 exact this _
def setB_pass {H:List Ae} {L:List Nat} {l:List UInt8}:passL H L (setB l)=some (setB l):=by
 have:∀ m:List D,passL H L (m.map .d)=some (m.map .d):=fun m=>by
  induction m with
  | nil=>rfl
  | cons x m ih=>simp only[Adm,passL,passA,ih]
 exact this _
def setB_sids {H:List Ae} {L:List Nat} {l:List UInt8}:sidsL H L (setB l)=[]:=by
 have:∀ m:List D,sidsL H L (m.map .d)=[]:=fun m=>by
  induction m with
  | nil=>rfl
  | cons x m ih=>simp only[Adm,sidsL,sidsA,ih,Afv]
 exact this _
def setB_ren {f:Nat->Nat} {l:List UInt8}:renL f (setB l)=setB l:=by
 have:∀ m:List D,renL f (m.map .d)=m.map .d:=fun m=>by
  induction m with
  | nil=>rfl
  | cons x m ih=>simp only[Adm,renL,renA,ih]
 exact this _
def take_succ_getD {s:List UInt8} {i:Nat} (h:i<s.length):s.take i++[s.getD i 0]=s.take (i+1):=by rw[Afm,Ac7 h,AaZ,Ac7 h];rfl
def contains_spec (l:List UInt8) (c:UInt8):Ctr TP G 116 [.ptr 0 0,.d (.int .u8 c.toNat)] [.box (setB l)] (.d (.bool (l.contains c))) [.box (setB l)]:=by have hc:=c.toNat_lt;have hl:=@setB_length l;refine Ctr.body (M:=M0) Am Tryz.func116 rfl Ack ?_;simp(disch:=(try simp only[Ab]);omega)only[hl,setB_get,Tryz.f116,↓Aa,Ac,↓reduceIte,Qu,Qv];exact ⟨[some 0],rfl,by simp,by simp[HW,BW,setB_weak],.inl (by simp[AW])⟩
def makeSet_spec (l:List UInt8) (hl:l.length<2^62) (ha:∀ b∈l,b.toNat<128):Ctr TP G 85 [.d (S l)] [] (.d (.tup [.agg (setD l),.bool true])) []:=by
 refine Ctr.pure (M:=M0) Am Tryz.func85 rfl go85 ?_;simp only[Tryz.f85,↓Aa,Ac,↓reduceIte,Qv];refine Ak.fr 5 (α:=Nat) (fun i=>l.length-i) (fun i=>[(4,.d (.int .i64 i))]) (fun i=>[.box (setB (l.take i))]) (fun i=>i<=l.length) 0 (AfF _) ?_ ?_;·refine ⟨[some 0],rfl,by simp,by simp[sA,kZ,SW,AW],?_⟩;rw[Afz,setB_nil];simp only[HW,BW,AfH];refine ⟨SWeak_map (Aa0 256 (.bool false)),trivial⟩
 intro i hi;have sl:=@setB_length (l.take i);simp only[Bi,Adn,Ado];rcases AeK i l.length with h1 | h1
 ·have hb:=ha _ (mem_getDU (d:=0) h1);have hs:=take_succ_getD h1;simp(disch:=(try simp only[Ab]);omega)only[Af,sl,↓Aa,Ac,↓reduceIte];exact ⟨i+1,h1,by simp only;omega,[some 0],rfl,by simp,by simp[SW,AW],by simp only[HW,BW,AfH];rw[setB_set,hs];exact ⟨by rw[setB_weak];trivial,trivial⟩⟩
 have sl:=@setB_length l;have tk:(setB l).take 256=setB l:=Adi (by omega);obtain ⟨a,b,cs,e⟩:=setB_two l;have lc:cs.length=254:=by rw[e] at sl;simpa using sl
 have tc:cs.take 254=cs:=Adi (by omega);have dc:cs.drop cs.length=[]:=AfI;simp(disch:=(try simp only[Ab]);omega)only[Af,sl,tk,↓Aa,Ac,↓reduceIte,↓Qe];refine ⟨setB_one,?_⟩;have pm:Dj (setB l) 0 (setB l)=setB l:=by rw[e];simp only[Dj,Dj,Afz,AfN,AfK,Adk,AfR,dc,Afv]
 first
 | rw[pm,sl,tk]
 | (simp only[Dj,Dj,Afz,AfN,AfK] at pm;rw[pm,sl,tk])
 simp only[Ada,if_true];rfl
def setB_fold {l:List UInt8}:(setD l).map AV.d=setB l:=rfl
def setB_putL {L:List AV} {l:List UInt8} (h:L.length=256):Dj L 0 ((setD l).map AV.d)=setB l:=by rw[setB_fold];obtain ⟨a,b,cs,e⟩:=setB_two l;have q:=@setB_length l;rw[e] at q ⊢;have hd:L.drop (0+(a::b::cs).length)=[]:=AfL (by omega);simp only[Dj,hd,Afz,AfN,Afv]
abbrev fb4 (l:List AV):List AV:=.d (.bool false)::.d (.bool false)::.d (.bool false)::.d (.bool false)::l
abbrev fb16 (l:List AV):List AV:=fb4 (fb4 (fb4 (fb4 l)))
abbrev fb64 (l:List AV):List AV:=fb16 (fb16 (fb16 (fb16 l)))
def setB_putL' {l:List UInt8}:Dj (fb64 (fb64 (fb64 (fb64 [])))) 0 (setB l)=setB l:=setB_putL rfl
def decw (l:List UInt8) (p:Nat) (h:p<l.length):((l.getD p 0).toNat<128/\dec l p=((l.getD p 0).toNat,1)) \/
  (128<=(dec l p).1/\1<=(dec l p).2/\p+(dec l p).2<=l.length/\∀ i,i<(dec l p).2->128<=(l.getD (p+i) 0).toNat):=by
 by_cases h0:(l.getD p 0).toNat<128;·exact .inl ⟨h0,dec_ascii h h0⟩
 right;have hget:∀ k,((bs l).get! (p+k)).toNat=(l.getD (p+k) 0).toNat:=fun k=>by
  show (l.toArray.getD (p+k) default).toNat=_
  simp[AaZ];rfl
 have hsz:(bs l).size=l.length:=ER;unfold dec Utf8.decode;have hget0:((bs l).get! p).toNat=(l.getD p 0).toNat:=hget 0;simp only[hget,hsz,Afd,hget0];have hb:∀ k,(l.getD (p+k) 0).toNat<256:=fun k=>(l.getD (p+k) 0).toNat_lt;have hb1:=hb 1;have hb2:=hb 2;have hb3:=hb 3;have hb0:=hb 0;rw[Afd] at hb0;rw[if_neg h0]
 have one:∀ i,i<1→128≤(l.getD (p+i) 0).toNat:=fun i hi=>by obtain rfl:i=0:=by omega
                                                           rw[Afd];omega
 split
 ·rename_i h1;simp only[Afe,beq_iff_eq,decide_eq_true_eq] at h1;split
  ·rename_i h2;refine ⟨by omega,by omega,by omega,fun i hi=>?_⟩;rcases (by omega:i=0\/i=1) with rfl | rfl
   ·rw[Afd];omega
   omega
  exact ⟨by simp[Utf8.runeError],by omega,by omega,one⟩
 split
 ·rename_i h1;simp only[Afe,beq_iff_eq,decide_eq_true_eq] at h1;split
  ·rename_i h2;simp only[Afe,decide_eq_true_eq] at h2;refine ⟨by omega,by omega,by omega,fun i hi=>?_⟩;rcases (by omega:i=0\/i=1\/i=2) with rfl | rfl | rfl
   ·rw[Afd];omega
   ·omega
   omega
  exact ⟨by simp[Utf8.runeError],by omega,by omega,one⟩
 split
 ·rename_i h1;simp only[Afe,beq_iff_eq,decide_eq_true_eq] at h1;split
  ·rename_i h2;simp only[Afe,decide_eq_true_eq] at h2;refine ⟨by omega,by omega,by omega,fun i hi=>?_⟩;rcases (by omega:i=0\/i=1\/i=2\/i=3) with rfl | rfl | rfl | rfl
   ·rw[Afd];omega
   ·omega
   ·omega
   omega
  exact ⟨by simp[Utf8.runeError],by omega,by omega,one⟩
 exact ⟨by simp[Utf8.runeError],by omega,by omega,one⟩
end
section
open Go Go.Proofs Go.Abs Go.RowKit Go.Shelf Go.Lib
variable {G:Ah}
def GD {w:World} {b o:Nat} {v:Value} {c:Array Value} {T:TypeId} {fz:Nat × Nat} (h:w.heap[b]?=some (.cells c T fz)):(w.setCell ⟨b,o,none⟩ v).heap[b]?=some (.cells (c.setIfInBounds o v) T fz):=by
 show (w.heap.modify b _)[b]?=_
 rw[Afp,if_pos rfl,h];rfl
def Ew {w:World} {b o k:Nat} {v:Value} (h:k≠b):(w.setCell ⟨b,o,none⟩ v).heap[k]?=w.heap[k]?:=by
 show (w.heap.modify b _)[k]?=_
 rw[Afp,if_neg (Ne.symm h)]
def Hz {w:World} {a:Addr} {v:Value}:(w.setCell a v).heap.size=w.heap.size:=by simp[World.setCell]
structure BldW (T e:TypeId) (b:Nat) (v:Value) (l:List Value) (w w':World):Prop where
 os:w'.os=w.os
 tape:w'.tape=w.tape
 output:w'.output=w.output
 size:w.heap.size<=w'.heap.size
 keep:∀ k,k<w.heap.size->k≠b->some k≠v.ownBlock->w'.heap[k]?=w.heap[k]?
 left:∃ v',w'.heap[b]?=some (.cells #[.pointer (some ⟨b,0,none⟩),v'] T (0,0))/\w'.ownsRow 0 e 1 v' l.length l/\(v'.ownBlock=v.ownBlock\/∀ g,v'.ownBlock=some g->w.heap.size<=g)
def YC {P:Program} {ρ:Ren} (L:Lays.n240 P ρ) (X:Builder.X72 P ρ) (b:Nat) (used:Bool) (v:Value) (w:World) (hbk:w.heap[b]?=some (.cells #[.pointer (if used then some ⟨b,0,none⟩ else none),v] (ρ.t 72) (0,0))) :
  Calls P (ρ.f 240) #[.pointer (some ⟨b,0,none⟩)] w fun e w'=>e=.returned (.tuple #[])/\w'.os=w.os/\w'.tape=w.tape/\w'.output=w.output/\w'.heap.size=w.heap.size/\(∀ k,k≠b->w'.heap[k]?=w.heap[k]?) /\
   w'.heap[b]?=some (.cells #[.pointer (some ⟨b,0,none⟩),v] (ρ.t 72) (0,0)):=by
 have c0:w.cell? ⟨b,0,none⟩=some (.pointer (if used then some ⟨b,0,none⟩ else none)):=by rw[Lib.cell_of_heap hbk];rfl
 cases used;·refine (Any.Builder_copyCheck_fresh L X b w c0 (by simp[World.shape?,hbk]) (Lib.frozen_of_heap hbk 0)).mono ?_;rintro e w' ⟨rfl,rfl⟩;exact ⟨rfl,rfl,rfl,rfl,Hz,fun k hk=>Ew hk,by rw[GD hbk];rfl⟩
 refine (Any.Builder_copyCheck_used L X b w c0).mono ?_;rintro e w' ⟨rfl,rfl⟩;exact ⟨rfl,rfl,rfl,rfl,rfl,fun _ _=>rfl,hbk⟩
def Aax {T e:TypeId} {b:Nat} {v:Value} {l:List Value} {w w1:World} (hown:w.ownsRow 0 e 1 v l.length l) (hne:v.ownBlock≠some b) (ho:∀ k,k≠b->w1.heap[k]?=w.heap[k]?):w1.ownsRow 0 e 1 v l.length l:=by
 refine ⟨hown.1,?_⟩;rcases hown.2 with h | ⟨g,cap,cur,rfl,h1,h2,h3⟩
 ·exact .inl h
 exact .inr ⟨g,cap,cur,rfl,h1,(ho g (fun e=>hne (by rw[e];rfl))).trans h2,h3⟩
def Wd {P:Program} {w:World} (t ty e:TypeId) (i:TypeInfo) (ht:P.underlying t=some (.slice e)) (hi:P.info? e=some i) (hz:i.zero=some (.int .u8 0))
  (hsize:i.size=1) (hby:i.bytes=1) (v:Value) (n:Nat) (xs:List Value) (hown:w.ownsRow 0 e 1 v n xs) (ad:Addr) (k:Nat) (u:Value) (hu:w.cell? ad=some u) (h1:u.oneCell'=true) (hbytes:n+1<=140737488355328) :
  ∃ v' w',(Builtin.append_ #[t,t] ty #[v,.slice (some ad) 1 k]).run P w=.ok v' w'/\w'.ownsRow 0 e 1 v' (n+1) (xs++[u])/\w.grownBy w' v.ownBlock/\(v'.ownBlock=v.ownBlock\/∀ g,v'.ownBlock=some g->w.heap.size<=g):=by
 have hnews:∀ j x,[u][j]?=some x->w.cell? (ad.add j)=some x:=by
  intro j x hj
  match j,hj with
  | 0,hj=>simp at hj;subst hj;simpa[Addr.add] using hu
 have hone:∀ x∈[u],x.oneCell'=true:=by intro x hx;simp at hx;subst hx;exact h1
 have h63:n+1<=maxLen:=by unfold maxLen;omega
 obtain ⟨v',w',hr,h2,h3,h4⟩:=run_append_own (P:=P) w 0 t ty e i (.int .u8 0) 1 1 ht hi hz hsize hby rfl (by decide) v n xs hown ad 1 k [u] rfl hnews hone h63 (by omega) (AfF _);refine ⟨v',w',hr,h2,h3,?_⟩;have hxl:xs.length=n:=by simpa using hown.1
 rcases hown.2 with ⟨rfl,rfl⟩ | ⟨g,cap,cur,rfl,hbg,hg,hnc,hcm,hcs,htake⟩
 ·right;intro g hgv;obtain rfl:xs=[]:=Afs hxl;obtain ⟨v2,w2,hr2,k2,_⟩:=run_append_own (P:=P) w w.heap.size t ty e i (.int .u8 0) 1 1 ht hi hz hsize hby rfl (by decide) (.slice none 0 0) 0 [] (World.ownsRow_nil w _ e 1) ad 1 k [u] rfl hnews hone h63 (by omega) (Ada _);rw[hr] at hr2;cases hr2;exact (k2.lt g hgv).1
 by_cases hroom:n+1<=cap
 ·left;have hcs':cur.size=cap:=by simpa using hcs
  have hr2:=run_append_room (P:=P) w t ty e i ht hi g n cap cur hg ad 1 k [u] (by rw[hsize];rfl) hnews hone hroom (by rw[hsize];simp;omega);rw[hr] at hr2;cases hr2;rfl
 right;intro g' hg';have holds:∀ j u,xs[j]?=some u->w.cell? ((⟨g,0,none⟩:Addr).add j)=some u:=hown.cells (g:=g) rfl;have hr2:=run_append_grow (P:=P) w t ty e i (.int .u8 0) ht hi hz ⟨g,0,none⟩ n cap xs (by rw[hsize];simpa using hxl) holds ad 1 k [u] (by rw[hsize];rfl) hnews (by omega) (by omega) (by rw[hby];exact growslice_fits (by omega) (by omega));rw[hr] at hr2;cases hr2;simp[Value.ownBlock] at hg';omega
def J4 {P:Program} {w:World} {ops:Array Oper} {rest:List Oper} {o:Oper} {a:Act} {Q:Exit->Act->World->Prop} (hgd:o.guard=none) (sl x:Operand) (t:TypeId)
  (ho:o.op=.call {callee:=.builtin .append,args:=#[sl,x],argTypes:=#[t,t]})
  (e:TypeId) (i:TypeInfo) (ht:P.underlying t=some (.slice e)) (hi:P.info? e=some i) (hz:i.zero=some (.int .u8 0))
  (hsize:i.size=1) (hby:i.bytes=1) (v:Value) (n:Nat) (xs:List Value) (hs:a.eval sl=v) (hown:w.ownsRow 0 e 1 v n xs) (ad:Addr) (k:Nat) (u:Value) (hx:a.eval x=.slice (some ad) 1 k) (hu:w.cell? ad=some u) (h1:u.oneCell'=true)
  (hbytes:n+1<=140737488355328)
  (h:∀ v' w',w'.ownsRow 0 e 1 v' (n+1) (xs++[u])->w.grownBy w' v.ownBlock->(v'.ownBlock=v.ownBlock\/∀ g,v'.ownBlock=some g->w.heap.size<=g)->wpList P ops Q rest (a.put o.dst v') w'):wpList P ops Q (o::rest) a w:=by
 refine wpList_plain hgd fun K hK=>?_;obtain ⟨v',w',hr,h2,h3,h4⟩:=Wd (P:=P) (w:=w) t o.type e i ht hi hz hsize hby v n xs hown ad k u hu h1 hbytes;unfold Oper.wp execOp;simp only[ho,resolve,invoke,builtin,Sem.run_bind,Sem.run_pure,Result.andThen_ok,List.map_toArray,Adm,Aff,hs,hx,hr];exact hK _ _ (h v' w' h2 h3 h4)
def KV (w:World) (o:Obj) (k:Nat) (h:k<w.heap.size):(w.alloc o).heap[k]?=w.heap[k]?:=by
 show (w.heap.push o)[k]?=_
 rw[Array.getElem?_push];split;·omega
 rfl
def Pd {P:Program} {ρ:Ren} (L:Lays.n167 P ρ) (X:Builder.Extra P ρ) (b:Nat) (used:Bool) (v:Value) (l:List Value) (c:Int) (w:World)
  (hbk:w.heap[b]?=some (.cells #[.pointer (if used then some ⟨b,0,none⟩ else none),v] (ρ.t 72) (0,0))) (hown:w.ownsRow 0 (ρ.t 5) 1 v l.length l) (hne:v.ownBlock≠some b) (hlen:l.length+1<=140737488355328) :
  Calls P (ρ.f 167) #[.pointer (some ⟨b,0,none⟩),.int .u8 c] w fun e w'=>e=.returned .nilIface/\BldW (ρ.t 72) (ρ.t 5) b v (l++[.int .u8 c]) w w':=by
 obtain ⟨i0,hi,hz0,hz1,hz2⟩:=info_parts X.infoByte;have mixed:=L.mixed;have t72:=L.t72;have a72:=L.a72;have z72:=L.z72;have v72:=L.v72;have u72:=run_underlying L.t72
 have t70:=L.t70;have a70:=L.a70;have z70:=L.z70;have v70:=L.v70;have u70:=run_underlying L.t70
 have t5:=L.t5;have a5:=L.a5;have z5:=L.z5;have v5:=L.v5;have u5:=run_underlying L.t5
 have t37:=L.t37;have a37:=L.a37;have z37:=L.z37;have v37:=L.v37;have u37:=run_underlying L.t37
 have t9:=L.t9;have a9:=L.a9;have z9:=L.z9;have v9:=L.v9;have u9:=run_underlying L.t9
 have t4:=L.t4;have a4:=L.a4;have z4:=L.z4;have v4:=L.v4;have u4:=run_underlying L.t4
 have t164:=L.t164;have a164:=L.a164;have z164:=L.z164;have v164:=L.v164;have u164:=run_underlying L.t164
 have e240:∀ args w,(callFunc (ρ.f 240) args).run P w=.ok (.enter (ρ.f 240) args) w:=enters_of L.f240 (by kernel_rfl) rfl;have cc:=YC {L with} X.toX72 b used v w hbk;go_enter L.f167,Body.n167_ntmps ρ;go_wp2_with (go_at_fn (ρ.f 240);refine cc.mono ?_);rintro e w1 ⟨rfl,q1,q2,q3,q4,q5,hb1⟩;have hown1:w1.ownsRow 0 (ρ.t 5) 1 v l.length l:=Aax (T:=ρ.t 72) hown hne q5;clear cc hown;have hlt:b<w1.heap.size:=(AfA.1 hb1).1;have c0:w1.cell? ⟨b,0,none⟩=some (.pointer (some ⟨b,0,none⟩)):=by rw[Lib.cell_of_heap hb1];rfl
 have c1:w1.cell? ⟨b,1,none⟩=some v:=by rw[Lib.cell_of_heap hb1];rfl
 go_wp2_with (at_builtin;refine J4 rfl _ _ (ρ.t 37) rfl (ρ.t 5) i0 L.t37 hi hz0 hz1 hz2 _ _ _ rfl (hown1.alloc _) ⟨w.heap.size,0,none⟩ 1 (.int .u8 c) rfl ?c1 ?c2 ?c4 ?_);case c1=>rw[<-q4];simp
 case c2=>rfl
 case c4=>omega
 intro v' w2 hown' hgrow hor;have hb2:w2.heap[b]?=some (.cells #[.pointer (some ⟨b,0,none⟩),v] (ρ.t 72) (0,0)):=by rw[hgrow.block b (by simp;omega) (fun e=>hne e.symm),KV w1 _ b hlt];exact hb1
 have d0:w2.cell? ⟨b,0,none⟩=some (.pointer (some ⟨b,0,none⟩)):=by rw[Lib.cell_of_heap hb2];rfl
 have d1:w2.cell? ⟨b,1,none⟩=some v:=by rw[Lib.cell_of_heap hb2];rfl
 have f1:w2.frozen? ⟨b,1,none⟩=false:=Lib.frozen_of_heap hb2 1;obtain ⟨ao,n',cap,rfl⟩:∃ ao n' cap,v'=.slice ao n' cap:=by
  rcases hown'.2 with ⟨hv,_⟩ | ⟨g,cap,cur,hv,_⟩
  ·exact ⟨_,_,_,hv⟩
  exact ⟨_,_,_,hv⟩
 go_wp2;go_ret;refine ⟨rfl,hgrow.os.trans q1,hgrow.tape.trans q2,hgrow.output.trans q3,?_,fun k hk h1 h2=>?_,.slice ao n' cap,?_,?_,?_⟩;·rw[Hz];have:=hgrow.size;first | omega | (simp at this;omega)
 ·rw[Ew h1,hgrow.block k (by simp;omega) h2,KV w1 _ k (by omega),q5 k h1]
 ·rw[GD hb2];rfl
 ·rw[show (l++[Value.int .u8 c]).length=l.length+1 by simp];have hnb:Value.ownBlock (.slice ao n' cap)≠some b:=by
   intro e;rcases hor with h | h
   ·rw[h] at e;exact hne e
   have:=h b e;first | omega | (simp at this;omega)
  refine ⟨hown'.1,?_⟩;rcases hown'.2 with h | ⟨g,cp,cur,e1,k1,k2,k3⟩
  ·exact .inl h
  refine .inr ⟨g,cp,cur,e1,k1,?_,k3⟩;rw[Ew (fun e=>hnb (by rw[e1,<-e];rfl))];exact k2
 rcases hor with h | h
 ·exact .inl h
 exact .inr fun g hg=>by have:=h g hg;first | omega | (simp at this;omega)
structure Ab1 (v:Value) (w w':World):Prop where
 os:w'.os=w.os
 tape:w'.tape=w.tape
 output:w'.output=w.output
 size:w.heap.size<=w'.heap.size
 keep:∀ k,k<w.heap.size->some k≠v.ownBlock->w'.heap[k]?=w.heap[k]?
def Ab1.of {v:Value} {w w':World} (h:Below w.heap.size w w'):Ab1 v w w':=⟨h.os,h.tape,h.output,h.size,fun k hk _=>h.block k hk⟩
def V9 {P:Program} {ρ:Ren} (L:Lays.n169 P ρ) (X:Builder.Extra P ρ) (b:Nat) (p v:Value) (l:List UInt8) (w:World)
  (hbk:w.heap[b]?=some (.cells #[p,v] (ρ.t 72) (0,0))) (hown:w.ownsRow 0 (ρ.t 5) 1 v l.length (Lib.byteCells l)) :
  Calls P (ρ.f 169) #[.pointer (some ⟨b,0,none⟩)] w fun e w'=>e=.returned (.string ⟨l.toArray⟩)/\Ab1 v w w':=by
 by_cases h0:l=[]
 ·subst h0;rcases hown.2 with ⟨rfl,_⟩ | ⟨g,cap,cur,rfl,hbg,hg,hnc,hcm,hcs,htake⟩
  ·refine (Any.Builder_String_nil L X w.heap.size b p w hbk).mono ?_;rintro e w' ⟨rfl,hb⟩;exact ⟨rfl,.of hb⟩
  by_cases hc:cap=0;·subst hc;refine (Any.Builder_String_noroom L X w.heap.size b g p cur w (Ada _) hbk hg).mono ?_;rintro e w' ⟨rfl,hb⟩;exact ⟨rfl,.of hb⟩
  refine (Any.Builder_String_room L X w.heap.size b g cap p w hc hbk).mono ?_;rintro e w' ⟨rfl,hb⟩;exact ⟨rfl,.of hb⟩
 have hl0:l.length≠0:=by simpa using h0
 obtain ⟨g,cap,cur,rfl,hbg,hg,hnc,hcm,hcs,htake⟩:∃ g cap cur,v=.slice (some ⟨g,0,none⟩) l.length cap/\0<=g/\w.heap[g]?=some (.cells cur (ρ.t 5) (0,0))/\l.length<=cap/\cap<=maxLen/\cur.size=cap*1/\cur.toList.take (l.length*1)=Lib.byteCells l:=by
  rcases hown.2 with ⟨_,hz⟩ | ⟨g,cap,cur,hv,r⟩
  ·exact absurd hz hl0
  exact ⟨g,cap,cur,hv,r⟩
 have c1:w.drew.cell? ⟨b,1,none⟩=some (.slice (some ⟨g,0,none⟩) l.length cap):=by have:w.drew.heap[b]?=some (.cells #[p,.slice (some ⟨g,0,none⟩) l.length cap] (ρ.t 72) (0,0)):=hbk;rw[Lib.cell_of_heap this];rfl
 have hSD:(Builtin.unsafeSliceData_ #[(ρ.t 37)] (ρ.t 127) #[.slice (some ⟨g,0,none⟩) l.length cap]).run P w.drew=.ok (.pointer (some ⟨g,0,none⟩)) w.drew :=
  Lib.run_unsafeSliceData_row _ _ _ _ _ _ (by omega)
 have hUS:(Builtin.unsafeString_ #[(ρ.t 127),(ρ.t 3)] (ρ.t 9) #[.pointer (some ⟨g,0,none⟩),.int .i64 l.length]).run P w.drew=.ok (.string ⟨l.toArray⟩) (w.drew.freeze ⟨g,0,none⟩ l.length):=by refine Lib.run_unsafeString_row w.drew (ρ.t 127) (ρ.t 3) (ρ.t 9) (ρ.t 5) L.t127 X.cellsByte g cur.size (by have hg':w.drew.heap[g]?=some (.cells cur (ρ.t 5) (0,0)):=hg;simp[World.shape?,hg']) l h0 (by omega) (by unfold maxLen at hcm;omega) ?_;intro j x hx;exact hown.cells (g:=g) rfl j (.int .u8 x.toNat) (by simp[Lib.byteCells,hx])
 have mixed:=L.mixed;have t72:=L.t72;have a72:=L.a72;have z72:=L.z72;have v72:=L.v72;have u72:=run_underlying L.t72
 have t70:=L.t70;have a70:=L.a70;have z70:=L.z70;have v70:=L.v70;have u70:=run_underlying L.t70
 have t37:=L.t37;have a37:=L.a37;have z37:=L.z37;have v37:=L.v37;have u37:=run_underlying L.t37
 have t127:=L.t127;have a127:=L.a127;have z127:=L.z127;have v127:=L.v127;have u127:=run_underlying L.t127
 have t3:=L.t3;have a3:=L.a3;have z3:=L.z3;have v3:=L.v3;have u3:=run_underlying L.t3
 have t9:=L.t9;have a9:=L.a9;have z9:=L.z9;have v9:=L.v9;have u9:=run_underlying L.t9
 have t5:=X.t5;have a5:=X.a5;have z5:=X.z5;have v5:=X.v5;have u5:=run_underlying X.t5
 have fin:Ab1 (.slice (some ⟨g,0,none⟩) l.length cap) w (w.drew.freeze ⟨g,0,none⟩ l.length):=by
  unfold World.freeze;rw[if_neg hl0];refine ⟨rfl,rfl,rfl,by simp,fun k hk hne=>?_⟩;show (w.heap.modify g _)[k]?=_
  rw[Afp,if_neg (fun e=>hne (by rw[<-e];rfl))]
 go_enter L.f169,Body.n169_ntmps ρ;go_wp2;go_region_o;all_goals (go_wp2;go_ret;exact ⟨rfl,fin⟩)
def ptr_inv {h:Aj} {ρ:Abs.Place} {u:Value} {g S:Nat} (r:R h ρ u (.ptr 0 0)) (hρ:ρ 0=some (g,S)):u=.pointer (some ⟨g,0,none⟩):=by
 cases r with
 | ptr b off g' S' h1=>rw[hρ] at h1;cases h1;rfl
def AbU {h:Aj} {ρ:Abs.Place} {H:List Ae} {w w':World} {T e:TypeId} {g S:Nat} {v:Value} {l:List UInt8} (s:Sim G h ρ (hp H) w) (hm:0<H.length) (hρ0:ρ 0=some (g,S)) (hh:∀ j,h g j=none)
  (hv:∀ g1,v.ownBlock=some g1->(∃ i S1,ρ i=some (g1,S1))/\g1≠g/\∀ j,h g1 j=none) (bw:BldW T e g v (byteCells l) w w') :
  ∃ ρ',Sim G h ρ' (hp (.bld T true l.length (some H.length)::(Aa0 (H.length-1) .dead++[.buf e l]))) w'/\Bg h ρ w h ρ' w':=by
 obtain ⟨v',b1,b2,b3⟩:=bw.left;have bl:(byteCells l).length=l.length:=byteCells_length l;rw[bl] at b2;have hgl:g<w.heap.size:=(s.dom 0 g S hρ0).1;have hρm:ρ H.length=none:=by
  cases hx:ρ H.length with
  | none=>rfl
  | some x=>obtain ⟨_,b,hb⟩:=s.dom _ x.1 x.2 hx;simp[hp] at hb
 have hkept:∀ b o u,h b o=some u->w'.heap[b]?=w.heap[b]?:=by intro b o u hbu;refine bw.keep b (s.held_lt hbu) (fun e=>by rw[e,hh] at hbu;cases hbu) (fun e=>?_);have:=(hv b e.symm).2.2 o;rw[hbu] at this;cases this
 have hprom:∀ b o u,h b o=some u->w'.cell? ⟨b,o,none⟩=some u:=by intro b o u hbu;have:=s.prom b o u hbu;rw[<-this];simp[World.cell?,hkept b o u hbu]
 have key:∃ ρ':Abs.Place,ρ.le ρ'/\(∀ i g2 S2,ρ' i=some (g2,S2)->i=H.length\/ρ i=some (g2,S2))/\(∀ i,i≠H.length->ρ' i=ρ i)/\U1 ρ' v' l.length (some H.length)/\GZ h ρ' w' H.length (.buf e l) /\
   (∀ g2 S2,ρ' H.length=some (g2,S2)->g2≠g/\g2<w'.heap.size/\((∃ i S1,ρ i=some (g2,S1))\/w.heap.size<=g2)):=by
  rcases b2.2 with ⟨rfl,h0⟩ | ⟨g2,cap,cur,rfl,_,k1,k2,k3,k4,k5⟩
  ·refine ⟨ρ,Place.le_refl _,fun i g2 S2 e=>.inr e,fun _ _=>rfl,.inl ⟨rfl,h0⟩,.inl ⟨hρm,Afs h0⟩,fun g2 S2 e=>by rw[hρm] at e;cases e⟩
  have hg2:g2≠g/\((∃ i S1,ρ i=some (g2,S1))\/w.heap.size<=g2)/\∀ j,h g2 j=none:=by
   rcases b3 with b3 | b3
   ·obtain ⟨c1,c2,c3⟩:=hv g2 b3.symm;exact ⟨c2,.inl c1,c3⟩
   have:=b3 g2 rfl;refine ⟨by omega,.inr this,fun j=>?_⟩;cases hj:h g2 j with
   | none=>rfl
   | some u=>have:=s.held_lt hj;omega
  have hlt:g2<w'.heap.size:=(AfA.1 k1).1;refine ⟨Fg ρ H.length (g2,cap),fun i x e=>?_,fun i g3 S3 e=>?_,fun i hi=>by simp[Fg,hi],.inr ⟨g2,cap,rfl,Ax _ _ _,k2⟩,.inr ⟨g2,cap,cur,Ax _ _ _,k1,by simpa using k4,k3,by omega,fun j x hx=>?_,hg2.2.2⟩,fun g3 S3 e=>?_⟩
  ·by_cases hi:i=H.length;·subst hi;rw[hρm] at e;cases e
   simp[Fg,hi,e]
  ·by_cases hi:i=H.length;·exact .inl hi
   simp[Fg,hi] at e;exact .inr e
  ·have hj:j<l.length:=(Adf.1 hx).1;have h1:(cur.toList.take (l.length*1))[j]?=(byteCells l)[j]?:=(by rw[k5])
   rw[Afk,if_pos (by omega)] at h1;rw[<-Afq,h1];simp[byteCells,hx]
  rw[Ax] at e;cases e;exact ⟨hg2.1,hlt,hg2.2.1⟩
 obtain ⟨ρ',p1,p2,p3,p4,p5,p6⟩:=key;have hρ0':ρ' 0=some (g,S):=p1 _ _ hρ0;have hlen:(Ae.bld T true l.length (some H.length)::(Aa0 (H.length-1) Ae.dead++[.buf e l])).length=H.length+1:=by simp;omega
 have hat:∀ i b,(Ae.bld T true l.length (some H.length)::(Aa0 (H.length-1) Ae.dead++[.buf e l]))[i]?=some b->(i=0/\b=.bld T true l.length (some H.length))\/(i=H.length/\b=.buf e l)\/(0<i/\i<H.length/\b=.dead):=by
  intro i b hi;rcases i with _ | i
  ·simp at hi;exact .inl ⟨rfl,hi.symm⟩
  rw[List.getElem?_cons_succ] at hi;by_cases hc:i<H.length-1;·rw[AfC (by simpa using hc),AfJ,if_pos hc] at hi;cases hi;exact .inr (.inr ⟨by omega,by omega,rfl⟩)
  rw[List.getElem?_append_right (by simpa using hc)] at hi;have:i-(Aa0 (H.length-1) Ae.dead).length=0:=by have:=(Adf.1 hi).1;simp at this ⊢;omega
  rw[this] at hi;simp at hi this;exact .inr (.inl ⟨by omega,hi.symm⟩)
 have hex:∀ i,i<H.length+1->∃ b,hp (Ae.bld T true l.length (some H.length)::(Aa0 (H.length-1) Ae.dead++[.buf e l])) i=some b:=by intro i hi;refine ⟨_,Ac7 (by rw[hlen];exact hi)⟩
 refine ⟨ρ',⟨hprom,s.glob,fun i b hb=>?_,fun i g2 S2 e2=>?_,fun i j g2 S2 S2' e1 e2 l1 l2=>?_⟩,⟨bw.os,bw.tape,bw.output,bw.size,fun k hk hn=>?_,Aj.le_refl _,fun _ _ _ _=>rfl,p1,fun i g2 S2 e2=>?_⟩⟩
 ·rcases hat i b hb with ⟨rfl,rfl⟩ | ⟨rfl,rfl⟩ | ⟨_,_,rfl⟩
  ·exact ⟨g,S,v',hρ0',b1,p4,hh⟩
  ·exact p5
  trivial
 ·rcases p2 i g2 S2 e2 with rfl | e3
  ·exact ⟨(p6 _ _ e2).2.1,hex _ (by omega)⟩
  obtain ⟨c1,b,c2⟩:=s.dom i g2 S2 e3;have:i<H.length:=(Adf.1 c2).1;exact ⟨by have:=bw.size;omega,hex _ (by omega)⟩
 ·have lv:∀ i,BP (hp (Ae.bld T true l.length (some H.length)::(Aa0 (H.length-1) Ae.dead++[.buf e l]))) i->i=0\/i=H.length:=by
   intro i ⟨b,hb,hne⟩;rcases hat i b hb with ⟨h1,_⟩ | ⟨h1,_⟩ | ⟨_,_,h1⟩
   ·exact .inl h1
   ·exact .inr h1
   exact absurd h1 hne
  rcases lv i l1 with rfl | rfl<;>rcases lv j l2 with rfl | rfl
  ·rfl
  ·rw[hρ0'] at e1;cases e1;exact absurd rfl (p6 _ _ e2).1
  ·rw[hρ0'] at e2;cases e2;exact absurd rfl (p6 _ _ e1).1
  rfl
 ·refine bw.keep k hk (fun e=>hn 0 S (e▸hρ0)) (fun e=>?_);obtain ⟨⟨i,S1,c⟩,_⟩:=hv k e.symm;exact hn i S1 c
 rcases p2 i g2 S2 e2 with rfl | e3
 ·exact (p6 _ _ e2).2.2
 exact .inl ⟨i,S2,e3⟩
def Tryz.laysString_ren:Go.Shelf.Ren:=⟨fun | 169=>40 | n=>n,fun | 70=>77 | 9=>9 | 0=>0 | 72=>79 | 37=>22 | 127=>126 | 3=>3 | 5=>5 | n=>n,fun | n=>n⟩
def Tryz.laysString:Go.Proofs.Lays.n169 TP Tryz.laysString_ren where
 mixed:=by kernel_rfl
 f169:=Tryz.func40.trans (congrArg some (by kernel_rfl))
 t0:=Tryz.underlying0
 a0:=Tryz.isAgg0
 z0:=Tryz.sizeOf0
 v0:=Tryz.zeroValue0
 t3:=Tryz.underlying3
 a3:=Tryz.isAgg3
 z3:=Tryz.sizeOf3
 v3:=Tryz.zeroValue3
 t9:=Tryz.underlying9
 a9:=Tryz.isAgg9
 z9:=Tryz.sizeOf9
 v9:=Tryz.zeroValue9
 t37:=Tryz.underlying22
 a37:=Tryz.isAgg22
 z37:=Tryz.sizeOf22
 v37:=Tryz.zeroValue22
 t70:=Tryz.underlying77
 a70:=Tryz.isAgg77
 z70:=Tryz.sizeOf77
 v70:=Tryz.zeroValue77
 t72:=Tryz.underlying79
 a72:=Tryz.isAgg79
 z72:=Tryz.sizeOf79
 v72:=Tryz.zeroValue79
 t127:=Tryz.underlying126
 a127:=Tryz.isAgg126
 z127:=Tryz.sizeOf126
 v127:=Tryz.zeroValue126
def AcO:Builder.Extra TP Tryz.laysString_ren where
 sizeBuilder:=by kernel_rfl
 liesBuilder:=by kernel_rfl
 t5:=Tryz.underlying5
 a5:=Tryz.isAgg5
 z5:=Tryz.sizeOf5
 v5:=Tryz.zeroValue5
 infoByte:=by kernel_rfl
 cellsByte:=by kernel_rfl
 sizeByte:=by kernel_rfl
 neB5:=by decide
abbrev BL (used:Bool) (l:List UInt8):List Ae:=[.bld 79 used l.length (some 1),.buf 5 l]
def Aay {h:Aj} {ρ:Abs.Place} {w:World} {used:Bool} {l:List UInt8} {T e:TypeId} (s:Sim G h ρ (hp [.bld T used l.length (some 1),.buf e l]) w) :
  ∃ g S v,ρ 0=some (g,S)/\(∀ j,h g j=none)/\w.heap[g]?=some (.cells #[.pointer (if used then some ⟨g,0,none⟩ else none),v] T (0,0))/\w.ownsRow 0 e 1 v l.length (byteCells l) /\
   ∀ g1,v.ownBlock=some g1->(∃ i S1,ρ i=some (g1,S1))/\g1≠g/\∀ j,h g1 j=none:=by
 obtain ⟨g,S,v,h1,h2,h3,h4⟩:=s.blk 0 _ rfl;refine ⟨g,S,v,h1,h4,h2,?_⟩;have bl:(byteCells l).length=l.length*1:=by rw[byteCells_length,Af1]
 rcases h3 with ⟨rfl,h0⟩ | ⟨g1,cap,rfl,h5,h6⟩
 ·exact ⟨⟨bl,.inl ⟨rfl,h0⟩⟩,fun g1 e=>by cases e⟩
 rcases s.blk 1 _ rfl with ⟨k1,_⟩ | ⟨g2,S2,c,k1,k2,k3,k4,k5,k6,k7⟩
 ·rw[h5] at k1;cases k1
 rw[h5] at k1;cases k1;refine ⟨⟨bl,.inr ⟨g1,cap,c,rfl,AfF _,k2,h6,k4,by omega,?_⟩⟩,fun g3 e=>?_⟩
 ·apply List.ext_getElem?;intro j;rw[Afk];split
  ·rename_i hj;have hj':j<l.length:=(by omega)
   rw[Afq,k6 j l[j] (Ac7 hj')];simp[byteCells,hj']
  rename_i hj;rw[Adq (by rw[byteCells_length];omega)]
 have:g1=g3:=Option.some.inj e;subst this;refine ⟨⟨1,_,h5⟩,fun e=>?_,k7⟩;subst e;have:=s.inj 0 1 g1 _ _ h1 h5 ⟨_,rfl,by simp⟩ ⟨_,rfl,by simp⟩;cases this
def Tryz.laysWriteByte_ren:Go.Shelf.Ren:=⟨fun | 167=>70 | n=>Tryz.laysReplaceAll_ren.f n,Tryz.laysReplaceAll_ren.t,Tryz.laysReplaceAll_ren.g⟩
def Tryz.laysWriteByte:Lays.n167 TP Tryz.laysWriteByte_ren :=
 {Tryz.laysReplaceAll with f167:=Tryz.func70.trans (congrArg some (by kernel_rfl)),t5:=Tryz.underlying5,a5:=Tryz.isAgg5,z5:=Tryz.sizeOf5,v5:=Tryz.zeroValue5}
def AcN:Builder.Extra TP Tryz.laysWriteByte_ren where
 sizeBuilder:=by kernel_rfl
 liesBuilder:=by kernel_rfl
 t5:=Tryz.underlying5
 a5:=Tryz.isAgg5
 z5:=Tryz.sizeOf5
 v5:=Tryz.zeroValue5
 infoByte:=by kernel_rfl
 cellsByte:=by kernel_rfl
 sizeByte:=by kernel_rfl
 neB5:=by decide
def Ng (used:Bool) (l:List UInt8) (c:UInt8) (hl:l.length<=10000000000000) :
  Ctr TP G 70 [.ptr 0 0,.d (.int .u8 c.toNat)] (BL used l) .undef [.bld 79 true (l++[c]).length (some 2),.dead,.buf 5 (l++[c])]:=by
 refine ⟨go70,fun h ρ w vs s r=>?_⟩;obtain ⟨v,u,rfl,hv,hu⟩:=r.inv2;obtain ⟨g,S,vb,h1,h4,h2,h3,h5⟩:=Aay s;rw[ptr_inv hv h1,hu.int_inv];have hne:vb.ownBlock≠some g:=fun e=>(h5 g e).2.1 rfl;refine (Pd Tryz.laysWriteByte AcN g used vb (byteCells l) c.toNat w h2 (by rw[byteCells_length];exact h3) hne (by rw[byteCells_length];omega)).mono ?_;rintro e w' ⟨rfl,bw⟩;obtain ⟨ρ',s1,s2⟩:=AbU (l:=l++[c]) s (by simp) h1 h4 h5 (by rw[byteCells_append];exact bw);exact ⟨_,h,ρ',rfl,s1,.undef _,s2⟩
def Tn (used:Bool) (l:List UInt8):Ctr TP G 40 [.ptr 0 0] (BL used l) (.d (S l)) [.dead,.dead]:=by
 refine ⟨go40,fun h ρ w vs s r=>?_⟩;obtain ⟨v,rfl,hv⟩:=r.inv1;obtain ⟨g,S,vb,h1,h4,h2,h3,h5⟩:=Aay s;rw[ptr_inv hv h1];refine (V9 Tryz.laysString AcO g _ vb l w h2 h3).mono ?_;rintro e w' ⟨rfl,hb⟩;have hpr:∀ b o u,h b o=some u->w'.cell? ⟨b,o,none⟩=some u:=fun b o u e=>by rw[<-s.prom b o u e];have:w'.heap[b]?=w.heap[b]?:=hb.keep b (s.held_lt e) (fun e2=>by have:=(h5 b e2.symm).2.2 o;rw[e] at this;cases this);simp[World.cell?,this]
 have st:Bg h ρ w h ρ w':=⟨hb.os,hb.tape,hb.output,hb.size,fun k hk1 hn=>hb.keep k hk1 (fun e2=>by obtain ⟨⟨i,S1,c⟩,_⟩:=h5 k e2.symm;exact hn i S1 c),Aj.le_refl _,fun _ _ _ _=>rfl,Place.le_refl _,fun i g S e=>.inl ⟨i,S,e⟩⟩;have hd:∀ i b,hp [Ae.dead,Ae.dead] i=some b->b=.dead:=by
  intro i b e;rcases i with _ | _ | i<;>simp[hp] at e
  ·exact e.symm
  exact e.symm
 refine ⟨_,h,ρ,rfl,⟨hpr,s.glob,fun i b e=>by rw[hd i b e];trivial,fun i g S e=>?_,fun i j g S S' e1 e2 l1 l2=>?_⟩,.d _ _ (.str _),st⟩;·obtain ⟨c1,b,c2⟩:=s.dom i g S e;have hi:i<2:=(Adf.1 c2).1;refine ⟨by have:=hb.size;omega,.dead,?_⟩;rcases (by omega:i=0\/i=1) with rfl | rfl<;>rfl
 obtain ⟨b,c1,c2⟩:=l1;exact absurd (hd i b c1) c2
end
section
open Go Go.Proofs Go.Abs
variable {G:Ah}
def strs (l:List (List UInt8)):List D:=l.map fun s=>S s
def strs_length {l:List (List UInt8)}:(strs l).length=l.length:=by simp[strs]
def strs_unf {l:List (List UInt8)}:(strs l).map unf0=strs l:=by simp[strs,unf0]
def strs_getD {l:List (List UInt8)} {i:Nat} (h:i<l.length):(strs l).getD i .nilp=S (l.getD i []):=by simp[strs,AaZ,h]
abbrev Ss (l:List (List UInt8)) (full:Bool):D:=.sl l.length full (strs l)
def wordsL:List (List UInt8):=[[97,110,110],[98,111,98],[99,121],[66,101,114,110],[85,108,109],[78,101,119,32,89,111,114,107],[121,111,114,107,32,110,101,119],[97,45,49],[98,45,50,50],[120],[122,195,188,114,105,99,104],[65,110,110],[98,111],[99,97,116],[98,97,116],[114,97,116]]
abbrev DiceM (t:List Int) (k:Nat):Ae:=.box [.d (.sl t.length false (AF .u8 t)),.d (.int .i64 (min k t.length:Nat))]
def OkM (t:List Int):Prop:=t.length<=300/\∀ i,0<=t.getD i 0/\t.getD i 0<=255
def new_spec (t:List Int) (ht:t.length<=9223372036854775807):Ctr TP G 8 [.d (.sl t.length false (AF .u8 t))] [] (.ptr 0 0) [DiceM (t.take 300) 0]:=by
 refine Ctr.body (M:=M0) Am Tryz.func8 rfl go8 ?_;rcases AeK 300 t.length with h | h
 ·have e:(t.take 300).length=300:=by rw[AeL];omega
  simp(disch:=(try simp only[Ab]);omega)only[Tryz.f8,↓Aa,Ac,↓reduceIte,Qu,Qv,QF];exact ⟨[some 0],rfl,by simp,by simp[HW,BW,SW,AW];omega,.inl (by simp[AW])⟩
 have e:t.take 300=t:=Adi h;simp(disch:=(try simp only[Ab]);omega)only[Tryz.f8,e,↓Aa,Ac,↓reduceIte,Qu,Qv];exact ⟨[some 0],rfl,by simp,by simp[HW,BW,SW,AW],.inl (by simp[AW])⟩
def pk (t:List Int) (k:Nat) (n:Int):Int:=t.getD k 0 % n
def pk_range {t:List Int} {k:Nat} {n:Int} (h:0<n):0<=pk t k n/\pk t k n<n:=⟨Int.emod_nonneg _ (by omega),Int.emod_lt_of_pos _ h⟩
def pk_nat (t:List Int) (k:Nat) (n:Int) (h:0<n):∃ c:Nat,pk t k n=c/\(c:Int)<n:=⟨(pk t k n).toNat,by have:=@pk_range t k n h;omega,by have:=@pk_range t k n h;omega⟩
def pick_spec (t:List Int) (k:Nat) (n:Int) (ht:OkM t) (h0:0<n) (h1:n<=1000) :
  Ctr TP G 25 [.ptr 0 0,.d (.int .i64 n)] [DiceM t k] (.d (.int .i64 (pk t k n))) [DiceM t (k+1)]:=by
 obtain ⟨ht,htt⟩:=ht;refine Ctr.body (M:=M0) Am Tryz.func25 rfl go25 ?_;rcases AeK k t.length with h | h
 ·have e1:min k t.length=k:=by omega
  have e2:min (k+1) t.length=k+1:=by omega
  obtain ⟨b1,b2⟩:=htt k;have e3:(t.getD k 0).tmod n=pk t k n:=Int.tmod_eq_emod_of_nonneg b1;simp only[e1,e2,DiceM];simp(disch:=(try simp only[Ab]);omega)only[Tryz.f25,e3,↓Aa,Ac,↓reduceIte,Qu,Qv];refine ⟨by rfl,by rfl,?_⟩;exact ⟨[some 0],rfl,by simp,by simp[HW,BW,SW,AW],.inl (by simp[AW])⟩
 have e1:min k t.length=t.length:=by omega
 have e2:min (k+1) t.length=t.length:=by omega
 have e3:pk t k n=0:=by rw[pk,AaZ,Adq h];simp
 simp only[e1,e2,e3,DiceM];simp(disch:=(try simp only[Ab]);omega)only[Tryz.f25,↓Aa,Ac,↓reduceIte,Qu,Qv];refine ⟨by rfl,?_⟩;exact ⟨[some 0],rfl,by simp,by simp[HW,BW,SW,AW],.inl (by simp[AW])⟩
def words_spec:Ctr TP G 52 [] [] (.d (Ss wordsL false)) []:=by refine Ctr.pure (M:=M0) Am Tryz.func52 rfl go52 ?_;simp(disch:=(try simp only[Ab]);omega)only[Tryz.f52,↓Aa,Ac,↓reduceIte,↓Qe,Qu,Qz];try rfl
abbrev Row:=List (List UInt8)
def ixF {α:Type} (p:α->Bool):List α->Int->Int
 | [],_=>-1
 | x::r,k=>if p x then k else ixF p r (k+1)
def I9 {α:Type} {p:α->Bool}:∀ (l:List α) (k:Int),0<=k->(0<=ixF p l k↔l.any p=true)
 | [],k,h=>by simp[ixF]
 | x::r,k,h=>by
   rw[ixF,Agc];cases hx:p x;·simpa using I9 r (k+1) (by omega)
   simpa using h
def Od {α:Type} {p:α->Bool} {l:List α} {i:Nat} {d:α} (h:i<l.length):ixF p (l.drop i) i=if p (l.getD i d) then (i:Int) else ixF p (l.drop (i+1)) (i+1:Nat):=by rw[AeJ h,ixF,AaZ,Ac7 h];rfl
def Cs {α:Type} {l:List α} {i:Nat} {d:α} (h:i<l.length):l.getD i d∈l:=by rw[AaZ,Ac7 h];exact Afr h
def Oh (f:FuncId) (p:List UInt8->Bool) (l:Row) (full:Bool) (hl:l.length<=1000000000) (hp:∀ s∈l,Ctr TP G f [.d (S s)] [] (.d (.bool (p s))) []) :
  Ctr TP G 146 [.d (Ss l full),.d (.fn (.func f) [] [])] [] (.d (.int .i64 (ixF p l 0))) []:=by
 refine Ctr.pure (M:=M0) Am Tryz.func146 rfl Ad8 ?_;have sl:=@strs_length l;simp only[Tryz.f146,↓Aa,Ac,Qu,Qv,QE];refine Ak.fr 131 (α:=Nat) (fun i=>l.length-i) (fun i=>[(8,.d (.int .i64 i))]) (fun _=>[]) (fun i=>i<=l.length/\ixF p l 0=ixF p (l.drop i) i) 0 ⟨AfF _,rfl⟩ ?_ ?_;·exact ⟨[],rfl,by simp,by simp[sA,kZ,SW,AW],by simp[HW]⟩
 rintro i ⟨h1,h2⟩;simp only[Bi,Adn,Ado];rw[h2];rcases AeK i l.length with h | h
 ·have g:=strs_getD h;rw[Od (d:=[]) h];simp(disch:=(try simp only[Ab]);omega)only[sl,g,↓Aa,Ac,↓reduceIte,QE];refine Ad.pure (hp _ (Cs h)) ?_;cases hx:p (l.getD i []);·simp(disch:=(try simp only[Ab]);omega)only[↓Aa,Ac,↓reduceIte,QE];exact ⟨i+1,⟨h,rfl⟩,by simp only;omega,⟨[],rfl,by simp,by simp[SW,AW],by simp[HW]⟩⟩
  simp only[↓Aa,Ac,↓reduceIte,↓Qe,QE]
 rw[AfL h];simp(disch:=(try simp only[Ab]);omega)only[↓Aa,Ac,↓Qe,QE];rfl
def KN (f:FuncId) (p:List UInt8->Bool) (l:Row) (full:Bool) (hl:l.length<=1000000000) (hp:∀ s∈l,Ctr TP G f [.d (S s)] [] (.d (.bool (p s))) []) :
  Ctr TP G 105 [.d (Ss l full),.d (.fn (.func f) [] [])] [] (.d (.bool (l.any p))) []:=by
 refine Ctr.pure (M:=M0) Am Tryz.func105 rfl AeE ?_;simp only[Tryz.f105,↓Aa,Ac,↓reduceIte,Qu,Qv];refine Ad.of (Oh f p l false hl hp) (by rfl) ?_;have hi:=I9 (p:=p) l 0 (Int.le_refl _);generalize ixF p l 0=z at *;rcases (by omega:0<=z\/z<0) with h | h
 ·rw[hi.1 h];simp(disch:=(try simp only[Ab]);omega)only[↓Aa,Ac,↓Qe]
 have:l.any p=false:=by cases hx:l.any p with
  | false=>rfl
  | true=>have:=hi.2 hx;omega
 rw[this];simp(disch:=(try simp only[Ab]);omega)only[↓Aa,Ac,↓Qe]
def Xa:List UInt8:=[48,49,50,51,52,53,54,55,56,57,97,98,99,100,101,102,103,104,105,106,107,108,109,110,111,112,113,114,115,116,117,118,119,120,121,122]
def EJ:List UInt8:=(Afy 100).flatMap fun n=>[UInt8.ofNat (48+n / 10),UInt8.ofNat (48+n % 10)]
def Fu:(([48,48,48,49,48,50,48,51,48,52,48,53,48,54,48,55,48,56,48,57,49,48,49,49,49,50,49,51,49,52,49,53,49,54,49,55,49,56,49,57,50,48,50,49,50,50,50,51,50,52]:List UInt8).append [50,53,50,54,50,55,50,56,50,57,51,48,51,49,51,50,51,51,51,52,51,53,51,54,51,55,51,56,51,57,52,48,52,49,52,50,52,51,52,52,52,53,52,54,52,55,52,56,52,57]).append (List.append [53,48,53,49,53,50,53,51,53,52,53,53,53,54,53,55,53,56,53,57,54,48,54,49,54,50,54,51,54,52,54,53,54,54,54,55,54,56,54,57,55,48,55,49,55,50,55,51,55,52] [55,53,55,54,55,55,55,56,55,57,56,48,56,49,56,50,56,51,56,52,56,53,56,54,56,55,56,56,56,57,57,48,57,49,57,50,57,51,57,52,57,53,57,54,57,55,57,56,57,57])=EJ:=by decide +kernel
def D2:EJ.length=200:=by decide +kernel
def C1 (n:Nat):List UInt8:=if n<10 then [UInt8.ofNat (48+n)] else [UInt8.ofNat (48+n / 10),UInt8.ofNat (48+n % 10)]
def Z1 {n:Nat} (h:n<10):(Xa.take (n+1)).drop n=C1 n:=by
 have:∀ n:Fin 10,(Xa.take (n.val+1)).drop n.val=C1 n.val:=by decide
 exact this ⟨n,h⟩
def Z0 {n:Nat} (h1:10<=n) (h:n<100):(EJ.take (n*2+2)).drop (n*2)=C1 n:=by
 have:∀ n:Fin 100,10<=n.val->(EJ.take (n.val*2+2)).drop (n.val*2)=C1 n.val:=by decide +kernel
 exact this ⟨n,h⟩ h1
def PV (n:Nat):1<=(C1 n).length/\(C1 n).length<=2:=by unfold C1;split<;>simp
def Vd (n:Nat) (h:n<100):Ctr TP G 160 [.d (.int .i64 n)] [] (.d (S (C1 n))) []:=by
 refine Ctr.pure (M:=M0) Am Tryz.func160 rfl AdX ?_;rcases AeK n 10 with h1 | h1
 ·rw[<-Z1 h1];simp(disch:=(try simp only[Ab]);omega)only[Af,Tryz.f160,↓Aa,Ac,↓Qe,Qu,Qv];first | done | rfl
 rw[<-Z0 h1 h];have e1:((n:Int)*2).toNat=n*2:=by omega
 have e2:((n:Int)*2+2).toNat=n*2+2:=by omega
 simp(disch:=(try simp only[Ab]);omega)only[Af,Fu,D2,e1,e2,Tryz.f160,↓Aa,Ac,↓Qe,Qv];first | done | rfl
def Iu (n:Nat) (h:n<100):Ctr TP G 121 [.d (.int .i64 n),.d (.int .i64 10)] [] (.d (S (C1 n))) []:=by refine Ctr.pure (M:=M0) Am Tryz.func121 rfl Acj ?_;simp(disch:=(try simp only[Ab]);omega)only[Tryz.f121,↓Aa,Ac,↓reduceIte,Qu,Qv];refine Ad.pure (Vd n h) ?_;simp only[↓Aa,Ac,↓Qe];first | done | rfl
def VN (n:Nat) (h:n<100):Ctr TP G 93 [.d (.int .i64 n)] [] (.d (S (C1 n))) []:=by refine Ctr.pure (M:=M0) Am Tryz.func93 rfl go93 ?_;simp only[Tryz.f93,↓Aa,Ac,↓reduceIte,Qv];refine Ad.pure (Iu n h) ?_;simp only[↓Aa,Ac,↓Qe];first | done | rfl
def X9 (n:Nat) (h:n<100):Ctr TP G 51 [.d (.int .i64 n)] [] (.d (S (C1 n))) []:=by refine Ctr.pure (M:=M0) Am Tryz.func51 rfl go51 ?_;simp only[Tryz.f51,↓Aa,Ac,↓reduceIte,Qv];refine Ad.pure (VN n h) ?_;simp only[↓Aa,Ac,↓Qe];first | done | rfl
def Fb:List (List UInt8):=[[],[],[],[45],[43]]
def Dy:List (List UInt8):=[[53],[53,48],[48],[49,50,53],[48,48,55],[48,48,48,48,48,48,48,48,49]]
def Gt (c:UInt8):Bool:=decide (c.toNat<48) || decide (57<c.toNat)
def Il (t:List Int) (k:Nat):List UInt8:=Fb.getD (pk t k 5).toNat []++C1 (pk t (k+1) 40).toNat
def Kv (t:List Int) (k:Nat):List UInt8:=if pk t (k+2) 3=0 then (if Gt ((Il t k).getD 0 0)=true then Il t k else 48::Il t k) else Il t k
def JH (t:List Int) (k:Nat):List UInt8:=if pk t (k+3) 3=0 then Kv t k++(46::Dy.getD (pk t (k+4) 6).toNat []) else Kv t k
def O9 (t:List Int) (k:Nat):Nat:=if pk t (k+3) 3=0 then k+5 else k+4
def Cq {l:List (List UInt8)} {m:Nat} (h:∀ s∈l,s.length<=m) (i:Nat):(l.getD i []).length<=m:=by
 rcases AeK i l.length with h1 | h1
 ·rw[AaZ,Ac7 h1];exact h _ (Afr _)
 rw[AaZ,Adq h1];simp
def TU (t:List Int) (k:Nat):1<=(Il t k).length/\(Il t k).length<=3:=by have h1:=PV (pk t (k+1) 40).toNat;have h2:=Cq (l:=Fb) (m:=1) (by decide) (pk t k 5).toNat;unfold Il;rw[Adl];omega
def TT (t:List Int) (k:Nat):1<=(Kv t k).length/\(Kv t k).length<=4:=by
 have h1:=TU t k;unfold Kv;split
 ·split;·omega
  rw[Adk];omega
 omega
def Ik (t:List Int) (k:Nat):1<=(JH t k).length/\(JH t k).length<=20:=by
 have h1:=TT t k;have h2:=Cq (l:=Dy) (m:=9) (by decide) (pk t (k+4) 6).toNat;unfold JH;split;·rw[Adl,Adk];omega
 omega
def BK:[D.str (bs []),D.str (bs []),D.str (bs []),D.str (bs [45]),D.str (bs [43])]=strs Fb:=rfl
def Bt:[D.str (bs [53]),D.str (bs [53,48]),D.str (bs [48]),D.str (bs [49,50,53]),D.str (bs [48,48,55]),D.str (bs [48,48,48,48,48,48,48,48,49])]=strs Dy:=rfl
def Ij (t:List Int) (k:Nat) (ht:OkM t):Ctr TP G 26 [.ptr 0 0] [DiceM t k] (.d (S (JH t k))) [DiceM t (O9 t k)]:=by
 refine Ctr.body (M:=M0) Am Tryz.func26 rfl go26 ?_;have ls:=@strs_length Fb;have lf:=@strs_length Dy;have ls':Fb.length=5:=rfl;have lf':Dy.length=6:=rfl;obtain ⟨a,ha,ha2⟩:=pk_nat t k 5 (by decide);obtain ⟨b,hb,hb2⟩:=pk_nat t (k+1) 40 (by decide);have e1:Il t k=Fb.getD a []++C1 b:=by rw[Il,ha,hb];rfl
 have lg:=Cq (l:=Fb) (m:=1) (by decide) a;have li:=PV b;have l1:=TU t k;have l2:=TT t k;have gs:=strs_getD (l:=Fb) (i:=a) (by omega);simp(disch:=(try simp only[Ab]);omega)only[Tryz.f26,BK,strs_unf,↓Aa,Ac,↓reduceIte,Qu,Qv,Qz];refine Ad.by (pick_spec t k 5 ht (by decide) (by decide)) (by rfl) (by rfl) (Ada _) ?_;rw[ha];simp(disch:=(try simp only[Ab]);omega)only[gs,ls,ls',↓Aa,Ac,↓reduceIte,Qu];refine Ad.by (pick_spec t (k+1) 40 ht (by decide) (by decide)) (by rfl) (by rfl) (Ada _) ?_;rw[hb];simp(disch:=(try simp only[Ab]);omega)only[↓Aa,Ac,↓reduceIte,Qu];refine Ad.of (X9 b (by omega)) (by rfl) ?_;simp(disch:=(try simp only[Ab]);omega)only[Af,e1.symm,↓Aa,Ac,↓reduceIte,Qu];refine ⟨by rfl,?_⟩;refine Ad.by (pick_spec t (k+1+1) 3 ht (by decide) (by decide)) (by rfl) (by rfl) (Ada _) ?_;have e2:Kv t k=(if pk t (k+1+1) 3=0 then (if Gt ((Il t k).getD 0 0)=true then Il t k else 48::Il t k) else Il t k):=rfl;have tail:∀ r:List UInt8,r=Kv t k->JH t k=(if pk t (k+1+1+1) 3=0 then r++(46::Dy.getD (pk t (k+1+1+1+1) 6).toNat []) else r):=by rintro r rfl;rfl
 have ek:O9 t k=(if pk t (k+1+1+1) 3=0 then k+1+1+1+1+1 else k+1+1+1+1):=rfl;generalize Il t k=r1 at *;by_cases h3:pk t (k+1+1) 3=0
 ·rw[h3];rw[if_pos h3] at e2;by_cases c1:(r1.getD 0 0).toNat<48
  ·have c3:Gt (r1.getD 0 0)=true:=(by unfold Gt;rw[decide_eq_true c1];rfl);have hr:r1=Kv t k:=(by rw[e2,if_pos c3]);have tl:=tail (r1) hr;have lr:(r1).length<=4:=(by rw[hr];exact l2.2)
   simp(disch:=(try simp only[Ab]);omega)only[Af,↓Aa,Ac,↓reduceIte,Qu,QF];refine Ad.by (pick_spec t (k+1+1+1) 3 ht (by decide) (by decide)) (by rfl) (by rfl) (Ada _) ?_;by_cases h4:pk t (k+1+1+1) 3=0
   ·rw[if_pos h4] at tl ek;rw[h4,tl,ek];obtain ⟨d,hd,hd2⟩:=pk_nat t (k+1+1+1+1) 6 (by decide);have gs2:=strs_getD (l:=Dy) (i:=d) (by omega);have lg2:=Cq (l:=Dy) (m:=9) (by decide) d;rw[hd,Adj];simp(disch:=(try simp only[Ab]);omega)only[Bt,strs_unf,↓Aa,Ac,↓reduceIte,Qu,Qz];refine Ad.by (pick_spec t (k+1+1+1+1) 6 ht (by decide) (by decide)) (by rfl) (by rfl) (Ada _) ?_;rw[hd];simp(disch:=(try simp only[Ab]);omega)only[Af,gs2,lf,lf',↓Aa,Ac,↓reduceIte,Qu];first
    | exact ⟨[some 0],rfl,by simp,by simp[HW,BW,SW,AW],.inl (by simp[AW])⟩
    | refine ⟨by rfl,?_⟩
      exact ⟨[some 0],rfl,by simp,by simp[HW,BW,SW,AW],.inl (by simp[AW,SW])⟩
   rw[if_neg h4] at tl ek;rw[tl,ek];generalize pk t (k+1+1+1) 3=z at *;simp(disch:=(try simp only[Ab]);omega)only[↓Aa,Ac,↓reduceIte,Qu];exact ⟨[some 0],rfl,by simp,by simp[HW,BW,SW,AW],.inl (by simp[AW])⟩
  by_cases c2:57<(r1.getD 0 0).toNat
  ·have c3:Gt (r1.getD 0 0)=true:=(by unfold Gt;rw[decide_eq_true c2,Bool.or_true]);have hr:r1=Kv t k:=(by rw[e2,if_pos c3]);have tl:=tail (r1) hr;have lr:(r1).length<=4:=(by rw[hr];exact l2.2)
   simp(disch:=(try simp only[Ab]);omega)only[Af,↓Aa,Ac,↓reduceIte,Qu,QF];refine Ad.by (pick_spec t (k+1+1+1) 3 ht (by decide) (by decide)) (by rfl) (by rfl) (Ada _) ?_;by_cases h4:pk t (k+1+1+1) 3=0
   ·rw[if_pos h4] at tl ek;rw[h4,tl,ek];obtain ⟨d,hd,hd2⟩:=pk_nat t (k+1+1+1+1) 6 (by decide);have gs2:=strs_getD (l:=Dy) (i:=d) (by omega);have lg2:=Cq (l:=Dy) (m:=9) (by decide) d;rw[hd,Adj];simp(disch:=(try simp only[Ab]);omega)only[Bt,strs_unf,↓Aa,Ac,↓reduceIte,Qu,Qz];refine Ad.by (pick_spec t (k+1+1+1+1) 6 ht (by decide) (by decide)) (by rfl) (by rfl) (Ada _) ?_;rw[hd];simp(disch:=(try simp only[Ab]);omega)only[Af,gs2,lf,lf',↓Aa,Ac,↓reduceIte,Qu];first
    | exact ⟨[some 0],rfl,by simp,by simp[HW,BW,SW,AW],.inl (by simp[AW])⟩
    | refine ⟨by rfl,?_⟩
      exact ⟨[some 0],rfl,by simp,by simp[HW,BW,SW,AW],.inl (by simp[AW,SW])⟩
   rw[if_neg h4] at tl ek;rw[tl,ek];generalize pk t (k+1+1+1) 3=z at *;simp(disch:=(try simp only[Ab]);omega)only[↓Aa,Ac,↓reduceIte,Qu];exact ⟨[some 0],rfl,by simp,by simp[HW,BW,SW,AW],.inl (by simp[AW])⟩
  have c3:Gt (r1.getD 0 0)=false:=by unfold Gt;rw[decide_eq_false c1,decide_eq_false c2];rfl
  have hr:48::r1=Kv t k:=by rw[e2,c3,if_neg Bool.false_ne_true]
  have tl:=tail (48::r1) hr;have lr:(48::r1).length<=4:=by rw[hr];exact l2.2
  simp(disch:=(try simp only[Ab]);omega)only[Af,↓Aa,Ac,↓reduceIte,Qu,QF];refine Ad.by (pick_spec t (k+1+1+1) 3 ht (by decide) (by decide)) (by rfl) (by rfl) (Ada _) ?_;by_cases h4:pk t (k+1+1+1) 3=0
  ·rw[if_pos h4] at tl ek;rw[h4,tl,ek];obtain ⟨d,hd,hd2⟩:=pk_nat t (k+1+1+1+1) 6 (by decide);have gs2:=strs_getD (l:=Dy) (i:=d) (by omega);have lg2:=Cq (l:=Dy) (m:=9) (by decide) d;rw[hd,Adj];generalize hX:48::r1=X at *;simp(disch:=(try simp only[Ab]);omega)only[Bt,strs_unf,↓Aa,Ac,↓reduceIte,Qu,Qz];refine Ad.by (pick_spec t (k+1+1+1+1) 6 ht (by decide) (by decide)) (by rfl) (by rfl) (Ada _) ?_;rw[hd];simp(disch:=(try simp only[Ab]);omega)only[Af,gs2,lf,lf',↓Aa,Ac,↓reduceIte,Qu];first
   | exact ⟨[some 0],rfl,by simp,by simp[HW,BW,SW,AW],.inl (by simp[AW])⟩
   | refine ⟨by rfl,?_⟩
     exact ⟨[some 0],rfl,by simp,by simp[HW,BW,SW,AW],.inl (by simp[AW,SW])⟩
  rw[if_neg h4] at tl ek;rw[tl,ek];generalize pk t (k+1+1+1) 3=z at *;simp(disch:=(try simp only[Ab]);omega)only[↓Aa,Ac,↓reduceIte,Qu];exact ⟨[some 0],rfl,by simp,by simp[HW,BW,SW,AW],.inl (by simp[AW])⟩
 rw[if_neg h3] at e2;generalize pk t (k+1+1) 3=z3 at *;have hr:r1=Kv t k:=e2.symm;have tl:=tail (r1) hr;have lr:(r1).length<=4:=by rw[hr];exact l2.2
 simp(disch:=(try simp only[Ab]);omega)only[↓Aa,Ac,↓reduceIte,Qu];refine Ad.by (pick_spec t (k+1+1+1) 3 ht (by decide) (by decide)) (by rfl) (by rfl) (Ada _) ?_;by_cases h4:pk t (k+1+1+1) 3=0
 ·rw[if_pos h4] at tl ek;rw[h4,tl,ek];obtain ⟨d,hd,hd2⟩:=pk_nat t (k+1+1+1+1) 6 (by decide);have gs2:=strs_getD (l:=Dy) (i:=d) (by omega);have lg2:=Cq (l:=Dy) (m:=9) (by decide) d;rw[hd,Adj];simp(disch:=(try simp only[Ab]);omega)only[Bt,strs_unf,↓Aa,Ac,↓reduceIte,Qu,Qz];refine Ad.by (pick_spec t (k+1+1+1+1) 6 ht (by decide) (by decide)) (by rfl) (by rfl) (Ada _) ?_;rw[hd];simp(disch:=(try simp only[Ab]);omega)only[Af,gs2,lf,lf',↓Aa,Ac,↓reduceIte,Qu];first
  | exact ⟨[some 0],rfl,by simp,by simp[HW,BW,SW,AW],.inl (by simp[AW])⟩
  | refine ⟨by rfl,?_⟩
    exact ⟨[some 0],rfl,by simp,by simp[HW,BW,SW,AW],.inl (by simp[AW,SW])⟩
 rw[if_neg h4] at tl ek;rw[tl,ek];generalize pk t (k+1+1+1) 3=z at *;simp(disch:=(try simp only[Ab]);omega)only[↓Aa,Ac,↓reduceIte,Qu];exact ⟨[some 0],rfl,by simp,by simp[HW,BW,SW,AW],.inl (by simp[AW])⟩
def Eu:List (List UInt8):=[[50,48,50,52],[49,57,57,57],[50,48,50,54],[49,57,48,48],[48,48,48,49],[57,57,57,57]]
def Dr:List (List UInt8):=[[48,49],[48,50],[49,50],[49,49],[49,51]]
def GU:List (List UInt8):=[[48,49],[50,56],[50,57],[51,48],[51,49]]
def Mj (t:List Int) (k:Nat):List UInt8 :=
 let y:=Eu.getD (pk t k 6).toNat []
 let m:=Dr.getD (pk t (k+1) 5).toNat []
 let e:=GU.getD (pk t (k+2) 5).toNat []
 if pk t (k+3) 3=0 then y++[45]++m++[45]++e else if pk t (k+3) 3=1 then y++[47]++m++[47]++e else e++[46]++m++[46]++y
def I0:[D.str (bs [50,48,50,52]),D.str (bs [49,57,57,57]),D.str (bs [50,48,50,54]),D.str (bs [49,57,48,48]),D.str (bs [48,48,48,49]),D.str (bs [57,57,57,57])]=strs Eu:=rfl
def G5:[D.str (bs [48,49]),D.str (bs [48,50]),D.str (bs [49,50]),D.str (bs [49,49]),D.str (bs [49,51])]=strs Dr:=rfl
def Kr:[D.str (bs [48,49]),D.str (bs [50,56]),D.str (bs [50,57]),D.str (bs [51,48]),D.str (bs [51,49])]=strs GU:=rfl
def Yq (t:List Int) (k:Nat) (ht:OkM t):Ctr TP G 53 [.ptr 0 0] [DiceM t k] (.d (S (Mj t k))) [DiceM t (k+4)]:=by
 obtain ⟨r,hr⟩:∃ r,r=Mj t k:=⟨_,rfl⟩;rw[<-hr];unfold Mj at hr;refine Ctr.body (M:=M0) Am Tryz.func53 rfl go53 ?_;obtain ⟨a,ha,ha2⟩:=pk_nat t k 6 (by decide);obtain ⟨b,hb,hb2⟩:=pk_nat t (k+1) 5 (by decide);obtain ⟨c,hc,hc2⟩:=pk_nat t (k+2) 5 (by decide);obtain ⟨e,he,he2⟩:=pk_nat t (k+3) 3 (by decide);rw[ha,hb,hc,he] at hr;simp only[Adj] at hr;have l1:=@strs_length Eu;have l2:=@strs_length Dr;have l3:=@strs_length GU;have n1:Eu.length=6:=rfl;have n2:Dr.length=5:=rfl;have n3:GU.length=5:=rfl;have g1:=strs_getD (l:=Eu) (i:=a) (by omega);have g2:=strs_getD (l:=Dr) (i:=b) (by omega);have g3:=strs_getD (l:=GU) (i:=c) (by omega);have s1:=Cq (l:=Eu) (m:=4) (by decide) a;have s2:=Cq (l:=Dr) (m:=2) (by decide) b;have s3:=Cq (l:=GU) (m:=2) (by decide) c;generalize Eu.getD a []=y at *;generalize Dr.getD b []=m at *;generalize GU.getD c []=dd at *;simp(disch:=(try simp only[Ab]);omega)only[I0,strs_unf,Tryz.f53,↓Aa,Ac,↓reduceIte,Qu,Qv,Qz];refine Ad.by (pick_spec t k 6 ht (by decide) (by decide)) (by rfl) (by rfl) (Ada _) ?_;rw[ha];simp(disch:=(try simp only[Ab]);omega)only[G5,strs_unf,l1,n1,g1,↓Aa,Ac,↓reduceIte,Qu,Qz];refine Ad.by (pick_spec t (k+1) 5 ht (by decide) (by decide)) (by rfl) (by rfl) (Ada _) ?_;rw[hb];simp(disch:=(try simp only[Ab]);omega)only[Kr,strs_unf,l2,n2,g2,↓Aa,Ac,↓reduceIte,Qu,Qz];refine Ad.by (pick_spec t (k+1+1) 5 ht (by decide) (by decide)) (by rfl) (by rfl) (Ada _) ?_;rw[hc];simp(disch:=(try simp only[Ab]);omega)only[l3,n3,g3,↓Aa,Ac,↓reduceIte,Qu];refine Ad.by (pick_spec t (k+1+1+1) 3 ht (by decide) (by decide)) (by rfl) (by rfl) (Ada _) ?_;rw[he];rcases (by omega:e=0\/e=1\/e=2) with rfl | rfl | rfl
 all_goals
  simp(disch:=(try simp only[Ab]);omega)only[Af,↓Aa,Ac,↓reduceIte,Qu];rw[hr];exact ⟨[some 0],rfl,by simp,by simp[HW,BW,SW,AW],.inl (by simp[AW])⟩
def IE:List (List UInt8):=[[121,101,115],[110,111],[84,82,85,69],[70,97,108,115,101],[32,121,101,115,32]]
def PC:[D.str (bs [121,101,115]),D.str (bs [110,111]),D.str (bs [84,82,85,69]),D.str (bs [70,97,108,115,101]),D.str (bs [32,121,101,115,32])]=strs IE:=rfl
def Gq:List (List UInt8):=[[32,107,103],[103],[32,107,109],[109],[32,109,105,110],[37],[32,109,109]]
def Lg:[D.str (bs [32,107,103]),D.str (bs [103]),D.str (bs [32,107,109]),D.str (bs [109]),D.str (bs [32,109,105,110]),D.str (bs [37]),D.str (bs [32,109,109])]=strs Gq:=rfl
def Im:List (List UInt8):=[[],[32],[78,65],[45],[110,111,110,101],[63],[110,117,108,108]]
def PA:[D.str (bs []),D.str (bs [32]),D.str (bs [78,65]),D.str (bs [45]),D.str (bs [110,111,110,101]),D.str (bs [63]),D.str (bs [110,117,108,108])]=strs Im:=rfl
def Md:List (List UInt8):=[[97,44,98],[34,113,34],[39],[120,59,121],[108,10,105],[99,13,114],[32,112,97,100,32],[9],[124],[],[195,169],[123],[97,34,98],[13,10]]
def Tw:[D.str (bs [97,44,98]),D.str (bs [34,113,34]),D.str (bs [39]),D.str (bs [120,59,121]),D.str (bs [108,10,105]),D.str (bs [99,13,114]),D.str (bs [32,112,97,100,32]),D.str (bs [9]),D.str (bs [124]),D.str (bs []),D.str (bs [195,169]),D.str (bs [123]),D.str (bs [97,34,98]),D.str (bs [13,10])]=strs Md:=rfl
def FK (t:List Int) (k c:Nat):List UInt8 :=
 if c=0 then wordsL.getD (pk t k 16).toNat [] else if c=1 then JH t k else if c=2 then Mj t k else if c=3 then IE.getD (pk t k 5).toNat [] else
  if c=4 then JH t k++Gq.getD (pk t (O9 t k) 7).toNat [] else if c=5 then Im.getD (pk t k 7).toNat [] else Md.getD (pk t k 14).toNat []
def fieldK (t:List Int) (k c:Nat):Nat:=if c=1 then O9 t k else if c=2 then k+4 else if c=4 then O9 t k+1 else k+1
def Mg (t:List Int) (k c:Nat) (ht:OkM t) (hc:c<=100):Ctr TP G 27 [.ptr 0 0,.d (.int .i64 c)] [DiceM t k] (.d (S (FK t k c))) [DiceM t (fieldK t k c)]:=by
 obtain ⟨r,hr⟩:∃ r,r=FK t k c:=⟨_,rfl⟩;obtain ⟨k2,hk⟩:∃ k2,k2=fieldK t k c:=⟨_,rfl⟩;rw[<-hr,<-hk];unfold FK at hr;unfold fieldK at hk;refine Ctr.body (M:=M0) Am Tryz.func27 rfl go27 ?_;rcases (by omega:c=0\/c=1\/c=2\/c=3\/c=4\/c=5\/5<c) with rfl | rfl | rfl | rfl | rfl | rfl | h
 ·simp only[if_true,if_false,show ¬(0=1) by decide,show ¬(0=2) by decide,show ¬(0=4) by decide] at hr hk;subst hk;obtain ⟨a,ha,ha2⟩:=pk_nat t k 16 (by decide);rw[ha] at hr;simp only[Adj] at hr;have l1:=@strs_length wordsL;have n1:wordsL.length=16:=rfl;have g1:=strs_getD (l:=wordsL) (i:=a) (by omega);generalize wordsL.getD a []=y at *;simp only[Tryz.f27,↓Aa,Ac,↓reduceIte,Qu,Qv];refine Ad.of words_spec (by rfl) ?_;simp only[↓Aa,Ac,↓reduceIte];refine Ad.of words_spec (by rfl) ?_;simp only[n1,↓Aa,Ac,↓reduceIte];refine Ad.by (pick_spec t k 16 ht (by decide) (by decide)) (by rfl) (by rfl) (Ada _) ?_;rw[ha];simp(disch:=(try simp only[Ab]);omega)only[l1,n1,g1,↓Aa,Ac,↓reduceIte];rw[hr];exact ⟨[some 0],rfl,by simp,by simp[HW,BW,SW,AW],.inl (by simp[AW])⟩
 ·simp only[if_true,if_false,show ¬(1=0) by decide] at hr hk;subst hk hr;simp(disch:=(try simp only[Ab]);omega)only[Tryz.f27,↓Aa,Ac,↓reduceIte,Qu,Qv];refine Ad.by (Ij t k ht) (by rfl) (by rfl) (Ada _) ?_;simp(disch:=(try simp only[Ab]);omega)only[↓Aa,Ac,↓reduceIte];exact ⟨[some 0],rfl,by simp,by simp[HW,BW,SW,AW],.inl (by simp[AW])⟩
 ·simp only[if_true,if_false,show ¬(2=0) by decide,show ¬(2=1) by decide] at hr hk;subst hk hr;simp(disch:=(try simp only[Ab]);omega)only[Tryz.f27,↓Aa,Ac,↓reduceIte,Qu,Qv];refine Ad.by (Yq t k ht) (by rfl) (by rfl) (Ada _) ?_;simp(disch:=(try simp only[Ab]);omega)only[↓Aa,Ac,↓reduceIte];exact ⟨[some 0],rfl,by simp,by simp[HW,BW,SW,AW],.inl (by simp[AW])⟩
 ·simp only[if_true,if_false,show ¬(3=0) by decide,show ¬(3=1) by decide,show ¬(3=2) by decide,show ¬(3=4) by decide] at hr hk;subst hk;obtain ⟨a,ha,ha2⟩:=pk_nat t k 5 (by decide);rw[ha] at hr;simp only[Adj] at hr;have l1:=@strs_length IE;have n1:IE.length=5:=rfl;have g1:=strs_getD (l:=IE) (i:=a) (by omega);generalize IE.getD a []=y at *;simp(disch:=(try simp only[Ab]);omega)only[PC,strs_unf,Tryz.f27,↓Aa,Ac,↓reduceIte,Qu,Qv,Qz];refine Ad.by (pick_spec t k 5 ht (by decide) (by decide)) (by rfl) (by rfl) (Ada _) ?_;rw[ha];simp(disch:=(try simp only[Ab]);omega)only[l1,n1,g1,↓Aa,Ac,↓reduceIte,Qu];rw[hr];exact ⟨[some 0],rfl,by simp,by simp[HW,BW,SW,AW],.inl (by simp[AW])⟩
 ·simp only[if_true,if_false,show ¬(4=0) by decide,show ¬(4=1) by decide,show ¬(4=2) by decide,show ¬(4=3) by decide] at hr hk;have nl:=(Ik t k).2;obtain ⟨a,ha,ha2⟩:=pk_nat t (O9 t k) 7 (by decide);rw[ha] at hr;simp only[Adj] at hr;have l1:=@strs_length Gq;have n1:Gq.length=7:=rfl;have g1:=strs_getD (l:=Gq) (i:=a) (by omega);have s1:=Cq (l:=Gq) (m:=4) (by decide) a;generalize Gq.getD a []=y at *;simp(disch:=(try simp only[Ab]);omega)only[Tryz.f27,↓Aa,Ac,↓reduceIte,Qu,Qv];refine Ad.by (Ij t k ht) (by rfl) (by rfl) (Ada _) ?_;generalize O9 t k=kk at *;generalize JH t k=nn at *;subst hk;simp(disch:=(try simp only[Ab]);omega)only[Lg,strs_unf,↓Aa,Ac,↓reduceIte,Qu,Qz];refine Ad.by (pick_spec t kk 7 ht (by decide) (by decide)) (by rfl) (by rfl) (Ada _) ?_;rw[ha];simp(disch:=(try simp only[Ab]);omega)only[Af,l1,n1,g1,↓Aa,Ac,↓reduceIte,Qu];rw[hr];first | exact ⟨[some 0],rfl,by simp,by simp[HW,BW,SW,AW],.inl (by simp[AW])⟩ | (refine ⟨by rfl,?_⟩;exact ⟨[some 0],rfl,by simp,by simp[HW,BW,SW,AW],.inl (by simp[AW,SW])⟩)
 ·simp only[if_true,if_false,show ¬(5=0) by decide,show ¬(5=1) by decide,show ¬(5=2) by decide,show ¬(5=3) by decide,show ¬(5=4) by decide] at hr hk;subst hk;obtain ⟨a,ha,ha2⟩:=pk_nat t k 7 (by decide);rw[ha] at hr;simp only[Adj] at hr;have l1:=@strs_length Im;have n1:Im.length=7:=rfl;have g1:=strs_getD (l:=Im) (i:=a) (by omega);generalize Im.getD a []=y at *;simp(disch:=(try simp only[Ab]);omega)only[PA,strs_unf,Tryz.f27,↓Aa,Ac,↓reduceIte,Qu,Qv,Qz];refine Ad.by (pick_spec t k 7 ht (by decide) (by decide)) (by rfl) (by rfl) (Ada _) ?_;rw[ha];simp(disch:=(try simp only[Ab]);omega)only[l1,n1,g1,↓Aa,Ac,↓reduceIte,Qu];rw[hr];exact ⟨[some 0],rfl,by simp,by simp[HW,BW,SW,AW],.inl (by simp[AW])⟩
 simp only[if_false,show ¬c=0 by omega,show ¬c=1 by omega,show ¬c=2 by omega,show ¬c=3 by omega,show ¬c=4 by omega,show ¬c=5 by omega] at hr hk;subst hk;obtain ⟨a,ha,ha2⟩:=pk_nat t k 14 (by decide);rw[ha] at hr;simp only[Adj] at hr;have l1:=@strs_length Md;have n1:Md.length=14:=rfl;have g1:=strs_getD (l:=Md) (i:=a) (by omega);generalize Md.getD a []=y at *;simp(disch:=(try simp only[Ab]);omega)only[Tw,strs_unf,Tryz.f27,↓Aa,Ac,↓reduceIte,Qu,Qv,Qz];refine Ad.by (pick_spec t k 14 ht (by decide) (by decide)) (by rfl) (by rfl) (Ada _) ?_;rw[ha];simp(disch:=(try simp only[Ab]);omega)only[l1,n1,g1,↓Aa,Ac,↓reduceIte,Qu];rw[hr];exact ⟨[some 0],rfl,by simp,by simp[HW,BW,SW,AW],.inl (by simp[AW])⟩
end
section
open Go Go.Proofs Go.Abs Go.RowKit Go.Shelf
variable {G:Ah}
end
section
open Go Go.Proofs Go.Abs
variable {G:Ah}
def MY:Ci:=fun k=>k == 3000000
def MY_n {k:Nat} (h:k<3000000):MY k=false:=by simp only[MY,beq_eq_false_iff_ne];exact Nat.ne_of_lt h
def Tdo_cons {x:D} {r:List D} {t:List (D × Bool)} (h:Tdo (x::r) t):(∃ t',t=(x,true)::t'/\Tdo r t')\/t=[(x,false)]:=by
 match t,h with
 | (z,true)::t,h=>exact .inl ⟨t,by rw[h.1],h.2⟩
 | (z,false)::t,h=>exact .inr (by rw[h.1,h.2])
def Tdo_nil {t:List (D × Bool)} (h:Tdo [] t):t=[]:=by
 match t,h with
 | [],_=>rfl
def strs_get {l:List (List UInt8)} {i:Nat} {x:D} (h:(strs l)[i]?=some x):∃ y,l[i]?=some y/\x=S y:=by
 simp only[strs,Ae8] at h;cases e:l[i]? with
 | none=>simp[e] at h
 | some y=>simp[e] at h;exact ⟨y,rfl,h.symm⟩
def take_snoc {s:List UInt8} {a i:Nat} (h1:a<=i) (h2:i<s.length):(s.take (i+1)).drop a=(s.take i).drop a++[s.getD i 0]:=by rw[Afm,List.drop_append_of_le_length (by simp;omega),Ac7 h2,AaZ,Ac7 h2];rfl
def MSt:Ci:=fun k=>k == 208
def MSt_n {k:Nat} (h:2000000<=k):MSt k=false:=by simp only[MSt,beq_eq_false_iff_ne];exact Nat.ne_of_gt (AfB (by decide) h)
def trimR_snoc (c:UInt8) (q:List UInt8):Lib.trimRightB (q++[c]) c=Lib.trimRightB q c:=by simp[Lib.trimRightB]
end
section
open Go Go.Proofs Go.Abs
end
section
open Go Go.Proofs Go.Abs
variable {G:Ah}
def mem_take_succ {l:List (List UInt8)} {i:Nat} {s:List UInt8} (h:i<l.length):s∈l.take (i+1)↔s∈l.take i\/l.getD i []=s:=by rw[Afm,Ac7 h,AaZ,Ac7 h];simp only[Option.toList_some,Af5,List.mem_singleton,Afc];exact or_congr_right eq_comm
def has_spec (l:List (List UInt8)) (full:Bool) (s:List UInt8) (hl:l.length<=1000000):Ctr TP G 37 [.d (Ss l full),.d (S s)] [] (.d (.bool (decide (s∈l)))) []:=by
 refine Ctr.pure (M:=M0) Am Tryz.func37 rfl go37 ?_;simp only[Tryz.f37,↓Aa,Ac,Qu,Qv];refine Ak.fr 386 (α:=Nat) (fun i=>l.length-i) (fun i=>[(9,.d (.int .i64 i))]) (fun _=>[]) (fun i=>i<=l.length/\s∉l.take i) 0 ⟨AfF _,by simp⟩ ?_ ?_;·exact ⟨[],rfl,by simp,by simp[sA,kZ,SW,AW],by simp[HW]⟩
 rintro i ⟨h1,h2⟩;have sl:=@strs_length l;simp only[Bi,Adn,Ado];rcases AeK i l.length with h | h
 ·have g1:=strs_getD h;have hm:=@mem_take_succ l i s h;by_cases he:l.getD i []=s
  ·have hin:s∈l:=AfO (hm.2 (.inr he));rw[decide_eq_true hin];rw[he] at g1;simp(disch:=(try simp only[Ab]);omega)only[Af,sl,g1,beq_self_eq_true,↓Aa,Ac,↓reduceIte,↓Qe];try rfl
  have hne:(l.getD i [] == s)=false:=by simpa using he
  simp(disch:=(try simp only[Ab]);omega)only[Af,sl,g1,hne,↓Aa,Ac,↓reduceIte];exact ⟨i+1,⟨h,fun q=>(hm.1 q).elim h2 he⟩,by simp only;omega,⟨[],rfl,by simp,by simp[SW,AW],by simp[HW]⟩⟩
 obtain rfl:i=l.length:=by omega
 rw[List.take_length] at h2;rw[decide_eq_false h2];simp(disch:=(try simp only[Ab]);omega)only[↓Aa,Ac,↓Qe];try rfl
end
section
open Go Go.Proofs Go.Abs Go.RowKit Go.Shelf
variable {G:Ah}
end
section
open Go Go.Proofs Go.Abs
variable {G:Ah}
def HI (G:Ah):Prop:=∀ n:Nat,n<=1048576->Ctr TP G 51 [.d (.int .i64 n)] [] (.d (S (Lib.decDigits n))) []
end
section
open Go Go.Proofs Go.Abs Go.RowKit Go.Shelf
variable {G:Ah}
end
section
open Go Go.Proofs Go.Abs
variable {G:Ah}
def prD (k:Nat):List UInt8:=[UInt8.ofNat (48+k / 10),UInt8.ofNat (48+k % 10)]
def dd2 {n:Nat} (h:100<=n):Lib.decDigits n=Lib.decDigits (n / 100)++prD (n % 100):=by rw[Lib.decDigits,dif_neg (by omega),Lib.decDigits,dif_neg (by omega),Afn,AfE,prD];rw[show n / 10 % 10=n % 100 / 10 by omega,show n % 100 % 10=n % 10 by omega];rfl
def Aar {n:Nat} (h:n<10):Lib.decDigits n=[UInt8.ofNat (48+n)]:=Lib.decDigits_one h
def Aaq {n:Nat} (h1:10<=n) (h:n<100):Lib.decDigits n=prD n:=Lib.decDigits_two (by omega) h
def dd3 {n:Nat} (h1:100<=n) (h:n<1000):Lib.decDigits n=[UInt8.ofNat (48+n / 100)]++prD (n % 100):=by rw[dd2 h1,Aar (by omega)]
def dd4 {n:Nat} (h1:1000<=n) (h:n<10000):Lib.decDigits n=prD (n / 100)++prD (n % 100):=by rw[dd2 (by omega),Aaq (by omega) (by omega)]
def dd5 {n:Nat} (h1:10000<=n) (h:n<100000):Lib.decDigits n=[UInt8.ofNat (48+n / 10000)]++prD (n % 10000 / 100)++prD (n % 10000 % 100):=by rw[dd2 (by omega),dd3 (by omega) (by omega),Afn,show n / 100 % 100=n % 10000 / 100 by omega,show n % 10000 % 100=n % 100 by omega]
def dd6 {n:Nat} (h1:100000<=n) (h:n<1000000):Lib.decDigits n=prD (n / 10000)++prD (n % 10000 / 100)++prD (n % 10000 % 100):=by rw[dd2 (by omega),dd4 (by omega) (by omega),Afn,show n / 100 % 100=n % 10000 / 100 by omega,show n % 10000 % 100=n % 100 by omega]
def dd7 {n:Nat} (h1:1000000<=n) (h:n<10000000):Lib.decDigits n=[UInt8.ofNat (48+n / 10000 / 100)]++prD (n / 10000 % 100)++prD (n % 10000 / 100)++prD (n % 10000 % 100):=by rw[dd2 (by omega),dd5 (by omega) (by omega),show n % 10000 % 100=n % 100 by omega,show n / 100 / 10000=n / 10000 / 100 by omega,show n / 100 % 10000 / 100=n / 10000 % 100 by omega,show n / 100 % 10000 % 100=n % 10000 / 100 by omega]
def Ab6 {k:Nat} (h:k<100):(EJ.getD (k*2) 0).toNat=48+k / 10/\(EJ.getD (k*2+1) 0).toNat=48+k % 10:=by
 have:∀ k:Fin 100,(EJ.getD (k.val*2) 0).toNat=48+k.val / 10/\(EJ.getD (k.val*2+1) 0).toNat=48+k.val % 10:=by decide +kernel
 exact this ⟨k,h⟩
def Tg (a:Nat):(a:Int).tdiv 100=((a / 100:Nat):Int):=(Af9 a 100).symm
def Tf (a:Nat):(a:Int).tmod 100=((a % 100:Nat):Int):=(Aga a 100).symm
def Ki (a:Nat):(a:Int).tdiv 10000=((a / 10000:Nat):Int):=(Af9 a 10000).symm
def Kh (a:Nat):(a:Int).tmod 10000=((a % 10000:Nat):Int):=(Aga a 10000).symm
def tn2 (k:Nat):((k:Int)*2).toNat=k*2:=by omega
def tn3 (k:Nat):((k:Int)*2+1).toNat=k*2+1:=by omega
def smA {k:Nat} (h:k<100):(EJ.getD (k*2) 0).toNat=48+k / 10:=(Ab6 h).1
def smB {k:Nat} (h:k<100):(EJ.getD (k*2+1) 0).toNat=48+k % 10:=(Ab6 h).2
def Aaj (n:Nat) (h1:100<=n) (h:n<1000):Ctr TP G 162 [.lsl 0 1 1 3,.d (.int .u64 n)] [.row false (AF .u8 (Aa0 24 0))] .undef
  [.row false (AF .u8 ([0,((48+n / 100:Nat):Int),((48+n % 100 / 10:Nat):Int),((48+n % 100 % 10:Nat):Int)]++Aa0 20 0))]:=by
 refine Ctr.body (M:=M0) Am Tryz.func162 rfl Ui ?_;simp only[Tryz.f162,↓Aa,Ac,Qu,Qv];refine Ak.fx 1 (α:=Unit) (β:=Unit) (fun _=>0) (fun _=>[(1,.d (.int .u64 n)),(4,.d (.int .i64 3))]) (fun _=>[.row false (AF .u8 (Aa0 24 0))]) (fun _=>True) 1 (fun _=>[(1,.d (.int .u64 n)),(4,.d (.int .i64 3))]) (fun _=>[.row false (AF .u8 (Aa0 24 0))]) (fun _=>True) () trivial ?_ ?_ ?_;·exact ⟨[some 0],rfl,by simp,by simp[sA,kZ,SW,AW],by simp[HW,BW]⟩
 ·rintro ⟨⟩ -;simp only[Bi,Adn,Ado];simp(disch:=(try simp only[Ab]);omega)only[↓Aa,Ac];exact ⟨(),trivial,⟨[some 0],rfl,by simp,by simp[SW,AW],by simp[HW,BW]⟩⟩
 rintro ⟨⟩ -;simp only[Bi,Adn,Ado];simp(disch:=(try simp only[Ab]);omega)only[Af,Fu,D2,Tg,Tf,tn2,tn3,smA,smB,↓Aa,Ac,↓reduceIte,Qu,QB,QF];first | (exact ⟨[some 0],rfl,by simp,by simp[HW,BW,SW,AW],.inl (by simp[AW,SW])⟩) | (refine ⟨by rfl,?_⟩;exact ⟨[some 0],rfl,by simp,by simp[HW,BW],.inl (by simp[AW])⟩) | (refine ⟨by rfl,by rfl,?_⟩;exact ⟨[some 0],rfl,by simp,by simp[HW,BW,SW,AW],.inl (by simp[AW,SW])⟩) | (refine ⟨by rfl,by rfl,by rfl,?_⟩;exact ⟨[some 0],rfl,by simp,by simp[HW,BW,SW,AW],.inl (by simp[AW,SW])⟩)
def Aai (n:Nat) (h1:1000<=n) (h:n<10000):Ctr TP G 162 [.lsl 0 1 1 4,.d (.int .u64 n)] [.row false (AF .u8 (Aa0 24 0))] .undef
  [.row false (AF .u8 ([0,((48+n % 10000 / 100 / 10:Nat):Int),((48+n % 10000 / 100 % 10:Nat):Int),((48+n % 10000 % 100 / 10:Nat):Int),((48+n % 10000 % 100 % 10:Nat):Int)]++Aa0 19 0))]:=by
 refine Ctr.body (M:=M0) Am Tryz.func162 rfl Ui ?_;simp only[Tryz.f162,↓Aa,Ac,Qu,Qv];refine Ak.fx 1 (α:=Unit) (β:=Unit) (fun _=>0) (fun _=>[(1,.d (.int .u64 n)),(4,.d (.int .i64 4))]) (fun _=>[.row false (AF .u8 (Aa0 24 0))]) (fun _=>True) 1 (fun _=>[(1,.d (.int .u64 n)),(4,.d (.int .i64 4))]) (fun _=>[.row false (AF .u8 (Aa0 24 0))]) (fun _=>True) () trivial ?_ ?_ ?_;·exact ⟨[some 0],rfl,by simp,by simp[sA,kZ,SW,AW],by simp[HW,BW]⟩
 ·rintro ⟨⟩ -;simp only[Bi,Adn,Ado];simp(disch:=(try simp only[Ab]);omega)only[↓Aa,Ac];exact ⟨(),trivial,⟨[some 0],rfl,by simp,by simp[SW,AW],by simp[HW,BW]⟩⟩
 rintro ⟨⟩ -;simp only[Bi,Adn,Ado];simp(disch:=(try simp only[Ab]);omega)only[Af,Fu,D2,Tg,Tf,Ki,Kh,tn2,tn3,smA,smB,↓Aa,Ac,↓reduceIte,Qu,QB,QF];first | (exact ⟨[some 0],rfl,by simp,by simp[HW,BW,SW,AW],.inl (by simp[AW,SW])⟩) | (refine ⟨by rfl,?_⟩;exact ⟨[some 0],rfl,by simp,by simp[HW,BW,SW,AW],.inl (by simp[AW,SW])⟩) | (refine ⟨by rfl,by rfl,?_⟩;exact ⟨[some 0],rfl,by simp,by simp[HW,BW],.inl (by simp[AW])⟩) | (refine ⟨by rfl,by rfl,by rfl,?_⟩;exact ⟨[some 0],rfl,by simp,by simp[HW,BW,SW,AW],.inl (by simp[AW,SW])⟩)
def Aah (n:Nat) (h1:10000<=n) (h:n<100000):Ctr TP G 162 [.lsl 0 1 1 5,.d (.int .u64 n)] [.row false (AF .u8 (Aa0 24 0))] .undef
  [.row false (AF .u8 ([0,((48+n / 10000:Nat):Int),((48+n % 10000 / 100 / 10:Nat):Int),((48+n % 10000 / 100 % 10:Nat):Int),((48+n % 10000 % 100 / 10:Nat):Int),((48+n % 10000 % 100 % 10:Nat):Int)]++Aa0 18 0))]:=by
 refine Ctr.body (M:=M0) Am Tryz.func162 rfl Ui ?_;simp only[Tryz.f162,↓Aa,Ac,Qu,Qv];refine Ak.fx 1 (α:=Unit) (β:=Unit) (fun _=>0) (fun _=>[(1,.d (.int .u64 n)),(4,.d (.int .i64 5))]) (fun _=>[.row false (AF .u8 (Aa0 24 0))]) (fun _=>True) 1 (fun _=>[(1,.d (.int .u64 n)),(4,.d (.int .i64 5))]) (fun _=>[.row false (AF .u8 (Aa0 24 0))]) (fun _=>True) () trivial ?_ ?_ ?_;·exact ⟨[some 0],rfl,by simp,by simp[sA,kZ,SW,AW],by simp[HW,BW]⟩
 ·rintro ⟨⟩ -;simp only[Bi,Adn,Ado];simp(disch:=(try simp only[Ab]);omega)only[↓Aa,Ac];exact ⟨(),trivial,⟨[some 0],rfl,by simp,by simp[SW,AW],by simp[HW,BW]⟩⟩
 rintro ⟨⟩ -;simp only[Bi,Adn,Ado];simp(disch:=(try simp only[Ab]);omega)only[Af,Fu,D2,Tg,Tf,Ki,Kh,tn2,tn3,smA,smB,↓Aa,Ac,↓reduceIte,Qu,QB,QF];first | (exact ⟨[some 0],rfl,by simp,by simp[HW,BW,SW,AW],.inl (by simp[AW,SW])⟩) | (refine ⟨by rfl,?_⟩;exact ⟨[some 0],rfl,by simp,by simp[HW,BW,SW,AW],.inl (by simp[AW,SW])⟩) | (refine ⟨by rfl,by rfl,?_⟩;exact ⟨[some 0],rfl,by simp,by simp[HW,BW],.inl (by simp[AW])⟩) | (refine ⟨by rfl,by rfl,by rfl,?_⟩;exact ⟨[some 0],rfl,by simp,by simp[HW,BW,SW,AW],.inl (by simp[AW,SW])⟩)
def Aag (n:Nat) (h1:100000<=n) (h:n<1000000):Ctr TP G 162 [.lsl 0 1 1 6,.d (.int .u64 n)] [.row false (AF .u8 (Aa0 24 0))] .undef
  [.row false (AF .u8 ([0,((48+n / 10000 % 100 / 10:Nat):Int),((48+n / 10000 % 100 % 10:Nat):Int),((48+n % 10000 / 100 / 10:Nat):Int),((48+n % 10000 / 100 % 10:Nat):Int),((48+n % 10000 % 100 / 10:Nat):Int),((48+n % 10000 % 100 % 10:Nat):Int)]++Aa0 17 0))]:=by
 refine Ctr.body (M:=M0) Am Tryz.func162 rfl Ui ?_;simp only[Tryz.f162,↓Aa,Ac,Qu,Qv];refine Ak.fx 1 (α:=Unit) (β:=Unit) (fun _=>0) (fun _=>[(1,.d (.int .u64 n)),(4,.d (.int .i64 6))]) (fun _=>[.row false (AF .u8 (Aa0 24 0))]) (fun _=>True) 1 (fun _=>[(1,.d (.int .u64 n)),(4,.d (.int .i64 6))]) (fun _=>[.row false (AF .u8 (Aa0 24 0))]) (fun _=>True) () trivial ?_ ?_ ?_;·exact ⟨[some 0],rfl,by simp,by simp[sA,kZ,SW,AW],by simp[HW,BW]⟩
 ·rintro ⟨⟩ -;simp only[Bi,Adn,Ado];simp(disch:=(try simp only[Ab]);omega)only[↓Aa,Ac];exact ⟨(),trivial,⟨[some 0],rfl,by simp,by simp[SW,AW],by simp[HW,BW]⟩⟩
 rintro ⟨⟩ -;simp only[Bi,Adn,Ado];simp(disch:=(try simp only[Ab]);omega)only[Af,Fu,D2,Tg,Tf,Ki,Kh,tn2,tn3,smA,smB,↓Aa,Ac,↓reduceIte,Qu,QB,QF];first | (exact ⟨[some 0],rfl,by simp,by simp[HW,BW,SW,AW],.inl (by simp[AW,SW])⟩) | (refine ⟨by rfl,?_⟩;exact ⟨[some 0],rfl,by simp,by simp[HW,BW,SW,AW],.inl (by simp[AW,SW])⟩) | (refine ⟨by rfl,by rfl,?_⟩;exact ⟨[some 0],rfl,by simp,by simp[HW,BW,SW,AW],.inl (by simp[AW,SW])⟩) | (refine ⟨by rfl,by rfl,by rfl,?_⟩;exact ⟨[some 0],rfl,by simp,by simp[HW,BW],.inl (by simp[AW])⟩)
def Aaf (n:Nat) (h1:1000000<=n) (h:n<10000000):Ctr TP G 162 [.lsl 0 1 1 7,.d (.int .u64 n)] [.row false (AF .u8 (Aa0 24 0))] .undef
  [.row false (AF .u8 ([0,((48+n / 10000 / 100:Nat):Int),((48+n / 10000 % 100 / 10:Nat):Int),((48+n / 10000 % 100 % 10:Nat):Int),((48+n % 10000 / 100 / 10:Nat):Int),((48+n % 10000 / 100 % 10:Nat):Int),((48+n % 10000 % 100 / 10:Nat):Int),((48+n % 10000 % 100 % 10:Nat):Int)]++Aa0 16 0))]:=by
 refine Ctr.body (M:=M0) Am Tryz.func162 rfl Ui ?_;simp only[Tryz.f162,↓Aa,Ac,Qu,Qv];refine Ak.fx 1 (α:=Unit) (β:=Unit) (fun _=>0) (fun _=>[(1,.d (.int .u64 n)),(4,.d (.int .i64 7))]) (fun _=>[.row false (AF .u8 (Aa0 24 0))]) (fun _=>True) 1 (fun _=>[(1,.d (.int .u64 n)),(4,.d (.int .i64 7))]) (fun _=>[.row false (AF .u8 (Aa0 24 0))]) (fun _=>True) () trivial ?_ ?_ ?_;·exact ⟨[some 0],rfl,by simp,by simp[sA,kZ,SW,AW],by simp[HW,BW]⟩
 ·rintro ⟨⟩ -;simp only[Bi,Adn,Ado];simp(disch:=(try simp only[Ab]);omega)only[↓Aa,Ac];exact ⟨(),trivial,⟨[some 0],rfl,by simp,by simp[SW,AW],by simp[HW,BW]⟩⟩
 rintro ⟨⟩ -;simp only[Bi,Adn,Ado];simp(disch:=(try simp only[Ab]);omega)only[Af,Fu,D2,Tg,Tf,Ki,Kh,tn2,tn3,smA,smB,↓Aa,Ac,↓reduceIte,Qu,QB,QF];first | (exact ⟨[some 0],rfl,by simp,by simp[HW,BW,SW,AW],.inl (by simp[AW,SW])⟩) | (refine ⟨by rfl,?_⟩;exact ⟨[some 0],rfl,by simp,by simp[HW,BW,SW,AW],.inl (by simp[AW,SW])⟩) | (refine ⟨by rfl,by rfl,?_⟩;exact ⟨[some 0],rfl,by simp,by simp[HW,BW,SW,AW],.inl (by simp[AW,SW])⟩) | (refine ⟨by rfl,by rfl,by rfl,?_⟩;exact ⟨[some 0],rfl,by simp,by simp[HW,BW],.inl (by simp[AW])⟩)
def HP (G:Ah):Prop:=G 3=some (AF .u64 Lib.pow10Tab)
def Tryz.laysLen64_ren:Go.Shelf.Ren:=⟨fun | 129=>191 | n=>n,fun | 53=>177 | 3=>3 | 4=>4 | 46=>155 | 5=>5 | 9=>9 | n=>n,fun | n=>n⟩
def Tryz.laysLen64:Go.Proofs.Lays.n129 TP Tryz.laysLen64_ren where
 mixed:=by kernel_rfl
 f129:=Tryz.func191.trans (congrArg some (by kernel_rfl))
 t3:=Tryz.underlying3
 a3:=Tryz.isAgg3
 z3:=Tryz.sizeOf3
 v3:=Tryz.zeroValue3
 t4:=Tryz.underlying4
 a4:=Tryz.isAgg4
 z4:=Tryz.sizeOf4
 v4:=Tryz.zeroValue4
 t5:=Tryz.underlying5
 a5:=Tryz.isAgg5
 z5:=Tryz.sizeOf5
 v5:=Tryz.zeroValue5
 t9:=Tryz.underlying9
 a9:=Tryz.isAgg9
 z9:=Tryz.sizeOf9
 v9:=Tryz.zeroValue9
 t46:=Tryz.underlying155
 a46:=Tryz.isAgg155
 z46:=Tryz.sizeOf155
 v46:=Tryz.zeroValue155
 t53:=Tryz.underlying177
 a53:=Tryz.isAgg177
 z53:=Tryz.sizeOf177
 v53:=Tryz.zeroValue177
def VI (n:Nat) (h:n<18446744073709551616):Ctr TP G 191 [.d (.int .u64 n)] [] (.d (.int .i64 (Lib.bitLen n))) []:=by refine Ctr.of_calls AdE fun h ρ w vs q r=>?_;obtain ⟨v,rfl,hv⟩:=r.inv1;rw[hv.int_inv];refine (Any.bits_Len64 Tryz.laysLen64 n w (by omega) (by omega)).mono ?_;rintro e w' ⟨rfl,rfl⟩;exact ⟨_,rfl,.int _ _,.refl _ _⟩
def VG (x:Nat) (h:x<=64):Ctr TP G 190 [.d (.int .i64 x)] [] (.d (.int .i64 (Lib.l10 x))) []:=by refine Ctr.pure (M:=M0) Am Tryz.func190 rfl AdF ?_;simp(disch:=(try simp only[Ab]);omega)only[Tryz.f190,↓Aa,Ac,↓Qe,Qv,QD,QF];unfold Lib.l10;omega
def V7 (b:Bool):Ctr TP G 192 [.d (.bool b)] [] (.d (.int .i64 (if b=true then 1 else 0))) []:=by
 refine Ctr.pure (M:=M0) Am Tryz.func192 rfl AdD ?_;cases b;·simp only[Tryz.f192,↓Aa,Ac,↓reduceIte,↓Qe,Qv];try rfl
 simp only[Tryz.f192,↓Aa,Ac,↓reduceIte,↓Qe,Qv];try rfl
def YD {n:Nat} (h2:n<10000000):Lib.bitLen n<=24:=Lib.bitLen_le n 24 (by decide) (by omega)
def N0 (hP:HP G) (n:Nat) (h1:1<=n) (h2:n<10000000):Ctr TP G 161 [.d (.int .u64 n)] [] (.d (.int .i64 (Lib.nDigits n))) []:=by
 refine Ctr.pure (M:=M0) Am Tryz.func161 rfl AdW ?_;have hP':G 3=some (AF .u64 Lib.pow10Tab):=hP;obtain ⟨e1,e2⟩:=Lib.numDigits_eq n h1 (by omega);have hb:=YD h2;have g0:=ints_getD (k:=.u64) (d:=.nilp) (l:=Lib.pow10Tab) (i:=Lib.l10 (Lib.bitLen n)) (by rw[Lib.pow10Tab_length];omega);rw[Lib.pow10Tab_at _ (by omega)] at g0;have pl:=@ints_length .u64 Lib.pow10Tab;rw[Lib.pow10Tab_length] at pl;simp only[Tryz.f161,↓Aa,Ac,↓reduceIte,Qv];refine Ad.pure (VI n (by omega)) ?_;simp only[↓Aa,Ac,↓reduceIte];refine Ad.pure (VG (Lib.bitLen n) (by omega)) ?_;generalize Lib.l10 (Lib.bitLen n)=q at *;generalize (10:Nat)^q=t at *;simp(disch:=(try simp only[Ab]);omega)only[hP',pl,g0,↓Aa,Ac,↓reduceIte];refine Ad.pure (V7 _) ?_;rw[<-e1];by_cases ht:t<=n
 ·rw[show decide ((t:Int)<=(n:Int))=true from decide_eq_true (by omega),if_pos rfl,if_pos ht];simp(disch:=(try simp only[Ab]);omega)only[↓Aa,Ac,↓Qe];try rfl
 rw[show decide ((t:Int)<=(n:Int))=false from decide_eq_false (by omega),if_neg ht,if_neg (show ¬(false=true) by decide)];simp(disch:=(try simp only[Ab]);omega)only[↓Aa,Ac,↓Qe];try rfl
def MI:Ci:=fun k=>k == 162
def OT:MI 162=true:=rfl
def OU {k:Nat} (h:k≠162):MI k=false:=by simpa only[MI,beq_eq_false_iff_ne] using h
def T2 {n k m:Nat} (h1:10^k<=n) (h2:n<10^(k+1)) (e:m=k+1):((Lib.nDigits n:Nat):Int)=m:=by rw[Lib.nDigits_unique k n h1 h2,e]
def E9 {k:Nat} (h:k<10):((UInt8.ofNat (48+k)).toNat:Int)=((48+k:Nat):Int):=by simp;omega
def KH (l z:List UInt8):cut (AF .u8 ([0]++(BO l++BO z))) 1 l.length=AF .u8 (BO l):=by simp only[cut,AF,BO,AeU,Adm,List.map_map,List.singleton_append,AfR,Agb];rw[List.take_append_of_le_length (by simp),Adi (by simp)]
def row3 {n:Nat} (h1:100<=n) (h:n<1000):AF .u8 ([0,((48+n / 100:Nat):Int),((48+n % 100 / 10:Nat):Int),((48+n % 100 % 10:Nat):Int)]++Aa0 20 0)=AF .u8 ([0]++(BO (Lib.decDigits n)++BO (Aa0 20 0))):=by rw[dd3 h1 h,prD];simp only[BO,AeU,Adm,Aff];rw[E9 (by omega),E9 (by omega),E9 (by omega)];rfl
def row4 {n:Nat} (h1:1000<=n) (h:n<10000):AF .u8 ([0,((48+n % 10000 / 100 / 10:Nat):Int),((48+n % 10000 / 100 % 10:Nat):Int),((48+n % 10000 % 100 / 10:Nat):Int),((48+n % 10000 % 100 % 10:Nat):Int)]++Aa0 19 0)=AF .u8 ([0]++(BO (Lib.decDigits n)++BO (Aa0 19 0))):=by rw[dd4 h1 h,Afg h,prD,prD];simp only[BO,AeU,Adm,Aff];rw[E9 (by omega),E9 (by omega),E9 (by omega),E9 (by omega)];rfl
def row5 {n:Nat} (h1:10000<=n) (h:n<100000):AF .u8 ([0,((48+n / 10000:Nat):Int),((48+n % 10000 / 100 / 10:Nat):Int),((48+n % 10000 / 100 % 10:Nat):Int),((48+n % 10000 % 100 / 10:Nat):Int),((48+n % 10000 % 100 % 10:Nat):Int)]++Aa0 18 0)=AF .u8 ([0]++(BO (Lib.decDigits n)++BO (Aa0 18 0))):=by rw[dd5 h1 h,prD,prD];simp only[BO,AeU,Adm,Aff];rw[E9 (by omega),E9 (by omega),E9 (by omega),E9 (by omega),E9 (by omega)];rfl
def row6 {n:Nat} (h1:100000<=n) (h:n<1000000):AF .u8 ([0,((48+n / 10000 % 100 / 10:Nat):Int),((48+n / 10000 % 100 % 10:Nat):Int),((48+n % 10000 / 100 / 10:Nat):Int),((48+n % 10000 / 100 % 10:Nat):Int),((48+n % 10000 % 100 / 10:Nat):Int),((48+n % 10000 % 100 % 10:Nat):Int)]++Aa0 17 0)=AF .u8 ([0]++(BO (Lib.decDigits n)++BO (Aa0 17 0))):=by rw[dd6 h1 h,Afg (show n / 10000<100 by omega),prD,prD,prD];simp only[BO,AeU,Adm,Aff];rw[E9 (by omega),E9 (by omega),E9 (by omega),E9 (by omega),E9 (by omega),E9 (by omega)];rfl
def row7 {n:Nat} (h1:1000000<=n) (h:n<10000000):AF .u8 ([0,((48+n / 10000 / 100:Nat):Int),((48+n / 10000 % 100 / 10:Nat):Int),((48+n / 10000 % 100 % 10:Nat):Int),((48+n % 10000 / 100 / 10:Nat):Int),((48+n % 10000 / 100 % 10:Nat):Int),((48+n % 10000 % 100 / 10:Nat):Int),((48+n % 10000 % 100 % 10:Nat):Int)]++Aa0 16 0)=AF .u8 ([0]++(BO (Lib.decDigits n)++BO (Aa0 16 0))):=by rw[dd7 h1 h,prD,prD,prD];simp only[BO,AeU,Adm,Aff];rw[E9 (by omega),E9 (by omega),E9 (by omega),E9 (by omega),E9 (by omega),E9 (by omega),E9 (by omega)];rfl
def MD (hP:HP G) (n:Nat) (h1:100<=n) (h2:n<10000000):Ctr TP G 121 [.d (.int .i64 n),.d (.int .i64 10)] [] (.d (S (Lib.decDigits n))) []:=by
 refine Ctr.pure (M:=MI) Am Tryz.func121 rfl Acj ?_;simp(disch:=(try simp only[Ab]);omega)only[OU,Tryz.f121,↓Aa,Ac,↓reduceIte,Qu,Qv];refine Ad.pure (N0 hP n (by omega) h2) ?_;have dl:=Lib.decDigits_length n;rcases (by omega:n<1000\/(1000<=n/\n<10000)\/(10000<=n/\n<100000)\/(100000<=n/\n<1000000)\/1000000<=n) with h | ⟨h3,h4⟩ | ⟨h3,h4⟩ | ⟨h3,h4⟩ | h
 ·have en:((Lib.nDigits n:Nat):Int)=3:=T2 (k:=2) (by omega) (by omega) rfl;have dl2:(Lib.decDigits n).length=3:=by omega
  have sp:=Aaj (G:=G) n h1 h;rw[row3 h1 h] at sp;rw[en];simp(disch:=(try simp only[Ab]);omega)only[OT,OU,↓Aa,Ac,↓reduceIte,Qu,Qv,QA,QF];generalize Lib.decDigits n=dg at *;refine Ad.by sp (by rfl) (by rfl) (by simp) ?_;have cr:=KH dg (Aa0 20 0);rw[dl2] at cr;have rl:(AF .u8 ([0]++(BO dg++BO (Aa0 20 0)))).length=24:=by rw[ints_length];simp only[Adl,BX,Aet,dl2,Adk,AeT]
  generalize AF .u8 ([0]++(BO dg++BO (Aa0 20 0)))=rw at *;simp(disch:=(try simp only[Ab]);omega)only[Af,OU,rl,cr,D5,Di,↓Aa,Ac,↓reduceIte,↓Qe,Qv,QA,QF];try rfl
 ·have en:((Lib.nDigits n:Nat):Int)=4:=T2 (k:=3) (by omega) (by omega) rfl;have dl2:(Lib.decDigits n).length=4:=by omega
  have sp:=Aai (G:=G) n h3 h4;rw[row4 h3 h4] at sp;rw[en];simp(disch:=(try simp only[Ab]);omega)only[OT,OU,↓Aa,Ac,↓reduceIte,Qu,Qv,QA,QF];generalize Lib.decDigits n=dg at *;refine Ad.by sp (by rfl) (by rfl) (by simp) ?_;have cr:=KH dg (Aa0 19 0);rw[dl2] at cr;have rl:(AF .u8 ([0]++(BO dg++BO (Aa0 19 0)))).length=24:=by rw[ints_length];simp only[Adl,BX,Aet,dl2,Adk,AeT]
  generalize AF .u8 ([0]++(BO dg++BO (Aa0 19 0)))=rw at *;simp(disch:=(try simp only[Ab]);omega)only[Af,OU,rl,cr,D5,Di,↓Aa,Ac,↓reduceIte,↓Qe,Qv,QA,QF];try rfl
 ·have en:((Lib.nDigits n:Nat):Int)=5:=T2 (k:=4) (by omega) (by omega) rfl;have dl2:(Lib.decDigits n).length=5:=by omega
  have sp:=Aah (G:=G) n h3 h4;rw[row5 h3 h4] at sp;rw[en];simp(disch:=(try simp only[Ab]);omega)only[OT,OU,↓Aa,Ac,↓reduceIte,Qu,Qv,QA,QF];generalize Lib.decDigits n=dg at *;refine Ad.by sp (by rfl) (by rfl) (by simp) ?_;have cr:=KH dg (Aa0 18 0);rw[dl2] at cr;have rl:(AF .u8 ([0]++(BO dg++BO (Aa0 18 0)))).length=24:=by rw[ints_length];simp only[Adl,BX,Aet,dl2,Adk,AeT]
  generalize AF .u8 ([0]++(BO dg++BO (Aa0 18 0)))=rw at *;simp(disch:=(try simp only[Ab]);omega)only[Af,OU,rl,cr,D5,Di,↓Aa,Ac,↓reduceIte,↓Qe,Qv,QA,QF];try rfl
 ·have en:((Lib.nDigits n:Nat):Int)=6:=T2 (k:=5) (by omega) (by omega) rfl;have dl2:(Lib.decDigits n).length=6:=by omega
  have sp:=Aag (G:=G) n h3 h4;rw[row6 h3 h4] at sp;rw[en];simp(disch:=(try simp only[Ab]);omega)only[OT,OU,↓Aa,Ac,↓reduceIte,Qu,Qv,QA,QF];generalize Lib.decDigits n=dg at *;refine Ad.by sp (by rfl) (by rfl) (by simp) ?_;have cr:=KH dg (Aa0 17 0);rw[dl2] at cr;have rl:(AF .u8 ([0]++(BO dg++BO (Aa0 17 0)))).length=24:=by rw[ints_length];simp only[Adl,BX,Aet,dl2,Adk,AeT]
  generalize AF .u8 ([0]++(BO dg++BO (Aa0 17 0)))=rw at *;simp(disch:=(try simp only[Ab]);omega)only[Af,OU,rl,cr,D5,Di,↓Aa,Ac,↓reduceIte,↓Qe,Qv,QA,QF];try rfl
 have en:((Lib.nDigits n:Nat):Int)=7:=T2 (k:=6) (by omega) (by omega) rfl;have dl2:(Lib.decDigits n).length=7:=by omega
 have sp:=Aaf (G:=G) n h h2;rw[row7 h h2] at sp;rw[en];simp(disch:=(try simp only[Ab]);omega)only[OT,OU,↓Aa,Ac,↓reduceIte,Qu,Qv,QA,QF];generalize Lib.decDigits n=dg at *;refine Ad.by sp (by rfl) (by rfl) (by simp) ?_;have cr:=KH dg (Aa0 16 0);rw[dl2] at cr;have rl:(AF .u8 ([0]++(BO dg++BO (Aa0 16 0)))).length=24:=by rw[ints_length];simp only[Adl,BX,Aet,dl2,Adk,AeT]
 generalize AF .u8 ([0]++(BO dg++BO (Aa0 16 0)))=rw at *;simp(disch:=(try simp only[Ab]);omega)only[Af,OU,rl,cr,D5,Di,↓Aa,Ac,↓reduceIte,↓Qe,Qv,QA,QF];try rfl
def Ya {n:Nat} (h:n<100):C1 n=Lib.decDigits n:=by
 unfold C1;split;·rw[Aar (by omega)]
 rw[Aaq (by omega) h];rfl
def ME (hP:HP G) (n:Nat) (h2:n<10000000):Ctr TP G 121 [.d (.int .i64 n),.d (.int .i64 10)] [] (.d (S (Lib.decDigits n))) []:=by
 rcases AeK n 100 with h | h
 ·rw[<-Ya h];exact Iu n h
 exact MD hP n h h2
def Uc (hP:HP G) (n:Nat) (h:n<10000000):Ctr TP G 93 [.d (.int .i64 n)] [] (.d (S (Lib.decDigits n))) []:=by refine Ctr.pure (M:=M0) Am Tryz.func93 rfl go93 ?_;simp only[Tryz.f93,↓Aa,Ac,↓reduceIte,Qv];refine Ad.pure (ME hP n h) ?_;simp only[↓Aa,Ac,↓Qe];first | done | rfl
def JL (hP:HP G) (n:Nat) (h:n<10000000):Ctr TP G 51 [.d (.int .i64 n)] [] (.d (S (Lib.decDigits n))) []:=by refine Ctr.pure (M:=M0) Am Tryz.func51 rfl go51 ?_;simp only[Tryz.f51,↓Aa,Ac,↓reduceIte,Qv];refine Ad.pure (Uc hP n h) ?_;simp only[↓Aa,Ac,↓Qe];first | done | rfl
def Adg (hP:HP G):HI G:=fun n hn=>JL hP n (by omega)
end
section
open Go Go.Proofs Go.Abs Go.RowKit Go.ChangeShapes Go.WideShapes Go.ChangeAt Go.Shelf Go.Joins Go.Deep
def X8 {l:List Int} {i:Nat} {d:Int} (h:i<l.length):l.getD i d∈l:=by rw[AaZ,Ac7 h];exact Afr h
def own:ownKnob Tryz.prog.godebug=none:=by kernel_rfl
def Abz:laidOutB TP=true:=by kernel_rfl
def cU8:Tryz.prog.cellsOf 5=1:=by kernel_rfl
def cU64:Tryz.prog.cellsOf 177=1:=by kernel_rfl
def Abu {l:List Int} (h:∀ n∈l,(Lit.int .u8 n).wf=true):∀ i,0<=l.getD i 0/\l.getD i 0<=255:=by
 intro i;rcases AeK i l.length with hi | hi
 ·have:=h _ (X8 (d:=0) hi);simp[Lit.wf,IntKind.min,IntKind.max,IntKind.bits,IntKind.signed] at this;rw[AaZ];omega
 rw[AaZ,Adq hi];simp
def G1 (_b:Bool):Ah:=fun g=>if g=0 then some Hl else if g=1 then some OS else if g=3 then some (AF .u64 Lib.pow10Tab)
 else none
def hT1 {b:Bool}:HT (G1 b):=⟨rfl,rfl⟩
def Aa3:U8Types TP Tryz.laysValid_ren:=U8Types.of196 Tryz.laysValid
def Aa4:U8Extra TP Tryz.laysValid_ren where
 n3:=by kernel_rfl
 n4:=by kernel_rfl
 y3:=by kernel_rfl
 y4:=by kernel_rfl
 c5:=by kernel_rfl
 c119:=by kernel_rfl
 c138:=by kernel_rfl
def Aad:Rows.laid_unicode_utf8_first=Lib.firstData:=by kernel_rfl
def YK:(Rows.laid_unicode_utf8_acceptRanges:DataW Unit)=Lib.acceptData:=by kernel_rfl
def AcE:(Rows.laid_internal_strconv_uint64pow10:DataW Unit)=Lib.tabData .u64 Lib.pow10Tab:=by kernel_rfl
def gPow:Tryz.prog.globalNamed "internal/strconv.uint64pow10" = some 3:=by kernel_rfl
def tPow:(Tryz.prog.globals[3]?).map (·.type)=some 249:=by kernel_rfl
def cPow:Tryz.prog.cellsOf 249=20:=by kernel_rfl
def AcL {X:World} {b:Bool} (h1:Lib.VarReads TP X "unicode/utf8.first" Rows.laid_unicode_utf8_first) (h2:Lib.VarReads TP X "unicode/utf8.acceptRanges" Rows.laid_unicode_utf8_acceptRanges)
  (h3:Lib.VarReads TP X "internal/strconv.uint64pow10" Rows.laid_internal_strconv_uint64pow10)
  (_h4:b=true->True):S5 (G1 b) X:=by
 rw[Aad] at h1;rw[YK] at h2;rw[AcE] at h3;obtain ⟨t1,t2⟩:Lib.Utf8Tabs 0 1 X:=utf8Tabs_of_readsT Aa3 Aa4 h1 h2;intro g ds hg;unfold G1 at hg;split at hg
 ·rename_i e;subst e;cases hg;refine ⟨fun i=>.int .u8 (Lib.firstT i),fun i x hx=>?_,fun i x hx=>?_⟩;·have hi:i<256:=(by have:=(Adf.1 hx).1;simpa[Hl] using this);exact t1 i hi
  have hi:i<256:=by have:=(Adf.1 hx).1;simpa[Hl] using this
  simp[Hl,hi] at hx;subst hx;exact .int _ _
 split at hg
 ·rename_i e;subst e;cases hg;refine ⟨fun i=>.int .u8 ((if i % 2=0 then Lib.accLo (i / 2) else Lib.accHi (i / 2):Nat):Int),fun i x hx=>?_,fun i x hx=>?_⟩
  ·have hi:i<32:=(by have:=(Adf.1 hx).1;simpa[OS] using this);obtain ⟨a,b⟩:=t2 (i / 2) (by omega);rcases (by omega:i % 2=0\/i % 2=1) with h0 | h0
   ·show X.cell? ⟨_,i,none⟩=_
    simp only[if_pos h0];rw[<-a,show 2*(i / 2)=i by omega]
   show X.cell? ⟨_,i,none⟩=_
   simp only[if_neg (show ¬i % 2=0 by omega)];rw[<-b,show 2*(i / 2)+1=i by omega]
  have hi:i<32:=by have:=(Adf.1 hx).1;simpa[OS] using this
  simp only[OS,Ae8,AfQ hi,Afu,Option.some.injEq] at hx;subst hx;exact .int _ _
 split at hg
 ·rename_i e;subst e;cases hg;obtain ⟨g',t,cs,fuel,p,hg',ht',hvar,hd⟩:=h3;obtain rfl:=Option.some.inj (gPow.symm.trans hg');obtain rfl:=Option.some.inj (tPow.symm.trans ht');have hcs:=Lib.cells_of_tab Tryz.underlying249 Tryz.underlying177 cU64 cPow hd;refine ⟨fun i=>.int .u64 (Lib.pow10Tab.getD i 0),fun i x hx=>?_,fun i x hx=>?_⟩
  ·have hi:i<Lib.pow10Tab.length:=(by have:=(Adf.1 hx).1;simpa[AF] using this);show X.cell? ⟨_,i,none⟩=_
   rw[World.var?_cell hg' hvar i,<-Afq,hcs];simp[hi]
  have hi:i<Lib.pow10Tab.length:=by have:=(Adf.1 hx).1;simpa[AF] using this
  simp only[AF,Ae8,Ac7 hi,Afu,Option.some.injEq] at hx;subst hx;show RD _ (Value.int .u64 (Lib.pow10Tab.getD i 0)) _
  rw[AaZ,Ac7 hi];exact .int _ _
 cases hg
end
namespace Num
open Go Go.Proofs Go.Abs
structure Hid (p:Prop):Prop where
 out:p
def B:Nat:=4294967296
def val:List Nat->Nat
 | []=>0
 | d::l=>d+B*val l
def toW (n:Nat):List Nat:=if h:n=0 then [] else n % B::toW (n / B)
termination_by n
decreasing_by exact Afw (by omega) (by decide)
def Dig (l:List Nat):Prop:=∀ d,d∈l->d<B
def Bb:toW 0=[]:=by rw[toW];simp
def Fi {n:Nat} (h:n≠0):toW n=n % B::toW (n / B):=by rw[toW];simp[h]
def Bo (n:Nat):val (toW n)=n:=by
 induction n using Aft with
 | _ n ih =>
  by_cases h:n=0;·subst h;rw[Bb];rfl
  rw[Fi h,val,ih (n / B) (Afw (by omega) (by decide))];exact Afj n B
def Bp (n:Nat):Dig (toW n):=by
 induction n using Aft with
 | _ n ih =>
  by_cases h:n=0;·subst h;rw[Bb];intro d hd;cases hd
  rw[Fi h];intro d hd;rcases AfU.1 hd with rfl | hd
  ·exact AfV _ (by decide)
  exact ih (n / B) (Afw (by omega) (by decide)) d hd
def B7 (l m:List Nat):val (l++m)=val l+B^l.length*val m:=by
 induction l with
 | nil=>simp[val]
 | cons d l ih=>simp only[AfZ,val,ih,Adk,Afh,Adp];rw[AfG];congr 2;rw[<-Ae7,Afi B]
def G3 {l:List Nat} (h:Dig l):val l<B^l.length:=by
 induction l with
 | nil=>simp[val]
 | cons d l ih =>have h1:=h d (by simp);have h2:=ih fun x hx=>h x (by simp[hx]);simp only[val,Adk,Afh];have:B*(val l+1)<=B*B^l.length:=AfS _ h2;rw[Afi (B^l.length)];rw[Adp] at this;omega
def Dig.append {l m:List Nat} (h1:Dig l) (h2:Dig m):Dig (l++m):=fun d hd=>by
 rcases Af5.1 hd with h | h
 ·exact h1 d h
 exact h2 d h
def Dig.take {l:List Nat} (h:Dig l) (n:Nat):Dig (l.take n):=fun d hd=>h d (AfO hd)
def Dig.drop {l:List Nat} (h:Dig l) (n:Nat):Dig (l.drop n):=fun d hd=>h d (List.mem_of_mem_drop hd)
def Dig.getD {l:List Nat} (h:Dig l) (i:Nat):l.getD i 0<B:=by
 rw[AaZ];cases e:l[i]? with
 | none=>decide
 | some x=>exact h x (List.mem_of_getElem? e)
def U9 {l:List Nat} {k:Nat} (h:k<l.length):l.take (k+1)=l.take k++[l.getD k 0]:=by rw[Afm,AaZ,Ac7 h];rfl
def Jr {l:List Nat} {k:Nat} (h:k<l.length):val (l.take (k+1))=val (l.take k)+B^k*l.getD k 0:=by rw[U9 h,B7];simp[val,Afx (AfX h)]
def Y1 {l:List Nat} (h:Dig l) (hl:l=[]\/l.getD (l.length-1) 0≠0):toW (val l)=l:=by
 induction l with
 | nil=>exact Bb
 | cons d l ih =>
  have h1:=h d (by simp);have hB:(0:Nat)<B:=by decide
  have hv:val (d::l)≠0:=by
   simp only[val];by_cases hn:l=[];·subst hn;simp at hl;simp[val];omega
   have h3:=ih (fun x hx=>h x (by simp[hx])) (.inr (by
    rcases hl with h0 | h0
    ·cases h0
    have:l.length≠0:=by simpa using hn
    have e:(d::l).length-1=(l.length-1)+1:=(by simp;omega);rw[e] at h0;simpa using h0))
   intro h0;have:val l=0:=by
    have:=Nat.eq_zero_of_add_eq_zero_left h0;rcases Nat.mul_eq_zero.1 this with h | h
    ·omega
    exact h
   rw[this,Bb] at h3;exact hn h3.symm
  rw[Fi hv];have e1:val (d::l) % B=d:=by simp only[val];rw[AfD];exact Afg h1
  have e2:val (d::l) / B=val l:=by simp only[val];rw[AfP _ _ hB,Af0 h1,AfK]
  rw[e1,e2];by_cases hn:l=[];·subst hn;simp[val,Bb]
  rw[ih (fun x hx=>h x (by simp[hx])) (.inr (by
    rcases hl with h0 | h0
    ·cases h0
    have:l.length≠0:=by simpa using hn
    have e:(d::l).length-1=(l.length-1)+1:=(by simp;omega);rw[e] at h0;simpa using h0))]
def Y2 {n:Nat} (h:n≠0):(toW n).getD ((toW n).length-1) 0≠0:=by
 induction n using Aft with
 | _ n ih =>
  rw[Fi h];by_cases h2:n / B=0
  ·rw[h2,Bb];simp;have:n<B:=by
    rcases Nat.div_eq_zero_iff.1 h2 with h | h
    ·exact absurd h (by decide)
    exact h
   rw[Afg this];exact h
  have:=ih _ (Afw (by omega) (by decide)) h2;have hl:(toW (n / B)).length≠0:=by rw[Fi h2];simp
  have e:(n % B::toW (n / B)).length-1=((toW (n / B)).length-1)+1:=by simp;omega
  rw[e];simpa using this
def Wp {n:Nat}:toW n=[]↔n=0:=by
 constructor;·intro h;have:=Bo n;rw[h] at this;exact this.symm
 rintro rfl;exact Bb
def CG {n k:Nat} (h:n<B^k):(toW n).length<=k:=by
 induction k generalizing n with
 | zero=>have:n=0:=by simpa using h
         subst this;simp[Bb]
 | succ k ih =>
  by_cases h0:n=0;·subst h0;simp[Bb]
  rw[Fi h0];simp only[Adk];have:n / B<B^k:=by rw[AeI (by decide)];rw[<-Afh];exact h
  have:=ih this;omega
def Lu {n k:Nat} (h:k<(toW n).length):B^k<=n:=by
 by_cases hn:B^k<=n;·exact hn
 have:=CG (n:=n) (k:=k) (by omega);omega
def C9 (n:Nat):n<B^(toW n).length:=by have:=G3 (Bp n);rwa[Bo] at this
def AeP {n:Nat} (h:n<4294967296):n / 2147483648=(n.testBit 31).toNat:=by
 rw[Afo,show (2:Nat)^31=2147483648 from rfl];by_cases h1:n / 2147483648=1;·simp[h1]
 have:n / 2147483648=0:=by omega
 simp[this]
def Wa {n:Nat} (h:n<4294967296):n.testBit 31=decide (2147483648<=n):=by rw[Afo,show (2:Nat)^31=2147483648 from rfl];apply decide_eq_decide.2;omega
def AcU {x y c d:Nat} (hx:x<4294967296) (hy:y<4294967296) (hc:c<=1) (hd:d=(x+4294967296-y-c) % 4294967296) :
  (((4294967295-x) &&& y) ||| ((4294967295-(x ^^^ y)) &&& d)) / 2147483648=if x<y+c then 1 else 0:=by
 have hxy:x ^^^ y<2^32:=AfW (by omega) (by omega);have hd':d<4294967296:=by omega
 have h1:((4294967295-x) &&& y)<2^32:=Afl _ (by omega);have h2:((4294967295-(x ^^^ y)) &&& d)<2^32:=Afl _ (by omega);have h3:=Nat.or_lt_two_pow h1 h2;rw[AeP (by omega),Nat.testBit_or,Af6,Af6];rw[show 4294967295-x=2^32-(x+1) by omega,show 4294967295-(x ^^^ y)=2^32-((x ^^^ y)+1) by omega,Ae6 (by omega),Ae6 hxy,Af7,
  Wa hx,Wa hy,Wa hd']
 by_cases a:2147483648<=x<;>by_cases b:2147483648<=y<;>by_cases e:2147483648<=d<;>by_cases f:x<y+c<;>simp[a,b,e,f]<;>omega
def AcM {n:Nat} (h:n<4294967296):4294967295 ^^^ n=4294967295-n:=by
 apply Nat.eq_of_testBit_eq;intro i;rw[show 4294967295-n=2^32-(n+1) by omega,Ae6 (by omega),Af7,show (4294967295:Nat)=2^32-1 from rfl,Nat.testBit_two_pow_sub_one];by_cases hi:i<32;·simp[hi]
 have:n.testBit i=false:=Nat.testBit_lt_two_pow (AfB h (by
  calc 4294967296=2^32:=rfl
   _<=2^i:=Nat.pow_le_pow_right (by decide) (by omega)))
 simp[hi,this]
def YR {n:Nat} (h:n<4294967296):CR .xor .u32 4294967295 (n:Int)=((4294967295-n:Nat):Int):=by have:=IF (a:=4294967295) (b:=n) (by omega) h;rw[AcM h] at this;exact this
def IM {l:List Nat} {k:Nat} (h:k<l.length):val l=val (l.take k)+B^k*(l.getD k 0+B*val (l.drop (k+1))):=by
 have e:l=l.take k++l.getD k 0::l.drop (k+1):=by rw[AaZ,Ac7 h];simp
 conv=>lhs;rw[e]
 rw[B7];simp[val,Afx (AfX h)]
def IP {l m:List Nat} {k:Nat} (hl:Dig l) (h1:k<l.length) (h2:k<m.length) (h3:l.drop (k+1)=m.drop (k+1)) (h4:l.getD k 0<m.getD k 0):val l<val m:=by rw[IM h1,IM h2,h3];have h5:=G3 (hl.take k);rw[AeL,Afx (AfX h1)] at h5;have h6:B^k*(l.getD k 0+1+B*val (m.drop (k+1)))<=B^k*(m.getD k 0+B*val (m.drop (k+1))):=AfS _ (by omega);rw[show l.getD k 0+1+B*val (m.drop (k+1))=(l.getD k 0+B*val (m.drop (k+1)))+1 by omega,Adp,Af1] at h6;omega
def W9 {l m:List Nat} {k:Nat} (h1:k<l.length) (h2:k<m.length) (h3:l.drop (k+1)=m.drop (k+1)) (h4:l.getD k 0=m.getD k 0):l.drop k=m.drop k:=by rw[AeJ h1,AeJ h2,h3];simp[AaZ,Ac7 h1,Ac7 h2] at h4;rw[h4]
def Ev {a b:Nat} (h:(toW a).length<(toW b).length):a<b:=AfB (C9 a) (Lu h)
def IV {x y c:Nat} (hx:x<B) (hy:y<B) (hc:c<=1):(x+B-y-c) % B+y+c=x+B*(if x<y+c then 1 else 0):=by simp only[B] at *;split<;>omega
def Abv {o m l P d mk lk c q:Nat} (h1:o+m=l+P*c) (h2:d+mk+c=lk+q):o+P*d+(m+P*mk)=l+P*lk+P*q:=by have:=congrArg (P*·) h2;simp only[Adp] at this;omega
def cmpI (a b:Int):Int:=if a<b then -1 else if b<a then 1 else 0
def Gk {a b:Int} (h:a<b):cmpI a b=-1:=by simp[cmpI,h]
def Gl {a b:Int} (h:b<a):cmpI a b=1:=by simp[cmpI,h,show ¬a<b by omega]
def Fr {a b:Int} (h:a=b):cmpI a b=0:=by simp[cmpI,h]
def Ro {a b:Int}:cmpI a b=0↔a=b:=by
 refine ⟨fun h=>?_,Fr⟩;by_cases h1:a<b;·rw[Gk h1] at h;omega
 by_cases h2:b<a;·rw[Gl h2] at h;omega
 omega
def Xd {a b c d:Int} (h1:a<b->c<d) (h2:b<a->d<c) (h3:a=b->c=d):cmpI a b=cmpI c d:=by
 by_cases h:a<b;·rw[Gk h,Gk (h1 h)]
 by_cases h':b<a;·rw[Gl h',Gl (h2 h')]
 have:a=b:=by omega
 rw[Fr this,Fr (h3 this)]
def Bw (l:List Nat) (k:Nat):val (l.take (k+1))=val (l.take k)+B^k*l.getD k 0:=by
 by_cases h:k<l.length;·exact Jr h
 rw[Adi (by omega),Adi (by omega),AaZ,Adq (by omega)];simp
def VB {l m out:List Nat} {k c d q:Nat} (ho:out.length=k) (hv:val out+val (m.take k)=val (l.take k)+B^k*c) (h:d+m.getD k 0+c=l.getD k 0+B*q) :
  val (out++[d])+val (m.take (k+1))=val (l.take (k+1))+B^(k+1)*q:=by
 have e3:=Abv hv h;have e4:B^(k+1)=B^k*B:=Afh ..;rw[Bw l k,Bw m k,B7,ho,e4,Ae7];simpa[val] using e3
def X6 {P o a b c:Nat} (h:o+b=a+P*c) (ho:o<P) (hab:b<=a) (hc:c<=1):o=a-b:=by
 have:c=0\/c=1:=by omega
 rcases this with rfl | rfl
 ·rw[Age] at h;omega
 rw[Af1] at h;omega
def RQ {l:List Nat} {p d:Nat} (h:p<l.length):val (l.set p d)+B^p*l.getD p 0=val l+B^p*d:=by have h1:=IM (l:=l.set p d) (k:=p) (by simpa using h);have h2:=IM h;rw[List.take_set_of_le (Ada _),List.drop_set_of_lt (Nat.lt_succ_self p),AaZ,List.getElem?_set_self h] at h1;simp only[Afc,Adp,Nat.succ_eq_add_one] at h1 h2;omega
def Dig.set {l:List Nat} (h:Dig l) {p d:Nat} (hd:d<B):Dig (l.set p d):=fun x hx=>by
 rcases List.mem_or_eq_of_mem_set hx with h1 | h1
 ·exact h x h1
 omega
def Dig.zeros (n:Nat):Dig (Aa0 n 0):=fun d hd=>by have:=List.eq_of_mem_replicate hd;subst this;decide
def K8 (n:Nat):val (Aa0 n 0)=0:=by
 induction n with
 | zero=>rfl
 | succ n ih=>simp[AfT,val,ih]
def I7 {x y:Nat} (hx:x<B) (hy:y<B):x*y<=18446744065119617025:=by simp only[B] at *;exact Nat.mul_le_mul (AfY hx) (AfY hy)
def Nm {q o m:List Nat} {i j c x s:Nat} (hp:i+j<q.length) (hs:s=c+(x*m.getD j 0+q.getD (i+j) 0)) (hv:val q+B^(i+j)*c=val o+B^i*(x*val (m.take j))) :
  val (q.set (i+j) (s % B))+B^(i+(j+1))*(s / B)=val o+B^i*(x*val (m.take (j+1))):=by
 have h1:=RQ (l:=q) (p:=i+j) (d:=s % B) hp;have h2:=Afj s B;have h3:B^(i+j)*(s % B)+B^(i+(j+1))*(s / B)=B^(i+j)*s:=by rw[<-AfG i j 1,Afh,Ae7,<-Adp,h2]
 have h4:B^(i+j)*s=B^(i+j)*c+(B^i*(x*(B^j*m.getD j 0))+B^(i+j)*q.getD (i+j) 0):=by rw[hs,Adp,Adp];congr 2;rw[Af2,Ae7,Nat.mul_left_comm (B^j)]
 have h5:B^i*(x*val (m.take (j+1)))=B^i*(x*val (m.take j))+B^i*(x*(B^j*m.getD j 0)):=by rw[Bw,Adp,Adp]
 omega
def Pm {q o l:List Nat} {i k c b:Nat} (hp:i+k<q.length) (hz:q.getD (i+k) 0=0) (hv:val q+B^(i+k)*c=val o+B^i*(l.getD i 0*b)) (ho:val o=val (l.take i)*b) :
  val (q.set (i+k) c)=val (l.take (i+1))*b:=by
 have h1:=RQ (l:=q) (p:=i+k) (d:=c) hp;rw[hz] at h1;have h2:val (l.take (i+1))*b=val (l.take i)*b+B^i*(l.getD i 0*b):=by rw[Bw,Af3,Ae7]
 omega
def D0 {n:Nat}:IntKind.u32.wrap (n:Int)=((n % 4294967296:Nat):Int):=by simp[IntKind.wrap,IntKind.bits,IntKind.signed]
def Ac3 {n:Nat}:IntKind.u64.wrap (n:Int)=((n % 18446744073709551616:Nat):Int):=by simp[IntKind.wrap,IntKind.bits,IntKind.signed]
def Gf {l:List Nat} {p r d:Nat} (h:p≠r):(l.set p d).getD r 0=l.getD r 0:=by simp[AaZ,List.getElem?_set_ne h]
def AcG {h x:Nat} (hx:x<4294967296):h*4294967296 ||| x=h*4294967296+x:=by have:=Nat.shiftLeft_add_eq_or_of_lt (i:=32) (a:=h) (b:=x) hx;rw[Nat.shiftLeft_eq] at this;exact this.symm
def Zx {h x:Nat} (hh:h<4294967296) (hx:x<4294967296):CR .or .u64 ((h:Int)*4294967296) (x:Int)=((h*4294967296+x:Nat):Int):=by have:=YE (a:=((h*4294967296:Nat):Int)) (b:=(x:Int)) (by omega) (by omega) (by omega) (by omega);rw[Adj,Adj,AcG hx] at this;exact this
def JJ {n k:Nat} (h:n / 2^k≠0):n.log2=k+(n / 2^k).log2:=by
 have hp:0<2^k:=Nat.two_pow_pos k;have hn:n≠0:=by intro h0;subst h0;simp at h
 have h1:=(Af8 h).1 rfl;refine (Af8 hn).2 ⟨?_,?_⟩;·rw[Af2,Afi];exact (Nat.le_div_iff_mul_le hp).1 h1.1
 rw[AfG,Af2,Afi];exact (AeI hp).1 h1.2
def Mh {r x d:Nat} (hr:r<d) (hx:x<B):(r*B+x) / d<B:=by rw[AeI (by omega)];have:(r+1)*B<=d*B:=Nat.mul_le_mul_right _ hr;rw[Af3,Nat.one_mul] at this;rw[Afi B];omega
def Vi {q l:List Nat} {k r d:Nat} (h:k<l.length) (hv:val (l.drop (k+1))=val q*d+r) :
  val (l.drop k)=val ((r*B+l.getD k 0) / d::q)*d+(r*B+l.getD k 0) % d:=by
 have e:l.drop k=l.getD k 0::l.drop (k+1):=by rw[AeJ h,AaZ,Ac7 h];rfl
 rw[e,val,hv,val];have h1:=Afj (r*B+l.getD k 0) d;generalize (r*B+l.getD k 0) / d=a at *;generalize (r*B+l.getD k 0) % d=b at *;rw[Afi d a] at h1;rw[Af3,Adp,Ae7,Afi B r];omega
def WH {q:List Nat} {k v:Nat}:(0::(Aa0 k 0++q)).set k v=Aa0 k 0++v::q:=by
 have e:0::(Aa0 k 0++q)=Aa0 k 0++0::q:=by rw[<-AfZ,<-AfT,List.replicate_succ',AfE];rfl
 rw[e,List.set_append_right _ _ (by simp)];simp
def Bl:Nat->Nat->List Nat
 | 0,_=>[]
 | k+1,n=>n % B::Bl k (n / B)
def AK (k n:Nat):(Bl k n).length=k:=by
 induction k generalizing n with
 | zero=>rfl
 | succ k ih=>simp[Bl,ih]
def DL (k n:Nat):Dig (Bl k n):=by
 induction k generalizing n with
 | zero=>intro d h;cases h
 | succ k ih =>
  intro d h;rcases AfU.1 h with rfl | h
  ·exact AfV _ (by decide)
  exact ih _ d h
def Ur {l:List Nat} (h:Dig l):Bl l.length (val l)=l:=by
 induction l with
 | nil=>rfl
 | cons d l ih =>
  have h1:=h d (by simp);have hB:(0:Nat)<B:=by decide
  simp only[Adk,Bl,val];rw[AfD,Afg h1,AfP _ _ hB,Af0 h1,AfK,ih fun x hx=>h x (by simp[hx])]
def D7 {k n:Nat} (h:n<B^k):val (Bl k n)=n:=by
 induction k generalizing n with
 | zero=>have:n=0:=by simpa using h
         subst this;rfl
 | succ k ih =>
  simp only[Bl,val];rw[ih];·exact Afj n B
  rw[AeI (by decide),<-Afh];exact h
def Ho {l:List Nat} {k n:Nat} (h:Dig l) (hk:l.length=k) (hv:val l=n):l=Bl k n:=by subst hk;subst hv;exact (Ur h).symm
abbrev W (l:List Nat):D:=.sl l.length false (A1 .u32 l)
variable {G:Ah}
abbrev M0:Ci:=fun _=>false
def ST (l:List Nat) (i:Nat) :
  Ctr TP G 173 [.d (W l),.d (.int .i64 i)] [] (.d (.int .u32 (l.getD i 0:Nat))) []:=by
 refine Ctr.pure (M:=M0) Am Tryz.func173 rfl AdR ?_;simp(disch:=(try simp only[Ab]);omega)only[Tryz.f173,↓Aa,Ac,↓reduceIte,↓Qe,Qu,Qv];intro h;rw[AaZ,Adq (by omega)];rfl
def Fh (l:List Nat) (hd:Dig l) (hl:l.length<2^60):Ctr TP G 171 [.d (W l)] [] (.d (W (toW (val l)))) []:=by
 refine Ctr.pure (M:=M0) Am Tryz.func171 rfl Acg ?_;simp only[Tryz.f171,↓Aa,awV,Qa,Qb,Qv];refine Ak.inv (α:=Nat) (fun k=>k) (fun k=>mkS 21 [(0,.d (.sl k false (A1 .u32 (l.take k))))]) (fun _=>[]) (fun k=>k<=l.length/\val (l.take k)=val l) l.length ⟨Ada _,by simp⟩ (.pure ?_) ?_;·simp[mkS,SW,AW]
 rintro k ⟨hk,hv⟩;simp only[mkS,AfM,Aa0,AeQ];simp(disch:=(try simp only[Ab]);omega)only[↓Aa,Ac,↓reduceIte,↓Qe];refine ⟨fun h=>⟨fun h0=>⟨k-1,⟨by omega,?_⟩,Agf (by omega) (by decide),.pure ?_⟩,fun h0=>?_⟩,fun h=>?_⟩
 ·have e:((k:Int)-1).toNat=k-1:=by omega
  rw[e,AaZ,Afk,if_pos (by omega),<-AaZ] at h0;have:=Jr (l:=l) (k:=k-1) (by omega);rw[show k-1+1=k by omega,hv] at this;rw[this,show l.getD (k-1) 0=0 by omega];simp
 ·have e:((k:Int)-1).toNat=k-1:=by omega
  simp[SW,AW,e,List.take_take]
 ·have e:((k:Int)-1).toNat=k-1:=by omega
  rw[e] at h0;have:=Y1 (hd.take k) (.inr (by rw[show (l.take k).length-1=k-1 by simp;omega];omega));rw[hv] at this;rw[this];simp[W,hk,Afx]
 have:k=0:=by omega
 subst this;have:val l=0:=by rw[<-hv];rfl
 rw[this,Bb];rfl
def PX (a:Int):Ctr TP G 246 [.d (.int .i64 a)] [] (.d (.bool false)) []:=by refine Ctr.pure (M:=M0) Am Tryz.func246 rfl Aca ?_;simp only[Tryz.f246,↓Aa,Ac,↓Qe,Qv]
def PW (a:Int):Ctr TP G 247 [.d (.int .u32 a)] [] (.d (.bool false)) []:=by refine Ctr.pure (M:=M0) Am Tryz.func247 rfl Adr ?_;simp only[Tryz.f247,↓Aa,Ac,↓Qe,Qv]
def AbT (a b:Int):Ctr TP G 221 [.d (.int .i64 a),.d (.int .i64 b)] [] (.d (.int .i64 (cmpI a b))) []:=by refine Ctr.pure (M:=M0) Am Tryz.func221 rfl Acb ?_;simp only[Tryz.f221,↓Aa,Ac,↓reduceIte,Qu,Qv,QE];refine Ad.pure (PX _) ?_;simp only[↓Aa,Ac,↓reduceIte,QE];refine Ad.pure (PX _) ?_;simp(disch:=(try simp only[Ab]);omega)only[↓Aa,Ac,↓Qe,QE];refine ⟨fun h=>(Gk h).symm,fun h=>⟨fun h'=>(Gl h').symm,fun h'=>(Fr (by omega)).symm⟩⟩
def AbS (a b:Int):Ctr TP G 222 [.d (.int .u32 a),.d (.int .u32 b)] [] (.d (.int .i64 (cmpI a b))) []:=by refine Ctr.pure (M:=M0) Am Tryz.func222 rfl Adv ?_;simp only[Tryz.f222,↓Aa,Ac,↓reduceIte,Qu,Qv,QE];refine Ad.pure (PW _) ?_;simp only[↓Aa,Ac,↓reduceIte,QE];refine Ad.pure (PW _) ?_;simp(disch:=(try simp only[Ab]);omega)only[↓Aa,Ac,↓Qe,QE];refine ⟨fun h=>(Gk h).symm,fun h=>⟨fun h'=>(Gl h').symm,fun h'=>(Fr (by omega)).symm⟩⟩
def Acn (x y c:Nat) (hx:x<B) (hy:y<B) (hc:c<=1):Ctr TP G 172 [.d (.int .u32 x),.d (.int .u32 y),.d (.int .u32 c)] []
  (.d (.tup [.int .u32 ((x+y+c) % B:Nat),.int .u32 ((x+y+c) / B:Nat)])) []:=by
 refine Ctr.pure (M:=M0) Am Tryz.func172 rfl AdS ?_;simp only[B] at *;simp(disch:=(try simp only[Ab]);omega)only[Tryz.f172,↓Aa,Ac,↓Qe,Qu,Qv,QD,QF];rw[show IntKind.u32.wrap ((x+y+c:Nat):Int)=(((x+y+c) % 4294967296:Nat):Int) by simp[IntKind.wrap,IntKind.bits,IntKind.signed]];simp
def Ab5 (x y c:Nat) (hx:x<B) (hy:y<B) (hc:c<=1):Ctr TP G 225 [.d (.int .u32 x),.d (.int .u32 y),.d (.int .u32 c)] []
  (.d (.tup [.int .u32 ((x+B-y-c) % B:Nat),.int .u32 ((if x<y+c then 1 else 0:Nat):Int)])) []:=by
 refine Ctr.pure (M:=M0) Am Tryz.func225 rfl Ads ?_;simp only[B] at *;simp(disch:=(try simp only[Ab]);omega)only[Tryz.f225,↓Aa,Ac,↓reduceIte,↓Qe,Qu,Qv,QB,QD,QF];have e1:IntKind.u32.wrap (IntKind.u32.wrap ((x:Int)-(y:Int))-(c:Int))=(((x+4294967296-y-c) % 4294967296:Nat):Int):=by simp[IntKind.wrap,IntKind.bits,IntKind.signed];omega
 have hxy:x ^^^ y<2^32:=AfW (by omega) (by omega);have h1:((4294967295-x) &&& y)<2^32:=Afl _ (by omega);have h2:((4294967295-(x ^^^ y)) &&& ((x+4294967296-y-c) % 4294967296))<2^32:=Afl _ (by omega);rw[e1,IF hx hy,YR hx,YR hxy,Em (by omega) hy,Em (by omega) (by omega),DM h1 h2];have:=AcU hx hy hc rfl;rw[<-this];rfl
end Num
namespace Num
open Go Go.Proofs Go.Abs
variable {G:Ah}
def compare_spec (a b:Nat) (ha:(toW a).length<2^40) (hb:(toW b).length<2^40) :
  Ctr TP G 202 [.d (W (toW a)),.d (W (toW b))] [] (.d (.int .i64 (cmpI a b))) []:=by
 have da:=Bp a;have db:=Bp b;have va:=Bo a;have vb:=Bo b;have la:=@Ev a b;have lb:=@Ev b a;generalize toW a=l at *;generalize toW b=m at *;refine Ctr.pure (M:=M0) Am Tryz.func202 rfl AdC ?_;simp only[Tryz.f202,↓Aa,Ac,↓reduceIte,Qu,Qv];refine Ad.pure (AbT _ _) ?_;simp(disch:=(try simp only[Ab]);omega)only[↓Aa,Ac,↓Qe];refine ⟨fun h=>?_,fun h=>?_⟩
 ·refine Xd (fun h=>?_) (fun h=>?_) (fun h'=>absurd (Fr h') h);·have:=la (by omega);omega
  have:=lb (by omega);omega
 have e:l.length=m.length:=by have:=Ro.1 h;omega
 refine Ak.inv (α:=Nat) (fun k=>k) (fun k=>mkS 35 [(0,.d (W l)),(1,.d (W m)),(6,.d (.int .i64 ((k:Int)-1)))]) (fun _=>[]) (fun k=>k<=l.length/\l.drop k=m.drop k) l.length ⟨Ada _,by rw[AfI,e,AfI]⟩ (.pure ?_) ?_;·simp[mkS,SW,AW]
 rintro k ⟨hk,hv⟩;simp only[mkS,AfM,Aa0,AeQ,AeR];simp(disch:=(try simp only[Ab]);omega)only[↓Aa,Ac,↓reduceIte,↓Qe];refine ⟨fun h=>?_,fun h=>?_⟩
 ·have e1:((k:Int)-1).toNat=k-1:=by omega
  refine Ad.pure (AbS _ _) ?_;simp(disch:=(try simp only[Ab]);omega)only[↓Aa,Ac,↓Qe];refine ⟨by rfl,fun h1=>?_,fun h1=>?_⟩
  ·rw[e1,<-va,<-vb];rw[e1] at h1;refine Xd (fun h2=>?_) (fun h2=>?_) (fun h'=>absurd (Fr h') h1);·have:=IP (k:=k-1) da (by omega) (by omega) (by rw[show k-1+1=k by omega];exact hv) (by omega:l.getD (k-1) 0<m.getD (k-1) 0);omega
   have:=IP (k:=k-1) db (by omega) (by omega) (by rw[show k-1+1=k by omega];exact hv.symm) (by omega:m.getD (k-1) 0<l.getD (k-1) 0);omega
  rw[e1] at h1;have h2:=Ro.1 h1;refine ⟨k-1,⟨by omega,W9 (by omega) (by omega) (by rw[show k-1+1=k by omega];exact hv) (by omega)⟩,Agf (by omega) (by decide),.pure ?_⟩;simp[SW,AW];omega
 have:k=0:=by omega
 subst this;simp only[Agb] at hv;rw[<-va,<-vb,hv];exact (Fr rfl).symm
def I3 (a b:Nat) (ha:(toW a).length<2^40) (hb:(toW b).length<2^40) :
  Ctr TP G 137 [.d (W (toW a)),.d (W (toW b))] [] (.d (W (toW (a+b)))) []:=by
 have da:=Bp a;have db:=Bp b;have va:=Bo a;have vb:=Bo b;generalize toW a=l at *;generalize toW b=m at *;refine Ctr.pure (M:=M0) Am Tryz.func137 rfl Aeh ?_;simp(disch:=(try simp only[Ab]);omega)only[Tryz.f137,↓Aa,Ac,↓reduceIte,Qu,Qv];refine Ak.inv (α:=Nat × List Nat × Nat) (fun x=>max l.length m.length-x.1) (fun x=>mkS 45 [(0,.d (W l)),(1,.d (W m)),(5,.lsl 0 1 0 x.1),(6,.d (.int .u32 x.2.2)),(20,.d (.int .i64 (max l.length m.length:Nat))),(21,.d (.int .i64 x.1))])
  (fun x=>[.row false (A1 .u32 x.2.1)]) (fun x=>x.1<=max l.length m.length/\x.2.1.length=x.1/\Dig x.2.1/\x.2.2<=1/\val x.2.1+B^x.1*x.2.2=val (l.take x.1)+val (m.take x.1)) (0,[],0) ⟨by simp,rfl,by simp[Dig],by simp,by simp[val]⟩ ?_ ?_
 ·refine ⟨[some 0],rfl,by simp,by simp[mkS,SW,AW],by simp[HW,BW]⟩
 rintro ⟨k,out,c⟩ ⟨hk,ho,hd,hc,hv⟩;simp only at hk ho hd hc hv;simp only[mkS,AfM,Aa0,AeQ,AeR];simp(disch:=(try simp only[Ab]);omega)only[↓Aa,Ac,↓reduceIte,Qu];refine ⟨fun h=>?_,fun h=>?_⟩
 ·refine Ad.pure (ST l k) ?_;simp only[↓Aa,Ac,↓reduceIte];refine Ad.pure (ST m k) ?_;simp only[↓Aa,Ac,↓reduceIte];refine Ad.pure (Acn _ _ _ (da.getD k) (db.getD k) hc) ?_;simp(disch:=(try simp only[Ab]);omega)only[↓Aa,Ac,↓reduceIte,Qu];refine ⟨(k+1,out++[(l.getD k 0+m.getD k 0+c) % B],(l.getD k 0+m.getD k 0+c) / B),⟨by omega,by simp[ho],hd.append ?_,?_,?_⟩,by simp only;omega,[some 2],rfl,by simp,?_,?_⟩;·intro x hx;simp at hx;subst hx;exact AfV _ (by decide)
  ·have h1:=da.getD k;have h2:=db.getD k;simp only[B] at *;omega
  ·have e1:val (l.take (k+1))=val (l.take k)+B^k*l.getD k 0:=Bw l k;have e2:val (m.take (k+1))=val (m.take k)+B^k*m.getD k 0:=Bw m k;simp only[e1,e2,B7,ho,val,Age,Afd];have e3:=Afj (l.getD k 0+m.getD k 0+c) B;have e4:B^(k+1)=B^k*B:=Afh ..;rw[e4,Ae7,AfG,<-Adp,e3];simp only[Adp];omega
  ·simp[SW,AW]
  simp[HW,BW]
 have ek:k=max l.length m.length:=by omega
 have e:(D.sl (k+1) false (A1 .u32 (out++[c])))=W (out++[c]):=by simp[W,ho]
 have hv':val (out++[c])=a+b:=by rw[Adi (by omega),Adi (by omega)] at hv;rw[B7,ho];simp[val,hv,va,vb]
 rw[e];refine Ad.frozen (Fh _ (hd.append ?_) ?_) ?_;·intro x hx;simp at hx;subst hx;simp only[B];omega
 ·simp[ho];omega
 rw[hv'];simp(disch:=(try simp only[Ab]);omega)only[↓Aa,Ac,↓reduceIte,↓Qe,Qu]
def Dh (a b:Nat) (ha:(toW a).length<2^40) (hb:(toW b).length<2^40) :
  Ctr TP G 136 [.d (W (toW a)),.d (W (toW b))] [] (.d (W (toW (a*b)))) []:=by
 have da:=Bp a;have db:=Bp b;have va:=Bo a;have vb:=Bo b;generalize toW a=l at *;generalize toW b=m at *;refine Ctr.pure (M:=M0) Am Tryz.func136 rfl Aei ?_;simp(disch:=(try simp only[Ab]);omega)only[Tryz.f136,↓Aa,Ac,↓reduceIte,Qu,Qv];refine Ak.inv (α:=Nat × List Nat) (fun x=>l.length-x.1) (fun x=>mkS 67 [(0,.d (W l)),(1,.d (W m)),(5,.lsl 0 1 0 (l.length+m.length)),(17,.d (W l)),(18,.d (.int .i64 l.length)),(19,.d (.int .i64 x.1))])
  (fun x=>[.row false (A1 .u32 x.2)]) (fun x=>x.1<=l.length/\x.2.length=l.length+m.length/\Dig x.2/\val x.2=val (l.take x.1)*b/\∀ p,x.1+m.length<=p->x.2.getD p 0=0) (0,Aa0 (l.length+m.length) 0)
  ⟨by simp,by simp,Dig.zeros _,by simp[K8,val],fun p _=>by simp only[AaZ,AfJ];split<;>rfl⟩ ?_ ?_
 ·refine ⟨[some 0],rfl,by simp,by simp[mkS,SW,AW],by simp[HW,BW]⟩
 rintro ⟨i,o⟩ ⟨hi,ho,hd,hv,hz⟩;simp only at hi ho hd hv hz;simp only[mkS,AfM,Aa0,AeQ,AeR];simp(disch:=(try simp only[Ab]);omega)only[↓Aa,Ac,↓reduceIte];refine ⟨fun h=>?_,fun h=>?_⟩
 ·refine Ak.inv (α:=Nat × List Nat × Nat) (fun x=>m.length-x.1) (fun x=>mkS 67 [(0,.d (W l)),(1,.d (W m)),(5,.lsl 0 1 0 (l.length+m.length)),(17,.d (W l)),(18,.d (.int .i64 l.length)),(19,.d (.int .i64 i)),
    (6,.d (.int .i64 i)),(7,.d (.int .u32 (l.getD i 0:Nat))),(8,.d (.int .u64 x.2.2)),(24,.d (W m)),(25,.d (.int .i64 m.length)),(26,.d (.int .i64 x.1))])
   (fun x=>[.row false (A1 .u32 x.2.1)]) (fun x=>x.1<=m.length/\x.2.1.length=l.length+m.length/\Dig x.2.1/\x.2.2<B/\val x.2.1+B^(i+x.1)*x.2.2=val o+B^i*(l.getD i 0*val (m.take x.1))/\∀ p,i+m.length<=p->x.2.1.getD p 0=0) (0,o,0)
   ⟨by simp,ho,hd,by simp[B],by simp[val],hz⟩ ?_ ?_
  ·refine ⟨[some 0],rfl,by simp,by simp[mkS,SW,AW],by simp[HW,BW]⟩
  rintro ⟨j,q,c⟩ ⟨hj,hq,hdq,hc,hvq,hzq⟩;simp only at hj hq hdq hc hvq hzq;replace hv:=Hid.mk hv;replace hvq:=Hid.mk hvq;have p1:=I7 (da.getD i) (db.getD j);have p2:=hdq.getD (i+j);have p3:c<4294967296:=hc;have p4:q.getD (i+j) 0<4294967296:=p2;have p5:l.getD i 0<4294967296:=da.getD i;have p6:m.getD j 0<4294967296:=db.getD j;simp only[mkS,AfM,Aa0,AeQ,AeR];simp(disch:=(try simp only[Ab]);omega)only[↓Aa,Ac,↓reduceIte,QD,QF];refine ⟨fun h1=>?_,fun h1=>?_⟩
  ·simp only[D0,nats_set];have hsl:c+(l.getD i 0*m.getD j 0+q.getD (i+j) 0)<B*B:=(by simp only[B];omega)
   generalize hg:c+(l.getD i 0*m.getD j 0+q.getD (i+j) 0)=s at hsl ⊢;refine ⟨(j+1,q.set (i+j) (s % B),s / B),⟨by simp only;omega,by simp[hq],hdq.set (AfV _ (by decide)),(AeI (by decide)).2 hsl,Nm (by omega) hg.symm hvq.out,fun p hp=>?_⟩,
    by simp only;omega,[some 0],rfl,by simp,by simp[SW,AW,B],by simp[HW,BW,B]⟩
   rw[Gf (by omega)];exact hzq p hp
  have ej:j=m.length:=by omega
  have hvq:=hvq.out;rw[ej,Adi (Ada _),vb] at hvq;refine ⟨(i+1,q.set (i+m.length) c),⟨by simp only;omega,by simp[hq],hdq.set hc,Pm (by omega) (hzq _ (Ada _)) hvq hv.out,fun p hp=>?_⟩,
   by simp only;omega,[some 0],rfl,by simp,by simp[SW,AW],by simp[HW,BW]⟩
  rw[Gf (by omega)];exact hzq p (by omega)
 have e:(D.sl (l.length+m.length) false (A1 .u32 o))=W o:=by simp[W,ho]
 have ei:i=l.length:=by omega
 rw[e];refine Ad.frozen (Fh _ hd ?_) ?_;·omega
 rw[hv,ei,Adi (Ada _),va];simp(disch:=(try simp only[Ab]);omega)only[↓Aa,Ac,↓reduceIte,↓Qe]
end Num
end Go.Proofs.YtmidaophnbdcdaaGreatDoor
