/-
  Contracts of the functions, one after another.
-/
import Derived.Test.YtmidaophnbdcdaaGreatDoorLa3
import Derived.Lib.ValidLaws
import Derived.Test.YtmidaophnbdcdaaGreatDoorChecked
import Derived.KernelRfl
import Derived.Shelf.Unicode.ValidAny
import Derived.Ground.NamesProg
import Derived.Lib.DecodeN
import Derived.Shelf.Strings.OnBuilder
import Derived.Lib.Strings
import Derived.Lib.Slices
import Derived.Lib.Walk
import Derived.Lib.Bytealg
import Derived.Shelf.Strings.Trim
import Derived.Shelf.Strings.Replace
import Derived.Shelf.Strings.Repeat
import Derived.Shelf.Strings.Builder1
import Derived.Shelf.Utf8.RuneCount
import Derived.Shelf.Strings.Prefix
import Derived.Shelf.Small.Wraps
import Derived.Lib.OthersKept
import Derived.Lib.MapLaws
import Derived.Lib.RuneBytes
import Derived.Lib.ItoaNum
import Derived.Lib.ItoaMem
import Derived.Lib.ItoaLen
import Derived.Shelf.Strconv.AtoiAll
import Derived.Lib.AtoiErrMem
import Derived.Shelf.Strconv.Itoa0
import Derived.Test.YtmidaophnbdcdaaGreatDoorCards
import Derived.Test.YtmidaophnbdcdaaGreatDoorTie
import Derived.Lib.LaidU8T
import Derived.Lib.LaidTab
import Derived.LaidLaws
import Derived.Shelf.Vars
import Derived.Lib.SmallJoins
set_option linter.all false
open Go.Abs renaming A6->HW,Dz->BW,Cm->SW,Am->AW,Bd->sA,A4->kZ
open Go.Proofs.Tryz renaming prog->TP
set_option maxHeartbeats 8000000
set_option maxRecDepth 100000
open Go.Abs renaming E8->Qa,Ca->Qb,BC->Qc,B3->Qd,Ef->Qe,AE->Qf,AJ->Qg,Ax->Qh,Bb->Qi,CN->Qj,Gl->Qk,EP->Ql,BS->Qm,BM->Qn,Bl->Qo,CD->Qr,unfA->Qs,FC->QJ,Jp->QL,Ch->QM,Dj->QN,Fu->QO,C6->QP,BA->QQ
open Go.Abs.AV renaming one->Qp
open Go.Abs.D renaming one->Qq
open Go.IntKind renaming signed->Qt
open Nat renaming reduceAdd->Qu,reduceSub->Qv,reduceMul->Qw,reducePow->Qx,reduceDiv->Qy,reduceMod->Qz,reduceEqDiff->QI,reduceBEq->QK
open Int renaming reduceAdd->QA,reduceSub->QB,reduceMul->QC,reducePow->QD,reduceNeg->QE,reduceToNat->QF,reduceLT->QG,reduceLE->QH
open List renaming getD_eq_getElem?_getD->AbH,replicate->AbM,getElem?_eq_getElem->AbO,getElem?_eq_some_iff->AbQ,length_append->AbS,length_cons->AbT,map_cons->AbU,take_of_length_le->AbZ,getElem?_eq_none->Ac6,length_replicate->Ac7,drop_eq_getElem_cons->Ac8,length_take->Adh,eq_nil_of_length_eq_zero->Adt,map_nil->Adu,length_nil->Ady,map_append->Adz,getElem?_map->AdC,getElem?_take->AdJ,take_add_one->AdL,getElem_mem->AdR,append_nil->AdV,range->Ad0,take_zero->Ad1,getElem?_append_left->Ad3,append_assoc->Ad5,getElem?_cons_zero->Ad6,drop_length->Ad7,drop_eq_nil_of_le->Ad9,nil_append->Aea,mem_of_mem_take->Aeb,getElem?_range->Aed,drop_succ_cons->Aee,replicate_succ->Aeg,mem_cons->Aeh,set_cons_zero->Aek,set_cons_succ->Ael,map_toArray->Aeo,cons_append->Aep,length_set->Aet,mem_append->Aeu,drop_zero->AeA,any_cons->AeB,foldl->AeF
open Nat renaming le_refl->AbP,reduceMod->AbV,reduceDiv->AbY,lt_or_ge->Adc,mul_add->Adg,testBit_two_pow_sub_succ->AdA,div_lt_iff_lt_mul->AdB,zero_le->AdD,mod_eq_of_lt->AdH,mul_comm->AdI,and_lt_two_pow->AdK,add_zero->AdM,div_div_eq_div_mul->AdN,testBit_eq_decide_div_mod_eq->AdO,mul_assoc->AdS,strongRecOn->AdT,div_lt_self->AdW,mod_add_div->AdX,min_eq_left->AdY,pow_succ->AdZ,lt_of_lt_of_le->Ad2,add_mul_mod_self_left->Ad4,zero_add->Ad8,add_mul_div_left->Aec,mul_le_mul_left->Aef,add_assoc->Aei,xor_lt_two_pow->Aej,le_of_lt->Aem,le_pred_of_lt->Aen,div_eq_of_lt->Aeq,pow_add->Aer,add_mul->Aes,testBit_and->Aev,testBit_xor->Aew,log2_eq_iff->Aex,mul_one->AeD,mod_lt->AeE,sub_lt->AeG
open Int renaming toNat_natCast->AbR,ofNat_tdiv->Aey,ofNat_tmod->Aez
open Array renaming getElem?_eq_some_iff->AdE,getElem?_modify->AdP,getElem?_toList->AdQ
open Option renaming getD_some->AdF,map_some->AdU
open Bool renaming and_eq_true->AdG,or_false->AeC
namespace Go.Proofs.YtmidaophnbdcdaaGreatDoor
section
structure Dia where
 del:UInt8
 quo:UInt8
 trim:Bool
def trimR (d:Dia) (l:List UInt8):List UInt8:=if d.trim then (l.reverse.dropWhile (· == 32)).reverse else l
end
section
open Go.Lib
def SN {n b1 b2 b3 sz lo hi k:Nat} (h:checkN n b1 b2 b3 sz lo hi=some k):k=sz/\2<=sz/\sz<=4/\sz<=n/\lo<=b1/\b1<=hi/\(3<=sz->128<=b2/\b2<=191)/\(4<=sz->128<=b3/\b3<=191):=by
 unfold checkN at h;split at h
 ·split at h;·cases h
  cases h;omega
 split at h
 ·split at h;·cases h
  cases h;omega
 split at h
 ·split at h;·cases h
  cases h;omega
 cases h
def Wy {n b1 b2 b3 sz lo hi:Nat} (h1:2<=sz) (h2:sz<=4) (hn:sz<=n) (hl:lo<=b1) (hh:b1<=hi) (h3:3<=sz->128<=b2/\b2<=191) (h4:4<=sz->128<=b3/\b3<=191):checkN n b1 b2 b3 sz lo hi=some sz:=by
 unfold checkN;rcases (by omega:sz=2\/sz=3\/sz=4) with rfl | rfl | rfl
 ·rw[if_pos rfl,if_neg (by omega)]
 ·have:=h3 (by omega);rw[if_neg (by decide),if_pos rfl,if_neg (by omega)]
 have:=h3 (by omega);have:=h4 (by omega);rw[if_neg (by decide),if_neg (by decide),if_pos rfl,if_neg (by omega)]
def Y2:∀ b:Fin 256,2<=firstT b.val % 8->firstT b.val % 8<=4->128<=accLo (firstT b.val / 16):=by decide
def Ku {l:List UInt8} (h:validD l=true):l=[]\/∃ p m,l=p++m/\p≠[]/\validD m=true/\(∀ m',validD (p++m')=validD m')/\((∃ c,p=[c]/\c.toNat<128)\/∀ c∈p,128<=c.toNat):=by
 match l,h with
 | [],_=>exact .inl rfl
 | c::r,h =>
  right;by_cases hc:c.toNat<128;·exact ⟨[c],r,rfl,by simp,by rwa[validD_cons c r hc] at h,fun m'=>validD_cons c m' hc,.inl ⟨c,rfl,hc⟩⟩
  have h0:128<=((c::r).getD 0 0).toNat:=by show 128<=c.toNat;omega
  have hv:=validD_lead (c::r) (by simp) h0;rw[h] at hv;cases hk:checkN (c::r).length ((c::r).getD 1 0).toNat ((c::r).getD 2 0).toNat ((c::r).getD 3 0).toNat (firstT ((c::r).getD 0 0).toNat % 8) (accLo (firstT ((c::r).getD 0 0).toNat / 16)) (accHi (firstT ((c::r).getD 0 0).toNat / 16)) with
  | none=>rw[hk] at hv;cases hv
  | some k =>
   rw[hk] at hv;obtain ⟨ek,k1,k2,k3,k4,k5,k6,k7⟩:=SN hk;have lo:=Y2 ⟨((c::r).getD 0 0).toNat,UInt8.toNat_lt _⟩ k1 k2;simp only at lo;generalize hl:c::r=l at *;clear hl hc;have hg:∀ m' j,j<k->(l.take k++m').getD j 0=l.getD j 0:=(by intro m' j hj;rw[AbH,AbH,Ad3 (by rw[Adh];omega),AdJ,if_pos hj])
   have hkl:k<=l.length:=(by omega);have hlt:(l.take k).length=k:=(by rw[Adh];omega);refine ⟨l.take k,l.drop k,(List.take_append_drop k l).symm,?_,hv.symm,fun m'=>?_,.inr ?_⟩;·intro e;rw[e] at hlt;simp at hlt;omega
   ·have hne:l.take k++m'≠[]:=by
     intro e;have:=congrArg List.length e;rw[AbS,hlt] at this;simp only[Ady] at this;omega
    have g0:=hg m' 0 (by omega);have g1:=hg m' 1 (by omega);rw[validD_lead _ hne (by rw[g0];exact h0),g0,g1,Wy (sz:=firstT (l.getD 0 0).toNat % 8) k1 k2 (by rw[AbS,Adh];omega) k4 k5 (fun h3=>by rw[hg m' 2 (by omega)];exact k6 h3) (fun h4=>by rw[hg m' 3 (by omega)];exact k7 h4)];show validD ((l.take k++m').drop (firstT (l.getD 0 0).toNat % 8))=_
    rw[<-ek,List.drop_left' hlt]
   intro x hx;obtain ⟨j,hj,rfl⟩:=List.getElem_of_mem hx;rw[Adh] at hj;rw[List.getElem_take];have e:l[j]=l.getD j 0:=(by rw[AbH,AbO (by omega)];rfl)
   rw[e];rcases (by omega:j=0\/j=1\/j=2\/j=3) with rfl | rfl | rfl | rfl
   ·exact h0
   ·omega
   ·exact (k6 (by omega)).1
   exact (k7 (by omega)).1
def Pg:∀ (n:Nat) (a b:List UInt8),a.length=n->validD a=true->validD (a++b)=validD b:=by
 intro n;induction n using AdT with
 | _ n ih =>
  intro a b hn ha;rcases Ku ha with rfl | ⟨p,m,rfl,hp,hm,hall,_⟩
  ·rfl
  have:=List.length_pos_iff.2 hp;rw[Ad5,hall,ih m.length (by rw[AbS] at hn;omega) m b rfl hm]
def BT {a b:List UInt8} (ha:validD a=true) (hb:validD b=true):validD (a++b)=true:=by rw[Pg _ a b rfl ha];exact hb
end
section
open Go Go.Proofs Go.Abs
def st2:C4 TP 2=false:=by kernel_rfl
def st3:C4 TP 3=false:=by kernel_rfl
def ti9:AK TP 9=some ⟨.string,1,16,[.str .empty]⟩:=by kernel_rfl
def go6:An TP 6=true:=by kernel_rfl
def go7:An TP 7=true:=by kernel_rfl
def go8:An TP 8=true:=by kernel_rfl
def go11:An TP 11=true:=by kernel_rfl
def go13:An TP 13=true:=by kernel_rfl
def go16:An TP 16=true:=by kernel_rfl
def go17:An TP 17=true:=by kernel_rfl
def go19:An TP 19=true:=by kernel_rfl
def go21:An TP 21=true:=by kernel_rfl
def go23:An TP 23=true:=by kernel_rfl
def go25:An TP 25=true:=by kernel_rfl
def go26:An TP 26=true:=by kernel_rfl
def go27:An TP 27=true:=by kernel_rfl
def go28:An TP 28=true:=by kernel_rfl
def go29:An TP 29=true:=by kernel_rfl
def go30:An TP 30=true:=by kernel_rfl
def Ym:An TP 31=true:=by kernel_rfl
def go32:An TP 32=true:=by kernel_rfl
def go37:An TP 37=true:=by kernel_rfl
def go38:An TP 38=true:=by kernel_rfl
def go39:An TP 39=true:=by kernel_rfl
def go40:An TP 40=true:=by kernel_rfl
def go42:An TP 42=true:=by kernel_rfl
def go44:An TP 44=true:=by kernel_rfl
def go45:An TP 45=true:=by kernel_rfl
def go47:An TP 47=true:=by kernel_rfl
def go48:An TP 48=true:=by kernel_rfl
def go51:An TP 51=true:=by kernel_rfl
def go52:An TP 52=true:=by kernel_rfl
def go53:An TP 53=true:=by kernel_rfl
def go54:An TP 54=true:=by kernel_rfl
def go55:An TP 55=true:=by kernel_rfl
def go56:An TP 56=true:=by kernel_rfl
def go57:An TP 57=true:=by kernel_rfl
def go58:An TP 58=true:=by kernel_rfl
def go59:An TP 59=true:=by kernel_rfl
def Z6:An TP 60=true:=by kernel_rfl
def go68:An TP 68=true:=by kernel_rfl
def go69:An TP 69=true:=by kernel_rfl
def go70:An TP 70=true:=by kernel_rfl
def go71:An TP 71=true:=by kernel_rfl
def go73:An TP 73=true:=by kernel_rfl
def go74:An TP 74=true:=by kernel_rfl
def go75:An TP 75=true:=by kernel_rfl
def PU:An TP 79=true:=by kernel_rfl
def go80:An TP 80=true:=by kernel_rfl
def Yl:An TP 81=true:=by kernel_rfl
def go82:An TP 82=true:=by kernel_rfl
def go85:An TP 85=true:=by kernel_rfl
def go86:An TP 86=true:=by kernel_rfl
def go87:An TP 87=true:=by kernel_rfl
def go93:An TP 93=true:=by kernel_rfl
def go95:An TP 95=true:=by kernel_rfl
def go96:An TP 96=true:=by kernel_rfl
def Abi:An TP 97=true:=by kernel_rfl
def go98:An TP 98=true:=by kernel_rfl
def Ac5:An TP 100=true:=by kernel_rfl
def Ac4:An TP 101=true:=by kernel_rfl
def Ac3:An TP 102=true:=by kernel_rfl
def Ac2:An TP 103=true:=by kernel_rfl
def Ac1:An TP 104=true:=by kernel_rfl
def Ac0:An TP 105=true:=by kernel_rfl
def AcZ:An TP 106=true:=by kernel_rfl
def AcY:An TP 113=true:=by kernel_rfl
def AcX:An TP 114=true:=by kernel_rfl
def AcW:An TP 115=true:=by kernel_rfl
def AaS:An TP 116=true:=by kernel_rfl
def AaR:An TP 121=true:=by kernel_rfl
def AcV:An TP 122=true:=by kernel_rfl
def AcU:An TP 123=true:=by kernel_rfl
def AcT:An TP 124=true:=by kernel_rfl
def AcS:An TP 125=true:=by kernel_rfl
def AcR:An TP 126=true:=by kernel_rfl
def AcQ:An TP 127=true:=by kernel_rfl
def AcP:An TP 129=true:=by kernel_rfl
def AcO:An TP 130=true:=by kernel_rfl
def AcN:An TP 131=true:=by kernel_rfl
def AcM:An TP 132=true:=by kernel_rfl
def AaQ:An TP 133=true:=by kernel_rfl
def AcL:An TP 134=true:=by kernel_rfl
def AcK:An TP 135=true:=by kernel_rfl
def AcJ:An TP 136=true:=by kernel_rfl
def AcI:An TP 137=true:=by kernel_rfl
def AcH:An TP 138=true:=by kernel_rfl
def AcG:An TP 139=true:=by kernel_rfl
def AcF:An TP 140=true:=by kernel_rfl
def AcE:An TP 141=true:=by kernel_rfl
def AcD:An TP 142=true:=by kernel_rfl
def AcC:An TP 143=true:=by kernel_rfl
def AcB:An TP 144=true:=by kernel_rfl
def AcA:An TP 145=true:=by kernel_rfl
def Acz:An TP 146=true:=by kernel_rfl
def Acy:An TP 154=true:=by kernel_rfl
def Acx:An TP 155=true:=by kernel_rfl
def Acw:An TP 156=true:=by kernel_rfl
def Acv:An TP 160=true:=by kernel_rfl
def Acu:An TP 161=true:=by kernel_rfl
def Sm:An TP 162=true:=by kernel_rfl
def Acs:An TP 164=true:=by kernel_rfl
def Acr:An TP 167=true:=by kernel_rfl
def Acq:An TP 168=true:=by kernel_rfl
def Acp:An TP 169=true:=by kernel_rfl
def AaP:An TP 170=true:=by kernel_rfl
def AaO:An TP 171=true:=by kernel_rfl
def Aco:An TP 172=true:=by kernel_rfl
def Acn:An TP 173=true:=by kernel_rfl
def Acm:An TP 174=true:=by kernel_rfl
def Acl:An TP 175=true:=by kernel_rfl
def Ack:An TP 176=true:=by kernel_rfl
def Acj:An TP 177=true:=by kernel_rfl
def Aci:An TP 178=true:=by kernel_rfl
def Ach:An TP 179=true:=by kernel_rfl
def AaN:An TP 184=true:=by kernel_rfl
def Acg:An TP 185=true:=by kernel_rfl
def Acf:An TP 190=true:=by kernel_rfl
def Ace:An TP 191=true:=by kernel_rfl
def Acd:An TP 192=true:=by kernel_rfl
def AaM:An TP 201=true:=by kernel_rfl
def Acb:An TP 202=true:=by kernel_rfl
def Aca:An TP 203=true:=by kernel_rfl
def Ab9:An TP 204=true:=by kernel_rfl
def Ab8:An TP 205=true:=by kernel_rfl
def Ab7:An TP 206=true:=by kernel_rfl
def Ab6:An TP 207=true:=by kernel_rfl
def Ab5:An TP 208=true:=by kernel_rfl
def AaL:An TP 211=true:=by kernel_rfl
def AaK:An TP 221=true:=by kernel_rfl
def Ab4:An TP 222=true:=by kernel_rfl
def Ab3:An TP 223=true:=by kernel_rfl
def Ab2:An TP 224=true:=by kernel_rfl
def Ab1:An TP 225=true:=by kernel_rfl
def AaJ:An TP 246=true:=by kernel_rfl
def Ab0:An TP 247=true:=by kernel_rfl
def AbX:An TP 291=true:=by kernel_rfl
def AbW:An TP 293=true:=by kernel_rfl
def fa0:AK TP 2=some ⟨.int .i64,1,8,[.int .i64 0]⟩/\AK TP 3=some ⟨.int .i64,1,8,[.int .i64 0]⟩/\GK TP 3=some (.int .i64 0)/\MS TP 3=some .i64/\AK TP 4=some ⟨.bool,1,1,[.bool false]⟩/\GK TP 4=some (.bool false)/\LF TP 4=true/\AK TP 5=some ⟨.int .u8,1,1,[.int .u8 0]⟩/\GK TP 5=some (.int .u8 0)/\MS TP 5=some .u8/\C4 TP 9=true/\AK TP 22=some ⟨.slice 5,1,24,[.sl 0 true []]⟩:=by
 repeat' apply And.intro
 all_goals kernel_rfl
def fa1:Ap TP 22=some (5,⟨.int .u8,1,1,[.int .u8 0]⟩)/\BF TP 22=true/\C4 TP 22=false/\AK TP 26=some ⟨.slice 9,1,24,[.sl 0 true []]⟩/\Ap TP 26=some (9,⟨.string,1,16,[.str .empty]⟩)/\BF TP 26=true/\BJ TP 26=true/\AK TP 27=some ⟨.slice 29,1,24,[.sl 0 true []]⟩/\Ap TP 27=some (29,⟨.struct [(0,3,1),(1,9,1),(2,26,1),(3,27,1)],4,72,[.int .i64 0,.str .empty,.sl 0 true [],.sl 0 true []]⟩)/\BF TP 27=true/\BJ TP 27=true/\AK TP 29=some ⟨.struct [(0,3,1),(1,9,1),(2,26,1),(3,27,1)],4,72,[.int .i64 0,.str .empty,.sl 0 true [],.sl 0 true []]⟩:=by
 repeat' apply And.intro
 all_goals kernel_rfl
def fa2:AB TP 29 0=some (0,3,1)/\AB TP 29 1=some (1,9,1)/\AB TP 29 2=some (2,26,1)/\AB TP 29 3=some (3,27,1)/\AK TP 34=some ⟨.slice 3,1,24,[.sl 0 true []]⟩/\Ap TP 34=some (3,⟨.int .i64,1,8,[.int .i64 0]⟩)/\BF TP 34=true/\BJ TP 34=true/\AK TP 35=some ⟨.slice 43,1,24,[.sl 0 true []]⟩/\Ap TP 35=some (43,⟨.struct [(0,3,1),(1,9,1),(2,41,1)],3,48,[.int .i64 0,.str .empty,.sl 0 true []]⟩)/\BF TP 35=true/\BJ TP 35=true:=by
 repeat' apply And.intro
 all_goals kernel_rfl
def fa3:AK TP 41=some ⟨.slice 46,1,24,[.sl 0 true []]⟩/\Ap TP 41=some (46,⟨.struct [(0,9,1),(1,44,1)],2,40,[.str .empty,.sl 0 true []]⟩)/\BF TP 41=true/\BJ TP 41=true/\AK TP 43=some ⟨.struct [(0,3,1),(1,9,1),(2,41,1)],3,48,[.int .i64 0,.str .empty,.sl 0 true []]⟩/\AB TP 43 0=some (0,3,1)/\AB TP 43 1=some (1,9,1)/\AB TP 43 2=some (2,41,1)/\AK TP 44=some ⟨.slice 48,1,24,[.sl 0 true []]⟩/\Ap TP 44=some (48,⟨.struct [(0,4,1),(1,9,1)],2,24,[.bool false,.str .empty]⟩)/\BF TP 44=true/\BJ TP 44=true:=by
 repeat' apply And.intro
 all_goals kernel_rfl
def fa4:AK TP 46=some ⟨.struct [(0,9,1),(1,44,1)],2,40,[.str .empty,.sl 0 true []]⟩/\AB TP 46 0=some (0,9,1)/\AB TP 46 1=some (1,44,1)/\AK TP 48=some ⟨.struct [(0,4,1),(1,9,1)],2,24,[.bool false,.str .empty]⟩/\GK TP 48=some (.agg [.bool false,.str .empty])/\AB TP 48 0=some (0,4,1)/\AB TP 48 1=some (1,9,1)/\AK TP 58=some ⟨.struct [(0,22,1),(1,3,1)],2,32,[.sl 0 true [],.int .i64 0]⟩/\AB TP 58 0=some (0,22,1)/\AB TP 58 1=some (1,3,1)/\GK TP 62=some (.sl 0 true [])/\Ap TP 62=some (64,⟨.struct [(0,3,1),(1,29,4)],5,80,[.int .i64 0,.int .i64 0,.str .empty,.sl 0 true [],.sl 0 true []]⟩):=by
 repeat' apply And.intro
 all_goals kernel_rfl
def fa5:BF TP 62=true/\BJ TP 62=true/\AK TP 64=some ⟨.struct [(0,3,1),(1,29,4)],5,80,[.int .i64 0,.int .i64 0,.str .empty,.sl 0 true [],.sl 0 true []]⟩/\AB TP 64 0=some (0,3,1)/\AB TP 64 1=some (1,29,4)/\AK TP 69=some ⟨.struct [(0,3,1),(1,35,1)],2,32,[.int .i64 0,.sl 0 true []]⟩/\AB TP 69 0=some (0,3,1)/\AB TP 69 1=some (1,35,1)/\AK TP 79=some ⟨.struct [(0,77,1),(1,22,1)],2,32,[.nilp,.sl 0 true []]⟩/\AK TP 88=some ⟨.struct [(0,9,1),(1,27,1)],2,40,[.str .empty,.sl 0 true []]⟩/\AB TP 88 0=some (0,9,1)/\AB TP 88 1=some (1,27,1):=by
 repeat' apply And.intro
 all_goals kernel_rfl
def fa6:AK TP 100=some ⟨.slice 108,1,24,[.sl 0 true []]⟩/\Ap TP 100=some (108,⟨.map 9 48,1,8,[.nilm]⟩)/\BF TP 100=true/\BJ TP 100=true/\AK TP 101=some ⟨.map 9 62,1,8,[.nilm]⟩/\AK TP 102=some ⟨.map 9 3,1,8,[.nilm]⟩/\AK TP 104=some ⟨.struct [(0,4,1),(1,34,1),(2,26,1),(3,100,1),(4,26,1),(5,101,1),(6,102,1)],7,120,[.bool false,.sl 0 true [],.sl 0 true [],.sl 0 true [],.sl 0 true [],.nilm,.nilm]⟩/\AB TP 104 0=some (0,4,1)/\AB TP 104 1=some (1,34,1)/\AB TP 104 2=some (2,26,1)/\AB TP 104 3=some (3,100,1)/\AB TP 104 4=some (4,26,1):=by
 repeat' apply And.intro
 all_goals kernel_rfl
def fa7:AB TP 104 5=some (5,101,1)/\AB TP 104 6=some (6,102,1)/\AK TP 105=some ⟨.map 9 4,1,8,[.nilm]⟩/\AK TP 108=some ⟨.map 9 48,1,8,[.nilm]⟩/\AK TP 124=some ⟨.map 4 5,1,8,[.nilm]⟩/\AK TP 128=some ⟨.slice 187,1,24,[.sl 0 true []]⟩/\Ap TP 128=some (187,⟨.int .u32,1,4,[.int .u32 0]⟩)/\AK TP 130=some ⟨.struct [(0,4,1),(1,128,1)],2,32,[.bool false,.sl 0 true []]⟩/\AB TP 130 0=some (0,4,1)/\AB TP 130 1=some (1,128,1)/\AK TP 132=some ⟨.struct [(0,130,2),(2,130,2)],4,64,[.bool false,.sl 0 true [],.bool false,.sl 0 true []]⟩/\AK TP 141=some ⟨.array 256 4,256,256,[.bool false,.bool false,.bool false,.bool false,.bool false,.bool false,.bool false,.bool false,.bool false,.bool false,.bool false,.bool false,.bool false,.bool false,.bool false,.bool false,.bool false,.bool false,.bool false,.bool false,.bool false,.bool false,.bool false,.bool false,.bool false,.bool false,.bool false,.bool false,.bool false,.bool false,.bool false,.bool false,.bool false,.bool false,.bool false,.bool false,.bool false,.bool false,.bool false,.bool false,.bool false,.bool false,.bool false,.bool false,.bool false,.bool false,.bool false,.bool false,.bool false,.bool false,.bool false,.bool false,.bool false,.bool false,.bool false,.bool false,.bool false,.bool false,.bool false,.bool false,.bool false,.bool false,.bool false,.bool false,.bool false,.bool false,.bool false,.bool false,.bool false,.bool false,.bool false,.bool false,.bool false,.bool false,.bool false,.bool false,.bool false,.bool false,.bool false,.bool false,.bool false,.bool false,.bool false,.bool false,.bool false,.bool false,.bool false,.bool false,.bool false,.bool false,.bool false,.bool false,.bool false,.bool false,.bool false,.bool false,.bool false,.bool false,.bool false,.bool false,.bool false,.bool false,.bool false,.bool false,.bool false,.bool false,.bool false,.bool false,.bool false,.bool false,.bool false,.bool false,.bool false,.bool false,.bool false,.bool false,.bool false,.bool false,.bool false,.bool false,.bool false,.bool false,.bool false,.bool false,.bool false,.bool false,.bool false,.bool false,.bool false,.bool false,.bool false,.bool false,.bool false,.bool false,.bool false,.bool false,.bool false,.bool false,.bool false,.bool false,.bool false,.bool false,.bool false,.bool false,.bool false,.bool false,.bool false,.bool false,.bool false,.bool false,.bool false,.bool false,.bool false,.bool false,.bool false,.bool false,.bool false,.bool false,.bool false,.bool false,.bool false,.bool false,.bool false,.bool false,.bool false,.bool false,.bool false,.bool false,.bool false,.bool false,.bool false,.bool false,.bool false,.bool false,.bool false,.bool false,.bool false,.bool false,.bool false,.bool false,.bool false,.bool false,.bool false,.bool false,.bool false,.bool false,.bool false,.bool false,.bool false,.bool false,.bool false,.bool false,.bool false,.bool false,.bool false,.bool false,.bool false,.bool false,.bool false,.bool false,.bool false,.bool false,.bool false,.bool false,.bool false,.bool false,.bool false,.bool false,.bool false,.bool false,.bool false,.bool false,.bool false,.bool false,.bool false,.bool false,.bool false,.bool false,.bool false,.bool false,.bool false,.bool false,.bool false,.bool false,.bool false,.bool false,.bool false,.bool false,.bool false,.bool false,.bool false,.bool false,.bool false,.bool false,.bool false,.bool false,.bool false,.bool false,.bool false,.bool false,.bool false,.bool false,.bool false,.bool false,.bool false,.bool false,.bool false,.bool false,.bool false,.bool false,.bool false,.bool false,.bool false,.bool false,.bool false,.bool false]⟩:=by
 repeat' apply And.intro
 all_goals kernel_rfl
def fa8:Ap TP 141=none/\Er TP 141=some (256,4,1)/\AK TP 177=some ⟨.int .u64,1,8,[.int .u64 0]⟩/\MS TP 177=some .u64/\AK TP 187=some ⟨.int .u32,1,4,[.int .u32 0]⟩/\MS TP 187=some .u32/\AK TP 195=some ⟨.struct [(0,185,0),(0,189,1),(1,193,2)],3,12,[.int .u32 0,.int .i32 0,.int .u32 0]⟩/\AK TP 197=some ⟨.other,1,16,[.nili]⟩/\AK TP 199=some ⟨.struct [(0,195,3),(3,197,1),(4,26,1)],5,56,[.int .u32 0,.int .i32 0,.int .u32 0,.nili,.sl 0 true []]⟩/\AB TP 199 0=some (0,195,3)/\AB TP 199 1=some (3,197,1)/\AB TP 199 2=some (4,26,1):=by
 repeat' apply And.intro
 all_goals kernel_rfl
def fa9:AK TP 205=some ⟨.slice 187,1,24,[.sl 0 true []]⟩/\Ap TP 205=some (187,⟨.int .u32,1,4,[.int .u32 0]⟩)/\BF TP 205=true/\BJ TP 205=true/\AK TP 222=some ⟨.struct [(0,9,1),(1,29,4)],5,88,[.str .empty,.int .i64 0,.str .empty,.sl 0 true [],.sl 0 true []]⟩/\AB TP 222 0=some (0,9,1)/\AB TP 222 1=some (1,29,4)/\Ap TP 223=some (222,⟨.struct [(0,9,1),(1,29,4)],5,88,[.str .empty,.int .i64 0,.str .empty,.sl 0 true [],.sl 0 true []]⟩)/\BF TP 223=true/\AK TP 225=some ⟨.map 5 5,1,8,[.nilm]⟩/\AK TP 228=some ⟨.array 24 5,24,24,[.int .u8 0,.int .u8 0,.int .u8 0,.int .u8 0,.int .u8 0,.int .u8 0,.int .u8 0,.int .u8 0,.int .u8 0,.int .u8 0,.int .u8 0,.int .u8 0,.int .u8 0,.int .u8 0,.int .u8 0,.int .u8 0,.int .u8 0,.int .u8 0,.int .u8 0,.int .u8 0,.int .u8 0,.int .u8 0,.int .u8 0,.int .u8 0]⟩/\Er TP 228=some (24,5,1):=by
 repeat' apply And.intro
 all_goals kernel_rfl
def fa10:Ap TP 249=none/\Er TP 249=some (20,177,1)/\AK TP 262=some ⟨.array 256 22,256,6144,[.sl 0 true [],.sl 0 true [],.sl 0 true [],.sl 0 true [],.sl 0 true [],.sl 0 true [],.sl 0 true [],.sl 0 true [],.sl 0 true [],.sl 0 true [],.sl 0 true [],.sl 0 true [],.sl 0 true [],.sl 0 true [],.sl 0 true [],.sl 0 true [],.sl 0 true [],.sl 0 true [],.sl 0 true [],.sl 0 true [],.sl 0 true [],.sl 0 true [],.sl 0 true [],.sl 0 true [],.sl 0 true [],.sl 0 true [],.sl 0 true [],.sl 0 true [],.sl 0 true [],.sl 0 true [],.sl 0 true [],.sl 0 true [],.sl 0 true [],.sl 0 true [],.sl 0 true [],.sl 0 true [],.sl 0 true [],.sl 0 true [],.sl 0 true [],.sl 0 true [],.sl 0 true [],.sl 0 true [],.sl 0 true [],.sl 0 true [],.sl 0 true [],.sl 0 true [],.sl 0 true [],.sl 0 true [],.sl 0 true [],.sl 0 true [],.sl 0 true [],.sl 0 true [],.sl 0 true [],.sl 0 true [],.sl 0 true [],.sl 0 true [],.sl 0 true [],.sl 0 true [],.sl 0 true [],.sl 0 true [],.sl 0 true [],.sl 0 true [],.sl 0 true [],.sl 0 true [],.sl 0 true [],.sl 0 true [],.sl 0 true [],.sl 0 true [],.sl 0 true [],.sl 0 true [],.sl 0 true [],.sl 0 true [],.sl 0 true [],.sl 0 true [],.sl 0 true [],.sl 0 true [],.sl 0 true [],.sl 0 true [],.sl 0 true [],.sl 0 true [],.sl 0 true [],.sl 0 true [],.sl 0 true [],.sl 0 true [],.sl 0 true [],.sl 0 true [],.sl 0 true [],.sl 0 true [],.sl 0 true [],.sl 0 true [],.sl 0 true [],.sl 0 true [],.sl 0 true [],.sl 0 true [],.sl 0 true [],.sl 0 true [],.sl 0 true [],.sl 0 true [],.sl 0 true [],.sl 0 true [],.sl 0 true [],.sl 0 true [],.sl 0 true [],.sl 0 true [],.sl 0 true [],.sl 0 true [],.sl 0 true [],.sl 0 true [],.sl 0 true [],.sl 0 true [],.sl 0 true [],.sl 0 true [],.sl 0 true [],.sl 0 true [],.sl 0 true [],.sl 0 true [],.sl 0 true [],.sl 0 true [],.sl 0 true [],.sl 0 true [],.sl 0 true [],.sl 0 true [],.sl 0 true [],.sl 0 true [],.sl 0 true [],.sl 0 true [],.sl 0 true [],.sl 0 true [],.sl 0 true [],.sl 0 true [],.sl 0 true [],.sl 0 true [],.sl 0 true [],.sl 0 true [],.sl 0 true [],.sl 0 true [],.sl 0 true [],.sl 0 true [],.sl 0 true [],.sl 0 true [],.sl 0 true [],.sl 0 true [],.sl 0 true [],.sl 0 true [],.sl 0 true [],.sl 0 true [],.sl 0 true [],.sl 0 true [],.sl 0 true [],.sl 0 true [],.sl 0 true [],.sl 0 true [],.sl 0 true [],.sl 0 true [],.sl 0 true [],.sl 0 true [],.sl 0 true [],.sl 0 true [],.sl 0 true [],.sl 0 true [],.sl 0 true [],.sl 0 true [],.sl 0 true [],.sl 0 true [],.sl 0 true [],.sl 0 true [],.sl 0 true [],.sl 0 true [],.sl 0 true [],.sl 0 true [],.sl 0 true [],.sl 0 true [],.sl 0 true [],.sl 0 true [],.sl 0 true [],.sl 0 true [],.sl 0 true [],.sl 0 true [],.sl 0 true [],.sl 0 true [],.sl 0 true [],.sl 0 true [],.sl 0 true [],.sl 0 true [],.sl 0 true [],.sl 0 true [],.sl 0 true [],.sl 0 true [],.sl 0 true [],.sl 0 true [],.sl 0 true [],.sl 0 true [],.sl 0 true [],.sl 0 true [],.sl 0 true [],.sl 0 true [],.sl 0 true [],.sl 0 true [],.sl 0 true [],.sl 0 true [],.sl 0 true [],.sl 0 true [],.sl 0 true [],.sl 0 true [],.sl 0 true [],.sl 0 true [],.sl 0 true [],.sl 0 true [],.sl 0 true [],.sl 0 true [],.sl 0 true [],.sl 0 true [],.sl 0 true [],.sl 0 true [],.sl 0 true [],.sl 0 true [],.sl 0 true [],.sl 0 true [],.sl 0 true [],.sl 0 true [],.sl 0 true [],.sl 0 true [],.sl 0 true [],.sl 0 true [],.sl 0 true [],.sl 0 true [],.sl 0 true [],.sl 0 true [],.sl 0 true [],.sl 0 true [],.sl 0 true [],.sl 0 true [],.sl 0 true [],.sl 0 true [],.sl 0 true [],.sl 0 true [],.sl 0 true [],.sl 0 true [],.sl 0 true [],.sl 0 true [],.sl 0 true [],.sl 0 true [],.sl 0 true [],.sl 0 true [],.sl 0 true [],.sl 0 true [],.sl 0 true [],.sl 0 true [],.sl 0 true [],.sl 0 true [],.sl 0 true [],.sl 0 true [],.sl 0 true [],.sl 0 true [],.sl 0 true [],.sl 0 true []]⟩/\Ap TP 262=none/\Er TP 262=some (256,22,1)/\AK TP 264=some ⟨.struct [(0,262,256),(256,26,1)],257,6168,[.sl 0 true [],.sl 0 true [],.sl 0 true [],.sl 0 true [],.sl 0 true [],.sl 0 true [],.sl 0 true [],.sl 0 true [],.sl 0 true [],.sl 0 true [],.sl 0 true [],.sl 0 true [],.sl 0 true [],.sl 0 true [],.sl 0 true [],.sl 0 true [],.sl 0 true [],.sl 0 true [],.sl 0 true [],.sl 0 true [],.sl 0 true [],.sl 0 true [],.sl 0 true [],.sl 0 true [],.sl 0 true [],.sl 0 true [],.sl 0 true [],.sl 0 true [],.sl 0 true [],.sl 0 true [],.sl 0 true [],.sl 0 true [],.sl 0 true [],.sl 0 true [],.sl 0 true [],.sl 0 true [],.sl 0 true [],.sl 0 true [],.sl 0 true [],.sl 0 true [],.sl 0 true [],.sl 0 true [],.sl 0 true [],.sl 0 true [],.sl 0 true [],.sl 0 true [],.sl 0 true [],.sl 0 true [],.sl 0 true [],.sl 0 true [],.sl 0 true [],.sl 0 true [],.sl 0 true [],.sl 0 true [],.sl 0 true [],.sl 0 true [],.sl 0 true [],.sl 0 true [],.sl 0 true [],.sl 0 true [],.sl 0 true [],.sl 0 true [],.sl 0 true [],.sl 0 true [],.sl 0 true [],.sl 0 true [],.sl 0 true [],.sl 0 true [],.sl 0 true [],.sl 0 true [],.sl 0 true [],.sl 0 true [],.sl 0 true [],.sl 0 true [],.sl 0 true [],.sl 0 true [],.sl 0 true [],.sl 0 true [],.sl 0 true [],.sl 0 true [],.sl 0 true [],.sl 0 true [],.sl 0 true [],.sl 0 true [],.sl 0 true [],.sl 0 true [],.sl 0 true [],.sl 0 true [],.sl 0 true [],.sl 0 true [],.sl 0 true [],.sl 0 true [],.sl 0 true [],.sl 0 true [],.sl 0 true [],.sl 0 true [],.sl 0 true [],.sl 0 true [],.sl 0 true [],.sl 0 true [],.sl 0 true [],.sl 0 true [],.sl 0 true [],.sl 0 true [],.sl 0 true [],.sl 0 true [],.sl 0 true [],.sl 0 true [],.sl 0 true [],.sl 0 true [],.sl 0 true [],.sl 0 true [],.sl 0 true [],.sl 0 true [],.sl 0 true [],.sl 0 true [],.sl 0 true [],.sl 0 true [],.sl 0 true [],.sl 0 true [],.sl 0 true [],.sl 0 true [],.sl 0 true [],.sl 0 true [],.sl 0 true [],.sl 0 true [],.sl 0 true [],.sl 0 true [],.sl 0 true [],.sl 0 true [],.sl 0 true [],.sl 0 true [],.sl 0 true [],.sl 0 true [],.sl 0 true [],.sl 0 true [],.sl 0 true [],.sl 0 true [],.sl 0 true [],.sl 0 true [],.sl 0 true [],.sl 0 true [],.sl 0 true [],.sl 0 true [],.sl 0 true [],.sl 0 true [],.sl 0 true [],.sl 0 true [],.sl 0 true [],.sl 0 true [],.sl 0 true [],.sl 0 true [],.sl 0 true [],.sl 0 true [],.sl 0 true [],.sl 0 true [],.sl 0 true [],.sl 0 true [],.sl 0 true [],.sl 0 true [],.sl 0 true [],.sl 0 true [],.sl 0 true [],.sl 0 true [],.sl 0 true [],.sl 0 true [],.sl 0 true [],.sl 0 true [],.sl 0 true [],.sl 0 true [],.sl 0 true [],.sl 0 true [],.sl 0 true [],.sl 0 true [],.sl 0 true [],.sl 0 true [],.sl 0 true [],.sl 0 true [],.sl 0 true [],.sl 0 true [],.sl 0 true [],.sl 0 true [],.sl 0 true [],.sl 0 true [],.sl 0 true [],.sl 0 true [],.sl 0 true [],.sl 0 true [],.sl 0 true [],.sl 0 true [],.sl 0 true [],.sl 0 true [],.sl 0 true [],.sl 0 true [],.sl 0 true [],.sl 0 true [],.sl 0 true [],.sl 0 true [],.sl 0 true [],.sl 0 true [],.sl 0 true [],.sl 0 true [],.sl 0 true [],.sl 0 true [],.sl 0 true [],.sl 0 true [],.sl 0 true [],.sl 0 true [],.sl 0 true [],.sl 0 true [],.sl 0 true [],.sl 0 true [],.sl 0 true [],.sl 0 true [],.sl 0 true [],.sl 0 true [],.sl 0 true [],.sl 0 true [],.sl 0 true [],.sl 0 true [],.sl 0 true [],.sl 0 true [],.sl 0 true [],.sl 0 true [],.sl 0 true [],.sl 0 true [],.sl 0 true [],.sl 0 true [],.sl 0 true [],.sl 0 true [],.sl 0 true [],.sl 0 true [],.sl 0 true [],.sl 0 true [],.sl 0 true [],.sl 0 true [],.sl 0 true [],.sl 0 true [],.sl 0 true [],.sl 0 true [],.sl 0 true [],.sl 0 true [],.sl 0 true [],.sl 0 true [],.sl 0 true [],.sl 0 true [],.sl 0 true [],.sl 0 true [],.sl 0 true [],.sl 0 true [],.sl 0 true [],.sl 0 true [],.sl 0 true [],.sl 0 true [],.sl 0 true [],.sl 0 true [],.sl 0 true []]⟩/\WW TP 264=some (AbM 257 (.val (.slice none 0 0)))/\AB TP 264 0=some (0,262,256)/\AB TP 264 1=some (256,26,1)/\ZN TP 265=true:=by
 repeat' apply And.intro
 all_goals kernel_rfl
set_option linter.defProp false in
def Zl:=(And.intro (And.intro (And.intro ti9 (And.intro fa0 fa1)) (And.intro fa2 (And.intro fa3 fa4))) (And.intro (And.intro fa5 (And.intro fa6 fa7)) (And.intro fa8 (And.intro fa9 fa10))))
set_option linter.defProp false in
def Ae := And.intro Zk (And.intro awX Zl)
def Al:Tryz.prog.follows .mixedOrders=true:=by kernel_rfl
end
section
open Go Go.Proofs Go.Abs Go.RowKit Go.Shelf
variable {G:Ah}
abbrev M0:B0:=fun _=>false
abbrev S (l:List UInt8):D:=.str (bs l)
def Gh:List D:=(Ad0 256).map fun c=>.int .u8 (Lib.firstT c)
def Ns:List D:=(Ad0 32).map fun i=>.int .u8 (if i % 2=0 then Lib.accLo (i / 2) else Lib.accHi (i / 2):Nat)
def HT (G:Ah):Prop:=G 0=some Gh/\G 1=some Ns
def Tryz.laysValid_ren:Go.Shelf.Ren:=⟨fun | 196=>55 | 259=>94 | n=>n,fun | 9=>9 | 4=>4 | 3=>3 | 5=>5 | 12=>12 | 119=>151 | 0=>0 | 46=>155 | 139=>154 | 138=>153 | 53=>177 | n=>n,fun | 3=>0 | 4=>1 | n=>n⟩
def Tryz.laysValid:Go.Proofs.Lays.n196 TP Tryz.laysValid_ren where
 mixed:=by kernel_rfl
 f196:=Tryz.func55.trans (congrArg some (by kernel_rfl))
 f259:=Tryz.func94.trans (congrArg some (by kernel_rfl))
 t0:=Tryz.underlying0
 a0:=Tryz.isAgg0
 z0:=Tryz.sizeOf0
 v0:=Tryz.zeroValue0
 t3:=Tryz.underlying3
 a3:=Tryz.isAgg3
 z3:=Tryz.sizeOf3
 v3:=Tryz.zeroValue3
 t4:=Tryz.underlying4
 a4:=Tryz.isAgg4
 z4:=Tryz.sizeOf4
 v4:=Tryz.zeroValue4
 t5:=Tryz.underlying5
 a5:=Tryz.isAgg5
 z5:=Tryz.sizeOf5
 v5:=Tryz.zeroValue5
 t9:=Tryz.underlying9
 a9:=Tryz.isAgg9
 z9:=Tryz.sizeOf9
 v9:=Tryz.zeroValue9
 t12:=Tryz.underlying12
 a12:=Tryz.isAgg12
 z12:=Tryz.sizeOf12
 v12:=Tryz.zeroValue12
 t46:=Tryz.underlying155
 a46:=Tryz.isAgg155
 z46:=Tryz.sizeOf155
 v46:=Tryz.zeroValue155
 t53:=Tryz.underlying177
 a53:=Tryz.isAgg177
 z53:=Tryz.sizeOf177
 v53:=Tryz.zeroValue177
 t119:=Tryz.underlying151
 a119:=Tryz.isAgg151
 z119:=Tryz.sizeOf151
 t138:=Tryz.underlying153
 a138:=Tryz.isAgg153
 z138:=Tryz.sizeOf153
 v138:=Tryz.zeroValue153
 t139:=Tryz.underlying154
 a139:=Tryz.isAgg154
 z139:=Tryz.sizeOf154
 v139:=Tryz.zeroValue154
 g3:=by kernel_rfl
 g4:=by kernel_rfl
def LV {h:Held} {ρ:Abs.Place} {H:AZ} {w:World} {g:Nat} {l:List Int} (s:Sim G h ρ H w) (e:G g=some (Au .u8 l)) {i:Nat} (hi:i<l.length):w.cell? ⟨g,i,none⟩=some (.int .u8 (l.getD i 0)):=by
 obtain ⟨vs,h1,h2⟩:=s.glob g _ e;have hx:(Au .u8 l)[i]?=some (.int .u8 (l.getD i 0)):=by simp[Au,hi,AbH]
 have:=s.prom _ _ _ (h1 i _ hx);rw[this];have r:=h2 i _ hx;generalize vs i=v at r;cases r;rfl
def Ua:Gh=Au .u8 ((Ad0 256).map fun c=>(Lib.firstT c:Int)):=by simp[Gh,Au]
def Y3:Ns=Au .u8 ((Ad0 32).map fun i=>((if i % 2=0 then Lib.accLo (i / 2) else Lib.accHi (i / 2):Nat):Int)):=by simp[Ns,Au]
def Zv {h:Held} {ρ:Abs.Place} {H:AZ} {w:World} (hT:HT G) (s:Sim G h ρ H w):Lib.Utf8Tabs 0 1 w:=by
 obtain ⟨e1,e2⟩:=hT;rw[Ua] at e1;rw[Y3] at e2;refine ⟨fun c hc=>?_,fun i hi=>⟨?_,?_⟩⟩;·rw[LV s e1 (by simpa using hc)];simp[AbH,hc]
 ·rw[LV s e2 (by simp;omega)];simp[AbH,show 2*i<32 by omega]
 rw[LV s e2 (by simp;omega)];simp[AbH,show 2*i+1<32 by omega,show (2*i+1) % 2=1 by omega,show (2*i+1) / 2=i by omega]
def Rx (hT:HT G) (l:List UInt8) (hl:l.length<=9223372036854775807):Ctr TP G 55 [.d (S l)] [] (.d (.bool (Lib.validD l))) []:=by refine Ctr.of_calls go55 fun h ρ w vs q r=>?_;obtain ⟨v,rfl,hv⟩:=r.inv1;rw[hv.str_inv];refine (Any.utf8_ValidString Tryz.laysValid (bs l) w (by rw[DN];exact hl) (Zv hT q)).mono ?_;rintro e w' ⟨rfl,hb⟩;exact ⟨_,rfl,.bool _,hb⟩
def Ea (hT:HT G) (l:List UInt8) (hl:l.length<=9223372036854775807):Ctr TP G 30 [.d (S l)] [] (.d (.bool (Lib.validD l))) []:=by refine Ctr.pure (M:=M0) Al Tryz.func30 rfl go30 ?_;simp(disch:=(try simp only[Ad]);omega)only[Tryz.f30,↓Ac,Ae,↓reduceIte,↓reduceDIte,↓Qe,Qu,Qv,Qw,Qx,Qy,Qz,QA,QB,QC,QD,QE,QF,QG,QH,QI,QK];refine Ab.pure (Rx hT l hl) ?_;simp(disch:=(try simp only[Ad]);omega)only[↓Ac,Ae,↓reduceIte,↓reduceDIte,↓Qe,Qu,Qv,Qw,Qx,Qy,Qz,QA,QB,QC,QD,QE,QF,QG,QH,QI,QK]
def hasP (s p:List UInt8):Bool:=decide (s.take p.length=p)
def hasP_le {s p:List UInt8} (h:hasP s p=true):p.length<=s.length:=by have:=of_decide_eq_true h;have h2:=congrArg List.length this;simp at h2;omega
def hasPrefix_spec (s p:List UInt8):Ctr TP G 184 [.d (S s),.d (S p)] [] (.d (.bool (hasP s p))) []:=by refine Ctr.pure (M:=M0) Al Tryz.func184 rfl AaN ?_;simp(disch:=(try simp only[Ad]);omega)only[Ag,Tryz.f184,↓Ac,Ae,↓reduceIte,↓reduceDIte,↓Qe,Qu,Qv,Qw,Qx,Qy,Qz,QA,QB,QC,QD,QE,QF,QG,QH,QI,QK];refine ⟨fun _=>rfl,fun h=>(decide_eq_false fun e=>h ?_).symm⟩;have:=congrArg List.length e;simp at this;omega
def indexByte_calls (s:ByteArray) (c:Int) (w:World) :
  Calls TP 211 #[.string s,.int .u8 c] w fun e w'=>e=.returned (.int .i64 (Lib.indexByte s.data.toList c.toNat.toUInt8))/\w'=w:=by
 go_enter Tryz.func211,Tryz.ntmps211;go_wp2;rw[run_callFunc_extern Tryz.func235 (by kernel_rfl) (by kernel_rfl) (by kernel_rfl) (e:=Extern.BytealgIndexByte.indexByte) (by kernel_rfl),Lib.run_indexByteString];simp only[Result.andThen];rw[Oper.upon_value];go_wp2;go_ret;exact ⟨rfl,rfl⟩
def indexByte_spec (s:List UInt8) (c:UInt8):Ctr TP G 211 [.d (S s),.d (.int .u8 c.toNat)] [] (.d (.int .i64 (Lib.indexByte s c))) []:=by
 refine Ctr.of_calls AaL fun h ρ w vs q r=>?_;obtain ⟨v,u,rfl,hv,hu⟩:=r.inv2;rw[hv.str_inv,hu.int_inv];refine (indexByte_calls (bs s) c.toNat w).mono ?_;rintro e w' ⟨rfl,rfl⟩;refine ⟨_,rfl,?_,.refl _ _⟩;have:((c.toNat:Int)).toNat.toUInt8=c:=by simp
 rw[this];exact .int _ _
def cutL (c:UInt8):List UInt8->List UInt8
 | []=>[]
 | b::l=>if b=c then [] else b::cutL c l
def cutR (c:UInt8):List UInt8->List UInt8
 | []=>[]
 | b::l=>if b=c then l else cutR c l
def cut_index (c:UInt8):∀ s:List UInt8,(c∈s->∃ k:Nat,Lib.indexByte s c=k/\k<s.length/\s.take k=cutL c s/\s.drop (k+1)=cutR c s)/\(c∉s->Lib.indexByte s c=-1/\cutL c s=s/\cutR c s=[])
 | []=>⟨fun h=>absurd h List.not_mem_nil,fun _=>⟨rfl,rfl,rfl⟩⟩
 | b::l=>by
   obtain ⟨i1,i2⟩:=cut_index c l;by_cases e:b=c;·subst e;refine ⟨fun _=>⟨0,?_,by simp,by simp[cutL],by simp[cutR]⟩,fun h=>absurd (List.mem_cons_self ..) h⟩;simp[Lib.indexByte]
   have e2:¬c=b:=fun h=>e h.symm;refine ⟨fun h=>?_,fun h=>?_⟩;·obtain ⟨k,h1,h2,h3,h4⟩:=i1 ((Aeh.1 h).resolve_left e2);refine ⟨k+1,?_,by simpa using h2,by simp[cutL,e,h3],by simp[cutR,e,h4]⟩;simp only[Lib.indexByte,h1];rw[if_neg (by simpa using e),if_neg (by simp)];omega
   obtain ⟨h1,h2,h3⟩:=i2 (fun h2=>h (List.mem_cons_of_mem _ h2));refine ⟨?_,by simp[cutL,e,h2],by simp[cutR,e,h3]⟩;simp only[Lib.indexByte,h1];rw[if_neg (by simpa using e),if_pos (by decide)]
def index1_spec (s:List UInt8) (c:UInt8) (hs:s.length<2^62):Ctr TP G 201 [.d (S s),.d (S [c])] [] (.d (.int .i64 (Lib.indexByte s c))) []:=by
 refine Ctr.pure (M:=M0) Al Tryz.func201 rfl AaM ?_;simp(disch:=(try simp only[Ad]);omega)only[Ag,Tryz.f201,↓Ac,Ae,↓reduceIte,↓reduceDIte,↓Qe,Qu,Qv,Qw,Qx,Qy,Qz,QA,QB,QC,QD,QE,QF,QG,QH,QI,QK];refine ⟨fun h=>?_,fun h=>?_⟩;·rw[<-h];simp[Lib.indexByte]
 refine Ab.pure (indexByte_spec s c) ?_;simp(disch:=(try simp only[Ad]);omega)only[Ag,↓Ac,Ae,↓reduceIte,↓reduceDIte,↓Qe,Qu,Qv,Qw,Qx,Qy,Qz,QA,QB,QC,QD,QE,QF,QG,QH,QI,QK]
def cutS_spec (s:List UInt8) (c:UInt8) (hs:s.length<2^62):Ctr TP G 170 [.d (S s),.d (S [c])] [] (.d (.tup [S (cutL c s),S (cutR c s),.bool (decide (c∈s))])) []:=by
 refine Ctr.pure (M:=M0) Al Tryz.func170 rfl AaP ?_;simp(disch:=(try simp only[Ad]);omega)only[Ag,Tryz.f170,↓Ac,Ae,↓reduceIte,↓reduceDIte,↓Qe,Qu,Qv,Qw,Qx,Qy,Qz,QA,QB,QC,QD,QE,QF,QG,QH,QI,QK];refine Ab.pure (index1_spec s c hs) ?_;obtain ⟨i1,i2⟩:=cut_index c s;by_cases h:c∈s;·obtain ⟨k,h1,h2,h3,h4⟩:=i1 h;rw[h1,decide_eq_true h,<-h3,<-h4];simp(disch:=(try simp only[Ad]);omega)only[Ag,↓Ac,Ae,↓reduceIte,↓reduceDIte,↓Qe,Qu,Qv,Qw,Qx,Qy,Qz,QA,QB,QC,QD,QE,QF,QG,QH,QI,QK];rfl
 obtain ⟨h1,h3,h4⟩:=i2 h;rw[h1,decide_eq_false h,h3,h4];simp(disch:=(try simp only[Ad]);omega)only[Ag,↓Ac,Ae,↓reduceIte,↓reduceDIte,↓Qe,Qu,Qv,Qw,Qx,Qy,Qz,QA,QB,QC,QD,QE,QF,QG,QH,QI,QK]
def cut_spec (s:List UInt8) (c:UInt8) (hs:s.length<2^62):Ctr TP G 133 [.d (S s),.d (S [c])] [] (.d (.tup [S (cutL c s),S (cutR c s),.bool (decide (c∈s))])) []:=by refine Ctr.pure (M:=M0) Al Tryz.func133 rfl AaQ ?_;simp(disch:=(try simp only[Ad]);omega)only[Ag,Tryz.f133,↓Ac,Ae,↓reduceIte,↓reduceDIte,↓Qe,Qu,Qv,Qw,Qx,Qy,Qz,QA,QB,QC,QD,QE,QF,QG,QH,QI,QK];refine Ab.pure (cutS_spec s c hs) ?_;simp(disch:=(try simp only[Ad]);omega)only[Ag,↓Ac,Ae,↓reduceIte,↓reduceDIte,↓Qe,Qu,Qv,Qw,Qx,Qy,Qz,QA,QB,QC,QD,QE,QF,QG,QH,QI,QK]
def Dn (s p:List UInt8):Ctr TP G 154 [.d (S s),.d (S p)] [] (.d (.bool (hasP s p))) []:=by refine Ctr.pure (M:=M0) Al Tryz.func154 rfl Acy ?_;simp(disch:=(try simp only[Ad]);omega)only[Ag,Tryz.f154,↓Ac,Ae,↓reduceIte,↓reduceDIte,↓Qe,Qu,Qv,Qw,Qx,Qy,Qz,QA,QB,QC,QD,QE,QF,QG,QH,QI,QK];refine Ab.pure (hasPrefix_spec s p) ?_;simp(disch:=(try simp only[Ad]);omega)only[Ag,↓Ac,Ae,↓reduceIte,↓reduceDIte,↓Qe,Qu,Qv,Qw,Qx,Qy,Qz,QA,QB,QC,QD,QE,QF,QG,QH,QI,QK]
def Tryz.laysTrim_ren:Go.Shelf.Ren:=⟨fun | 160=>48 | 232=>84 | 231=>83 | 227=>85 | 234=>87 | 233=>86 | 236=>89 | 235=>88 | 228=>116 | 271=>119 | 151=>118 | 197=>117 | 120=>159 | 152=>158 | 260=>157 | 137=>186 | 119=>187 | 224=>188 | 225=>189 | 217=>211 | 266=>235 | n=>n,fun | 9=>9 | 4=>4 | 3=>3 | 5=>5 | 117=>142 | 116=>141 | 0=>0 | 124=>145 | 21=>21 | 105=>173 | 46=>155 | 119=>151 | 139=>154 | 138=>153 | n=>n,fun | 3=>0 | 4=>1 | n=>n⟩
def Tryz.laysTrim:Go.Proofs.Lays.n160 TP Tryz.laysTrim_ren where
 mixed:=by kernel_rfl
 f119:=Tryz.func187.trans (congrArg some (by kernel_rfl))
 f120:=Tryz.func159.trans (congrArg some (by kernel_rfl))
 f137:=Tryz.func186.trans (congrArg some (by kernel_rfl))
 f151:=Tryz.func118.trans (congrArg some (by kernel_rfl))
 f152:=Tryz.func158.trans (congrArg some (by kernel_rfl))
 f160:=Tryz.func48.trans (congrArg some (by kernel_rfl))
 f197:=Tryz.func117.trans (congrArg some (by kernel_rfl))
 f217:=Tryz.func211.trans (congrArg some (by kernel_rfl))
 f224:=Tryz.func188.trans (congrArg some (by kernel_rfl))
 f225:=Tryz.func189.trans (congrArg some (by kernel_rfl))
 f227:=Tryz.func85.trans (congrArg some (by kernel_rfl))
 f228:=Tryz.func116.trans (congrArg some (by kernel_rfl))
 f231:=Tryz.func83.trans (congrArg some (by kernel_rfl))
 f232:=Tryz.func84.trans (congrArg some (by kernel_rfl))
 f233:=Tryz.func86.trans (congrArg some (by kernel_rfl))
 f234:=Tryz.func87.trans (congrArg some (by kernel_rfl))
 f235:=Tryz.func88.trans (congrArg some (by kernel_rfl))
 f236:=Tryz.func89.trans (congrArg some (by kernel_rfl))
 f260:=Tryz.func157.trans (congrArg some (by kernel_rfl))
 f266:=Tryz.func235.trans (congrArg some (by kernel_rfl))
 f271:=Tryz.func119.trans (congrArg some (by kernel_rfl))
 t0:=Tryz.underlying0
 a0:=Tryz.isAgg0
 z0:=Tryz.sizeOf0
 v0:=Tryz.zeroValue0
 t3:=Tryz.underlying3
 a3:=Tryz.isAgg3
 z3:=Tryz.sizeOf3
 v3:=Tryz.zeroValue3
 t4:=Tryz.underlying4
 a4:=Tryz.isAgg4
 z4:=Tryz.sizeOf4
 v4:=Tryz.zeroValue4
 t5:=Tryz.underlying5
 a5:=Tryz.isAgg5
 z5:=Tryz.sizeOf5
 v5:=Tryz.zeroValue5
 t9:=Tryz.underlying9
 a9:=Tryz.isAgg9
 z9:=Tryz.sizeOf9
 v9:=Tryz.zeroValue9
 t21:=Tryz.underlying21
 a21:=Tryz.isAgg21
 z21:=Tryz.sizeOf21
 v21:=Tryz.zeroValue21
 t46:=Tryz.underlying155
 a46:=Tryz.isAgg155
 z46:=Tryz.sizeOf155
 v46:=Tryz.zeroValue155
 t105:=Tryz.underlying173
 a105:=Tryz.isAgg173
 z105:=Tryz.sizeOf173
 v105:=Tryz.zeroValue173
 t116:=Tryz.underlying141
 a116:=Tryz.isAgg141
 z116:=Tryz.sizeOf141
 t117:=Tryz.underlying142
 a117:=Tryz.isAgg142
 z117:=Tryz.sizeOf142
 v117:=Tryz.zeroValue142
 t119:=Tryz.underlying151
 a119:=Tryz.isAgg151
 z119:=Tryz.sizeOf151
 t124:=Tryz.underlying145
 a124:=Tryz.isAgg145
 z124:=Tryz.sizeOf145
 v124:=Tryz.zeroValue145
 t138:=Tryz.underlying153
 a138:=Tryz.isAgg153
 z138:=Tryz.sizeOf153
 v138:=Tryz.zeroValue153
 t139:=Tryz.underlying154
 a139:=Tryz.isAgg154
 z139:=Tryz.sizeOf154
 v139:=Tryz.zeroValue154
 g3:=by kernel_rfl
 g4:=by kernel_rfl
def Tryz.laysReplaceAll_ren:Go.Shelf.Ren:=⟨fun | 166=>68 | 240=>99 | 276=>128 | n=>n,fun | 70=>77 | 9=>9 | 3=>3 | 75=>119 | 0=>0 | 72=>79 | 37=>22 | 4=>4 | 164=>182 | 80=>60 | 5=>5 | n=>n,fun | n=>n⟩
def Tryz.laysReplaceAll:Go.Proofs.Lays.n166 TP Tryz.laysReplaceAll_ren where
 mixed:=by kernel_rfl
 f166:=Tryz.func68.trans (congrArg some (by kernel_rfl))
 f240:=Tryz.func99.trans (congrArg some (by kernel_rfl))
 f276:=Tryz.func128.trans (congrArg some (by kernel_rfl))
 t0:=Tryz.underlying0
 a0:=Tryz.isAgg0
 z0:=Tryz.sizeOf0
 v0:=Tryz.zeroValue0
 t3:=Tryz.underlying3
 a3:=Tryz.isAgg3
 z3:=Tryz.sizeOf3
 v3:=Tryz.zeroValue3
 t4:=Tryz.underlying4
 a4:=Tryz.isAgg4
 z4:=Tryz.sizeOf4
 v4:=Tryz.zeroValue4
 t9:=Tryz.underlying9
 a9:=Tryz.isAgg9
 z9:=Tryz.sizeOf9
 v9:=Tryz.zeroValue9
 t20:=Tryz.underlying20
 a20:=Tryz.isAgg20
 z20:=Tryz.sizeOf20
 v20:=Tryz.zeroValue20
 t37:=Tryz.underlying22
 a37:=Tryz.isAgg22
 z37:=Tryz.sizeOf22
 v37:=Tryz.zeroValue22
 t70:=Tryz.underlying77
 a70:=Tryz.isAgg77
 z70:=Tryz.sizeOf77
 v70:=Tryz.zeroValue77
 t72:=Tryz.underlying79
 a72:=Tryz.isAgg79
 z72:=Tryz.sizeOf79
 v72:=Tryz.zeroValue79
 t75:=Tryz.underlying119
 a75:=Tryz.isAgg119
 z75:=Tryz.sizeOf119
 v75:=Tryz.zeroValue119
 t164:=Tryz.underlying182
 a164:=Tryz.isAgg182
 z164:=Tryz.sizeOf182
 v164:=Tryz.zeroValue182
def trim_spec (s:List UInt8) (hs:s.length<=9223372036854775807):Ctr TP G 48 [.d (S s),.d (S [32])] [] (.d (S (Lib.trimB s 32))) [] :=
 Ctr.of_calls_ss go48 fun h w=>(Any.strings_Trim_one Tryz.laysTrim (bs s) 32 (by decide) w (by rw[DN];exact hs)).mono (by
  rintro e w' ⟨rfl,h | h⟩;·subst h;exact ⟨_,rfl,.str _,.refl _ _⟩
  subst h;exact ⟨_,rfl,.str _,Below.drew (.refl _ _)⟩)
def Abo:Builder.Extra TP Tryz.laysReplaceAll_ren where
 sizeBuilder:=by kernel_rfl
 liesBuilder:=by kernel_rfl
 t5:=Tryz.underlying5
 a5:=Tryz.isAgg5
 z5:=Tryz.sizeOf5
 v5:=Tryz.zeroValue5
 infoByte:=by kernel_rfl
 cellsByte:=by kernel_rfl
 sizeByte:=by kernel_rfl
 neB5:=by decide
end
section
open Go Go.Proofs Go.Abs
variable {G:Ah}
def setD (l:List UInt8):List D:=(Ad0 256).map fun i=>.bool (l.any fun b=>b.toNat == i)
def setB (l:List UInt8):List AV:=(setD l).map .d
def setB_length {l:List UInt8}:(setB l).length=256:=by simp[setB,setD]
def setD_length {l:List UInt8}:(setD l).length=256:=by simp[setD]
def setB_nil:setB []=AbM 256 (.d (.bool false)):=by rfl
def setD_get {l:List UInt8} {c:UInt8} {d:D}:(setD l).getD c.toNat d=.bool (l.contains c):=by
 have hc:=c.toNat_lt;simp only[setD,AbH,AdC,Aed (show c.toNat<256 by omega),AdU,AdF];rw[List.contains_eq_any_beq];refine congrArg (fun f=>D.bool (l.any f)) ?_;funext b;show (b.toNat == c.toNat)=_
 by_cases h:b=c;·subst h;simp
 have:¬b.toNat=c.toNat:=fun e=>h (UInt8.toNat_inj.1 e);have h':¬c=b:=fun e=>h e.symm;rw[beq_eq_false_iff_ne.2 this];exact (beq_eq_false_iff_ne.2 h').symm
def setB_get {l:List UInt8} {c:UInt8} {d:AV}:(setB l).getD c.toNat d=.d (.bool (l.contains c)):=by have hc:=c.toNat_lt;have:=@setD_get l c .nilp;rw[AbH,AbO (by rw[setD_length];omega)] at this;rw[setB,AbH,AdC,AbO (by rw[setD_length];omega)];simp only[AdF] at this;rw[AdU,AdF,this]
def setB_set {l:List UInt8} {c:UInt8}:(setB l).set c.toNat (.d (.bool true))=setB (l++[c]):=by
 have hc:=c.toNat_lt;apply List.ext_getElem;·rw[Aet,setB_length,setB_length]
 intro i h1 h2;rw[Aet,setB_length] at h1;rw[List.getElem_set];simp only[setB,setD,List.getElem_map,List.getElem_range,List.any_append,AeB,List.any_nil,AeC];split;·rename_i e;subst e;simp
 rename_i e;have:(c.toNat == i)=false:=by simpa using e
 rw[this,AeC]
def SWeak_map {fl:List (Option Nat)}:∀ l:List D,SW fl (l.map .d) (l.map .d)
 | []=>by simp[SW]
 | x::l=>by simp only[AbU,SW];exact ⟨by simp[AW],SWeak_map l⟩
def setB_weak {fl:List (Option Nat)} {l:List UInt8}:SW fl (setB l) (setB l)=True:=eq_true (SWeak_map _)
def mem_getDU {α:Type} {l:List α} {i:Nat} {d:α} (h:i<l.length):l.getD i d∈l:=by rw[AbH,AbO h];exact AdR h
def setB_two (l:List UInt8):∃ a b cs,setB l=a::b::cs:=by
 have:=@setB_length l
 match h:setB l with
 | []=>rw[h] at this;cases this
 | [_]=>rw[h] at this;cases this
 | a::b::cs=>exact ⟨a,b,cs,rfl⟩
def setB_one {l:List UInt8}:(setB l).all AV.one=true:=by simp[setB,setD,AV.one,D.one]
def setB_seal {H:List Aa} {l:List UInt8}:sealL H (setB l)=some (setD l):=by
 have:∀ m:List D,sealL H (m.map .d)=some m:=fun m=>by
  induction m with
  | nil=>rfl
  | cons x m ih=>simp only[AbU,sealL,sealA,ih]
 exact this _
def setB_refs {l:List UInt8}:refsL (setB l)=[]:=by
 have:∀ m:List D,refsL (m.map .d)=[]:=fun m=>by
  induction m with
  | nil=>rfl
  | cons x m ih=>simp only[AbU,refsL,EP,ih,AdV]
 exact this _
def setB_pass {H:List Aa} {L:List Nat} {l:List UInt8}:passL H L (setB l)=some (setB l):=by
 have:∀ m:List D,passL H L (m.map .d)=some (m.map .d):=fun m=>by
  induction m with
  | nil=>rfl
  | cons x m ih=>simp only[AbU,passL,passA,ih]
 exact this _
def setB_sids {H:List Aa} {L:List Nat} {l:List UInt8}:sidsL H L (setB l)=[]:=by
 have:∀ m:List D,sidsL H L (m.map .d)=[]:=fun m=>by
  induction m with
  | nil=>rfl
  | cons x m ih=>simp only[AbU,sidsL,sidsA,ih,AdV]
 exact this _
def setB_ren {f:Nat->Nat} {l:List UInt8}:renL f (setB l)=setB l:=by
 have:∀ m:List D,renL f (m.map .d)=m.map .d:=fun m=>by
  induction m with
  | nil=>rfl
  | cons x m ih=>simp only[AbU,renL,renA,ih]
 exact this _
def take_succ_getD {s:List UInt8} {i:Nat} (h:i<s.length):s.take i++[s.getD i 0]=s.take (i+1):=by rw[AdL,AbO h,AbH,AbO h];rfl
def contains_spec (l:List UInt8) (c:UInt8):Ctr TP G 116 [.ptr 0 0,.d (.int .u8 c.toNat)] [.box (setB l)] (.d (.bool (l.contains c))) [.box (setB l)]:=by have hc:=c.toNat_lt;have hl:=@setB_length l;refine Ctr.body (M:=M0) Al Tryz.func116 rfl AaS ?_;simp(disch:=(try simp only[Ad]);omega)only[Ag,hl,setB_get,Tryz.f116,↓Ac,Ae,↓reduceIte,↓reduceDIte,↓Qe,Qu,Qv,Qw,Qx,Qy,Qz,QA,QB,QC,QD,QE,QF,QG,QH,QI,QK];exact ⟨[some 0],rfl,by simp,by simp[HW,BW,setB_weak],.inl (by simp[AW])⟩
def makeSet_spec (l:List UInt8) (hl:l.length<2^62) (ha:∀ b∈l,b.toNat<128):Ctr TP G 85 [.d (S l)] [] (.d (.tup [.agg (setD l),.bool true])) []:=by
 refine Ctr.pure (M:=M0) Al Tryz.func85 rfl go85 ?_;simp(disch:=(try simp only[Ad]);omega)only[Ag,Tryz.f85,↓Ac,Ae,↓reduceIte,↓reduceDIte,↓Qe,Qu,Qv,Qw,Qx,Qy,Qz,QA,QB,QC,QD,QE,QF,QG,QH,QI,QK];refine As.fr 5 (α:=Nat) (fun i=>l.length-i) (fun i=>[(4,.d (.int .i64 i))]) (fun i=>[.box (setB (l.take i))]) (fun i=>i<=l.length) 0 (AdD _) ?_ ?_;·refine ⟨[some 0],rfl,by simp,by simp[sA,kZ,SW,AW],?_⟩;rw[Ad1,setB_nil];simp only[HW,BW,Ad6];refine ⟨SWeak_map (AbM 256 (.bool false)),trivial⟩
 intro i hi;have sl:=@setB_length (l.take i);simp only[Cr,AbV,AbY,reduceIte];rcases Adc i l.length with h1 | h1
 ·have hb:=ha _ (mem_getDU (d:=0) h1);have hs:=take_succ_getD h1;simp(disch:=(try simp only[Ad]);omega)only[Ag,sl,↓Ac,Ae,↓reduceIte,↓reduceDIte,↓Qe,Qu,Qv,Qw,Qx,Qy,Qz,QA,QB,QC,QD,QE,QF,QG,QH,QI,QK];exact ⟨i+1,h1,by simp only;omega,[some 0],rfl,by simp,by simp[sA,kZ,SW,AW],by simp only[HW,BW,Ad6];rw[setB_set,hs];exact ⟨by rw[setB_weak];trivial,trivial⟩⟩
 have sl:=@setB_length l;have tk:(setB l).take 256=setB l:=AbZ (by omega);obtain ⟨a,b,cs,e⟩:=setB_two l;have lc:cs.length=254:=by rw[e] at sl;simpa using sl
 have tc:cs.take 254=cs:=AbZ (by omega);have dc:cs.drop cs.length=[]:=Ad7;simp(disch:=(try simp only[Ad]);omega)only[Ag,sl,tk,↓Ac,Ae,↓reduceIte,↓reduceDIte,↓Qe,Qu,Qv,Qw,Qx,Qy,Qz,QA,QB,QC,QD,QE,QF,QG,QH,QI,QK];refine ⟨setB_one,?_⟩;have pm:CD (setB l) 0 (setB l)=setB l:=by rw[e];simp only[CD,CD,Ad1,Aea,Ad8,AbT,Aee,dc,AdV]
 first
 | rw[pm,sl,tk]
 | (simp only[CD,CD,Ad1,Aea,Ad8] at pm;rw[pm,sl,tk])
 simp only[AbP,if_true,sealA,sealL,setB_seal];rfl
def setB_fold {l:List UInt8}:(setD l).map AV.d=setB l:=rfl
def setB_putL {L:List AV} {l:List UInt8} (h:L.length=256):CD L 0 ((setD l).map AV.d)=setB l:=by rw[setB_fold];obtain ⟨a,b,cs,e⟩:=setB_two l;have q:=@setB_length l;rw[e] at q ⊢;have hd:L.drop (0+(a::b::cs).length)=[]:=Ad9 (by omega);simp only[CD,hd,Ad1,Aea,AdV]
abbrev fb4 (l:List AV):List AV:=.d (.bool false)::.d (.bool false)::.d (.bool false)::.d (.bool false)::l
abbrev fb16 (l:List AV):List AV:=fb4 (fb4 (fb4 (fb4 l)))
abbrev fb64 (l:List AV):List AV:=fb16 (fb16 (fb16 (fb16 l)))
def setB_putL' {l:List UInt8}:CD (fb64 (fb64 (fb64 (fb64 [])))) 0 (setB l)=setB l:=setB_putL rfl
def decw (l:List UInt8) (p:Nat) (h:p<l.length):((l.getD p 0).toNat<128/\dec l p=((l.getD p 0).toNat,1)) \/
  (128<=(dec l p).1/\1<=(dec l p).2/\p+(dec l p).2<=l.length/\∀ i,i<(dec l p).2->128<=(l.getD (p+i) 0).toNat):=by
 by_cases h0:(l.getD p 0).toNat<128;·exact .inl ⟨h0,dec_ascii h h0⟩
 right;have hget:∀ k,((bs l).get! (p+k)).toNat=(l.getD (p+k) 0).toNat:=fun k=>by
  show (l.toArray.getD (p+k) default).toNat=_
  simp[AbH];rfl
 have hsz:(bs l).size=l.length:=DN;unfold dec Utf8.decode;have hget0:((bs l).get! p).toNat=(l.getD p 0).toNat:=hget 0;simp only[hget,hsz,AdM,hget0];have hb:∀ k,(l.getD (p+k) 0).toNat<256:=fun k=>(l.getD (p+k) 0).toNat_lt;have hb1:=hb 1;have hb2:=hb 2;have hb3:=hb 3;have hb0:=hb 0;rw[AdM] at hb0;rw[if_neg h0]
 have one:∀ i,i<1→128≤(l.getD (p+i) 0).toNat:=fun i hi=>by obtain rfl:i=0:=by omega
                                                           rw[AdM];omega
 split
 ·rename_i h1;simp only[AdG,beq_iff_eq,decide_eq_true_eq] at h1;split
  ·rename_i h2;refine ⟨by omega,by omega,by omega,fun i hi=>?_⟩;rcases (by omega:i=0\/i=1) with rfl | rfl
   ·rw[AdM];omega
   omega
  exact ⟨by simp[Utf8.runeError],by omega,by omega,one⟩
 split
 ·rename_i h1;simp only[AdG,beq_iff_eq,decide_eq_true_eq] at h1;split
  ·rename_i h2;simp only[AdG,decide_eq_true_eq] at h2;refine ⟨by omega,by omega,by omega,fun i hi=>?_⟩;rcases (by omega:i=0\/i=1\/i=2) with rfl | rfl | rfl
   ·rw[AdM];omega
   ·omega
   omega
  exact ⟨by simp[Utf8.runeError],by omega,by omega,one⟩
 split
 ·rename_i h1;simp only[AdG,beq_iff_eq,decide_eq_true_eq] at h1;split
  ·rename_i h2;simp only[AdG,decide_eq_true_eq] at h2;refine ⟨by omega,by omega,by omega,fun i hi=>?_⟩;rcases (by omega:i=0\/i=1\/i=2\/i=3) with rfl | rfl | rfl | rfl
   ·rw[AdM];omega
   ·omega
   ·omega
   omega
  exact ⟨by simp[Utf8.runeError],by omega,by omega,one⟩
 exact ⟨by simp[Utf8.runeError],by omega,by omega,one⟩
end
section
open Go Go.Proofs Go.Abs Go.RowKit Go.Shelf Go.Lib
variable {G:Ah}
def Uy {P:Program} {w:World} (t u ty e:TypeId) (i:TypeInfo) (ht:P.underlying t=some (.slice e)) (hu:P.underlying u=some .string) (hi:P.info? e=some i) (hz:i.zero=some (.int .u8 0))
  (hsize:i.size=1) (hby:i.bytes=1) (v:Value) (n:Nat) (xs:List Value) (hown:w.ownsRow 0 e 1 v n xs) (s:ByteArray) (h63:n+s.size<=maxLen) (hbytes:n+s.size<=140737488355328) :
  ∃ v' w',(Builtin.append_ #[t,u] ty #[v,.string s]).run P w=.ok v' w'/\w'.ownsRow 0 e 1 v' (n+s.size) (xs++strCells s)/\w.grownBy w' v.ownBlock/\(v'.ownBlock=v.ownBlock\/∀ g,v'.ownBlock=some g->w.heap.size<=g):=by
 obtain ⟨v',w',hr,h2,h3,h4⟩:=run_append_own_string (P:=P) w 0 t u ty e i ht hu hi hz hsize hby v n xs hown s h63 hbytes (AdD _);refine ⟨v',w',hr,h2,h3,?_⟩;have hxl:xs.length=n:=by simpa using hown.1
 rcases hown.2 with ⟨rfl,rfl⟩ | ⟨g,cap,cur,rfl,hbg,hg,hnc,hcm,hcs,htake⟩
 ·right;intro g hgv;obtain rfl:xs=[]:=Adt hxl;obtain ⟨v2,w2,hr2,k2,_⟩:=run_append_own_string (P:=P) w w.heap.size t u ty e i ht hu hi hz hsize hby (.slice none 0 0) 0 [] (World.ownsRow_nil w _ e 1) s h63 hbytes (AbP _);rw[hr] at hr2;cases hr2;exact (k2.lt g hgv).1
 by_cases hroom:n+s.size<=cap
 ·left;have hcs':cur.size=cap:=by simpa using hcs
  have hr2:=run_append_room_string (P:=P) w t u ty e i ht hu hi hsize g n cap cur hg s hroom (by unfold maxLen at h63;omega);rw[hr] at hr2;cases hr2;rfl
 right;intro g' hg';have holds:∀ j u,xs[j]?=some u->w.cell? ((⟨g,0,none⟩:Addr).add j)=some u:=hown.cells (g:=g) rfl;have hr2:=run_append_grow_string (P:=P) w t u ty e i (.int .u8 0) ht hu hi hz ⟨g,0,none⟩ n cap xs (by rw[hsize];simpa using hxl) holds s (by omega) (by unfold maxLen at h63;omega) (by rw[hby];exact growslice_fits (by omega) (by omega));rw[hr] at hr2;cases hr2;simp[Value.ownBlock] at hg';omega
def IU {P:Program} {w:World} {ops:Array Oper} {rest:List Oper} {o:Oper} {a:Act} {Q:Exit->Act->World->Prop} (hgd:o.guard=none) (sl x:Operand) (t u:TypeId)
  (ho:o.op=.call {callee:=.builtin .append,args:=#[sl,x],argTypes:=#[t,u]})
  (e:TypeId) (i:TypeInfo) (ht:P.underlying t=some (.slice e)) (hu:P.underlying u=some .string) (hi:P.info? e=some i) (hz:i.zero=some (.int .u8 0))
  (hsize:i.size=1) (hby:i.bytes=1) (v:Value) (n:Nat) (xs:List Value) (hs:a.eval sl=v) (hown:w.ownsRow 0 e 1 v n xs) (s:ByteArray) (hx:a.eval x=.string s)
  (h63:n+s.size<=maxLen) (hbytes:n+s.size<=140737488355328)
  (h:∀ v' w',w'.ownsRow 0 e 1 v' (n+s.size) (xs++strCells s)->w.grownBy w' v.ownBlock->(v'.ownBlock=v.ownBlock\/∀ g,v'.ownBlock=some g->w.heap.size<=g)->wpList P ops Q rest (a.put o.dst v') w'):wpList P ops Q (o::rest) a w:=by
 refine wpList_plain hgd fun K hK=>?_;obtain ⟨v',w',hr,h2,h3,h4⟩:=Uy (P:=P) (w:=w) t u o.type e i ht hu hi hz hsize hby v n xs hown s h63 hbytes;unfold Oper.wp execOp;simp only[ho,resolve,invoke,builtin,Sem.run_bind,Sem.run_pure,Result.andThen_ok,Aeo,AbU,Adu,hs,hx,hr];exact hK _ _ (h v' w' h2 h3 h4)
def DV {w:World} {b o:Nat} {v:Value} {c:Array Value} {T:TypeId} {fz:Nat × Nat} (h:w.heap[b]?=some (.cells c T fz)):(w.setCell ⟨b,o,none⟩ v).heap[b]?=some (.cells (c.setIfInBounds o v) T fz):=by
 show (w.heap.modify b _)[b]?=_
 rw[AdP,if_pos rfl,h];rfl
def Cl {w:World} {b o k:Nat} {v:Value} (h:k≠b):(w.setCell ⟨b,o,none⟩ v).heap[k]?=w.heap[k]?:=by
 show (w.heap.modify b _)[k]?=_
 rw[AdP,if_neg (Ne.symm h)]
def Ek {w:World} {a:Addr} {v:Value}:(w.setCell a v).heap.size=w.heap.size:=by simp[World.setCell]
structure AbC (T e:TypeId) (b:Nat) (v:Value) (l:List Value) (w w':World):Prop where
 os:w'.os=w.os
 tape:w'.tape=w.tape
 output:w'.output=w.output
 size:w.heap.size<=w'.heap.size
 keep:∀ k,k<w.heap.size->k≠b->some k≠v.ownBlock->w'.heap[k]?=w.heap[k]?
 left:∃ v',w'.heap[b]?=some (.cells #[.pointer (some ⟨b,0,none⟩),v'] T (0,0))/\w'.ownsRow 0 e 1 v' l.length l/\(v'.ownBlock=v.ownBlock\/∀ g,v'.ownBlock=some g->w.heap.size<=g)
def O4 {P:Program} {ρ:Ren} (L:Lays.n240 P ρ) (X:Builder.X72 P ρ) (b:Nat) (used:Bool) (v:Value) (w:World) (hbk:w.heap[b]?=some (.cells #[.pointer (if used then some ⟨b,0,none⟩ else none),v] (ρ.t 72) (0,0))) :
  Calls P (ρ.f 240) #[.pointer (some ⟨b,0,none⟩)] w fun e w'=>e=.returned (.tuple #[])/\w'.os=w.os/\w'.tape=w.tape/\w'.output=w.output/\w'.heap.size=w.heap.size/\(∀ k,k≠b->w'.heap[k]?=w.heap[k]?) /\
   w'.heap[b]?=some (.cells #[.pointer (some ⟨b,0,none⟩),v] (ρ.t 72) (0,0)):=by
 have c0:w.cell? ⟨b,0,none⟩=some (.pointer (if used then some ⟨b,0,none⟩ else none)):=by rw[Lib.cell_of_heap hbk];rfl
 cases used;·refine (Any.Builder_copyCheck_fresh L X b w c0 (by simp[World.shape?,hbk]) (Lib.frozen_of_heap hbk 0)).mono ?_;rintro e w' ⟨rfl,rfl⟩;exact ⟨rfl,rfl,rfl,rfl,Ek,fun k hk=>Cl hk,by rw[DV hbk];rfl⟩
 refine (Any.Builder_copyCheck_used L X b w c0).mono ?_;rintro e w' ⟨rfl,rfl⟩;exact ⟨rfl,rfl,rfl,rfl,rfl,fun _ _=>rfl,hbk⟩
def SQ {T e:TypeId} {b:Nat} {v:Value} {l:List Value} {w w1:World} (hown:w.ownsRow 0 e 1 v l.length l) (hne:v.ownBlock≠some b) (ho:∀ k,k≠b->w1.heap[k]?=w.heap[k]?):w1.ownsRow 0 e 1 v l.length l:=by
 refine ⟨hown.1,?_⟩;rcases hown.2 with h | ⟨g,cap,cur,rfl,h1,h2,h3⟩
 ·exact .inl h
 exact .inr ⟨g,cap,cur,rfl,h1,(ho g (fun e=>hne (by rw[e];rfl))).trans h2,h3⟩
def Lm {P:Program} {ρ:Ren} (L:Lays.n166 P ρ) (X:Builder.Extra P ρ) (b:Nat) (used:Bool) (v:Value) (l:List Value) (s:ByteArray) (w:World)
  (hbk:w.heap[b]?=some (.cells #[.pointer (if used then some ⟨b,0,none⟩ else none),v] (ρ.t 72) (0,0))) (hown:w.ownsRow 0 (ρ.t 5) 1 v l.length l) (hne:v.ownBlock≠some b) (hlen:l.length+s.size<=140737488355328) :
  Calls P (ρ.f 166) #[.pointer (some ⟨b,0,none⟩),.string s] w fun e w'=>e=.returned (.tuple #[.int .i64 s.size,.nilIface])/\AbC (ρ.t 72) (ρ.t 5) b v (l++strCells s) w w':=by
 obtain ⟨i0,hi,hz0,hz1,hz2⟩:=info_parts X.infoByte;have mixed:=L.mixed;have t72:=L.t72;have a72:=L.a72;have z72:=L.z72;have v72:=L.v72;have u72:=run_underlying L.t72
 have t70:=L.t70;have a70:=L.a70;have z70:=L.z70;have v70:=L.v70;have u70:=run_underlying L.t70
 have t37:=L.t37;have a37:=L.a37;have z37:=L.z37;have v37:=L.v37;have u37:=run_underlying L.t37
 have t3:=L.t3;have a3:=L.a3;have z3:=L.z3;have v3:=L.v3;have u3:=run_underlying L.t3
 have t9:=L.t9;have a9:=L.a9;have z9:=L.z9;have v9:=L.v9;have u9:=run_underlying L.t9
 have t4:=L.t4;have a4:=L.a4;have z4:=L.z4;have v4:=L.v4;have u4:=run_underlying L.t4
 have t164:=L.t164;have a164:=L.a164;have z164:=L.z164;have v164:=L.v164;have u164:=run_underlying L.t164
 have t5:=X.t5;have a5:=X.a5;have z5:=X.z5;have v5:=X.v5;have u5:=run_underlying X.t5
 have e240:∀ args w,(callFunc (ρ.f 240) args).run P w=.ok (.enter (ρ.f 240) args) w:=enters_of L.f240 (by kernel_rfl) rfl;have cc:=O4 {L with} X.toX72 b used v w hbk;go_enter L.f166,Body.n166_ntmps ρ;go_wp2_with (go_at_fn (ρ.f 240);refine cc.mono ?_);rintro e w1 ⟨rfl,q1,q2,q3,q4,q5,hb1⟩;have hown1:w1.ownsRow 0 (ρ.t 5) 1 v l.length l:=SQ (T:=ρ.t 72) hown hne q5;clear cc hown;have c0:w1.cell? ⟨b,0,none⟩=some (.pointer (some ⟨b,0,none⟩)):=by rw[Lib.cell_of_heap hb1];rfl
 have c1:w1.cell? ⟨b,1,none⟩=some v:=by rw[Lib.cell_of_heap hb1];rfl
 go_wp2_with (at_builtin;refine IU rfl _ _ (ρ.t 37) (ρ.t 9) rfl (ρ.t 5) i0 L.t37 L.t9 hi hz0 hz1 hz2 _ _ _ rfl hown1 s rfl ?c3 ?c4 ?_);case c3=>unfold maxLen;omega
 case c4=>omega
 intro v' w2 hown' hgrow hor;have hlt:b<w1.heap.size:=(AdE.1 hb1).1;have hb2:w2.heap[b]?=some (.cells #[.pointer (some ⟨b,0,none⟩),v] (ρ.t 72) (0,0)):=by rw[hgrow.block b hlt (fun e=>hne e.symm)];exact hb1
 have d0:w2.cell? ⟨b,0,none⟩=some (.pointer (some ⟨b,0,none⟩)):=by rw[Lib.cell_of_heap hb2];rfl
 have d1:w2.cell? ⟨b,1,none⟩=some v:=by rw[Lib.cell_of_heap hb2];rfl
 have f1:w2.frozen? ⟨b,1,none⟩=false:=Lib.frozen_of_heap hb2 1;obtain ⟨ao,n',cap,rfl⟩:∃ ao n' cap,v'=.slice ao n' cap:=by
  rcases hown'.2 with ⟨hv,_⟩ | ⟨g,cap,cur,hv,_⟩
  ·exact ⟨_,_,_,hv⟩
  exact ⟨_,_,_,hv⟩
 go_wp2;go_ret2;refine ⟨rfl,hgrow.os.trans q1,hgrow.tape.trans q2,hgrow.output.trans q3,?_,fun k hk h1 h2=>?_,.slice ao n' cap,?_,?_,?_⟩;·rw[Ek];have:=hgrow.size;omega
 ·rw[Cl h1,hgrow.block k (by omega) h2,q5 k h1]
 ·rw[DV hb2];rfl
 ·rw[show (l++strCells s).length=l.length+s.size by rw[AbS,Lib.strCells_length]];have hnb:Value.ownBlock (.slice ao n' cap)≠some b:=by
   intro e;rcases hor with h | h
   ·rw[h] at e;exact hne e
   have:=h b e;omega
  refine ⟨hown'.1,?_⟩;rcases hown'.2 with h | ⟨g,cp,cur,e1,k1,k2,k3⟩
  ·exact .inl h
  refine .inr ⟨g,cp,cur,e1,k1,?_,k3⟩;rw[Cl (fun e=>hnb (by rw[e1,<-e];rfl))];exact k2
 rcases hor with h | h
 ·exact .inl h
 exact .inr fun g hg=>by have:=h g hg;omega
def Uz {P:Program} {w:World} (t ty e:TypeId) (i:TypeInfo) (ht:P.underlying t=some (.slice e)) (hi:P.info? e=some i) (hz:i.zero=some (.int .u8 0))
  (hsize:i.size=1) (hby:i.bytes=1) (v:Value) (n:Nat) (xs:List Value) (hown:w.ownsRow 0 e 1 v n xs) (ad:Addr) (k:Nat) (u:Value) (hu:w.cell? ad=some u) (h1:u.oneCell'=true) (hbytes:n+1<=140737488355328) :
  ∃ v' w',(Builtin.append_ #[t,t] ty #[v,.slice (some ad) 1 k]).run P w=.ok v' w'/\w'.ownsRow 0 e 1 v' (n+1) (xs++[u])/\w.grownBy w' v.ownBlock/\(v'.ownBlock=v.ownBlock\/∀ g,v'.ownBlock=some g->w.heap.size<=g):=by
 have hnews:∀ j x,[u][j]?=some x->w.cell? (ad.add j)=some x:=by
  intro j x hj
  match j,hj with
  | 0,hj=>simp at hj;subst hj;simpa[Addr.add] using hu
 have hone:∀ x∈[u],x.oneCell'=true:=by intro x hx;simp at hx;subst hx;exact h1
 have h63:n+1<=maxLen:=by unfold maxLen;omega
 obtain ⟨v',w',hr,h2,h3,h4⟩:=run_append_own (P:=P) w 0 t ty e i (.int .u8 0) 1 1 ht hi hz hsize hby rfl (by decide) v n xs hown ad 1 k [u] rfl hnews hone h63 (by omega) (AdD _);refine ⟨v',w',hr,h2,h3,?_⟩;have hxl:xs.length=n:=by simpa using hown.1
 rcases hown.2 with ⟨rfl,rfl⟩ | ⟨g,cap,cur,rfl,hbg,hg,hnc,hcm,hcs,htake⟩
 ·right;intro g hgv;obtain rfl:xs=[]:=Adt hxl;obtain ⟨v2,w2,hr2,k2,_⟩:=run_append_own (P:=P) w w.heap.size t ty e i (.int .u8 0) 1 1 ht hi hz hsize hby rfl (by decide) (.slice none 0 0) 0 [] (World.ownsRow_nil w _ e 1) ad 1 k [u] rfl hnews hone h63 (by omega) (AbP _);rw[hr] at hr2;cases hr2;exact (k2.lt g hgv).1
 by_cases hroom:n+1<=cap
 ·left;have hcs':cur.size=cap:=by simpa using hcs
  have hr2:=run_append_room (P:=P) w t ty e i ht hi g n cap cur hg ad 1 k [u] (by rw[hsize];rfl) hnews hone hroom (by rw[hsize];simp;omega);rw[hr] at hr2;cases hr2;rfl
 right;intro g' hg';have holds:∀ j u,xs[j]?=some u->w.cell? ((⟨g,0,none⟩:Addr).add j)=some u:=hown.cells (g:=g) rfl;have hr2:=run_append_grow (P:=P) w t ty e i (.int .u8 0) ht hi hz ⟨g,0,none⟩ n cap xs (by rw[hsize];simpa using hxl) holds ad 1 k [u] (by rw[hsize];rfl) hnews (by omega) (by omega) (by rw[hby];exact growslice_fits (by omega) (by omega));rw[hr] at hr2;cases hr2;simp[Value.ownBlock] at hg';omega
def IV {P:Program} {w:World} {ops:Array Oper} {rest:List Oper} {o:Oper} {a:Act} {Q:Exit->Act->World->Prop} (hgd:o.guard=none) (sl x:Operand) (t:TypeId)
  (ho:o.op=.call {callee:=.builtin .append,args:=#[sl,x],argTypes:=#[t,t]})
  (e:TypeId) (i:TypeInfo) (ht:P.underlying t=some (.slice e)) (hi:P.info? e=some i) (hz:i.zero=some (.int .u8 0))
  (hsize:i.size=1) (hby:i.bytes=1) (v:Value) (n:Nat) (xs:List Value) (hs:a.eval sl=v) (hown:w.ownsRow 0 e 1 v n xs) (ad:Addr) (k:Nat) (u:Value) (hx:a.eval x=.slice (some ad) 1 k) (hu:w.cell? ad=some u) (h1:u.oneCell'=true)
  (hbytes:n+1<=140737488355328)
  (h:∀ v' w',w'.ownsRow 0 e 1 v' (n+1) (xs++[u])->w.grownBy w' v.ownBlock->(v'.ownBlock=v.ownBlock\/∀ g,v'.ownBlock=some g->w.heap.size<=g)->wpList P ops Q rest (a.put o.dst v') w'):wpList P ops Q (o::rest) a w:=by
 refine wpList_plain hgd fun K hK=>?_;obtain ⟨v',w',hr,h2,h3,h4⟩:=Uz (P:=P) (w:=w) t o.type e i ht hi hz hsize hby v n xs hown ad k u hu h1 hbytes;unfold Oper.wp execOp;simp only[ho,resolve,invoke,builtin,Sem.run_bind,Sem.run_pure,Result.andThen_ok,Aeo,AbU,Adu,hs,hx,hr];exact hK _ _ (h v' w' h2 h3 h4)
def JK (w:World) (o:Obj) (k:Nat) (h:k<w.heap.size):(w.alloc o).heap[k]?=w.heap[k]?:=by
 show (w.heap.push o)[k]?=_
 rw[Array.getElem?_push];split;·omega
 rfl
def NG {P:Program} {ρ:Ren} (L:Lays.n167 P ρ) (X:Builder.Extra P ρ) (b:Nat) (used:Bool) (v:Value) (l:List Value) (c:Int) (w:World)
  (hbk:w.heap[b]?=some (.cells #[.pointer (if used then some ⟨b,0,none⟩ else none),v] (ρ.t 72) (0,0))) (hown:w.ownsRow 0 (ρ.t 5) 1 v l.length l) (hne:v.ownBlock≠some b) (hlen:l.length+1<=140737488355328) :
  Calls P (ρ.f 167) #[.pointer (some ⟨b,0,none⟩),.int .u8 c] w fun e w'=>e=.returned .nilIface/\AbC (ρ.t 72) (ρ.t 5) b v (l++[.int .u8 c]) w w':=by
 obtain ⟨i0,hi,hz0,hz1,hz2⟩:=info_parts X.infoByte;have mixed:=L.mixed;have t72:=L.t72;have a72:=L.a72;have z72:=L.z72;have v72:=L.v72;have u72:=run_underlying L.t72
 have t70:=L.t70;have a70:=L.a70;have z70:=L.z70;have v70:=L.v70;have u70:=run_underlying L.t70
 have t5:=L.t5;have a5:=L.a5;have z5:=L.z5;have v5:=L.v5;have u5:=run_underlying L.t5
 have t37:=L.t37;have a37:=L.a37;have z37:=L.z37;have v37:=L.v37;have u37:=run_underlying L.t37
 have t9:=L.t9;have a9:=L.a9;have z9:=L.z9;have v9:=L.v9;have u9:=run_underlying L.t9
 have t4:=L.t4;have a4:=L.a4;have z4:=L.z4;have v4:=L.v4;have u4:=run_underlying L.t4
 have t164:=L.t164;have a164:=L.a164;have z164:=L.z164;have v164:=L.v164;have u164:=run_underlying L.t164
 have e240:∀ args w,(callFunc (ρ.f 240) args).run P w=.ok (.enter (ρ.f 240) args) w:=enters_of L.f240 (by kernel_rfl) rfl;have cc:=O4 {L with} X.toX72 b used v w hbk;go_enter L.f167,Body.n167_ntmps ρ;go_wp2_with (go_at_fn (ρ.f 240);refine cc.mono ?_);rintro e w1 ⟨rfl,q1,q2,q3,q4,q5,hb1⟩;have hown1:w1.ownsRow 0 (ρ.t 5) 1 v l.length l:=SQ (T:=ρ.t 72) hown hne q5;clear cc hown;have hlt:b<w1.heap.size:=(AdE.1 hb1).1;have c0:w1.cell? ⟨b,0,none⟩=some (.pointer (some ⟨b,0,none⟩)):=by rw[Lib.cell_of_heap hb1];rfl
 have c1:w1.cell? ⟨b,1,none⟩=some v:=by rw[Lib.cell_of_heap hb1];rfl
 go_wp2_with (at_builtin;refine IV rfl _ _ (ρ.t 37) rfl (ρ.t 5) i0 L.t37 hi hz0 hz1 hz2 _ _ _ rfl (hown1.alloc _) ⟨w.heap.size,0,none⟩ 1 (.int .u8 c) rfl ?c1 ?c2 ?c4 ?_);case c1=>rw[<-q4];simp
 case c2=>rfl
 case c4=>omega
 intro v' w2 hown' hgrow hor;have hb2:w2.heap[b]?=some (.cells #[.pointer (some ⟨b,0,none⟩),v] (ρ.t 72) (0,0)):=by rw[hgrow.block b (by simp;omega) (fun e=>hne e.symm),JK w1 _ b hlt];exact hb1
 have d0:w2.cell? ⟨b,0,none⟩=some (.pointer (some ⟨b,0,none⟩)):=by rw[Lib.cell_of_heap hb2];rfl
 have d1:w2.cell? ⟨b,1,none⟩=some v:=by rw[Lib.cell_of_heap hb2];rfl
 have f1:w2.frozen? ⟨b,1,none⟩=false:=Lib.frozen_of_heap hb2 1;obtain ⟨ao,n',cap,rfl⟩:∃ ao n' cap,v'=.slice ao n' cap:=by
  rcases hown'.2 with ⟨hv,_⟩ | ⟨g,cap,cur,hv,_⟩
  ·exact ⟨_,_,_,hv⟩
  exact ⟨_,_,_,hv⟩
 go_wp2;go_ret;refine ⟨rfl,hgrow.os.trans q1,hgrow.tape.trans q2,hgrow.output.trans q3,?_,fun k hk h1 h2=>?_,.slice ao n' cap,?_,?_,?_⟩;·rw[Ek];have:=hgrow.size;first | omega | (simp at this;omega)
 ·rw[Cl h1,hgrow.block k (by simp;omega) h2,JK w1 _ k (by omega),q5 k h1]
 ·rw[DV hb2];rfl
 ·rw[show (l++[Value.int .u8 c]).length=l.length+1 by simp];have hnb:Value.ownBlock (.slice ao n' cap)≠some b:=by
   intro e;rcases hor with h | h
   ·rw[h] at e;exact hne e
   have:=h b e;first | omega | (simp at this;omega)
  refine ⟨hown'.1,?_⟩;rcases hown'.2 with h | ⟨g,cp,cur,e1,k1,k2,k3⟩
  ·exact .inl h
  refine .inr ⟨g,cp,cur,e1,k1,?_,k3⟩;rw[Cl (fun e=>hnb (by rw[e1,<-e];rfl))];exact k2
 rcases hor with h | h
 ·exact .inl h
 exact .inr fun g hg=>by have:=h g hg;first | omega | (simp at this;omega)
structure AaA (v:Value) (w w':World):Prop where
 os:w'.os=w.os
 tape:w'.tape=w.tape
 output:w'.output=w.output
 size:w.heap.size<=w'.heap.size
 keep:∀ k,k<w.heap.size->some k≠v.ownBlock->w'.heap[k]?=w.heap[k]?
def AaA.of {v:Value} {w w':World} (h:Below w.heap.size w w'):AaA v w w':=⟨h.os,h.tape,h.output,h.size,fun k hk _=>h.block k hk⟩
def Aar {P:Program} {ρ:Ren} (L:Lays.n170 P ρ) (b:Nat) (used:Bool) (v:Value) (l:List Value) (w:World)
  (hbk:w.heap[b]?=some (.cells #[.pointer (if used then some ⟨b,0,none⟩ else none),v] (ρ.t 72) (0,0))) (hown:w.ownsRow 0 (ρ.t 5) 1 v l.length l) (hne:v.ownBlock≠some b) :
  Calls P (ρ.f 170) #[.pointer (some ⟨b,0,none⟩)] w fun e w'=>e=.returned (.int .i64 l.length)/\w'=w:=by
 refine Any.Builder_Len L 0 b l w ?_;cases used;·exact .inl ⟨AdD _,v,hbk,hown,hne⟩
 exact .inr ⟨AdD _,v,hbk,hown,hne⟩
def Uu {P:Program} {ρ:Ren} (L:Lays.n169 P ρ) (X:Builder.Extra P ρ) (b:Nat) (p v:Value) (l:List UInt8) (w:World)
  (hbk:w.heap[b]?=some (.cells #[p,v] (ρ.t 72) (0,0))) (hown:w.ownsRow 0 (ρ.t 5) 1 v l.length (Lib.byteCells l)) :
  Calls P (ρ.f 169) #[.pointer (some ⟨b,0,none⟩)] w fun e w'=>e=.returned (.string ⟨l.toArray⟩)/\AaA v w w':=by
 by_cases h0:l=[]
 ·subst h0;rcases hown.2 with ⟨rfl,_⟩ | ⟨g,cap,cur,rfl,hbg,hg,hnc,hcm,hcs,htake⟩
  ·refine (Any.Builder_String_nil L X w.heap.size b p w hbk).mono ?_;rintro e w' ⟨rfl,hb⟩;exact ⟨rfl,.of hb⟩
  by_cases hc:cap=0;·subst hc;refine (Any.Builder_String_noroom L X w.heap.size b g p cur w (AbP _) hbk hg).mono ?_;rintro e w' ⟨rfl,hb⟩;exact ⟨rfl,.of hb⟩
  refine (Any.Builder_String_room L X w.heap.size b g cap p w hc hbk).mono ?_;rintro e w' ⟨rfl,hb⟩;exact ⟨rfl,.of hb⟩
 have hl0:l.length≠0:=by simpa using h0
 obtain ⟨g,cap,cur,rfl,hbg,hg,hnc,hcm,hcs,htake⟩:∃ g cap cur,v=.slice (some ⟨g,0,none⟩) l.length cap/\0<=g/\w.heap[g]?=some (.cells cur (ρ.t 5) (0,0))/\l.length<=cap/\cap<=maxLen/\cur.size=cap*1/\cur.toList.take (l.length*1)=Lib.byteCells l:=by
  rcases hown.2 with ⟨_,hz⟩ | ⟨g,cap,cur,hv,r⟩
  ·exact absurd hz hl0
  exact ⟨g,cap,cur,hv,r⟩
 have c1:w.drew.cell? ⟨b,1,none⟩=some (.slice (some ⟨g,0,none⟩) l.length cap):=by have:w.drew.heap[b]?=some (.cells #[p,.slice (some ⟨g,0,none⟩) l.length cap] (ρ.t 72) (0,0)):=hbk;rw[Lib.cell_of_heap this];rfl
 have hSD:(Builtin.unsafeSliceData_ #[(ρ.t 37)] (ρ.t 127) #[.slice (some ⟨g,0,none⟩) l.length cap]).run P w.drew=.ok (.pointer (some ⟨g,0,none⟩)) w.drew :=
  Lib.run_unsafeSliceData_row _ _ _ _ _ _ (by omega)
 have hUS:(Builtin.unsafeString_ #[(ρ.t 127),(ρ.t 3)] (ρ.t 9) #[.pointer (some ⟨g,0,none⟩),.int .i64 l.length]).run P w.drew=.ok (.string ⟨l.toArray⟩) (w.drew.freeze ⟨g,0,none⟩ l.length):=by refine Lib.run_unsafeString_row w.drew (ρ.t 127) (ρ.t 3) (ρ.t 9) (ρ.t 5) L.t127 X.cellsByte g cur.size (by have hg':w.drew.heap[g]?=some (.cells cur (ρ.t 5) (0,0)):=hg;simp[World.shape?,hg']) l h0 (by omega) (by unfold maxLen at hcm;omega) ?_;intro j x hx;exact hown.cells (g:=g) rfl j (.int .u8 x.toNat) (by simp[Lib.byteCells,hx])
 have mixed:=L.mixed;have t72:=L.t72;have a72:=L.a72;have z72:=L.z72;have v72:=L.v72;have u72:=run_underlying L.t72
 have t70:=L.t70;have a70:=L.a70;have z70:=L.z70;have v70:=L.v70;have u70:=run_underlying L.t70
 have t37:=L.t37;have a37:=L.a37;have z37:=L.z37;have v37:=L.v37;have u37:=run_underlying L.t37
 have t127:=L.t127;have a127:=L.a127;have z127:=L.z127;have v127:=L.v127;have u127:=run_underlying L.t127
 have t3:=L.t3;have a3:=L.a3;have z3:=L.z3;have v3:=L.v3;have u3:=run_underlying L.t3
 have t9:=L.t9;have a9:=L.a9;have z9:=L.z9;have v9:=L.v9;have u9:=run_underlying L.t9
 have t5:=X.t5;have a5:=X.a5;have z5:=X.z5;have v5:=X.v5;have u5:=run_underlying X.t5
 have fin:AaA (.slice (some ⟨g,0,none⟩) l.length cap) w (w.drew.freeze ⟨g,0,none⟩ l.length):=by
  unfold World.freeze;rw[if_neg hl0];refine ⟨rfl,rfl,rfl,by simp,fun k hk hne=>?_⟩;show (w.heap.modify g _)[k]?=_
  rw[AdP,if_neg (fun e=>hne (by rw[<-e];rfl))]
 go_enter L.f169,Body.n169_ntmps ρ;go_wp2;go_region_o;all_goals (go_wp2;go_ret;exact ⟨rfl,fin⟩)
def ptr_inv {h:Held} {ρ:Abs.Place} {u:Value} {g S:Nat} (r:R h ρ u (.ptr 0 0)) (hρ:ρ 0=some (g,S)):u=.pointer (some ⟨g,0,none⟩):=by
 cases r with
 | ptr b off g' S' h1=>rw[hρ] at h1;cases h1;rfl
def Vr {h:Held} {ρ:Abs.Place} {H:List Aa} {w w':World} {T e:TypeId} {g S:Nat} {v:Value} {l:List UInt8} (s:Sim G h ρ (hp H) w) (hm:0<H.length) (hρ0:ρ 0=some (g,S)) (hh:∀ j,h g j=none)
  (hv:∀ g1,v.ownBlock=some g1->(∃ i S1,ρ i=some (g1,S1))/\g1≠g/\∀ j,h g1 j=none) (bw:AbC T e g v (byteCells l) w w') :
  ∃ ρ',Sim G h ρ' (hp (.bld T true l.length (some H.length)::(AbM (H.length-1) .dead++[.buf e l]))) w'/\AU h ρ w h ρ' w':=by
 obtain ⟨v',b1,b2,b3⟩:=bw.left;have bl:(byteCells l).length=l.length:=byteCells_length l;rw[bl] at b2;have hgl:g<w.heap.size:=(s.dom 0 g S hρ0).1;have hρm:ρ H.length=none:=by
  cases hx:ρ H.length with
  | none=>rfl
  | some x=>obtain ⟨_,b,hb⟩:=s.dom _ x.1 x.2 hx;simp[hp] at hb
 have hkept:∀ b o u,h b o=some u->w'.heap[b]?=w.heap[b]?:=by intro b o u hbu;refine bw.keep b (s.held_lt hbu) (fun e=>by rw[e,hh] at hbu;cases hbu) (fun e=>?_);have:=(hv b e.symm).2.2 o;rw[hbu] at this;cases this
 have hprom:∀ b o u,h b o=some u->w'.cell? ⟨b,o,none⟩=some u:=by intro b o u hbu;have:=s.prom b o u hbu;rw[<-this];simp[World.cell?,hkept b o u hbu]
 have key:∃ ρ':Abs.Place,ρ.le ρ'/\(∀ i g2 S2,ρ' i=some (g2,S2)->i=H.length\/ρ i=some (g2,S2))/\(∀ i,i≠H.length->ρ' i=ρ i)/\Ti ρ' v' l.length (some H.length)/\FU h ρ' w' H.length (.buf e l) /\
   (∀ g2 S2,ρ' H.length=some (g2,S2)->g2≠g/\g2<w'.heap.size/\((∃ i S1,ρ i=some (g2,S1))\/w.heap.size<=g2)):=by
  rcases b2.2 with ⟨rfl,h0⟩ | ⟨g2,cap,cur,rfl,_,k1,k2,k3,k4,k5⟩
  ·refine ⟨ρ,Place.le_refl _,fun i g2 S2 e=>.inr e,fun _ _=>rfl,.inl ⟨rfl,h0⟩,.inl ⟨hρm,Adt h0⟩,fun g2 S2 e=>by rw[hρm] at e;cases e⟩
  have hg2:g2≠g/\((∃ i S1,ρ i=some (g2,S1))\/w.heap.size<=g2)/\∀ j,h g2 j=none:=by
   rcases b3 with b3 | b3
   ·obtain ⟨c1,c2,c3⟩:=hv g2 b3.symm;exact ⟨c2,.inl c1,c3⟩
   have:=b3 g2 rfl;refine ⟨by omega,.inr this,fun j=>?_⟩;cases hj:h g2 j with
   | none=>rfl
   | some u=>have:=s.held_lt hj;omega
  have hlt:g2<w'.heap.size:=(AdE.1 k1).1;refine ⟨Ey ρ H.length (g2,cap),fun i x e=>?_,fun i g3 S3 e=>?_,fun i hi=>by simp[Ey,hi],.inr ⟨g2,cap,rfl,Ar _ _ _,k2⟩,.inr ⟨g2,cap,cur,Ar _ _ _,k1,by simpa using k4,k3,by omega,fun j x hx=>?_,hg2.2.2⟩,fun g3 S3 e=>?_⟩
  ·by_cases hi:i=H.length;·subst hi;rw[hρm] at e;cases e
   simp[Ey,hi,e]
  ·by_cases hi:i=H.length;·exact .inl hi
   simp[Ey,hi] at e;exact .inr e
  ·have hj:j<l.length:=(AbQ.1 hx).1;have h1:(cur.toList.take (l.length*1))[j]?=(byteCells l)[j]?:=(by rw[k5])
   rw[AdJ,if_pos (by omega)] at h1;rw[<-AdQ,h1];simp[byteCells,hx]
  rw[Ar] at e;cases e;exact ⟨hg2.1,hlt,hg2.2.1⟩
 obtain ⟨ρ',p1,p2,p3,p4,p5,p6⟩:=key;have hρ0':ρ' 0=some (g,S):=p1 _ _ hρ0;have hlen:(Aa.bld T true l.length (some H.length)::(AbM (H.length-1) Aa.dead++[.buf e l])).length=H.length+1:=by simp;omega
 have hat:∀ i b,(Aa.bld T true l.length (some H.length)::(AbM (H.length-1) Aa.dead++[.buf e l]))[i]?=some b->(i=0/\b=.bld T true l.length (some H.length))\/(i=H.length/\b=.buf e l)\/(0<i/\i<H.length/\b=.dead):=by
  intro i b hi;rcases i with _ | i
  ·simp at hi;exact .inl ⟨rfl,hi.symm⟩
  rw[List.getElem?_cons_succ] at hi;by_cases hc:i<H.length-1;·rw[Ad3 (by simpa using hc),List.getElem?_replicate,if_pos hc] at hi;cases hi;exact .inr (.inr ⟨by omega,by omega,rfl⟩)
  rw[List.getElem?_append_right (by simpa using hc)] at hi;have:i-(AbM (H.length-1) Aa.dead).length=0:=by have:=(AbQ.1 hi).1;simp at this ⊢;omega
  rw[this] at hi;simp at hi this;exact .inr (.inl ⟨by omega,hi.symm⟩)
 have hex:∀ i,i<H.length+1->∃ b,hp (Aa.bld T true l.length (some H.length)::(AbM (H.length-1) Aa.dead++[.buf e l])) i=some b:=by intro i hi;refine ⟨_,AbO (by rw[hlen];exact hi)⟩
 refine ⟨ρ',⟨hprom,s.glob,fun i b hb=>?_,fun i g2 S2 e2=>?_,fun i j g2 S2 S2' e1 e2 l1 l2=>?_⟩,⟨bw.os,bw.tape,bw.output,bw.size,fun k hk hn=>?_,Held.le_refl _,fun _ _ _ _=>rfl,p1,fun i g2 S2 e2=>?_⟩⟩
 ·rcases hat i b hb with ⟨rfl,rfl⟩ | ⟨rfl,rfl⟩ | ⟨_,_,rfl⟩
  ·exact ⟨g,S,v',hρ0',b1,p4,hh⟩
  ·exact p5
  trivial
 ·rcases p2 i g2 S2 e2 with rfl | e3
  ·exact ⟨(p6 _ _ e2).2.1,hex _ (by omega)⟩
  obtain ⟨c1,b,c2⟩:=s.dom i g2 S2 e3;have:i<H.length:=(AbQ.1 c2).1;exact ⟨by have:=bw.size;omega,hex _ (by omega)⟩
 ·have lv:∀ i,Bk (hp (Aa.bld T true l.length (some H.length)::(AbM (H.length-1) Aa.dead++[.buf e l]))) i->i=0\/i=H.length:=by
   intro i ⟨b,hb,hne⟩;rcases hat i b hb with ⟨h1,_⟩ | ⟨h1,_⟩ | ⟨_,_,h1⟩
   ·exact .inl h1
   ·exact .inr h1
   exact absurd h1 hne
  rcases lv i l1 with rfl | rfl<;>rcases lv j l2 with rfl | rfl
  ·rfl
  ·rw[hρ0'] at e1;cases e1;exact absurd rfl (p6 _ _ e2).1
  ·rw[hρ0'] at e2;cases e2;exact absurd rfl (p6 _ _ e1).1
  rfl
 ·refine bw.keep k hk (fun e=>hn 0 S (e▸hρ0)) (fun e=>?_);obtain ⟨⟨i,S1,c⟩,_⟩:=hv k e.symm;exact hn i S1 c
 rcases p2 i g2 S2 e2 with rfl | e3
 ·exact (p6 _ _ e2).2.2
 exact .inl ⟨i,S2,e3⟩
def Tryz.laysWriteString:Lays.n166 TP Tryz.laysReplaceAll_ren:={Tryz.laysReplaceAll with}
def Tryz.laysString_ren:Go.Shelf.Ren:=⟨fun | 169=>40 | n=>n,fun | 70=>77 | 9=>9 | 0=>0 | 72=>79 | 37=>22 | 127=>126 | 3=>3 | 5=>5 | n=>n,fun | n=>n⟩
def Tryz.laysString:Go.Proofs.Lays.n169 TP Tryz.laysString_ren where
 mixed:=by kernel_rfl
 f169:=Tryz.func40.trans (congrArg some (by kernel_rfl))
 t0:=Tryz.underlying0
 a0:=Tryz.isAgg0
 z0:=Tryz.sizeOf0
 v0:=Tryz.zeroValue0
 t3:=Tryz.underlying3
 a3:=Tryz.isAgg3
 z3:=Tryz.sizeOf3
 v3:=Tryz.zeroValue3
 t9:=Tryz.underlying9
 a9:=Tryz.isAgg9
 z9:=Tryz.sizeOf9
 v9:=Tryz.zeroValue9
 t37:=Tryz.underlying22
 a37:=Tryz.isAgg22
 z37:=Tryz.sizeOf22
 v37:=Tryz.zeroValue22
 t70:=Tryz.underlying77
 a70:=Tryz.isAgg77
 z70:=Tryz.sizeOf77
 v70:=Tryz.zeroValue77
 t72:=Tryz.underlying79
 a72:=Tryz.isAgg79
 z72:=Tryz.sizeOf79
 v72:=Tryz.zeroValue79
 t127:=Tryz.underlying126
 a127:=Tryz.isAgg126
 z127:=Tryz.sizeOf126
 v127:=Tryz.zeroValue126
def Abn:Builder.Extra TP Tryz.laysString_ren where
 sizeBuilder:=by kernel_rfl
 liesBuilder:=by kernel_rfl
 t5:=Tryz.underlying5
 a5:=Tryz.isAgg5
 z5:=Tryz.sizeOf5
 v5:=Tryz.zeroValue5
 infoByte:=by kernel_rfl
 cellsByte:=by kernel_rfl
 sizeByte:=by kernel_rfl
 neB5:=by decide
def Tryz.laysLen_ren:Go.Shelf.Ren:=⟨fun | 170=>39 | n=>n,fun | 70=>77 | 3=>3 | 0=>0 | 72=>79 | 37=>22 | 5=>5 | n=>n,fun | n=>n⟩
def Tryz.laysLen:Go.Proofs.Lays.n170 TP Tryz.laysLen_ren where
 mixed:=by kernel_rfl
 f170:=Tryz.func39.trans (congrArg some (by kernel_rfl))
 t0:=Tryz.underlying0
 a0:=Tryz.isAgg0
 z0:=Tryz.sizeOf0
 v0:=Tryz.zeroValue0
 t3:=Tryz.underlying3
 a3:=Tryz.isAgg3
 z3:=Tryz.sizeOf3
 v3:=Tryz.zeroValue3
 t37:=Tryz.underlying22
 a37:=Tryz.isAgg22
 z37:=Tryz.sizeOf22
 v37:=Tryz.zeroValue22
 t70:=Tryz.underlying77
 a70:=Tryz.isAgg77
 z70:=Tryz.sizeOf77
 v70:=Tryz.zeroValue77
 t72:=Tryz.underlying79
 a72:=Tryz.isAgg79
 z72:=Tryz.sizeOf79
 v72:=Tryz.zeroValue79
abbrev BN (used:Bool):List Aa:=[.bld 79 used 0 none]
abbrev BL (used:Bool) (l:List UInt8):List Aa:=[.bld 79 used l.length (some 1),.buf 5 l]
def Rf {h:Held} {ρ:Abs.Place} {w:World} {used:Bool} {l:List UInt8} {T e:TypeId} (s:Sim G h ρ (hp [.bld T used l.length (some 1),.buf e l]) w) :
  ∃ g S v,ρ 0=some (g,S)/\(∀ j,h g j=none)/\w.heap[g]?=some (.cells #[.pointer (if used then some ⟨g,0,none⟩ else none),v] T (0,0))/\w.ownsRow 0 e 1 v l.length (byteCells l) /\
   ∀ g1,v.ownBlock=some g1->(∃ i S1,ρ i=some (g1,S1))/\g1≠g/\∀ j,h g1 j=none:=by
 obtain ⟨g,S,v,h1,h2,h3,h4⟩:=s.blk 0 _ rfl;refine ⟨g,S,v,h1,h4,h2,?_⟩;have bl:(byteCells l).length=l.length*1:=by rw[byteCells_length,AeD]
 rcases h3 with ⟨rfl,h0⟩ | ⟨g1,cap,rfl,h5,h6⟩
 ·exact ⟨⟨bl,.inl ⟨rfl,h0⟩⟩,fun g1 e=>by cases e⟩
 rcases s.blk 1 _ rfl with ⟨k1,_⟩ | ⟨g2,S2,c,k1,k2,k3,k4,k5,k6,k7⟩
 ·rw[h5] at k1;cases k1
 rw[h5] at k1;cases k1;refine ⟨⟨bl,.inr ⟨g1,cap,c,rfl,AdD _,k2,h6,k4,by omega,?_⟩⟩,fun g3 e=>?_⟩
 ·apply List.ext_getElem?;intro j;rw[AdJ];split
  ·rename_i hj;have hj':j<l.length:=(by omega)
   rw[AdQ,k6 j l[j] (AbO hj')];simp[byteCells,hj']
  rename_i hj;rw[Ac6 (by rw[byteCells_length];omega)]
 have:g1=g3:=Option.some.inj e;subst this;refine ⟨⟨1,_,h5⟩,fun e=>?_,k7⟩;subst e;have:=s.inj 0 1 g1 _ _ h1 h5 ⟨_,rfl,by simp⟩ ⟨_,rfl,by simp⟩;cases this
def JO (used:Bool) (l x:List UInt8) (hl:l.length<=10000000000000) (hx:x.length<=10000000000000) :
  Ctr TP G 68 [.ptr 0 0,.d (S x)] (BL used l) (.tup [.d (.int .i64 x.length),.undef]) [.bld 79 true (l++x).length (some 2),.dead,.buf 5 (l++x)]:=by
 refine ⟨go68,fun h ρ w vs s r=>?_⟩;obtain ⟨v,u,rfl,hv,hu⟩:=r.inv2;obtain ⟨g,S,vb,h1,h4,h2,h3,h5⟩:=Rf s;rw[ptr_inv hv h1,hu.str_inv];have hne:vb.ownBlock≠some g:=fun e=>(h5 g e).2.1 rfl;refine (Lm Tryz.laysWriteString Abo g used vb (byteCells l) (bs x) w h2 (by rw[byteCells_length];exact h3) hne (by rw[DN,byteCells_length];omega)).mono ?_;rintro e w' ⟨rfl,bw⟩;obtain ⟨ρ',s1,s2⟩:=Vr (l:=l++x) s (by simp) h1 h4 h5 (by rw[byteCells_append];exact bw);refine ⟨_,h,ρ',rfl,s1,?_,s2⟩;refine .tup _ _ rfl fun i v y hv hy=>?_;rcases i with _ | _ | i<;>simp at hv hy
 ·subst hv;subst hy;rw[DN];exact .d _ _ (.int _ _)
 subst hv;subst hy;exact .undef _
def Yc (used:Bool) (l:List UInt8):Ctr TP G 39 [.ptr 0 0] (BL used l) (.d (.int .i64 l.length)) (BL used l):=by refine ⟨go39,fun h ρ w vs s r=>?_⟩;obtain ⟨v,rfl,hv⟩:=r.inv1;obtain ⟨g,S,vb,h1,h4,h2,h3,h5⟩:=Rf s;rw[ptr_inv hv h1];have hne:vb.ownBlock≠some g:=fun e=>(h5 g e).2.1 rfl;refine (Aar Tryz.laysLen g used vb (byteCells l) w h2 (by rw[byteCells_length];exact h3) hne).mono ?_;rintro e w' ⟨rfl,rfl⟩;rw[byteCells_length];exact ⟨_,h,ρ,rfl,s,.d _ _ (.int _ _),AU.refl _ _ _⟩
def Tryz.laysWriteByte_ren:Go.Shelf.Ren:=⟨fun | 167=>70 | n=>Tryz.laysReplaceAll_ren.f n,Tryz.laysReplaceAll_ren.t,Tryz.laysReplaceAll_ren.g⟩
def Tryz.laysWriteByte:Lays.n167 TP Tryz.laysWriteByte_ren :=
 {Tryz.laysReplaceAll with f167:=Tryz.func70.trans (congrArg some (by kernel_rfl)),t5:=Tryz.underlying5,a5:=Tryz.isAgg5,z5:=Tryz.sizeOf5,v5:=Tryz.zeroValue5}
def Abm:Builder.Extra TP Tryz.laysWriteByte_ren where
 sizeBuilder:=by kernel_rfl
 liesBuilder:=by kernel_rfl
 t5:=Tryz.underlying5
 a5:=Tryz.isAgg5
 z5:=Tryz.sizeOf5
 v5:=Tryz.zeroValue5
 infoByte:=by kernel_rfl
 cellsByte:=by kernel_rfl
 sizeByte:=by kernel_rfl
 neB5:=by decide
def LO (used:Bool) (l:List UInt8) (c:UInt8) (hl:l.length<=10000000000000) :
  Ctr TP G 70 [.ptr 0 0,.d (.int .u8 c.toNat)] (BL used l) .undef [.bld 79 true (l++[c]).length (some 2),.dead,.buf 5 (l++[c])]:=by
 refine ⟨go70,fun h ρ w vs s r=>?_⟩;obtain ⟨v,u,rfl,hv,hu⟩:=r.inv2;obtain ⟨g,S,vb,h1,h4,h2,h3,h5⟩:=Rf s;rw[ptr_inv hv h1,hu.int_inv];have hne:vb.ownBlock≠some g:=fun e=>(h5 g e).2.1 rfl;refine (NG Tryz.laysWriteByte Abm g used vb (byteCells l) c.toNat w h2 (by rw[byteCells_length];exact h3) hne (by rw[byteCells_length];omega)).mono ?_;rintro e w' ⟨rfl,bw⟩;obtain ⟨ρ',s1,s2⟩:=Vr (l:=l++[c]) s (by simp) h1 h4 h5 (by rw[byteCells_append];exact bw);exact ⟨_,h,ρ',rfl,s1,.undef _,s2⟩
def Kx (used:Bool) (l:List UInt8):Ctr TP G 40 [.ptr 0 0] (BL used l) (.d (S l)) [.dead,.dead]:=by
 refine ⟨go40,fun h ρ w vs s r=>?_⟩;obtain ⟨v,rfl,hv⟩:=r.inv1;obtain ⟨g,S,vb,h1,h4,h2,h3,h5⟩:=Rf s;rw[ptr_inv hv h1];refine (Uu Tryz.laysString Abn g _ vb l w h2 h3).mono ?_;rintro e w' ⟨rfl,hb⟩;have hpr:∀ b o u,h b o=some u->w'.cell? ⟨b,o,none⟩=some u:=fun b o u e=>by rw[<-s.prom b o u e];have:w'.heap[b]?=w.heap[b]?:=hb.keep b (s.held_lt e) (fun e2=>by have:=(h5 b e2.symm).2.2 o;rw[e] at this;cases this);simp[World.cell?,this]
 have st:AU h ρ w h ρ w':=⟨hb.os,hb.tape,hb.output,hb.size,fun k hk1 hn=>hb.keep k hk1 (fun e2=>by obtain ⟨⟨i,S1,c⟩,_⟩:=h5 k e2.symm;exact hn i S1 c),Held.le_refl _,fun _ _ _ _=>rfl,Place.le_refl _,fun i g S e=>.inl ⟨i,S,e⟩⟩;have hd:∀ i b,hp [Aa.dead,Aa.dead] i=some b->b=.dead:=by
  intro i b e;rcases i with _ | _ | i<;>simp[hp] at e
  ·exact e.symm
  exact e.symm
 refine ⟨_,h,ρ,rfl,⟨hpr,s.glob,fun i b e=>by rw[hd i b e];trivial,fun i g S e=>?_,fun i j g S S' e1 e2 l1 l2=>?_⟩,.d _ _ (.str _),st⟩;·obtain ⟨c1,b,c2⟩:=s.dom i g S e;have hi:i<2:=(AbQ.1 c2).1;refine ⟨by have:=hb.size;omega,.dead,?_⟩;rcases (by omega:i=0\/i=1) with rfl | rfl<;>rfl
 obtain ⟨b,c1,c2⟩:=l1;exact absurd (hd i b c1) c2
end
section
open Go Go.Proofs Go.Abs
variable {G:Ah}
def strs (l:List (List UInt8)):List D:=l.map fun s=>S s
def strs_length {l:List (List UInt8)}:(strs l).length=l.length:=by simp[strs]
def strs_unf {l:List (List UInt8)}:(strs l).map unf0=strs l:=by simp[strs,unf0]
def strs_getD {l:List (List UInt8)} {i:Nat} (h:i<l.length):(strs l).getD i .nilp=S (l.getD i []):=by simp[strs,AbH,h]
abbrev Ss (l:List (List UInt8)) (full:Bool):D:=.sl l.length full (strs l)
def wordsL:List (List UInt8):=[[97,110,110],[98,111,98],[99,121],[66,101,114,110],[85,108,109],[78,101,119,32,89,111,114,107],[121,111,114,107,32,110,101,119],[97,45,49],[98,45,50,50],[120],[122,195,188,114,105,99,104],[65,110,110],[98,111],[99,97,116],[98,97,116],[114,97,116]]
abbrev DiceM (t:List Int) (k:Nat):Aa:=.box [.d (.sl t.length false (Au .u8 t)),.d (.int .i64 (min k t.length:Nat))]
def OkM (t:List Int):Prop:=t.length<=300/\∀ i,0<=t.getD i 0/\t.getD i 0<=255
def new_spec (t:List Int) (ht:t.length<=9223372036854775807):Ctr TP G 8 [.d (.sl t.length false (Au .u8 t))] [] (.ptr 0 0) [DiceM (t.take 300) 0]:=by
 refine Ctr.body (M:=M0) Al Tryz.func8 rfl go8 ?_;rcases Adc 300 t.length with h | h
 ·have e:(t.take 300).length=300:=by rw[Adh];omega
  simp(disch:=(try simp only[Ad]);omega)only[Tryz.f8,e,↓Ac,Ae,↓reduceIte,↓reduceDIte,↓Qe,Qu,Qv,Qw,Qx,Qy,Qz,QA,QB,QC,QD,QE,QF,QG,QH,QI,QK];exact ⟨[some 0],rfl,by simp,by simp[HW,BW,SW,AW];omega,.inl (by simp[AW])⟩
 have e:t.take 300=t:=AbZ h;simp(disch:=(try simp only[Ad]);omega)only[Tryz.f8,e,↓Ac,Ae,↓reduceIte,↓reduceDIte,↓Qe,Qu,Qv,Qw,Qx,Qy,Qz,QA,QB,QC,QD,QE,QF,QG,QH,QI,QK];exact ⟨[some 0],rfl,by simp,by simp[HW,BW,SW,AW],.inl (by simp[AW,SW])⟩
def pk (t:List Int) (k:Nat) (n:Int):Int:=t.getD k 0 % n
def pk_range {t:List Int} {k:Nat} {n:Int} (h:0<n):0<=pk t k n/\pk t k n<n:=⟨Int.emod_nonneg _ (by omega),Int.emod_lt_of_pos _ h⟩
def pk_nat (t:List Int) (k:Nat) (n:Int) (h:0<n):∃ c:Nat,pk t k n=c/\(c:Int)<n:=⟨(pk t k n).toNat,by have:=@pk_range t k n h;omega,by have:=@pk_range t k n h;omega⟩
def pick_spec (t:List Int) (k:Nat) (n:Int) (ht:OkM t) (h0:0<n) (h1:n<=1000) :
  Ctr TP G 25 [.ptr 0 0,.d (.int .i64 n)] [DiceM t k] (.d (.int .i64 (pk t k n))) [DiceM t (k+1)]:=by
 obtain ⟨ht,htt⟩:=ht;refine Ctr.body (M:=M0) Al Tryz.func25 rfl go25 ?_;rcases Adc k t.length with h | h
 ·have e1:min k t.length=k:=by omega
  have e2:min (k+1) t.length=k+1:=by omega
  obtain ⟨b1,b2⟩:=htt k;have e3:(t.getD k 0).tmod n=pk t k n:=Int.tmod_eq_emod_of_nonneg b1;simp only[e1,e2,DiceM];simp(disch:=(try simp only[Ad]);omega)only[Tryz.f25,e3,↓Ac,Ae,↓reduceIte,↓reduceDIte,↓Qe,Qu,Qv,Qw,Qx,Qy,Qz,QA,QB,QC,QD,QE,QF,QG,QH,QI,QK];refine ⟨by rfl,by rfl,?_⟩;exact ⟨[some 0],rfl,by simp,by simp[HW,BW,SW,AW],.inl (by simp[AW,SW])⟩
 have e1:min k t.length=t.length:=by omega
 have e2:min (k+1) t.length=t.length:=by omega
 have e3:pk t k n=0:=by rw[pk,AbH,Ac6 h];simp
 simp only[e1,e2,e3,DiceM];simp(disch:=(try simp only[Ad]);omega)only[Tryz.f25,↓Ac,Ae,↓reduceIte,↓reduceDIte,↓Qe,Qu,Qv,Qw,Qx,Qy,Qz,QA,QB,QC,QD,QE,QF,QG,QH,QI,QK];refine ⟨by rfl,?_⟩;exact ⟨[some 0],rfl,by simp,by simp[HW,BW,SW,AW],.inl (by simp[AW,SW])⟩
def words_spec:Ctr TP G 52 [] [] (.d (Ss wordsL false)) []:=by refine Ctr.pure (M:=M0) Al Tryz.func52 rfl go52 ?_;simp(disch:=(try simp only[Ad]);omega)only[Ag,Tryz.f52,↓Ac,Ae,↓reduceIte,↓reduceDIte,↓Qe,Qu,Qv,Qw,Qx,Qy,Qz,QA,QB,QC,QD,QE,QF,QG,QH,QI,QK];try rfl
abbrev Row:=List (List UInt8)
def ixF {α:Type} (p:α->Bool):List α->Int->Int
 | [],_=>-1
 | x::r,k=>if p x then k else ixF p r (k+1)
def HR {α:Type} {p:α->Bool}:∀ (l:List α) (k:Int),0<=k->(0<=ixF p l k↔l.any p=true)
 | [],k,h=>by simp[ixF]
 | x::r,k,h=>by
   rw[ixF,AeB];cases hx:p x;·simpa using HR r (k+1) (by omega)
   simpa using h
def MN {α:Type} {p:α->Bool} {l:List α} {i:Nat} {d:α} (h:i<l.length):ixF p (l.drop i) i=if p (l.getD i d) then (i:Int) else ixF p (l.drop (i+1)) (i+1:Nat):=by rw[Ac8 h,ixF,AbH,AbO h];rfl
def E1 {α:Type} {l:List α} {i:Nat} {d:α} (h:i<l.length):l.getD i d∈l:=by rw[AbH,AbO h];exact AdR h
def MU (f:FuncId) (p:List UInt8->Bool) (l:Row) (full:Bool) (hl:l.length<=1000000000) (hp:∀ s∈l,Ctr TP G f [.d (S s)] [] (.d (.bool (p s))) []) :
  Ctr TP G 146 [.d (Ss l full),.d (.fn (.func f) [] [])] [] (.d (.int .i64 (ixF p l 0))) []:=by
 refine Ctr.pure (M:=M0) Al Tryz.func146 rfl Acz ?_;have sl:=@strs_length l;simp(disch:=(try simp only[Ad]);omega)only[sl,Tryz.f146,↓Ac,Ae,↓reduceIte,↓reduceDIte,↓Qe,Qu,Qv,Qw,Qx,Qy,Qz,QA,QB,QC,QD,QE,QF,QG,QH,QI,QK];refine As.fr 131 (α:=Nat) (fun i=>l.length-i) (fun i=>[(8,.d (.int .i64 i))]) (fun _=>[]) (fun i=>i<=l.length/\ixF p l 0=ixF p (l.drop i) i) 0 ⟨AdD _,rfl⟩ ?_ ?_;·exact ⟨[],rfl,by simp,by simp[sA,kZ,SW,AW],by simp[HW,BW,SW,AW]⟩
 rintro i ⟨h1,h2⟩;simp only[Cr,AbV,AbY,reduceIte];rw[h2];rcases Adc i l.length with h | h
 ·have g:=strs_getD h;rw[MN (d:=[]) h];simp(disch:=(try simp only[Ad]);omega)only[sl,g,↓Ac,Ae,↓reduceIte,↓reduceDIte,↓Qe,Qu,Qv,Qw,Qx,Qy,Qz,QA,QB,QC,QD,QE,QF,QG,QH,QI,QK];refine Ab.pure (hp _ (E1 h)) ?_;cases hx:p (l.getD i []);·simp(disch:=(try simp only[Ad]);omega)only[↓Ac,Ae,↓reduceIte,↓reduceDIte,↓Qe,Qu,Qv,Qw,Qx,Qy,Qz,QA,QB,QC,QD,QE,QF,QG,QH,QI,QK];exact ⟨i+1,⟨h,rfl⟩,by simp only;omega,⟨[],rfl,by simp,by simp[sA,kZ,SW,AW],by simp[HW,BW,SW,AW]⟩⟩
  simp(disch:=(try simp only[Ad]);omega)only[↓Ac,Ae,↓reduceIte,↓reduceDIte,↓Qe,Qu,Qv,Qw,Qx,Qy,Qz,QA,QB,QC,QD,QE,QF,QG,QH,QI,QK]
 rw[Ad9 h];simp(disch:=(try simp only[Ad]);omega)only[↓Ac,Ae,↓reduceIte,↓reduceDIte,↓Qe,Qu,Qv,Qw,Qx,Qy,Qz,QA,QB,QC,QD,QE,QF,QG,QH,QI,QK];rfl
def JB (f:FuncId) (p:List UInt8->Bool) (l:Row) (full:Bool) (hl:l.length<=1000000000) (hp:∀ s∈l,Ctr TP G f [.d (S s)] [] (.d (.bool (p s))) []) :
  Ctr TP G 105 [.d (Ss l full),.d (.fn (.func f) [] [])] [] (.d (.bool (l.any p))) []:=by
 refine Ctr.pure (M:=M0) Al Tryz.func105 rfl Ac0 ?_;simp(disch:=(try simp only[Ad]);omega)only[Tryz.f105,↓Ac,Ae,↓reduceIte,↓reduceDIte,↓Qe,Qu,Qv,Qw,Qx,Qy,Qz,QA,QB,QC,QD,QE,QF,QG,QH,QI,QK];refine Ab.of (MU f p l false hl hp) (by rfl) ?_;have hi:=HR (p:=p) l 0 (Int.le_refl _);generalize ixF p l 0=z at *;rcases (by omega:0<=z\/z<0) with h | h
 ·rw[hi.1 h];simp(disch:=(try simp only[Ad]);omega)only[↓Ac,Ae,↓reduceIte,↓reduceDIte,↓Qe,Qu,Qv,Qw,Qx,Qy,Qz,QA,QB,QC,QD,QE,QF,QG,QH,QI,QK]
 have:l.any p=false:=by cases hx:l.any p with
  | false=>rfl
  | true=>have:=hi.2 hx;omega
 rw[this];simp(disch:=(try simp only[Ad]);omega)only[↓Ac,Ae,↓reduceIte,↓reduceDIte,↓Qe,Qu,Qv,Qw,Qx,Qy,Qz,QA,QB,QC,QD,QE,QF,QG,QH,QI,QK]
def Vl:List UInt8:=[48,49,50,51,52,53,54,55,56,57,97,98,99,100,101,102,103,104,105,106,107,108,109,110,111,112,113,114,115,116,117,118,119,120,121,122]
def D4:List UInt8:=(Ad0 100).flatMap fun n=>[UInt8.ofNat (48+n / 10),UInt8.ofNat (48+n % 10)]
def EG:(([48,48,48,49,48,50,48,51,48,52,48,53,48,54,48,55,48,56,48,57,49,48,49,49,49,50,49,51,49,52,49,53,49,54,49,55,49,56,49,57,50,48,50,49,50,50,50,51,50,52]:List UInt8).append [50,53,50,54,50,55,50,56,50,57,51,48,51,49,51,50,51,51,51,52,51,53,51,54,51,55,51,56,51,57,52,48,52,49,52,50,52,51,52,52,52,53,52,54,52,55,52,56,52,57]).append (List.append [53,48,53,49,53,50,53,51,53,52,53,53,53,54,53,55,53,56,53,57,54,48,54,49,54,50,54,51,54,52,54,53,54,54,54,55,54,56,54,57,55,48,55,49,55,50,55,51,55,52] [55,53,55,54,55,55,55,56,55,57,56,48,56,49,56,50,56,51,56,52,56,53,56,54,56,55,56,56,56,57,57,48,57,49,57,50,57,51,57,52,57,53,57,54,57,55,57,56,57,57])=D4:=by decide +kernel
def Dt:D4.length=200:=by decide +kernel
def Cv (n:Nat):List UInt8:=if n<10 then [UInt8.ofNat (48+n)] else [UInt8.ofNat (48+n / 10),UInt8.ofNat (48+n % 10)]
def Yi {n:Nat} (h:n<10):(Vl.take (n+1)).drop n=Cv n:=by
 have:∀ n:Fin 10,(Vl.take (n.val+1)).drop n.val=Cv n.val:=by decide
 exact this ⟨n,h⟩
def Yh {n:Nat} (h1:10<=n) (h:n<100):(D4.take (n*2+2)).drop (n*2)=Cv n:=by
 have:∀ n:Fin 100,10<=n.val->(D4.take (n.val*2+2)).drop (n.val*2)=Cv n.val:=by decide +kernel
 exact this ⟨n,h⟩ h1
def On (n:Nat):1<=(Cv n).length/\(Cv n).length<=2:=by unfold Cv;split<;>simp
def Tt (n:Nat) (h:n<100):Ctr TP G 160 [.d (.int .i64 n)] [] (.d (S (Cv n))) []:=by
 refine Ctr.pure (M:=M0) Al Tryz.func160 rfl Acv ?_;rcases Adc n 10 with h1 | h1
 ·rw[<-Yi h1];simp(disch:=(try simp only[Ad]);omega)only[Ag,Tryz.f160,↓Ac,Ae,↓reduceIte,↓reduceDIte,↓Qe,Qu,Qv,Qw,Qx,Qy,Qz,QA,QB,QC,QD,QE,QF,QG,QH,QI,QK];first | done | rfl
 rw[<-Yh h1 h];have e1:((n:Int)*2).toNat=n*2:=by omega
 have e2:((n:Int)*2+2).toNat=n*2+2:=by omega
 simp(disch:=(try simp only[Ad]);omega)only[Ag,EG,Dt,e1,e2,Tryz.f160,↓Ac,Ae,↓reduceIte,↓reduceDIte,↓Qe,Qu,Qv,Qw,Qx,Qy,Qz,QA,QB,QC,QD,QE,QF,QG,QH,QI,QK];first | done | rfl
def G9 (n:Nat) (h:n<100):Ctr TP G 121 [.d (.int .i64 n),.d (.int .i64 10)] [] (.d (S (Cv n))) []:=by refine Ctr.pure (M:=M0) Al Tryz.func121 rfl AaR ?_;simp(disch:=(try simp only[Ad]);omega)only[Ag,Tryz.f121,↓Ac,Ae,↓reduceIte,↓reduceDIte,↓Qe,Qu,Qv,Qw,Qx,Qy,Qz,QA,QB,QC,QD,QE,QF,QG,QH,QI,QK];refine Ab.pure (Tt n h) ?_;simp(disch:=(try simp only[Ad]);omega)only[Ag,↓Ac,Ae,↓reduceIte,↓reduceDIte,↓Qe,Qu,Qv,Qw,Qx,Qy,Qz,QA,QB,QC,QD,QE,QF,QG,QH,QI,QK];first | done | rfl
def T6 (n:Nat) (h:n<100):Ctr TP G 93 [.d (.int .i64 n)] [] (.d (S (Cv n))) []:=by refine Ctr.pure (M:=M0) Al Tryz.func93 rfl go93 ?_;simp(disch:=(try simp only[Ad]);omega)only[Ag,Tryz.f93,↓Ac,Ae,↓reduceIte,↓reduceDIte,↓Qe,Qu,Qv,Qw,Qx,Qy,Qz,QA,QB,QC,QD,QE,QF,QG,QH,QI,QK];refine Ab.pure (G9 n h) ?_;simp(disch:=(try simp only[Ad]);omega)only[Ag,↓Ac,Ae,↓reduceIte,↓reduceDIte,↓Qe,Qu,Qv,Qw,Qx,Qy,Qz,QA,QB,QC,QD,QE,QF,QG,QH,QI,QK];first | done | rfl
def Wc (n:Nat) (h:n<100):Ctr TP G 51 [.d (.int .i64 n)] [] (.d (S (Cv n))) []:=by refine Ctr.pure (M:=M0) Al Tryz.func51 rfl go51 ?_;simp(disch:=(try simp only[Ad]);omega)only[Ag,Tryz.f51,↓Ac,Ae,↓reduceIte,↓reduceDIte,↓Qe,Qu,Qv,Qw,Qx,Qy,Qz,QA,QB,QC,QD,QE,QF,QG,QH,QI,QK];refine Ab.pure (T6 n h) ?_;simp(disch:=(try simp only[Ad]);omega)only[Ag,↓Ac,Ae,↓reduceIte,↓reduceDIte,↓Qe,Qu,Qv,Qw,Qx,Qy,Qz,QA,QB,QC,QD,QE,QF,QG,QH,QI,QK];first | done | rfl
def Et:List (List UInt8):=[[],[],[],[45],[43]]
def C5:List (List UInt8):=[[53],[53,48],[48],[49,50,53],[48,48,55],[48,48,48,48,48,48,48,48,49]]
def Fp (c:UInt8):Bool:=decide (c.toNat<48) || decide (57<c.toNat)
def G0 (t:List Int) (k:Nat):List UInt8:=Et.getD (pk t k 5).toNat []++Cv (pk t (k+1) 40).toNat
def Ji (t:List Int) (k:Nat):List UInt8:=if pk t (k+2) 3=0 then (if Fp ((G0 t k).getD 0 0)=true then G0 t k else 48::G0 t k) else G0 t k
def Iw (t:List Int) (k:Nat):List UInt8:=if pk t (k+3) 3=0 then Ji t k++(46::C5.getD (pk t (k+4) 6).toNat []) else Ji t k
def NA (t:List Int) (k:Nat):Nat:=if pk t (k+3) 3=0 then k+5 else k+4
def B6 {l:List (List UInt8)} {m:Nat} (h:∀ s∈l,s.length<=m) (i:Nat):(l.getD i []).length<=m:=by
 rcases Adc i l.length with h1 | h1
 ·rw[AbH,AbO h1];exact h _ (AdR _)
 rw[AbH,Ac6 h1];simp
def R8 (t:List Int) (k:Nat):1<=(G0 t k).length/\(G0 t k).length<=3:=by have h1:=On (pk t (k+1) 40).toNat;have h2:=B6 (l:=Et) (m:=1) (by decide) (pk t k 5).toNat;unfold G0;rw[AbS];omega
def R7 (t:List Int) (k:Nat):1<=(Ji t k).length/\(Ji t k).length<=4:=by
 have h1:=R8 t k;unfold Ji;split
 ·split;·omega
  rw[AbT];omega
 omega
def GZ (t:List Int) (k:Nat):1<=(Iw t k).length/\(Iw t k).length<=20:=by
 have h1:=R7 t k;have h2:=B6 (l:=C5) (m:=9) (by decide) (pk t (k+4) 6).toNat;unfold Iw;split;·rw[AbS,AbT];omega
 omega
def Bj:[D.str (bs []),D.str (bs []),D.str (bs []),D.str (bs [45]),D.str (bs [43])]=strs Et:=rfl
def A8:[D.str (bs [53]),D.str (bs [53,48]),D.str (bs [48]),D.str (bs [49,50,53]),D.str (bs [48,48,55]),D.str (bs [48,48,48,48,48,48,48,48,49])]=strs C5:=rfl
def GY (t:List Int) (k:Nat) (ht:OkM t):Ctr TP G 26 [.ptr 0 0] [DiceM t k] (.d (S (Iw t k))) [DiceM t (NA t k)]:=by
 refine Ctr.body (M:=M0) Al Tryz.func26 rfl go26 ?_;have ls:=@strs_length Et;have lf:=@strs_length C5;have ls':Et.length=5:=rfl;have lf':C5.length=6:=rfl;obtain ⟨a,ha,ha2⟩:=pk_nat t k 5 (by decide);obtain ⟨b,hb,hb2⟩:=pk_nat t (k+1) 40 (by decide);have e1:G0 t k=Et.getD a []++Cv b:=by rw[G0,ha,hb];rfl
 have lg:=B6 (l:=Et) (m:=1) (by decide) a;have li:=On b;have l1:=R8 t k;have l2:=R7 t k;have gs:=strs_getD (l:=Et) (i:=a) (by omega);simp(disch:=(try simp only[Ad]);omega)only[Ag,Tryz.f26,Bj,strs_unf,ls,ls',↓Ac,Ae,↓reduceIte,↓reduceDIte,↓Qe,Qu,Qv,Qw,Qx,Qy,Qz,QA,QB,QC,QD,QE,QF,QG,QH,QI,QK];refine Ab.by (pick_spec t k 5 ht (by decide) (by decide)) (by rfl) (by rfl) (AbP _) ?_;rw[ha];simp(disch:=(try simp only[Ad]);omega)only[Ag,Bj,A8,strs_unf,gs,ls,ls',lf,lf',↓Ac,Ae,↓reduceIte,↓reduceDIte,↓Qe,Qu,Qv,Qw,Qx,Qy,Qz,QA,QB,QC,QD,QE,QF,QG,QH,QI,QK];refine Ab.by (pick_spec t (k+1) 40 ht (by decide) (by decide)) (by rfl) (by rfl) (AbP _) ?_;rw[hb];simp(disch:=(try simp only[Ad]);omega)only[Ag,Bj,A8,strs_unf,gs,ls,ls',lf,lf',↓Ac,Ae,↓reduceIte,↓reduceDIte,↓Qe,Qu,Qv,Qw,Qx,Qy,Qz,QA,QB,QC,QD,QE,QF,QG,QH,QI,QK];refine Ab.of (Wc b (by omega)) (by rfl) ?_;simp(disch:=(try simp only[Ad]);omega)only[Ag,e1.symm,Bj,A8,strs_unf,gs,ls,ls',lf,lf',↓Ac,Ae,↓reduceIte,↓reduceDIte,↓Qe,Qu,Qv,Qw,Qx,Qy,Qz,QA,QB,QC,QD,QE,QF,QG,QH,QI,QK];refine ⟨by rfl,?_⟩;refine Ab.by (pick_spec t (k+1+1) 3 ht (by decide) (by decide)) (by rfl) (by rfl) (AbP _) ?_;have e2:Ji t k=(if pk t (k+1+1) 3=0 then (if Fp ((G0 t k).getD 0 0)=true then G0 t k else 48::G0 t k) else G0 t k):=rfl;have tail:∀ r:List UInt8,r=Ji t k->Iw t k=(if pk t (k+1+1+1) 3=0 then r++(46::C5.getD (pk t (k+1+1+1+1) 6).toNat []) else r):=by rintro r rfl;rfl
 have ek:NA t k=(if pk t (k+1+1+1) 3=0 then k+1+1+1+1+1 else k+1+1+1+1):=rfl;generalize G0 t k=r1 at *;by_cases h3:pk t (k+1+1) 3=0
 ·rw[h3];rw[if_pos h3] at e2;by_cases c1:(r1.getD 0 0).toNat<48
  ·have c3:Fp (r1.getD 0 0)=true:=(by unfold Fp;rw[decide_eq_true c1];rfl);have hr:r1=Ji t k:=(by rw[e2,if_pos c3]);have tl:=tail (r1) hr;have lr:(r1).length<=4:=(by rw[hr];exact l2.2)
   simp(disch:=(try simp only[Ad]);omega)only[Ag,Bj,A8,strs_unf,gs,ls,ls',lf,lf',↓Ac,Ae,↓reduceIte,↓reduceDIte,↓Qe,Qu,Qv,Qw,Qx,Qy,Qz,QA,QB,QC,QD,QE,QF,QG,QH,QI,QK];refine Ab.by (pick_spec t (k+1+1+1) 3 ht (by decide) (by decide)) (by rfl) (by rfl) (AbP _) ?_;by_cases h4:pk t (k+1+1+1) 3=0
   ·rw[if_pos h4] at tl ek;rw[h4,tl,ek];obtain ⟨d,hd,hd2⟩:=pk_nat t (k+1+1+1+1) 6 (by decide);have gs2:=strs_getD (l:=C5) (i:=d) (by omega);have lg2:=B6 (l:=C5) (m:=9) (by decide) d;rw[hd,AbR];simp(disch:=(try simp only[Ad]);omega)only[Ag,Bj,A8,strs_unf,gs,ls,ls',lf,lf',↓Ac,Ae,↓reduceIte,↓reduceDIte,↓Qe,Qu,Qv,Qw,Qx,Qy,Qz,QA,QB,QC,QD,QE,QF,QG,QH,QI,QK];refine Ab.by (pick_spec t (k+1+1+1+1) 6 ht (by decide) (by decide)) (by rfl) (by rfl) (AbP _) ?_;rw[hd];simp(disch:=(try simp only[Ad]);omega)only[Ag,gs2,Bj,A8,strs_unf,gs,ls,ls',lf,lf',↓Ac,Ae,↓reduceIte,↓reduceDIte,↓Qe,Qu,Qv,Qw,Qx,Qy,Qz,QA,QB,QC,QD,QE,QF,QG,QH,QI,QK];first
    | exact ⟨[some 0],rfl,by simp,by simp[HW,BW,SW,AW],.inl (by simp[AW,SW])⟩
    | refine ⟨by rfl,?_⟩
      exact ⟨[some 0],rfl,by simp,by simp[HW,BW,SW,AW],.inl (by simp[AW,SW])⟩
   rw[if_neg h4] at tl ek;rw[tl,ek];generalize pk t (k+1+1+1) 3=z at *;simp(disch:=(try simp only[Ad]);omega)only[Ag,Bj,A8,strs_unf,gs,ls,ls',lf,lf',↓Ac,Ae,↓reduceIte,↓reduceDIte,↓Qe,Qu,Qv,Qw,Qx,Qy,Qz,QA,QB,QC,QD,QE,QF,QG,QH,QI,QK];exact ⟨[some 0],rfl,by simp,by simp[HW,BW,SW,AW],.inl (by simp[AW,SW])⟩
  by_cases c2:57<(r1.getD 0 0).toNat
  ·have c3:Fp (r1.getD 0 0)=true:=(by unfold Fp;rw[decide_eq_true c2,Bool.or_true]);have hr:r1=Ji t k:=(by rw[e2,if_pos c3]);have tl:=tail (r1) hr;have lr:(r1).length<=4:=(by rw[hr];exact l2.2)
   simp(disch:=(try simp only[Ad]);omega)only[Ag,Bj,A8,strs_unf,gs,ls,ls',lf,lf',↓Ac,Ae,↓reduceIte,↓reduceDIte,↓Qe,Qu,Qv,Qw,Qx,Qy,Qz,QA,QB,QC,QD,QE,QF,QG,QH,QI,QK];refine Ab.by (pick_spec t (k+1+1+1) 3 ht (by decide) (by decide)) (by rfl) (by rfl) (AbP _) ?_;by_cases h4:pk t (k+1+1+1) 3=0
   ·rw[if_pos h4] at tl ek;rw[h4,tl,ek];obtain ⟨d,hd,hd2⟩:=pk_nat t (k+1+1+1+1) 6 (by decide);have gs2:=strs_getD (l:=C5) (i:=d) (by omega);have lg2:=B6 (l:=C5) (m:=9) (by decide) d;rw[hd,AbR];simp(disch:=(try simp only[Ad]);omega)only[Ag,Bj,A8,strs_unf,gs,ls,ls',lf,lf',↓Ac,Ae,↓reduceIte,↓reduceDIte,↓Qe,Qu,Qv,Qw,Qx,Qy,Qz,QA,QB,QC,QD,QE,QF,QG,QH,QI,QK];refine Ab.by (pick_spec t (k+1+1+1+1) 6 ht (by decide) (by decide)) (by rfl) (by rfl) (AbP _) ?_;rw[hd];simp(disch:=(try simp only[Ad]);omega)only[Ag,gs2,Bj,A8,strs_unf,gs,ls,ls',lf,lf',↓Ac,Ae,↓reduceIte,↓reduceDIte,↓Qe,Qu,Qv,Qw,Qx,Qy,Qz,QA,QB,QC,QD,QE,QF,QG,QH,QI,QK];first
    | exact ⟨[some 0],rfl,by simp,by simp[HW,BW,SW,AW],.inl (by simp[AW,SW])⟩
    | refine ⟨by rfl,?_⟩
      exact ⟨[some 0],rfl,by simp,by simp[HW,BW,SW,AW],.inl (by simp[AW,SW])⟩
   rw[if_neg h4] at tl ek;rw[tl,ek];generalize pk t (k+1+1+1) 3=z at *;simp(disch:=(try simp only[Ad]);omega)only[Ag,Bj,A8,strs_unf,gs,ls,ls',lf,lf',↓Ac,Ae,↓reduceIte,↓reduceDIte,↓Qe,Qu,Qv,Qw,Qx,Qy,Qz,QA,QB,QC,QD,QE,QF,QG,QH,QI,QK];exact ⟨[some 0],rfl,by simp,by simp[HW,BW,SW,AW],.inl (by simp[AW,SW])⟩
  have c3:Fp (r1.getD 0 0)=false:=by unfold Fp;rw[decide_eq_false c1,decide_eq_false c2];rfl
  have hr:48::r1=Ji t k:=by rw[e2,c3,if_neg Bool.false_ne_true]
  have tl:=tail (48::r1) hr;have lr:(48::r1).length<=4:=by rw[hr];exact l2.2
  simp(disch:=(try simp only[Ad]);omega)only[Ag,Bj,A8,strs_unf,gs,ls,ls',lf,lf',↓Ac,Ae,↓reduceIte,↓reduceDIte,↓Qe,Qu,Qv,Qw,Qx,Qy,Qz,QA,QB,QC,QD,QE,QF,QG,QH,QI,QK];refine Ab.by (pick_spec t (k+1+1+1) 3 ht (by decide) (by decide)) (by rfl) (by rfl) (AbP _) ?_;by_cases h4:pk t (k+1+1+1) 3=0
  ·rw[if_pos h4] at tl ek;rw[h4,tl,ek];obtain ⟨d,hd,hd2⟩:=pk_nat t (k+1+1+1+1) 6 (by decide);have gs2:=strs_getD (l:=C5) (i:=d) (by omega);have lg2:=B6 (l:=C5) (m:=9) (by decide) d;rw[hd,AbR];generalize hX:48::r1=X at *;simp(disch:=(try simp only[Ad]);omega)only[Ag,Bj,A8,strs_unf,gs,ls,ls',lf,lf',↓Ac,Ae,↓reduceIte,↓reduceDIte,↓Qe,Qu,Qv,Qw,Qx,Qy,Qz,QA,QB,QC,QD,QE,QF,QG,QH,QI,QK];refine Ab.by (pick_spec t (k+1+1+1+1) 6 ht (by decide) (by decide)) (by rfl) (by rfl) (AbP _) ?_;rw[hd];simp(disch:=(try simp only[Ad]);omega)only[Ag,gs2,Bj,A8,strs_unf,gs,ls,ls',lf,lf',↓Ac,Ae,↓reduceIte,↓reduceDIte,↓Qe,Qu,Qv,Qw,Qx,Qy,Qz,QA,QB,QC,QD,QE,QF,QG,QH,QI,QK];first
   | exact ⟨[some 0],rfl,by simp,by simp[HW,BW,SW,AW],.inl (by simp[AW,SW])⟩
   | refine ⟨by rfl,?_⟩
     exact ⟨[some 0],rfl,by simp,by simp[HW,BW,SW,AW],.inl (by simp[AW,SW])⟩
  rw[if_neg h4] at tl ek;rw[tl,ek];generalize pk t (k+1+1+1) 3=z at *;simp(disch:=(try simp only[Ad]);omega)only[Ag,Bj,A8,strs_unf,gs,ls,ls',lf,lf',↓Ac,Ae,↓reduceIte,↓reduceDIte,↓Qe,Qu,Qv,Qw,Qx,Qy,Qz,QA,QB,QC,QD,QE,QF,QG,QH,QI,QK];exact ⟨[some 0],rfl,by simp,by simp[HW,BW,SW,AW],.inl (by simp[AW,SW])⟩
 rw[if_neg h3] at e2;generalize pk t (k+1+1) 3=z3 at *;have hr:r1=Ji t k:=e2.symm;have tl:=tail (r1) hr;have lr:(r1).length<=4:=by rw[hr];exact l2.2
 simp(disch:=(try simp only[Ad]);omega)only[Ag,Bj,A8,strs_unf,gs,ls,ls',lf,lf',↓Ac,Ae,↓reduceIte,↓reduceDIte,↓Qe,Qu,Qv,Qw,Qx,Qy,Qz,QA,QB,QC,QD,QE,QF,QG,QH,QI,QK];refine Ab.by (pick_spec t (k+1+1+1) 3 ht (by decide) (by decide)) (by rfl) (by rfl) (AbP _) ?_;by_cases h4:pk t (k+1+1+1) 3=0
 ·rw[if_pos h4] at tl ek;rw[h4,tl,ek];obtain ⟨d,hd,hd2⟩:=pk_nat t (k+1+1+1+1) 6 (by decide);have gs2:=strs_getD (l:=C5) (i:=d) (by omega);have lg2:=B6 (l:=C5) (m:=9) (by decide) d;rw[hd,AbR];simp(disch:=(try simp only[Ad]);omega)only[Ag,Bj,A8,strs_unf,gs,ls,ls',lf,lf',↓Ac,Ae,↓reduceIte,↓reduceDIte,↓Qe,Qu,Qv,Qw,Qx,Qy,Qz,QA,QB,QC,QD,QE,QF,QG,QH,QI,QK];refine Ab.by (pick_spec t (k+1+1+1+1) 6 ht (by decide) (by decide)) (by rfl) (by rfl) (AbP _) ?_;rw[hd];simp(disch:=(try simp only[Ad]);omega)only[Ag,gs2,Bj,A8,strs_unf,gs,ls,ls',lf,lf',↓Ac,Ae,↓reduceIte,↓reduceDIte,↓Qe,Qu,Qv,Qw,Qx,Qy,Qz,QA,QB,QC,QD,QE,QF,QG,QH,QI,QK];first
  | exact ⟨[some 0],rfl,by simp,by simp[HW,BW,SW,AW],.inl (by simp[AW,SW])⟩
  | refine ⟨by rfl,?_⟩
    exact ⟨[some 0],rfl,by simp,by simp[HW,BW,SW,AW],.inl (by simp[AW,SW])⟩
 rw[if_neg h4] at tl ek;rw[tl,ek];generalize pk t (k+1+1+1) 3=z at *;simp(disch:=(try simp only[Ad]);omega)only[Ag,Bj,A8,strs_unf,gs,ls,ls',lf,lf',↓Ac,Ae,↓reduceIte,↓reduceDIte,↓Qe,Qu,Qv,Qw,Qx,Qy,Qz,QA,QB,QC,QD,QE,QF,QG,QH,QI,QK];exact ⟨[some 0],rfl,by simp,by simp[HW,BW,SW,AW],.inl (by simp[AW,SW])⟩
def DT:List (List UInt8):=[[50,48,50,52],[49,57,57,57],[50,48,50,54],[49,57,48,48],[48,48,48,49],[57,57,57,57]]
def CZ:List (List UInt8):=[[48,49],[48,50],[49,50],[49,49],[49,51]]
def FQ:List (List UInt8):=[[48,49],[50,56],[50,57],[51,48],[51,49]]
def KQ (t:List Int) (k:Nat):List UInt8 :=
 let y:=DT.getD (pk t k 6).toNat []
 let m:=CZ.getD (pk t (k+1) 5).toNat []
 let e:=FQ.getD (pk t (k+2) 5).toNat []
 if pk t (k+3) 3=0 then y++[45]++m++[45]++e else if pk t (k+3) 3=1 then y++[47]++m++[47]++e else e++[46]++m++[46]++y
def HJ:[D.str (bs [50,48,50,52]),D.str (bs [49,57,57,57]),D.str (bs [50,48,50,54]),D.str (bs [49,57,48,48]),D.str (bs [48,48,48,49]),D.str (bs [57,57,57,57])]=strs DT:=rfl
def F5:[D.str (bs [48,49]),D.str (bs [48,50]),D.str (bs [49,50]),D.str (bs [49,49]),D.str (bs [49,51])]=strs CZ:=rfl
def Jf:[D.str (bs [48,49]),D.str (bs [50,56]),D.str (bs [50,57]),D.str (bs [51,48]),D.str (bs [51,49])]=strs FQ:=rfl
def Wv (t:List Int) (k:Nat) (ht:OkM t):Ctr TP G 53 [.ptr 0 0] [DiceM t k] (.d (S (KQ t k))) [DiceM t (k+4)]:=by
 obtain ⟨r,hr⟩:∃ r,r=KQ t k:=⟨_,rfl⟩;rw[<-hr];unfold KQ at hr;refine Ctr.body (M:=M0) Al Tryz.func53 rfl go53 ?_;obtain ⟨a,ha,ha2⟩:=pk_nat t k 6 (by decide);obtain ⟨b,hb,hb2⟩:=pk_nat t (k+1) 5 (by decide);obtain ⟨c,hc,hc2⟩:=pk_nat t (k+2) 5 (by decide);obtain ⟨e,he,he2⟩:=pk_nat t (k+3) 3 (by decide);rw[ha,hb,hc,he] at hr;simp only[AbR] at hr;have l1:=@strs_length DT;have l2:=@strs_length CZ;have l3:=@strs_length FQ;have n1:DT.length=6:=rfl;have n2:CZ.length=5:=rfl;have n3:FQ.length=5:=rfl;have g1:=strs_getD (l:=DT) (i:=a) (by omega);have g2:=strs_getD (l:=CZ) (i:=b) (by omega);have g3:=strs_getD (l:=FQ) (i:=c) (by omega);have s1:=B6 (l:=DT) (m:=4) (by decide) a;have s2:=B6 (l:=CZ) (m:=2) (by decide) b;have s3:=B6 (l:=FQ) (m:=2) (by decide) c;generalize DT.getD a []=y at *;generalize CZ.getD b []=m at *;generalize FQ.getD c []=dd at *;simp(disch:=(try simp only[Ad]);omega)only[Ag,HJ,F5,Jf,strs_unf,l1,l2,l3,n1,n2,n3,Tryz.f53,↓Ac,Ae,↓reduceIte,↓reduceDIte,↓Qe,Qu,Qv,Qw,Qx,Qy,Qz,QA,QB,QC,QD,QE,QF,QG,QH,QI,QK];refine Ab.by (pick_spec t k 6 ht (by decide) (by decide)) (by rfl) (by rfl) (AbP _) ?_;rw[ha];simp(disch:=(try simp only[Ad]);omega)only[Ag,HJ,F5,Jf,strs_unf,l1,l2,l3,n1,n2,n3,g1,↓Ac,Ae,↓reduceIte,↓reduceDIte,↓Qe,Qu,Qv,Qw,Qx,Qy,Qz,QA,QB,QC,QD,QE,QF,QG,QH,QI,QK];refine Ab.by (pick_spec t (k+1) 5 ht (by decide) (by decide)) (by rfl) (by rfl) (AbP _) ?_;rw[hb];simp(disch:=(try simp only[Ad]);omega)only[Ag,HJ,F5,Jf,strs_unf,l1,l2,l3,n1,n2,n3,g2,↓Ac,Ae,↓reduceIte,↓reduceDIte,↓Qe,Qu,Qv,Qw,Qx,Qy,Qz,QA,QB,QC,QD,QE,QF,QG,QH,QI,QK];refine Ab.by (pick_spec t (k+1+1) 5 ht (by decide) (by decide)) (by rfl) (by rfl) (AbP _) ?_;rw[hc];simp(disch:=(try simp only[Ad]);omega)only[Ag,HJ,F5,Jf,strs_unf,l1,l2,l3,n1,n2,n3,g3,↓Ac,Ae,↓reduceIte,↓reduceDIte,↓Qe,Qu,Qv,Qw,Qx,Qy,Qz,QA,QB,QC,QD,QE,QF,QG,QH,QI,QK];refine Ab.by (pick_spec t (k+1+1+1) 3 ht (by decide) (by decide)) (by rfl) (by rfl) (AbP _) ?_;rw[he];rcases (by omega:e=0\/e=1\/e=2) with rfl | rfl | rfl
 all_goals
  simp(disch:=(try simp only[Ad]);omega)only[Ag,↓Ac,Ae,↓reduceIte,↓reduceDIte,↓Qe,Qu,Qv,Qw,Qx,Qy,Qz,QA,QB,QC,QD,QE,QF,QG,QH,QI,QK];rw[hr];exact ⟨[some 0],rfl,by simp,by simp[HW,BW,SW,AW],.inl (by simp[AW,SW])⟩
def Hm:List (List UInt8):=[[121,101,115],[110,111],[84,82,85,69],[70,97,108,115,101],[32,121,101,115,32]]
def N3:[D.str (bs [121,101,115]),D.str (bs [110,111]),D.str (bs [84,82,85,69]),D.str (bs [70,97,108,115,101]),D.str (bs [32,121,101,115,32])]=strs Hm:=rfl
def Fm:List (List UInt8):=[[32,107,103],[103],[32,107,109],[109],[32,109,105,110],[37],[32,109,109]]
def JZ:[D.str (bs [32,107,103]),D.str (bs [103]),D.str (bs [32,107,109]),D.str (bs [109]),D.str (bs [32,109,105,110]),D.str (bs [37]),D.str (bs [32,109,109])]=strs Fm:=rfl
def G3:List (List UInt8):=[[],[32],[78,65],[45],[110,111,110,101],[63],[110,117,108,108]]
def N1:[D.str (bs []),D.str (bs [32]),D.str (bs [78,65]),D.str (bs [45]),D.str (bs [110,111,110,101]),D.str (bs [63]),D.str (bs [110,117,108,108])]=strs G3:=rfl
def KI:List (List UInt8):=[[97,44,98],[34,113,34],[39],[120,59,121],[108,10,105],[99,13,114],[32,112,97,100,32],[9],[124],[],[195,169],[123],[97,34,98],[13,10]]
def RW:[D.str (bs [97,44,98]),D.str (bs [34,113,34]),D.str (bs [39]),D.str (bs [120,59,121]),D.str (bs [108,10,105]),D.str (bs [99,13,114]),D.str (bs [32,112,97,100,32]),D.str (bs [9]),D.str (bs [124]),D.str (bs []),D.str (bs [195,169]),D.str (bs [123]),D.str (bs [97,34,98]),D.str (bs [13,10])]=strs KI:=rfl
def ET (t:List Int) (k c:Nat):List UInt8 :=
 if c=0 then wordsL.getD (pk t k 16).toNat [] else if c=1 then Iw t k else if c=2 then KQ t k else if c=3 then Hm.getD (pk t k 5).toNat [] else
  if c=4 then Iw t k++Fm.getD (pk t (NA t k) 7).toNat [] else if c=5 then G3.getD (pk t k 7).toNat [] else KI.getD (pk t k 14).toNat []
def fieldK (t:List Int) (k c:Nat):Nat:=if c=1 then NA t k else if c=2 then k+4 else if c=4 then NA t k+1 else k+1
def KO (t:List Int) (k c:Nat) (ht:OkM t) (hc:c<=100):Ctr TP G 27 [.ptr 0 0,.d (.int .i64 c)] [DiceM t k] (.d (S (ET t k c))) [DiceM t (fieldK t k c)]:=by
 obtain ⟨r,hr⟩:∃ r,r=ET t k c:=⟨_,rfl⟩;obtain ⟨k2,hk⟩:∃ k2,k2=fieldK t k c:=⟨_,rfl⟩;rw[<-hr,<-hk];unfold ET at hr;unfold fieldK at hk;refine Ctr.body (M:=M0) Al Tryz.func27 rfl go27 ?_;rcases (by omega:c=0\/c=1\/c=2\/c=3\/c=4\/c=5\/5<c) with rfl | rfl | rfl | rfl | rfl | rfl | h
 ·simp only[if_true,if_false,show ¬(0=1) by decide,show ¬(0=2) by decide,show ¬(0=4) by decide] at hr hk;subst hk;obtain ⟨a,ha,ha2⟩:=pk_nat t k 16 (by decide);rw[ha] at hr;simp only[AbR] at hr;have l1:=@strs_length wordsL;have n1:wordsL.length=16:=rfl;have g1:=strs_getD (l:=wordsL) (i:=a) (by omega);generalize wordsL.getD a []=y at *;simp(disch:=(try simp only[Ad]);omega)only[Ag,strs_unf,l1,n1,Tryz.f27,↓Ac,Ae,↓reduceIte,↓reduceDIte,↓Qe,Qu,Qv,Qw,Qx,Qy,Qz,QA,QB,QC,QD,QE,QF,QG,QH,QI,QK];refine Ab.of words_spec (by rfl) ?_;simp(disch:=(try simp only[Ad]);omega)only[Ag,strs_unf,l1,n1,↓Ac,Ae,↓reduceIte,↓reduceDIte,↓Qe,Qu,Qv,Qw,Qx,Qy,Qz,QA,QB,QC,QD,QE,QF,QG,QH,QI,QK];refine Ab.of words_spec (by rfl) ?_;simp(disch:=(try simp only[Ad]);omega)only[Ag,strs_unf,l1,n1,↓Ac,Ae,↓reduceIte,↓reduceDIte,↓Qe,Qu,Qv,Qw,Qx,Qy,Qz,QA,QB,QC,QD,QE,QF,QG,QH,QI,QK];refine Ab.by (pick_spec t k 16 ht (by decide) (by decide)) (by rfl) (by rfl) (AbP _) ?_;rw[ha];simp(disch:=(try simp only[Ad]);omega)only[Ag,strs_unf,l1,n1,g1,↓Ac,Ae,↓reduceIte,↓reduceDIte,↓Qe,Qu,Qv,Qw,Qx,Qy,Qz,QA,QB,QC,QD,QE,QF,QG,QH,QI,QK];rw[hr];exact ⟨[some 0],rfl,by simp,by simp[HW,BW,SW,AW],.inl (by simp[AW,SW])⟩
 ·simp only[if_true,if_false,show ¬(1=0) by decide] at hr hk;subst hk hr;simp(disch:=(try simp only[Ad]);omega)only[Ag,Tryz.f27,↓Ac,Ae,↓reduceIte,↓reduceDIte,↓Qe,Qu,Qv,Qw,Qx,Qy,Qz,QA,QB,QC,QD,QE,QF,QG,QH,QI,QK];refine Ab.by (GY t k ht) (by rfl) (by rfl) (AbP _) ?_;simp(disch:=(try simp only[Ad]);omega)only[Ag,↓Ac,Ae,↓reduceIte,↓reduceDIte,↓Qe,Qu,Qv,Qw,Qx,Qy,Qz,QA,QB,QC,QD,QE,QF,QG,QH,QI,QK];exact ⟨[some 0],rfl,by simp,by simp[HW,BW,SW,AW],.inl (by simp[AW,SW])⟩
 ·simp only[if_true,if_false,show ¬(2=0) by decide,show ¬(2=1) by decide] at hr hk;subst hk hr;simp(disch:=(try simp only[Ad]);omega)only[Ag,Tryz.f27,↓Ac,Ae,↓reduceIte,↓reduceDIte,↓Qe,Qu,Qv,Qw,Qx,Qy,Qz,QA,QB,QC,QD,QE,QF,QG,QH,QI,QK];refine Ab.by (Wv t k ht) (by rfl) (by rfl) (AbP _) ?_;simp(disch:=(try simp only[Ad]);omega)only[Ag,↓Ac,Ae,↓reduceIte,↓reduceDIte,↓Qe,Qu,Qv,Qw,Qx,Qy,Qz,QA,QB,QC,QD,QE,QF,QG,QH,QI,QK];exact ⟨[some 0],rfl,by simp,by simp[HW,BW,SW,AW],.inl (by simp[AW,SW])⟩
 ·simp only[if_true,if_false,show ¬(3=0) by decide,show ¬(3=1) by decide,show ¬(3=2) by decide,show ¬(3=4) by decide] at hr hk;subst hk;obtain ⟨a,ha,ha2⟩:=pk_nat t k 5 (by decide);rw[ha] at hr;simp only[AbR] at hr;have l1:=@strs_length Hm;have n1:Hm.length=5:=rfl;have g1:=strs_getD (l:=Hm) (i:=a) (by omega);generalize Hm.getD a []=y at *;simp(disch:=(try simp only[Ad]);omega)only[Ag,N3,strs_unf,l1,n1,Tryz.f27,↓Ac,Ae,↓reduceIte,↓reduceDIte,↓Qe,Qu,Qv,Qw,Qx,Qy,Qz,QA,QB,QC,QD,QE,QF,QG,QH,QI,QK];refine Ab.by (pick_spec t k 5 ht (by decide) (by decide)) (by rfl) (by rfl) (AbP _) ?_;rw[ha];simp(disch:=(try simp only[Ad]);omega)only[Ag,N3,strs_unf,l1,n1,g1,↓Ac,Ae,↓reduceIte,↓reduceDIte,↓Qe,Qu,Qv,Qw,Qx,Qy,Qz,QA,QB,QC,QD,QE,QF,QG,QH,QI,QK];rw[hr];exact ⟨[some 0],rfl,by simp,by simp[HW,BW,SW,AW],.inl (by simp[AW,SW])⟩
 ·simp only[if_true,if_false,show ¬(4=0) by decide,show ¬(4=1) by decide,show ¬(4=2) by decide,show ¬(4=3) by decide] at hr hk;have nl:=(GZ t k).2;obtain ⟨a,ha,ha2⟩:=pk_nat t (NA t k) 7 (by decide);rw[ha] at hr;simp only[AbR] at hr;have l1:=@strs_length Fm;have n1:Fm.length=7:=rfl;have g1:=strs_getD (l:=Fm) (i:=a) (by omega);have s1:=B6 (l:=Fm) (m:=4) (by decide) a;generalize Fm.getD a []=y at *;simp(disch:=(try simp only[Ad]);omega)only[Ag,JZ,strs_unf,l1,n1,Tryz.f27,↓Ac,Ae,↓reduceIte,↓reduceDIte,↓Qe,Qu,Qv,Qw,Qx,Qy,Qz,QA,QB,QC,QD,QE,QF,QG,QH,QI,QK];refine Ab.by (GY t k ht) (by rfl) (by rfl) (AbP _) ?_;generalize NA t k=kk at *;generalize Iw t k=nn at *;subst hk;simp(disch:=(try simp only[Ad]);omega)only[Ag,JZ,strs_unf,l1,n1,↓Ac,Ae,↓reduceIte,↓reduceDIte,↓Qe,Qu,Qv,Qw,Qx,Qy,Qz,QA,QB,QC,QD,QE,QF,QG,QH,QI,QK];refine Ab.by (pick_spec t kk 7 ht (by decide) (by decide)) (by rfl) (by rfl) (AbP _) ?_;rw[ha];simp(disch:=(try simp only[Ad]);omega)only[Ag,JZ,strs_unf,l1,n1,g1,↓Ac,Ae,↓reduceIte,↓reduceDIte,↓Qe,Qu,Qv,Qw,Qx,Qy,Qz,QA,QB,QC,QD,QE,QF,QG,QH,QI,QK];rw[hr];first | exact ⟨[some 0],rfl,by simp,by simp[HW,BW,SW,AW],.inl (by simp[AW,SW])⟩ | (refine ⟨by rfl,?_⟩;exact ⟨[some 0],rfl,by simp,by simp[HW,BW,SW,AW],.inl (by simp[AW,SW])⟩)
 ·simp only[if_true,if_false,show ¬(5=0) by decide,show ¬(5=1) by decide,show ¬(5=2) by decide,show ¬(5=3) by decide,show ¬(5=4) by decide] at hr hk;subst hk;obtain ⟨a,ha,ha2⟩:=pk_nat t k 7 (by decide);rw[ha] at hr;simp only[AbR] at hr;have l1:=@strs_length G3;have n1:G3.length=7:=rfl;have g1:=strs_getD (l:=G3) (i:=a) (by omega);generalize G3.getD a []=y at *;simp(disch:=(try simp only[Ad]);omega)only[Ag,N1,strs_unf,l1,n1,Tryz.f27,↓Ac,Ae,↓reduceIte,↓reduceDIte,↓Qe,Qu,Qv,Qw,Qx,Qy,Qz,QA,QB,QC,QD,QE,QF,QG,QH,QI,QK];refine Ab.by (pick_spec t k 7 ht (by decide) (by decide)) (by rfl) (by rfl) (AbP _) ?_;rw[ha];simp(disch:=(try simp only[Ad]);omega)only[Ag,N1,strs_unf,l1,n1,g1,↓Ac,Ae,↓reduceIte,↓reduceDIte,↓Qe,Qu,Qv,Qw,Qx,Qy,Qz,QA,QB,QC,QD,QE,QF,QG,QH,QI,QK];rw[hr];exact ⟨[some 0],rfl,by simp,by simp[HW,BW,SW,AW],.inl (by simp[AW,SW])⟩
 simp only[if_false,show ¬c=0 by omega,show ¬c=1 by omega,show ¬c=2 by omega,show ¬c=3 by omega,show ¬c=4 by omega,show ¬c=5 by omega] at hr hk;subst hk;obtain ⟨a,ha,ha2⟩:=pk_nat t k 14 (by decide);rw[ha] at hr;simp only[AbR] at hr;have l1:=@strs_length KI;have n1:KI.length=14:=rfl;have g1:=strs_getD (l:=KI) (i:=a) (by omega);generalize KI.getD a []=y at *;simp(disch:=(try simp only[Ad]);omega)only[Ag,RW,strs_unf,l1,n1,Tryz.f27,↓Ac,Ae,↓reduceIte,↓reduceDIte,↓Qe,Qu,Qv,Qw,Qx,Qy,Qz,QA,QB,QC,QD,QE,QF,QG,QH,QI,QK];refine Ab.by (pick_spec t k 14 ht (by decide) (by decide)) (by rfl) (by rfl) (AbP _) ?_;rw[ha];simp(disch:=(try simp only[Ad]);omega)only[Ag,RW,strs_unf,l1,n1,g1,↓Ac,Ae,↓reduceIte,↓reduceDIte,↓Qe,Qu,Qv,Qw,Qx,Qy,Qz,QA,QB,QC,QD,QE,QF,QG,QH,QI,QK];rw[hr];exact ⟨[some 0],rfl,by simp,by simp[HW,BW,SW,AW],.inl (by simp[AW,SW])⟩
end
section
open Go Go.Proofs Go.Abs Go.RowKit Go.Shelf
variable {G:Ah}
end
section
open Go Go.Proofs Go.Abs
variable {G:Ah}
def MY:B0:=fun k=>k == 3000000
def MY_n {k:Nat} (h:k<3000000):MY k=false:=by simp only[MY,beq_eq_false_iff_ne];exact Nat.ne_of_lt h
def Tdo_cons {x:D} {r:List D} {t:List (D × Bool)} (h:Tdo (x::r) t):(∃ t',t=(x,true)::t'/\Tdo r t')\/t=[(x,false)]:=by
 match t,h with
 | (z,true)::t,h=>exact .inl ⟨t,by rw[h.1],h.2⟩
 | (z,false)::t,h=>exact .inr (by rw[h.1,h.2])
def Tdo_nil {t:List (D × Bool)} (h:Tdo [] t):t=[]:=by
 match t,h with
 | [],_=>rfl
def strs_get {l:List (List UInt8)} {i:Nat} {x:D} (h:(strs l)[i]?=some x):∃ y,l[i]?=some y/\x=S y:=by
 simp only[strs,AdC] at h;cases e:l[i]? with
 | none=>simp[e] at h
 | some y=>simp[e] at h;exact ⟨y,rfl,h.symm⟩
def take_snoc {s:List UInt8} {a i:Nat} (h1:a<=i) (h2:i<s.length):(s.take (i+1)).drop a=(s.take i).drop a++[s.getD i 0]:=by rw[AdL,List.drop_append_of_le_length (by simp;omega),AbO h2,AbH,AbO h2];rfl
def MSt:B0:=fun k=>k == 208
def MSt_n {k:Nat} (h:2000000<=k):MSt k=false:=by simp only[MSt,beq_eq_false_iff_ne];exact Nat.ne_of_gt (Ad2 (by decide) h)
def trimR_snoc (c:UInt8) (q:List UInt8):Lib.trimRightB (q++[c]) c=Lib.trimRightB q c:=by simp[Lib.trimRightB,List.dropWhile]
end
section
open Go Go.Proofs Go.Abs
end
section
open Go Go.Proofs Go.Abs
variable {G:Ah}
def mem_take_succ {l:List (List UInt8)} {i:Nat} {s:List UInt8} (h:i<l.length):s∈l.take (i+1)↔s∈l.take i\/l.getD i []=s:=by rw[AdL,AbO h,AbH,AbO h];simp only[Option.toList_some,Aeu,List.mem_singleton,AdF];exact or_congr_right eq_comm
def has_spec (l:List (List UInt8)) (full:Bool) (s:List UInt8) (hl:l.length<=1000000):Ctr TP G 37 [.d (Ss l full),.d (S s)] [] (.d (.bool (decide (s∈l)))) []:=by
 refine Ctr.pure (M:=M0) Al Tryz.func37 rfl go37 ?_;simp(disch:=(try simp only[Ad]);omega)only[Ag,Tryz.f37,↓Ac,Ae,↓reduceIte,↓reduceDIte,↓Qe,Qu,Qv,Qw,Qx,Qy,Qz,QA,QB,QC,QD,QE,QF,QG,QH,QI,QK];refine As.fr 386 (α:=Nat) (fun i=>l.length-i) (fun i=>[(9,.d (.int .i64 i))]) (fun _=>[]) (fun i=>i<=l.length/\s∉l.take i) 0 ⟨AdD _,by simp⟩ ?_ ?_;·exact ⟨[],rfl,by simp,by simp[sA,kZ,SW,AW],by simp[HW,BW,SW,AW]⟩
 rintro i ⟨h1,h2⟩;have sl:=@strs_length l;simp only[Cr,AbV,AbY,reduceIte];rcases Adc i l.length with h | h
 ·have g1:=strs_getD h;have hm:=@mem_take_succ l i s h;by_cases he:l.getD i []=s
  ·have hin:s∈l:=Aeb (hm.2 (.inr he));rw[decide_eq_true hin];rw[he] at g1;simp(disch:=(try simp only[Ad]);omega)only[Ag,sl,g1,beq_self_eq_true,↓Ac,Ae,↓reduceIte,↓reduceDIte,↓Qe,Qu,Qv,Qw,Qx,Qy,Qz,QA,QB,QC,QD,QE,QF,QG,QH,QI,QK];try rfl
  have hne:(l.getD i [] == s)=false:=by simpa using he
  simp(disch:=(try simp only[Ad]);omega)only[Ag,sl,g1,hne,↓Ac,Ae,↓reduceIte,↓reduceDIte,↓Qe,Qu,Qv,Qw,Qx,Qy,Qz,QA,QB,QC,QD,QE,QF,QG,QH,QI,QK];exact ⟨i+1,⟨h,fun q=>(hm.1 q).elim h2 he⟩,by simp only;omega,⟨[],rfl,by simp,by simp[sA,kZ,SW,AW],by simp[HW,BW,SW,AW]⟩⟩
 obtain rfl:i=l.length:=by omega
 rw[List.take_length] at h2;rw[decide_eq_false h2];simp(disch:=(try simp only[Ad]);omega)only[Ag,sl,↓Ac,Ae,↓reduceIte,↓reduceDIte,↓Qe,Qu,Qv,Qw,Qx,Qy,Qz,QA,QB,QC,QD,QE,QF,QG,QH,QI,QK];try rfl
end
section
open Go Go.Proofs Go.Abs Go.RowKit Go.Shelf
variable {G:Ah}
end
section
open Go Go.Proofs Go.Abs
variable {G:Ah}
def HI (G:Ah):Prop:=∀ n:Nat,n<=1048576->Ctr TP G 51 [.d (.int .i64 n)] [] (.d (S (Lib.decDigits n))) []
end
section
open Go Go.Proofs Go.Abs Go.RowKit Go.Shelf
variable {G:Ah}
end
section
open Go Go.Proofs Go.Abs
variable {G:Ah}
def prD (k:Nat):List UInt8:=[UInt8.ofNat (48+k / 10),UInt8.ofNat (48+k % 10)]
def dd2 {n:Nat} (h:100<=n):Lib.decDigits n=Lib.decDigits (n / 100)++prD (n % 100):=by rw[Lib.decDigits,dif_neg (by omega),Lib.decDigits,dif_neg (by omega),AdN,Ad5,prD];rw[show n / 10 % 10=n % 100 / 10 by omega,show n % 100 % 10=n % 10 by omega];rfl
def YN {n:Nat} (h:n<10):Lib.decDigits n=[UInt8.ofNat (48+n)]:=Lib.decDigits_one h
def YM {n:Nat} (h1:10<=n) (h:n<100):Lib.decDigits n=prD n:=Lib.decDigits_two (by omega) h
def dd3 {n:Nat} (h1:100<=n) (h:n<1000):Lib.decDigits n=[UInt8.ofNat (48+n / 100)]++prD (n % 100):=by rw[dd2 h1,YN (by omega)]
def dd4 {n:Nat} (h1:1000<=n) (h:n<10000):Lib.decDigits n=prD (n / 100)++prD (n % 100):=by rw[dd2 (by omega),YM (by omega) (by omega)]
def dd5 {n:Nat} (h1:10000<=n) (h:n<100000):Lib.decDigits n=[UInt8.ofNat (48+n / 10000)]++prD (n % 10000 / 100)++prD (n % 10000 % 100):=by rw[dd2 (by omega),dd3 (by omega) (by omega),AdN,show n / 100 % 100=n % 10000 / 100 by omega,show n % 10000 % 100=n % 100 by omega]
def dd6 {n:Nat} (h1:100000<=n) (h:n<1000000):Lib.decDigits n=prD (n / 10000)++prD (n % 10000 / 100)++prD (n % 10000 % 100):=by rw[dd2 (by omega),dd4 (by omega) (by omega),AdN,show n / 100 % 100=n % 10000 / 100 by omega,show n % 10000 % 100=n % 100 by omega]
def dd7 {n:Nat} (h1:1000000<=n) (h:n<10000000):Lib.decDigits n=[UInt8.ofNat (48+n / 10000 / 100)]++prD (n / 10000 % 100)++prD (n % 10000 / 100)++prD (n % 10000 % 100):=by rw[dd2 (by omega),dd5 (by omega) (by omega),show n % 10000 % 100=n % 100 by omega,show n / 100 / 10000=n / 10000 / 100 by omega,show n / 100 % 10000 / 100=n / 10000 % 100 by omega,show n / 100 % 10000 % 100=n % 10000 / 100 by omega]
def AaF {k:Nat} (h:k<100):(D4.getD (k*2) 0).toNat=48+k / 10/\(D4.getD (k*2+1) 0).toNat=48+k % 10:=by
 have:∀ k:Fin 100,(D4.getD (k.val*2) 0).toNat=48+k.val / 10/\(D4.getD (k.val*2+1) 0).toNat=48+k.val % 10:=by decide +kernel
 exact this ⟨k,h⟩
def RG (a:Nat):(a:Int).tdiv 100=((a / 100:Nat):Int):=(Aey a 100).symm
def RF (a:Nat):(a:Int).tmod 100=((a % 100:Nat):Int):=(Aez a 100).symm
def I6 (a:Nat):(a:Int).tdiv 10000=((a / 10000:Nat):Int):=(Aey a 10000).symm
def I5 (a:Nat):(a:Int).tmod 10000=((a % 10000:Nat):Int):=(Aez a 10000).symm
def tn2 (k:Nat):((k:Int)*2).toNat=k*2:=by omega
def tn3 (k:Nat):((k:Int)*2+1).toNat=k*2+1:=by omega
def smA {k:Nat} (h:k<100):(D4.getD (k*2) 0).toNat=48+k / 10:=(AaF h).1
def smB {k:Nat} (h:k<100):(D4.getD (k*2+1) 0).toNat=48+k % 10:=(AaF h).2
def Yz (n:Nat) (h1:100<=n) (h:n<1000):Ctr TP G 162 [.lsl 0 1 1 3,.d (.int .u64 n)] [.row false (Au .u8 (AbM 24 0))] .undef
  [.row false (Au .u8 ([0,((48+n / 100:Nat):Int),((48+n % 100 / 10:Nat):Int),((48+n % 100 % 10:Nat):Int)]++AbM 20 0))]:=by
 refine Ctr.body (M:=M0) Al Tryz.func162 rfl Sm ?_;simp(disch:=(try simp only[Ad]);omega)only[Ag,Tryz.f162,↓Ac,Ae,↓reduceIte,↓reduceDIte,↓Qe,Qu,Qv,Qw,Qx,Qy,Qz,QA,QB,QC,QD,QE,QF,QG,QH,QI,QK];refine As.fx 1 (α:=Unit) (β:=Unit) (fun _=>0) (fun _=>[(1,.d (.int .u64 n)),(4,.d (.int .i64 3))]) (fun _=>[.row false (Au .u8 (AbM 24 0))]) (fun _=>True) 1 (fun _=>[(1,.d (.int .u64 n)),(4,.d (.int .i64 3))]) (fun _=>[.row false (Au .u8 (AbM 24 0))]) (fun _=>True) () trivial ?_ ?_ ?_;·exact ⟨[some 0],rfl,by simp,by simp[sA,kZ,SW,AW],by simp[HW,BW,SW,AW]⟩
 ·rintro ⟨⟩ -;simp only[Cr,AbV,AbY,reduceIte];simp(disch:=(try simp only[Ad]);omega)only[Ag,↓Ac,Ae,↓reduceIte,↓reduceDIte,↓Qe,Qu,Qv,Qw,Qx,Qy,Qz,QA,QB,QC,QD,QE,QF,QG,QH,QI,QK];exact ⟨(),trivial,⟨[some 0],rfl,by simp,by simp[sA,kZ,SW,AW],by simp[HW,BW,SW,AW]⟩⟩
 rintro ⟨⟩ -;simp only[Cr,AbV,AbY,reduceIte];simp(disch:=(try simp only[Ad]);omega)only[Ag,EG,Dt,RG,RF,I6,I5,tn2,tn3,smA,smB,↓Ac,Ae,↓reduceIte,↓reduceDIte,↓Qe,Qu,Qv,Qw,Qx,Qy,Qz,QA,QB,QC,QD,QE,QF,QG,QH,QI,QK];first | (exact ⟨[some 0],rfl,by simp,by simp[HW,BW,SW,AW],.inl (by simp[AW,SW])⟩) | (refine ⟨by rfl,?_⟩;exact ⟨[some 0],rfl,by simp,by simp[HW,BW,SW,AW],.inl (by simp[AW,SW])⟩) | (refine ⟨by rfl,by rfl,?_⟩;exact ⟨[some 0],rfl,by simp,by simp[HW,BW,SW,AW],.inl (by simp[AW,SW])⟩) | (refine ⟨by rfl,by rfl,by rfl,?_⟩;exact ⟨[some 0],rfl,by simp,by simp[HW,BW,SW,AW],.inl (by simp[AW,SW])⟩)
def Yy (n:Nat) (h1:1000<=n) (h:n<10000):Ctr TP G 162 [.lsl 0 1 1 4,.d (.int .u64 n)] [.row false (Au .u8 (AbM 24 0))] .undef
  [.row false (Au .u8 ([0,((48+n % 10000 / 100 / 10:Nat):Int),((48+n % 10000 / 100 % 10:Nat):Int),((48+n % 10000 % 100 / 10:Nat):Int),((48+n % 10000 % 100 % 10:Nat):Int)]++AbM 19 0))]:=by
 refine Ctr.body (M:=M0) Al Tryz.func162 rfl Sm ?_;simp(disch:=(try simp only[Ad]);omega)only[Ag,Tryz.f162,↓Ac,Ae,↓reduceIte,↓reduceDIte,↓Qe,Qu,Qv,Qw,Qx,Qy,Qz,QA,QB,QC,QD,QE,QF,QG,QH,QI,QK];refine As.fx 1 (α:=Unit) (β:=Unit) (fun _=>0) (fun _=>[(1,.d (.int .u64 n)),(4,.d (.int .i64 4))]) (fun _=>[.row false (Au .u8 (AbM 24 0))]) (fun _=>True) 1 (fun _=>[(1,.d (.int .u64 n)),(4,.d (.int .i64 4))]) (fun _=>[.row false (Au .u8 (AbM 24 0))]) (fun _=>True) () trivial ?_ ?_ ?_;·exact ⟨[some 0],rfl,by simp,by simp[sA,kZ,SW,AW],by simp[HW,BW,SW,AW]⟩
 ·rintro ⟨⟩ -;simp only[Cr,AbV,AbY,reduceIte];simp(disch:=(try simp only[Ad]);omega)only[Ag,↓Ac,Ae,↓reduceIte,↓reduceDIte,↓Qe,Qu,Qv,Qw,Qx,Qy,Qz,QA,QB,QC,QD,QE,QF,QG,QH,QI,QK];exact ⟨(),trivial,⟨[some 0],rfl,by simp,by simp[sA,kZ,SW,AW],by simp[HW,BW,SW,AW]⟩⟩
 rintro ⟨⟩ -;simp only[Cr,AbV,AbY,reduceIte];simp(disch:=(try simp only[Ad]);omega)only[Ag,EG,Dt,RG,RF,I6,I5,tn2,tn3,smA,smB,↓Ac,Ae,↓reduceIte,↓reduceDIte,↓Qe,Qu,Qv,Qw,Qx,Qy,Qz,QA,QB,QC,QD,QE,QF,QG,QH,QI,QK];first | (exact ⟨[some 0],rfl,by simp,by simp[HW,BW,SW,AW],.inl (by simp[AW,SW])⟩) | (refine ⟨by rfl,?_⟩;exact ⟨[some 0],rfl,by simp,by simp[HW,BW,SW,AW],.inl (by simp[AW,SW])⟩) | (refine ⟨by rfl,by rfl,?_⟩;exact ⟨[some 0],rfl,by simp,by simp[HW,BW,SW,AW],.inl (by simp[AW,SW])⟩) | (refine ⟨by rfl,by rfl,by rfl,?_⟩;exact ⟨[some 0],rfl,by simp,by simp[HW,BW,SW,AW],.inl (by simp[AW,SW])⟩)
def Yx (n:Nat) (h1:10000<=n) (h:n<100000):Ctr TP G 162 [.lsl 0 1 1 5,.d (.int .u64 n)] [.row false (Au .u8 (AbM 24 0))] .undef
  [.row false (Au .u8 ([0,((48+n / 10000:Nat):Int),((48+n % 10000 / 100 / 10:Nat):Int),((48+n % 10000 / 100 % 10:Nat):Int),((48+n % 10000 % 100 / 10:Nat):Int),((48+n % 10000 % 100 % 10:Nat):Int)]++AbM 18 0))]:=by
 refine Ctr.body (M:=M0) Al Tryz.func162 rfl Sm ?_;simp(disch:=(try simp only[Ad]);omega)only[Ag,Tryz.f162,↓Ac,Ae,↓reduceIte,↓reduceDIte,↓Qe,Qu,Qv,Qw,Qx,Qy,Qz,QA,QB,QC,QD,QE,QF,QG,QH,QI,QK];refine As.fx 1 (α:=Unit) (β:=Unit) (fun _=>0) (fun _=>[(1,.d (.int .u64 n)),(4,.d (.int .i64 5))]) (fun _=>[.row false (Au .u8 (AbM 24 0))]) (fun _=>True) 1 (fun _=>[(1,.d (.int .u64 n)),(4,.d (.int .i64 5))]) (fun _=>[.row false (Au .u8 (AbM 24 0))]) (fun _=>True) () trivial ?_ ?_ ?_;·exact ⟨[some 0],rfl,by simp,by simp[sA,kZ,SW,AW],by simp[HW,BW,SW,AW]⟩
 ·rintro ⟨⟩ -;simp only[Cr,AbV,AbY,reduceIte];simp(disch:=(try simp only[Ad]);omega)only[Ag,↓Ac,Ae,↓reduceIte,↓reduceDIte,↓Qe,Qu,Qv,Qw,Qx,Qy,Qz,QA,QB,QC,QD,QE,QF,QG,QH,QI,QK];exact ⟨(),trivial,⟨[some 0],rfl,by simp,by simp[sA,kZ,SW,AW],by simp[HW,BW,SW,AW]⟩⟩
 rintro ⟨⟩ -;simp only[Cr,AbV,AbY,reduceIte];simp(disch:=(try simp only[Ad]);omega)only[Ag,EG,Dt,RG,RF,I6,I5,tn2,tn3,smA,smB,↓Ac,Ae,↓reduceIte,↓reduceDIte,↓Qe,Qu,Qv,Qw,Qx,Qy,Qz,QA,QB,QC,QD,QE,QF,QG,QH,QI,QK];first | (exact ⟨[some 0],rfl,by simp,by simp[HW,BW,SW,AW],.inl (by simp[AW,SW])⟩) | (refine ⟨by rfl,?_⟩;exact ⟨[some 0],rfl,by simp,by simp[HW,BW,SW,AW],.inl (by simp[AW,SW])⟩) | (refine ⟨by rfl,by rfl,?_⟩;exact ⟨[some 0],rfl,by simp,by simp[HW,BW,SW,AW],.inl (by simp[AW,SW])⟩) | (refine ⟨by rfl,by rfl,by rfl,?_⟩;exact ⟨[some 0],rfl,by simp,by simp[HW,BW,SW,AW],.inl (by simp[AW,SW])⟩)
def Yw (n:Nat) (h1:100000<=n) (h:n<1000000):Ctr TP G 162 [.lsl 0 1 1 6,.d (.int .u64 n)] [.row false (Au .u8 (AbM 24 0))] .undef
  [.row false (Au .u8 ([0,((48+n / 10000 % 100 / 10:Nat):Int),((48+n / 10000 % 100 % 10:Nat):Int),((48+n % 10000 / 100 / 10:Nat):Int),((48+n % 10000 / 100 % 10:Nat):Int),((48+n % 10000 % 100 / 10:Nat):Int),((48+n % 10000 % 100 % 10:Nat):Int)]++AbM 17 0))]:=by
 refine Ctr.body (M:=M0) Al Tryz.func162 rfl Sm ?_;simp(disch:=(try simp only[Ad]);omega)only[Ag,Tryz.f162,↓Ac,Ae,↓reduceIte,↓reduceDIte,↓Qe,Qu,Qv,Qw,Qx,Qy,Qz,QA,QB,QC,QD,QE,QF,QG,QH,QI,QK];refine As.fx 1 (α:=Unit) (β:=Unit) (fun _=>0) (fun _=>[(1,.d (.int .u64 n)),(4,.d (.int .i64 6))]) (fun _=>[.row false (Au .u8 (AbM 24 0))]) (fun _=>True) 1 (fun _=>[(1,.d (.int .u64 n)),(4,.d (.int .i64 6))]) (fun _=>[.row false (Au .u8 (AbM 24 0))]) (fun _=>True) () trivial ?_ ?_ ?_;·exact ⟨[some 0],rfl,by simp,by simp[sA,kZ,SW,AW],by simp[HW,BW,SW,AW]⟩
 ·rintro ⟨⟩ -;simp only[Cr,AbV,AbY,reduceIte];simp(disch:=(try simp only[Ad]);omega)only[Ag,↓Ac,Ae,↓reduceIte,↓reduceDIte,↓Qe,Qu,Qv,Qw,Qx,Qy,Qz,QA,QB,QC,QD,QE,QF,QG,QH,QI,QK];exact ⟨(),trivial,⟨[some 0],rfl,by simp,by simp[sA,kZ,SW,AW],by simp[HW,BW,SW,AW]⟩⟩
 rintro ⟨⟩ -;simp only[Cr,AbV,AbY,reduceIte];simp(disch:=(try simp only[Ad]);omega)only[Ag,EG,Dt,RG,RF,I6,I5,tn2,tn3,smA,smB,↓Ac,Ae,↓reduceIte,↓reduceDIte,↓Qe,Qu,Qv,Qw,Qx,Qy,Qz,QA,QB,QC,QD,QE,QF,QG,QH,QI,QK];first | (exact ⟨[some 0],rfl,by simp,by simp[HW,BW,SW,AW],.inl (by simp[AW,SW])⟩) | (refine ⟨by rfl,?_⟩;exact ⟨[some 0],rfl,by simp,by simp[HW,BW,SW,AW],.inl (by simp[AW,SW])⟩) | (refine ⟨by rfl,by rfl,?_⟩;exact ⟨[some 0],rfl,by simp,by simp[HW,BW,SW,AW],.inl (by simp[AW,SW])⟩) | (refine ⟨by rfl,by rfl,by rfl,?_⟩;exact ⟨[some 0],rfl,by simp,by simp[HW,BW,SW,AW],.inl (by simp[AW,SW])⟩)
def Yv (n:Nat) (h1:1000000<=n) (h:n<10000000):Ctr TP G 162 [.lsl 0 1 1 7,.d (.int .u64 n)] [.row false (Au .u8 (AbM 24 0))] .undef
  [.row false (Au .u8 ([0,((48+n / 10000 / 100:Nat):Int),((48+n / 10000 % 100 / 10:Nat):Int),((48+n / 10000 % 100 % 10:Nat):Int),((48+n % 10000 / 100 / 10:Nat):Int),((48+n % 10000 / 100 % 10:Nat):Int),((48+n % 10000 % 100 / 10:Nat):Int),((48+n % 10000 % 100 % 10:Nat):Int)]++AbM 16 0))]:=by
 refine Ctr.body (M:=M0) Al Tryz.func162 rfl Sm ?_;simp(disch:=(try simp only[Ad]);omega)only[Ag,Tryz.f162,↓Ac,Ae,↓reduceIte,↓reduceDIte,↓Qe,Qu,Qv,Qw,Qx,Qy,Qz,QA,QB,QC,QD,QE,QF,QG,QH,QI,QK];refine As.fx 1 (α:=Unit) (β:=Unit) (fun _=>0) (fun _=>[(1,.d (.int .u64 n)),(4,.d (.int .i64 7))]) (fun _=>[.row false (Au .u8 (AbM 24 0))]) (fun _=>True) 1 (fun _=>[(1,.d (.int .u64 n)),(4,.d (.int .i64 7))]) (fun _=>[.row false (Au .u8 (AbM 24 0))]) (fun _=>True) () trivial ?_ ?_ ?_;·exact ⟨[some 0],rfl,by simp,by simp[sA,kZ,SW,AW],by simp[HW,BW,SW,AW]⟩
 ·rintro ⟨⟩ -;simp only[Cr,AbV,AbY,reduceIte];simp(disch:=(try simp only[Ad]);omega)only[Ag,↓Ac,Ae,↓reduceIte,↓reduceDIte,↓Qe,Qu,Qv,Qw,Qx,Qy,Qz,QA,QB,QC,QD,QE,QF,QG,QH,QI,QK];exact ⟨(),trivial,⟨[some 0],rfl,by simp,by simp[sA,kZ,SW,AW],by simp[HW,BW,SW,AW]⟩⟩
 rintro ⟨⟩ -;simp only[Cr,AbV,AbY,reduceIte];simp(disch:=(try simp only[Ad]);omega)only[Ag,EG,Dt,RG,RF,I6,I5,tn2,tn3,smA,smB,↓Ac,Ae,↓reduceIte,↓reduceDIte,↓Qe,Qu,Qv,Qw,Qx,Qy,Qz,QA,QB,QC,QD,QE,QF,QG,QH,QI,QK];first | (exact ⟨[some 0],rfl,by simp,by simp[HW,BW,SW,AW],.inl (by simp[AW,SW])⟩) | (refine ⟨by rfl,?_⟩;exact ⟨[some 0],rfl,by simp,by simp[HW,BW,SW,AW],.inl (by simp[AW,SW])⟩) | (refine ⟨by rfl,by rfl,?_⟩;exact ⟨[some 0],rfl,by simp,by simp[HW,BW,SW,AW],.inl (by simp[AW,SW])⟩) | (refine ⟨by rfl,by rfl,by rfl,?_⟩;exact ⟨[some 0],rfl,by simp,by simp[HW,BW,SW,AW],.inl (by simp[AW,SW])⟩)
def HP (G:Ah):Prop:=G 3=some (Au .u64 Lib.pow10Tab)
def Tryz.laysLen64_ren:Go.Shelf.Ren:=⟨fun | 129=>191 | n=>n,fun | 53=>177 | 3=>3 | 4=>4 | 46=>155 | 5=>5 | 9=>9 | n=>n,fun | n=>n⟩
def Tryz.laysLen64:Go.Proofs.Lays.n129 TP Tryz.laysLen64_ren where
 mixed:=by kernel_rfl
 f129:=Tryz.func191.trans (congrArg some (by kernel_rfl))
 t3:=Tryz.underlying3
 a3:=Tryz.isAgg3
 z3:=Tryz.sizeOf3
 v3:=Tryz.zeroValue3
 t4:=Tryz.underlying4
 a4:=Tryz.isAgg4
 z4:=Tryz.sizeOf4
 v4:=Tryz.zeroValue4
 t5:=Tryz.underlying5
 a5:=Tryz.isAgg5
 z5:=Tryz.sizeOf5
 v5:=Tryz.zeroValue5
 t9:=Tryz.underlying9
 a9:=Tryz.isAgg9
 z9:=Tryz.sizeOf9
 v9:=Tryz.zeroValue9
 t46:=Tryz.underlying155
 a46:=Tryz.isAgg155
 z46:=Tryz.sizeOf155
 v46:=Tryz.zeroValue155
 t53:=Tryz.underlying177
 a53:=Tryz.isAgg177
 z53:=Tryz.sizeOf177
 v53:=Tryz.zeroValue177
def T0 (n:Nat) (h:n<18446744073709551616):Ctr TP G 191 [.d (.int .u64 n)] [] (.d (.int .i64 (Lib.bitLen n))) []:=by refine Ctr.of_calls Ace fun h ρ w vs q r=>?_;obtain ⟨v,rfl,hv⟩:=r.inv1;rw[hv.int_inv];refine (Any.bits_Len64 Tryz.laysLen64 n w (by omega) (by omega)).mono ?_;rintro e w' ⟨rfl,rfl⟩;exact ⟨_,rfl,.int _ _,.refl _ _⟩
def TY (x:Nat) (h:x<=64):Ctr TP G 190 [.d (.int .i64 x)] [] (.d (.int .i64 (Lib.l10 x))) []:=by refine Ctr.pure (M:=M0) Al Tryz.func190 rfl Acf ?_;simp(disch:=(try simp only[Ad]);omega)only[Ag,Tryz.f190,↓Ac,Ae,↓reduceIte,↓reduceDIte,↓Qe,Qu,Qv,Qw,Qx,Qy,Qz,QA,QB,QC,QD,QE,QF,QG,QH,QI,QK];unfold Lib.l10;omega
def Us (b:Bool):Ctr TP G 192 [.d (.bool b)] [] (.d (.int .i64 (if b=true then 1 else 0))) []:=by
 refine Ctr.pure (M:=M0) Al Tryz.func192 rfl Acd ?_;cases b;·simp(disch:=(try simp only[Ad]);omega)only[Ag,Tryz.f192,↓Ac,Ae,↓reduceIte,↓reduceDIte,↓Qe,Qu,Qv,Qw,Qx,Qy,Qz,QA,QB,QC,QD,QE,QF,QG,QH,QI,QK];try rfl
 simp(disch:=(try simp only[Ad]);omega)only[Ag,Tryz.f192,↓Ac,Ae,↓reduceIte,↓reduceDIte,↓Qe,Qu,Qv,Qw,Qx,Qy,Qz,QA,QB,QC,QD,QE,QF,QG,QH,QI,QK];try rfl
def WG {n:Nat} (h2:n<10000000):Lib.bitLen n<=24:=Lib.bitLen_le n 24 (by decide) (by omega)
def Mv (hP:HP G) (n:Nat) (h1:1<=n) (h2:n<10000000):Ctr TP G 161 [.d (.int .u64 n)] [] (.d (.int .i64 (Lib.nDigits n))) []:=by
 refine Ctr.pure (M:=M0) Al Tryz.func161 rfl Acu ?_;have hP':G 3=some (Au .u64 Lib.pow10Tab):=hP;obtain ⟨e1,e2⟩:=Lib.numDigits_eq n h1 (by omega);have hb:=WG h2;have g0:=ints_getD (k:=.u64) (d:=.nilp) (l:=Lib.pow10Tab) (i:=Lib.l10 (Lib.bitLen n)) (by rw[Lib.pow10Tab_length];omega);rw[Lib.pow10Tab_at _ (by omega)] at g0;have pl:=@ints_length .u64 Lib.pow10Tab;rw[Lib.pow10Tab_length] at pl;simp(disch:=(try simp only[Ad]);omega)only[Ag,Tryz.f161,↓Ac,Ae,↓reduceIte,↓reduceDIte,↓Qe,Qu,Qv,Qw,Qx,Qy,Qz,QA,QB,QC,QD,QE,QF,QG,QH,QI,QK];refine Ab.pure (T0 n (by omega)) ?_;simp(disch:=(try simp only[Ad]);omega)only[Ag,↓Ac,Ae,↓reduceIte,↓reduceDIte,↓Qe,Qu,Qv,Qw,Qx,Qy,Qz,QA,QB,QC,QD,QE,QF,QG,QH,QI,QK];refine Ab.pure (TY (Lib.bitLen n) (by omega)) ?_;generalize Lib.l10 (Lib.bitLen n)=q at *;generalize (10:Nat)^q=t at *;simp(disch:=(try simp only[Ad]);omega)only[Ag,hP',pl,g0,↓Ac,Ae,↓reduceIte,↓reduceDIte,↓Qe,Qu,Qv,Qw,Qx,Qy,Qz,QA,QB,QC,QD,QE,QF,QG,QH,QI,QK];refine Ab.pure (Us _) ?_;rw[<-e1];by_cases ht:t<=n
 ·rw[show decide ((t:Int)<=(n:Int))=true from decide_eq_true (by omega),if_pos rfl,if_pos ht];simp(disch:=(try simp only[Ad]);omega)only[Ag,↓Ac,Ae,↓reduceIte,↓reduceDIte,↓Qe,Qu,Qv,Qw,Qx,Qy,Qz,QA,QB,QC,QD,QE,QF,QG,QH,QI,QK];try rfl
 rw[show decide ((t:Int)<=(n:Int))=false from decide_eq_false (by omega),if_neg ht,if_neg (show ¬(false=true) by decide)];simp(disch:=(try simp only[Ad]);omega)only[Ag,↓Ac,Ae,↓reduceIte,↓reduceDIte,↓Qe,Qu,Qv,Qw,Qx,Qy,Qz,QA,QB,QC,QD,QE,QF,QG,QH,QI,QK];try rfl
def MI:B0:=fun k=>k == 162
def Nt:MI 162=true:=rfl
def Nu {k:Nat} (h:k≠162):MI k=false:=by simpa only[MI,beq_eq_false_iff_ne] using h
def Sb {n k m:Nat} (h1:10^k<=n) (h2:n<10^(k+1)) (e:m=k+1):((Lib.nDigits n:Nat):Int)=m:=by rw[Lib.nDigits_unique k n h1 h2,e]
def En {k:Nat} (h:k<10):((UInt8.ofNat (48+k)).toNat:Int)=((48+k:Nat):Int):=by simp;omega
def Jx (l z:List UInt8):cut (Au .u8 ([0]++(AM l++AM z))) 1 l.length=Au .u8 (AM l):=by simp only[cut,Au,AM,Adz,AbU,Adu,List.map_map,List.singleton_append,Aee,AeA];rw[List.take_append_of_le_length (by simp),AbZ (by simp)]
def row3 {n:Nat} (h1:100<=n) (h:n<1000):Au .u8 ([0,((48+n / 100:Nat):Int),((48+n % 100 / 10:Nat):Int),((48+n % 100 % 10:Nat):Int)]++AbM 20 0)=Au .u8 ([0]++(AM (Lib.decDigits n)++AM (AbM 20 0))):=by rw[dd3 h1 h,prD];simp only[AM,Adz,AbU,Adu];rw[En (by omega),En (by omega),En (by omega)];rfl
def row4 {n:Nat} (h1:1000<=n) (h:n<10000):Au .u8 ([0,((48+n % 10000 / 100 / 10:Nat):Int),((48+n % 10000 / 100 % 10:Nat):Int),((48+n % 10000 % 100 / 10:Nat):Int),((48+n % 10000 % 100 % 10:Nat):Int)]++AbM 19 0)=Au .u8 ([0]++(AM (Lib.decDigits n)++AM (AbM 19 0))):=by rw[dd4 h1 h,AdH h,prD,prD];simp only[AM,Adz,AbU,Adu];rw[En (by omega),En (by omega),En (by omega),En (by omega)];rfl
def row5 {n:Nat} (h1:10000<=n) (h:n<100000):Au .u8 ([0,((48+n / 10000:Nat):Int),((48+n % 10000 / 100 / 10:Nat):Int),((48+n % 10000 / 100 % 10:Nat):Int),((48+n % 10000 % 100 / 10:Nat):Int),((48+n % 10000 % 100 % 10:Nat):Int)]++AbM 18 0)=Au .u8 ([0]++(AM (Lib.decDigits n)++AM (AbM 18 0))):=by rw[dd5 h1 h,prD,prD];simp only[AM,Adz,AbU,Adu];rw[En (by omega),En (by omega),En (by omega),En (by omega),En (by omega)];rfl
def row6 {n:Nat} (h1:100000<=n) (h:n<1000000):Au .u8 ([0,((48+n / 10000 % 100 / 10:Nat):Int),((48+n / 10000 % 100 % 10:Nat):Int),((48+n % 10000 / 100 / 10:Nat):Int),((48+n % 10000 / 100 % 10:Nat):Int),((48+n % 10000 % 100 / 10:Nat):Int),((48+n % 10000 % 100 % 10:Nat):Int)]++AbM 17 0)=Au .u8 ([0]++(AM (Lib.decDigits n)++AM (AbM 17 0))):=by rw[dd6 h1 h,AdH (show n / 10000<100 by omega),prD,prD,prD];simp only[AM,Adz,AbU,Adu];rw[En (by omega),En (by omega),En (by omega),En (by omega),En (by omega),En (by omega)];rfl
def row7 {n:Nat} (h1:1000000<=n) (h:n<10000000):Au .u8 ([0,((48+n / 10000 / 100:Nat):Int),((48+n / 10000 % 100 / 10:Nat):Int),((48+n / 10000 % 100 % 10:Nat):Int),((48+n % 10000 / 100 / 10:Nat):Int),((48+n % 10000 / 100 % 10:Nat):Int),((48+n % 10000 % 100 / 10:Nat):Int),((48+n % 10000 % 100 % 10:Nat):Int)]++AbM 16 0)=Au .u8 ([0]++(AM (Lib.decDigits n)++AM (AbM 16 0))):=by rw[dd7 h1 h,prD,prD,prD];simp only[AM,Adz,AbU,Adu];rw[En (by omega),En (by omega),En (by omega),En (by omega),En (by omega),En (by omega),En (by omega)];rfl
def Le (hP:HP G) (n:Nat) (h1:100<=n) (h2:n<10000000):Ctr TP G 121 [.d (.int .i64 n),.d (.int .i64 10)] [] (.d (S (Lib.decDigits n))) []:=by
 refine Ctr.pure (M:=MI) Al Tryz.func121 rfl AaR ?_;simp(disch:=(try simp only[Ad]);omega)only[Ag,Nt,Nu,Tryz.f121,↓Ac,Ae,↓reduceIte,↓reduceDIte,↓Qe,Qu,Qv,Qw,Qx,Qy,Qz,QA,QB,QC,QD,QE,QF,QG,QH,QI,QK];refine Ab.pure (Mv hP n (by omega) h2) ?_;have dl:=Lib.decDigits_length n;rcases (by omega:n<1000\/(1000<=n/\n<10000)\/(10000<=n/\n<100000)\/(100000<=n/\n<1000000)\/1000000<=n) with h | ⟨h3,h4⟩ | ⟨h3,h4⟩ | ⟨h3,h4⟩ | h
 ·have en:((Lib.nDigits n:Nat):Int)=3:=Sb (k:=2) (by omega) (by omega) rfl;have dl2:(Lib.decDigits n).length=3:=by omega
  have sp:=Yz (G:=G) n h1 h;rw[row3 h1 h] at sp;rw[en];simp(disch:=(try simp only[Ad]);omega)only[Ag,Nt,Nu,↓Ac,Ae,↓reduceIte,↓reduceDIte,↓Qe,Qu,Qv,Qw,Qx,Qy,Qz,QA,QB,QC,QD,QE,QF,QG,QH,QI,QK];generalize Lib.decDigits n=dg at *;refine Ab.by sp (by rfl) (by rfl) (by simp) ?_;have cr:=Jx dg (AbM 20 0);rw[dl2] at cr;have rl:(Au .u8 ([0]++(AM dg++AM (AbM 20 0)))).length=24:=by rw[ints_length];simp only[AbS,Bw,Ac7,dl2,AbT,Ady]
  generalize Au .u8 ([0]++(AM dg++AM (AbM 20 0)))=rw at *;simp(disch:=(try simp only[Ad]);omega)only[Ag,Nt,Nu,rl,cr,CP,Ck,↓Ac,Ae,↓reduceIte,↓reduceDIte,↓Qe,Qu,Qv,Qw,Qx,Qy,Qz,QA,QB,QC,QD,QE,QF,QG,QH,QI,QK];try rfl
 ·have en:((Lib.nDigits n:Nat):Int)=4:=Sb (k:=3) (by omega) (by omega) rfl;have dl2:(Lib.decDigits n).length=4:=by omega
  have sp:=Yy (G:=G) n h3 h4;rw[row4 h3 h4] at sp;rw[en];simp(disch:=(try simp only[Ad]);omega)only[Ag,Nt,Nu,↓Ac,Ae,↓reduceIte,↓reduceDIte,↓Qe,Qu,Qv,Qw,Qx,Qy,Qz,QA,QB,QC,QD,QE,QF,QG,QH,QI,QK];generalize Lib.decDigits n=dg at *;refine Ab.by sp (by rfl) (by rfl) (by simp) ?_;have cr:=Jx dg (AbM 19 0);rw[dl2] at cr;have rl:(Au .u8 ([0]++(AM dg++AM (AbM 19 0)))).length=24:=by rw[ints_length];simp only[AbS,Bw,Ac7,dl2,AbT,Ady]
  generalize Au .u8 ([0]++(AM dg++AM (AbM 19 0)))=rw at *;simp(disch:=(try simp only[Ad]);omega)only[Ag,Nt,Nu,rl,cr,CP,Ck,↓Ac,Ae,↓reduceIte,↓reduceDIte,↓Qe,Qu,Qv,Qw,Qx,Qy,Qz,QA,QB,QC,QD,QE,QF,QG,QH,QI,QK];try rfl
 ·have en:((Lib.nDigits n:Nat):Int)=5:=Sb (k:=4) (by omega) (by omega) rfl;have dl2:(Lib.decDigits n).length=5:=by omega
  have sp:=Yx (G:=G) n h3 h4;rw[row5 h3 h4] at sp;rw[en];simp(disch:=(try simp only[Ad]);omega)only[Ag,Nt,Nu,↓Ac,Ae,↓reduceIte,↓reduceDIte,↓Qe,Qu,Qv,Qw,Qx,Qy,Qz,QA,QB,QC,QD,QE,QF,QG,QH,QI,QK];generalize Lib.decDigits n=dg at *;refine Ab.by sp (by rfl) (by rfl) (by simp) ?_;have cr:=Jx dg (AbM 18 0);rw[dl2] at cr;have rl:(Au .u8 ([0]++(AM dg++AM (AbM 18 0)))).length=24:=by rw[ints_length];simp only[AbS,Bw,Ac7,dl2,AbT,Ady]
  generalize Au .u8 ([0]++(AM dg++AM (AbM 18 0)))=rw at *;simp(disch:=(try simp only[Ad]);omega)only[Ag,Nt,Nu,rl,cr,CP,Ck,↓Ac,Ae,↓reduceIte,↓reduceDIte,↓Qe,Qu,Qv,Qw,Qx,Qy,Qz,QA,QB,QC,QD,QE,QF,QG,QH,QI,QK];try rfl
 ·have en:((Lib.nDigits n:Nat):Int)=6:=Sb (k:=5) (by omega) (by omega) rfl;have dl2:(Lib.decDigits n).length=6:=by omega
  have sp:=Yw (G:=G) n h3 h4;rw[row6 h3 h4] at sp;rw[en];simp(disch:=(try simp only[Ad]);omega)only[Ag,Nt,Nu,↓Ac,Ae,↓reduceIte,↓reduceDIte,↓Qe,Qu,Qv,Qw,Qx,Qy,Qz,QA,QB,QC,QD,QE,QF,QG,QH,QI,QK];generalize Lib.decDigits n=dg at *;refine Ab.by sp (by rfl) (by rfl) (by simp) ?_;have cr:=Jx dg (AbM 17 0);rw[dl2] at cr;have rl:(Au .u8 ([0]++(AM dg++AM (AbM 17 0)))).length=24:=by rw[ints_length];simp only[AbS,Bw,Ac7,dl2,AbT,Ady]
  generalize Au .u8 ([0]++(AM dg++AM (AbM 17 0)))=rw at *;simp(disch:=(try simp only[Ad]);omega)only[Ag,Nt,Nu,rl,cr,CP,Ck,↓Ac,Ae,↓reduceIte,↓reduceDIte,↓Qe,Qu,Qv,Qw,Qx,Qy,Qz,QA,QB,QC,QD,QE,QF,QG,QH,QI,QK];try rfl
 have en:((Lib.nDigits n:Nat):Int)=7:=Sb (k:=6) (by omega) (by omega) rfl;have dl2:(Lib.decDigits n).length=7:=by omega
 have sp:=Yv (G:=G) n h h2;rw[row7 h h2] at sp;rw[en];simp(disch:=(try simp only[Ad]);omega)only[Ag,Nt,Nu,↓Ac,Ae,↓reduceIte,↓reduceDIte,↓Qe,Qu,Qv,Qw,Qx,Qy,Qz,QA,QB,QC,QD,QE,QF,QG,QH,QI,QK];generalize Lib.decDigits n=dg at *;refine Ab.by sp (by rfl) (by rfl) (by simp) ?_;have cr:=Jx dg (AbM 16 0);rw[dl2] at cr;have rl:(Au .u8 ([0]++(AM dg++AM (AbM 16 0)))).length=24:=by rw[ints_length];simp only[AbS,Bw,Ac7,dl2,AbT,Ady]
 generalize Au .u8 ([0]++(AM dg++AM (AbM 16 0)))=rw at *;simp(disch:=(try simp only[Ad]);omega)only[Ag,Nt,Nu,rl,cr,CP,Ck,↓Ac,Ae,↓reduceIte,↓reduceDIte,↓Qe,Qu,Qv,Qw,Qx,Qy,Qz,QA,QB,QC,QD,QE,QF,QG,QH,QI,QK];try rfl
def Wd {n:Nat} (h:n<100):Cv n=Lib.decDigits n:=by
 unfold Cv;split;·rw[YN (by omega)]
 rw[YM (by omega) h];rfl
def Lf (hP:HP G) (n:Nat) (h2:n<10000000):Ctr TP G 121 [.d (.int .i64 n),.d (.int .i64 10)] [] (.d (S (Lib.decDigits n))) []:=by
 rcases Adc n 100 with h | h
 ·rw[<-Wd h];exact G9 n h
 exact Le hP n h h2
def Si (hP:HP G) (n:Nat) (h:n<10000000):Ctr TP G 93 [.d (.int .i64 n)] [] (.d (S (Lib.decDigits n))) []:=by refine Ctr.pure (M:=M0) Al Tryz.func93 rfl go93 ?_;simp(disch:=(try simp only[Ad]);omega)only[Ag,Tryz.f93,↓Ac,Ae,↓reduceIte,↓reduceDIte,↓Qe,Qu,Qv,Qw,Qx,Qy,Qz,QA,QB,QC,QD,QE,QF,QG,QH,QI,QK];refine Ab.pure (Lf hP n h) ?_;simp(disch:=(try simp only[Ad]);omega)only[Ag,↓Ac,Ae,↓reduceIte,↓reduceDIte,↓Qe,Qu,Qv,Qw,Qx,Qy,Qz,QA,QB,QC,QD,QE,QF,QG,QH,QI,QK];first | done | rfl
def MO (hP:HP G) (n:Nat) (h:n<10000000):Ctr TP G 51 [.d (.int .i64 n)] [] (.d (S (Lib.decDigits n))) []:=by refine Ctr.pure (M:=M0) Al Tryz.func51 rfl go51 ?_;simp(disch:=(try simp only[Ad]);omega)only[Ag,Tryz.f51,↓Ac,Ae,↓reduceIte,↓reduceDIte,↓Qe,Qu,Qv,Qw,Qx,Qy,Qz,QA,QB,QC,QD,QE,QF,QG,QH,QI,QK];refine Ab.pure (Si hP n h) ?_;simp(disch:=(try simp only[Ad]);omega)only[Ag,↓Ac,Ae,↓reduceIte,↓reduceDIte,↓Qe,Qu,Qv,Qw,Qx,Qy,Qz,QA,QB,QC,QD,QE,QF,QG,QH,QI,QK];first | done | rfl
def AbN (hP:HP G):HI G:=fun n hn=>MO hP n (by omega)
end
section
open Go Go.Proofs Go.Abs Go.RowKit Go.ChangeShapes Go.WideShapes Go.ChangeAt Go.Shelf Go.Joins Go.Deep
def Wa {l:List Int} {i:Nat} {d:Int} (h:i<l.length):l.getD i d∈l:=by rw[AbH,AbO h];exact AdR h
def own:ownKnob Tryz.prog.godebug=none:=by kernel_rfl
def ZZ:laidOutB TP=true:=by kernel_rfl
def cU8:Tryz.prog.cellsOf 5=1:=by kernel_rfl
def cU64:Tryz.prog.cellsOf 177=1:=by kernel_rfl
def ZV {l:List Int} (h:∀ n∈l,(Lit.int .u8 n).wf=true):∀ i,0<=l.getD i 0/\l.getD i 0<=255:=by
 intro i;rcases Adc i l.length with hi | hi
 ·have:=h _ (Wa (d:=0) hi);simp[Lit.wf,IntKind.min,IntKind.max,IntKind.bits,IntKind.signed] at this;rw[AbH];omega
 rw[AbH,Ac6 hi];simp
def G1 (_b:Bool):Ah:=fun g=>if g=0 then some Gh else if g=1 then some Ns else if g=3 then some (Au .u64 Lib.pow10Tab)
 else none
def Zp:U8Types TP Tryz.laysValid_ren:=U8Types.of196 Tryz.laysValid
def Zq:U8Extra TP Tryz.laysValid_ren where
 n3:=by kernel_rfl
 n4:=by kernel_rfl
 y3:=by kernel_rfl
 y4:=by kernel_rfl
 c5:=by kernel_rfl
 c119:=by kernel_rfl
 c138:=by kernel_rfl
def Ys:Rows.laid_unicode_utf8_first=Lib.firstData:=by kernel_rfl
def WO:(Rows.laid_unicode_utf8_acceptRanges:DataW Unit)=Lib.acceptData:=by kernel_rfl
def Abb:(Rows.laid_internal_strconv_uint64pow10:DataW Unit)=Lib.tabData .u64 Lib.pow10Tab:=by kernel_rfl
def gPow:Tryz.prog.globalNamed "internal/strconv.uint64pow10" = some 3:=by kernel_rfl
def tPow:(Tryz.prog.globals[3]?).map (·.type)=some 249:=by kernel_rfl
def cPow:Tryz.prog.cellsOf 249=20:=by kernel_rfl
def Abj {X:World} {b:Bool} (h1:Lib.VarReads TP X "unicode/utf8.first" Rows.laid_unicode_utf8_first) (h2:Lib.VarReads TP X "unicode/utf8.acceptRanges" Rows.laid_unicode_utf8_acceptRanges)
  (h3:Lib.VarReads TP X "internal/strconv.uint64pow10" Rows.laid_internal_strconv_uint64pow10)
  (_h4:b=true->True):Rs (G1 b) X:=by
 rw[Ys] at h1;rw[WO] at h2;rw[Abb] at h3;obtain ⟨t1,t2⟩:Lib.Utf8Tabs 0 1 X:=utf8Tabs_of_readsT Zp Zq h1 h2;intro g ds hg;unfold G1 at hg;split at hg
 ·rename_i e;subst e;cases hg;refine ⟨fun i=>.int .u8 (Lib.firstT i),fun i x hx=>?_,fun i x hx=>?_⟩;·have hi:i<256:=(by have:=(AbQ.1 hx).1;simpa[Gh] using this);exact t1 i hi
  have hi:i<256:=by have:=(AbQ.1 hx).1;simpa[Gh] using this
  simp[Gh,hi] at hx;subst hx;exact .int _ _
 split at hg
 ·rename_i e;subst e;cases hg;refine ⟨fun i=>.int .u8 ((if i % 2=0 then Lib.accLo (i / 2) else Lib.accHi (i / 2):Nat):Int),fun i x hx=>?_,fun i x hx=>?_⟩
  ·have hi:i<32:=(by have:=(AbQ.1 hx).1;simpa[Ns] using this);obtain ⟨a,b⟩:=t2 (i / 2) (by omega);rcases (by omega:i % 2=0\/i % 2=1) with h0 | h0
   ·show X.cell? ⟨_,i,none⟩=_
    simp only[if_pos h0];rw[<-a,show 2*(i / 2)=i by omega]
   show X.cell? ⟨_,i,none⟩=_
   simp only[if_neg (show ¬i % 2=0 by omega)];rw[<-b,show 2*(i / 2)+1=i by omega]
  have hi:i<32:=by have:=(AbQ.1 hx).1;simpa[Ns] using this
  simp only[Ns,AdC,Aed hi,AdU,Option.some.injEq] at hx;subst hx;exact .int _ _
 split at hg
 ·rename_i e;subst e;cases hg;obtain ⟨g',t,cs,fuel,p,hg',ht',hvar,hd⟩:=h3;obtain rfl:=Option.some.inj (gPow.symm.trans hg');obtain rfl:=Option.some.inj (tPow.symm.trans ht');have hcs:=Lib.cells_of_tab Tryz.underlying249 Tryz.underlying177 cU64 cPow hd;refine ⟨fun i=>.int .u64 (Lib.pow10Tab.getD i 0),fun i x hx=>?_,fun i x hx=>?_⟩
  ·have hi:i<Lib.pow10Tab.length:=(by have:=(AbQ.1 hx).1;simpa[Au] using this);show X.cell? ⟨_,i,none⟩=_
   rw[World.var?_cell hg' hvar i,<-AdQ,hcs];simp[hi]
  have hi:i<Lib.pow10Tab.length:=by have:=(AbQ.1 hx).1;simpa[Au] using this
  simp only[Au,AdC,AbO hi,AdU,Option.some.injEq] at hx;subst hx;show RD _ (Value.int .u64 (Lib.pow10Tab.getD i 0)) _
  rw[AbH,AbO hi];exact .int _ _
 cases hg
end
namespace Num
open Go Go.Proofs Go.Abs
structure Hid (p:Prop):Prop where
 out:p
def B:Nat:=4294967296
def val:List Nat->Nat
 | []=>0
 | d::l=>d+B*val l
def toW (n:Nat):List Nat:=if h:n=0 then [] else n % B::toW (n / B)
termination_by n
decreasing_by exact AdW (by omega) (by decide)
def Dig (l:List Nat):Prop:=∀ d,d∈l->d<B
def Bs:toW 0=[]:=by rw[toW];simp
def E4 {n:Nat} (h:n≠0):toW n=n % B::toW (n / B):=by rw[toW];simp[h]
def Dl (n:Nat):val (toW n)=n:=by
 induction n using AdT with
 | _ n ih =>
  by_cases h:n=0;·subst h;rw[Bs];rfl
  rw[E4 h,val,ih (n / B) (AdW (by omega) (by decide))];exact AdX n B
def DL (n:Nat):Dig (toW n):=by
 induction n using AdT with
 | _ n ih =>
  by_cases h:n=0;·subst h;rw[Bs];intro d hd;cases hd
  rw[E4 h];intro d hd;rcases Aeh.1 hd with rfl | hd
  ·exact AeE _ (by decide)
  exact ih (n / B) (AdW (by omega) (by decide)) d hd
def Cp (l m:List Nat):val (l++m)=val l+B^l.length*val m:=by
 induction l with
 | nil=>simp[val]
 | cons d l ih=>simp only[Aep,val,ih,AbT,AdZ,Adg];rw[Aei];congr 2;rw[<-AdS,AdI B]
def GL {l:List Nat} (h:Dig l):val l<B^l.length:=by
 induction l with
 | nil=>simp[val]
 | cons d l ih =>have h1:=h d (by simp);have h2:=ih fun x hx=>h x (by simp[hx]);simp only[val,AbT,AdZ];have:B*(val l+1)<=B*B^l.length:=Aef _ h2;rw[AdI (B^l.length)];rw[Adg] at this;omega
def Dig.append {l m:List Nat} (h1:Dig l) (h2:Dig m):Dig (l++m):=fun d hd=>by
 rcases Aeu.1 hd with h | h
 ·exact h1 d h
 exact h2 d h
def Dig.take {l:List Nat} (h:Dig l) (n:Nat):Dig (l.take n):=fun d hd=>h d (Aeb hd)
def Dig.drop {l:List Nat} (h:Dig l) (n:Nat):Dig (l.drop n):=fun d hd=>h d (List.mem_of_mem_drop hd)
def Dig.getD {l:List Nat} (h:Dig l) (i:Nat):l.getD i 0<B:=by
 rw[AbH];cases e:l[i]? with
 | none=>decide
 | some x=>exact h x (List.mem_of_getElem? e)
def Tq {l:List Nat} {k:Nat} (h:k<l.length):l.take (k+1)=l.take k++[l.getD k 0]:=by rw[AdL,AbH,AbO h];rfl
def Ij {l:List Nat} {k:Nat} (h:k<l.length):val (l.take (k+1))=val (l.take k)+B^k*l.getD k 0:=by rw[Tq h,Cp];simp[val,AdY (Aem h)]
def Xa {l:List Nat} (h:Dig l) (hl:l=[]\/l.getD (l.length-1) 0≠0):toW (val l)=l:=by
 induction l with
 | nil=>exact Bs
 | cons d l ih =>
  have h1:=h d (by simp);have hB:(0:Nat)<B:=by decide
  have hv:val (d::l)≠0:=by
   simp only[val];by_cases hn:l=[];·subst hn;simp at hl;simp[val];omega
   have h3:=ih (fun x hx=>h x (by simp[hx])) (.inr (by
    rcases hl with h0 | h0
    ·cases h0
    have:l.length≠0:=by simpa using hn
    have e:(d::l).length-1=(l.length-1)+1:=(by simp;omega);rw[e] at h0;simpa using h0))
   intro h0;have:val l=0:=by
    have:=Nat.eq_zero_of_add_eq_zero_left h0;rcases Nat.mul_eq_zero.1 this with h | h
    ·omega
    exact h
   rw[this,Bs] at h3;exact hn h3.symm
  rw[E4 hv];have e1:val (d::l) % B=d:=by simp only[val];rw[Ad4];exact AdH h1
  have e2:val (d::l) / B=val l:=by simp only[val];rw[Aec _ _ hB,Aeq h1,Ad8]
  rw[e1,e2];by_cases hn:l=[];·subst hn;simp[val,Bs]
  rw[ih (fun x hx=>h x (by simp[hx])) (.inr (by
    rcases hl with h0 | h0
    ·cases h0
    have:l.length≠0:=by simpa using hn
    have e:(d::l).length-1=(l.length-1)+1:=(by simp;omega);rw[e] at h0;simpa using h0))]
def Xb {n:Nat} (h:n≠0):(toW n).getD ((toW n).length-1) 0≠0:=by
 induction n using AdT with
 | _ n ih =>
  rw[E4 h];by_cases h2:n / B=0
  ·rw[h2,Bs];simp;have:n<B:=by
    rcases Nat.div_eq_zero_iff.1 h2 with h | h
    ·exact absurd h (by decide)
    exact h
   rw[AdH this];exact h
  have:=ih _ (AdW (by omega) (by decide)) h2;have hl:(toW (n / B)).length≠0:=by rw[E4 h2];simp
  have e:(n % B::toW (n / B)).length-1=((toW (n / B)).length-1)+1:=by simp;omega
  rw[e];simpa using this
def UK {n:Nat}:toW n=[]↔n=0:=by
 constructor;·intro h;have:=Dl n;rw[h] at this;exact this.symm
 rintro rfl;exact Bs
def D3 {n k:Nat} (h:n<B^k):(toW n).length<=k:=by
 induction k generalizing n with
 | zero=>have:n=0:=by simpa using h
         subst this;simp[Bs]
 | succ k ih =>
  by_cases h0:n=0;·subst h0;simp[Bs]
  rw[E4 h0];simp only[AbT];have:n / B<B^k:=by rw[AdB (by decide)];rw[<-AdZ];exact h
  have:=ih this;omega
def Kc {n k:Nat} (h:k<(toW n).length):B^k<=n:=by
 by_cases hn:B^k<=n;·exact hn
 have:=D3 (n:=n) (k:=k) (by omega);omega
def Ol (n:Nat):n<B^(toW n).length:=by have:=GL (DL n);rwa[Dl] at this
def Adb {n:Nat} (h:n<4294967296):n / 2147483648=(n.testBit 31).toNat:=by
 rw[AdO,show (2:Nat)^31=2147483648 from rfl];by_cases h1:n / 2147483648=1;·simp[h1]
 have:n / 2147483648=0:=by omega
 simp[this]
def Uv {n:Nat} (h:n<4294967296):n.testBit 31=decide (2147483648<=n):=by rw[AdO,show (2:Nat)^31=2147483648 from rfl];apply decide_eq_decide.2;omega
def Abw {x y c d:Nat} (hx:x<4294967296) (hy:y<4294967296) (hc:c<=1) (hd:d=(x+4294967296-y-c) % 4294967296) :
  (((4294967295-x) &&& y) ||| ((4294967295-(x ^^^ y)) &&& d)) / 2147483648=if x<y+c then 1 else 0:=by
 have hxy:x ^^^ y<2^32:=Aej (by omega) (by omega);have hd':d<4294967296:=by omega
 have h1:((4294967295-x) &&& y)<2^32:=AdK _ (by omega);have h2:((4294967295-(x ^^^ y)) &&& d)<2^32:=AdK _ (by omega);have h3:=Nat.or_lt_two_pow h1 h2;rw[Adb (by omega),Nat.testBit_or,Aev,Aev];rw[show 4294967295-x=2^32-(x+1) by omega,show 4294967295-(x ^^^ y)=2^32-((x ^^^ y)+1) by omega,AdA (by omega),AdA hxy,Aew,
  Uv hx,Uv hy,Uv hd']
 by_cases a:2147483648<=x<;>by_cases b:2147483648<=y<;>by_cases e:2147483648<=d<;>by_cases f:x<y+c<;>simp[a,b,e,f]<;>omega
def Abl {n:Nat} (h:n<4294967296):4294967295 ^^^ n=4294967295-n:=by
 apply Nat.eq_of_testBit_eq;intro i;rw[show 4294967295-n=2^32-(n+1) by omega,AdA (by omega),Aew,show (4294967295:Nat)=2^32-1 from rfl,Nat.testBit_two_pow_sub_one];by_cases hi:i<32;·simp[hi]
 have:n.testBit i=false:=Nat.testBit_lt_two_pow (Ad2 h (by
  calc 4294967296=2^32:=rfl
   _<=2^i:=Nat.pow_le_pow_right (by decide) (by omega)))
 simp[hi,this]
def WX {n:Nat} (h:n<4294967296):Di .xor .u32 4294967295 (n:Int)=((4294967295-n:Nat):Int):=by have:=Ho (a:=4294967295) (b:=n) (by omega) h;rw[Abl h] at this;exact this
def Hw {l:List Nat} {k:Nat} (h:k<l.length):val l=val (l.take k)+B^k*(l.getD k 0+B*val (l.drop (k+1))):=by
 have e:l=l.take k++l.getD k 0::l.drop (k+1):=by rw[AbH,AbO h];simp
 conv=>lhs;rw[e]
 rw[Cp];simp[val,AdY (Aem h)]
def NM {l m:List Nat} {k:Nat} (hl:Dig l) (h1:k<l.length) (h2:k<m.length) (h3:l.drop (k+1)=m.drop (k+1)) (h4:l.getD k 0<m.getD k 0):val l<val m:=by rw[Hw h1,Hw h2,h3];have h5:=GL (hl.take k);rw[Adh,AdY (Aem h1)] at h5;have h6:B^k*(l.getD k 0+1+B*val (m.drop (k+1)))<=B^k*(m.getD k 0+B*val (m.drop (k+1))):=Aef _ (by omega);rw[show l.getD k 0+1+B*val (m.drop (k+1))=(l.getD k 0+B*val (m.drop (k+1)))+1 by omega,Adg,AeD] at h6;omega
def Aai {l m:List Nat} {k:Nat} (h1:k<l.length) (h2:k<m.length) (h3:l.drop (k+1)=m.drop (k+1)) (h4:l.getD k 0=m.getD k 0):l.drop k=m.drop k:=by rw[Ac8 h1,Ac8 h2,h3];simp[AbH,AbO h1,AbO h2] at h4;rw[h4]
def FY {a b:Nat} (h:(toW a).length<(toW b).length):a<b:=Ad2 (Ol a) (Kc h)
def JU {x y c:Nat} (hx:x<B) (hy:y<B) (hc:c<=1):(x+B-y-c) % B+y+c=x+B*(if x<y+c then 1 else 0):=by simp only[B] at *;split<;>omega
def cmpI (a b:Int):Int:=if a<b then -1 else if b<a then 1 else 0
def JC {a b:Int} (h:a<b):cmpI a b=-1:=by simp[cmpI,h]
def JD {a b:Int} (h:b<a):cmpI a b=1:=by simp[cmpI,h,show ¬a<b by omega]
def Fh {a b:Int} (h:a=b):cmpI a b=0:=by simp[cmpI,h]
def OV {a b:Int}:cmpI a b=0↔a=b:=by
 refine ⟨fun h=>?_,Fh⟩;by_cases h1:a<b;·rw[JC h1] at h;omega
 by_cases h2:b<a;·rw[JD h2] at h;omega
 omega
def Vq {a b c d:Int} (h1:a<b->c<d) (h2:b<a->d<c) (h3:a=b->c=d):cmpI a b=cmpI c d:=by
 by_cases h:a<b;·rw[JC h,JC (h1 h)]
 by_cases h':b<a;·rw[JD h',JD (h2 h')]
 have:a=b:=by omega
 rw[Fh this,Fh (h3 this)]
def BE (l:List Nat) (k:Nat):val (l.take (k+1))=val (l.take k)+B^k*l.getD k 0:=by
 by_cases h:k<l.length;·exact Ij h
 rw[AbZ (by omega),AbZ (by omega),AbH,Ac6 (by omega)];simp
def UI {l:List Nat} {p d:Nat} (h:p<l.length):val (l.set p d)+B^p*l.getD p 0=val l+B^p*d:=by have h1:=Hw (l:=l.set p d) (k:=p) (by simpa using h);have h2:=Hw h;rw[List.take_set_of_le (AbP _),List.drop_set_of_lt (Nat.lt_succ_self p),AbH,List.getElem?_set_self h] at h1;simp only[AdF,Adg,Nat.succ_eq_add_one] at h1 h2;omega
def Dig.set {l:List Nat} (h:Dig l) {p d:Nat} (hd:d<B):Dig (l.set p d):=fun x hx=>by
 rcases List.mem_or_eq_of_mem_set hx with h1 | h1
 ·exact h x h1
 omega
def Dig.zeros (n:Nat):Dig (AbM n 0):=fun d hd=>by have:=List.eq_of_mem_replicate hd;subst this;decide
def VC (n:Nat):val (AbM n 0)=0:=by
 induction n with
 | zero=>rfl
 | succ n ih=>simp[Aeg,val,ih]
def J8 {x y:Nat} (hx:x<B) (hy:y<B):x*y<=18446744065119617025:=by simp only[B] at *;exact Nat.mul_le_mul (Aen hx) (Aen hy)
def Tm {q o m:List Nat} {i j c x s:Nat} (hp:i+j<q.length) (hs:s=c+(x*m.getD j 0+q.getD (i+j) 0)) (hv:val q+B^(i+j)*c=val o+B^i*(x*val (m.take j))) :
  val (q.set (i+j) (s % B))+B^(i+(j+1))*(s / B)=val o+B^i*(x*val (m.take (j+1))):=by
 have h1:=UI (l:=q) (p:=i+j) (d:=s % B) hp;have h2:=AdX s B;have h3:B^(i+j)*(s % B)+B^(i+(j+1))*(s / B)=B^(i+j)*s:=by rw[<-Aei i j 1,AdZ,AdS,<-Adg,h2]
 have h4:B^(i+j)*s=B^(i+j)*c+(B^i*(x*(B^j*m.getD j 0))+B^(i+j)*q.getD (i+j) 0):=by rw[hs,Adg,Adg];congr 2;rw[Aer,AdS,Nat.mul_left_comm (B^j)]
 have h5:B^i*(x*val (m.take (j+1)))=B^i*(x*val (m.take j))+B^i*(x*(B^j*m.getD j 0)):=by rw[BE,Adg,Adg]
 omega
def VJ {q o l:List Nat} {i k c b:Nat} (hp:i+k<q.length) (hz:q.getD (i+k) 0=0) (hv:val q+B^(i+k)*c=val o+B^i*(l.getD i 0*b)) (ho:val o=val (l.take i)*b) :
  val (q.set (i+k) c)=val (l.take (i+1))*b:=by
 have h1:=UI (l:=q) (p:=i+k) (d:=c) hp;rw[hz] at h1;have h2:val (l.take (i+1))*b=val (l.take i)*b+B^i*(l.getD i 0*b):=by rw[BE,Aes,AdS]
 omega
def IX {n:Nat}:IntKind.u32.wrap (n:Int)=((n % 4294967296:Nat):Int):=by simp[IntKind.wrap,IntKind.bits,IntKind.signed]
def AbF {n:Nat}:IntKind.u64.wrap (n:Int)=((n % 18446744073709551616:Nat):Int):=by simp[IntKind.wrap,IntKind.bits,IntKind.signed]
def KM {l:List Nat} {p r d:Nat} (h:p≠r):(l.set p d).getD r 0=l.getD r 0:=by simp[AbH,List.getElem?_set_ne h]
def Abe {h x:Nat} (hx:x<4294967296):h*4294967296 ||| x=h*4294967296+x:=by have:=Nat.shiftLeft_add_eq_or_of_lt (i:=32) (a:=h) (b:=x) hx;rw[Nat.shiftLeft_eq] at this;exact this.symm
def XO {h x:Nat} (hh:h<4294967296) (hx:x<4294967296):Di .or .u64 ((h:Int)*4294967296) (x:Int)=((h*4294967296+x:Nat):Int):=by have:=WH (a:=((h*4294967296:Nat):Int)) (b:=(x:Int)) (by omega) (by omega) (by omega) (by omega);rw[AbR,AbR,Abe hx] at this;exact this
def Iy {n k:Nat} (h:n / 2^k≠0):n.log2=k+(n / 2^k).log2:=by
 have hp:0<2^k:=Nat.two_pow_pos k;have hn:n≠0:=by intro h0;subst h0;simp at h
 have h1:=(Aex h).1 rfl;refine (Aex hn).2 ⟨?_,?_⟩;·rw[Aer,AdI];exact (Nat.le_div_iff_mul_le hp).1 h1.1
 rw[Aei,Aer,AdI];exact (AdB hp).1 h1.2
def KP {r x d:Nat} (hr:r<d) (hx:x<B):(r*B+x) / d<B:=by rw[AdB (by omega)];have:(r+1)*B<=d*B:=Nat.mul_le_mul_right _ hr;rw[Aes,Nat.one_mul] at this;rw[AdI B];omega
def Ty {q l:List Nat} {k r d:Nat} (h:k<l.length) (hv:val (l.drop (k+1))=val q*d+r) :
  val (l.drop k)=val ((r*B+l.getD k 0) / d::q)*d+(r*B+l.getD k 0) % d:=by
 have e:l.drop k=l.getD k 0::l.drop (k+1):=by rw[Ac8 h,AbH,AbO h];rfl
 rw[e,val,hv,val];have h1:=AdX (r*B+l.getD k 0) d;generalize (r*B+l.getD k 0) / d=a at *;generalize (r*B+l.getD k 0) % d=b at *;rw[AdI d a] at h1;rw[Aes,Adg,AdS,AdI B r];omega
def UX {q:List Nat} {k v:Nat}:(0::(AbM k 0++q)).set k v=AbM k 0++v::q:=by
 have e:0::(AbM k 0++q)=AbM k 0++0::q:=by rw[<-Aep,<-Aeg,List.replicate_succ',Ad5];rfl
 rw[e,List.set_append_right _ _ (by simp)];simp
def Bp:Nat->Nat->List Nat
 | 0,_=>[]
 | k+1,n=>n % B::Bp k (n / B)
def A5 (k n:Nat):(Bp k n).length=k:=by
 induction k generalizing n with
 | zero=>rfl
 | succ k ih=>simp[Bp,ih]
def EV (k n:Nat):Dig (Bp k n):=by
 induction k generalizing n with
 | zero=>intro d h;cases h
 | succ k ih =>
  intro d h;rcases Aeh.1 h with rfl | h
  ·exact AeE _ (by decide)
  exact ih _ d h
def Sz {l:List Nat} (h:Dig l):Bp l.length (val l)=l:=by
 induction l with
 | nil=>rfl
 | cons d l ih =>
  have h1:=h d (by simp);have hB:(0:Nat)<B:=by decide
  simp only[AbT,Bp,val];rw[Ad4,AdH h1,Aec _ _ hB,Aeq h1,Ad8,ih fun x hx=>h x (by simp[hx])]
def GM {k n:Nat} (h:n<B^k):val (Bp k n)=n:=by
 induction k generalizing n with
 | zero=>have:n=0:=by simpa using h
         subst this;rfl
 | succ k ih =>
  simp only[Bp,val];rw[ih];·exact AdX n B
  rw[AdB (by decide),<-AdZ];exact h
def LI {l:List Nat} {k n:Nat} (h:Dig l) (hk:l.length=k) (hv:val l=n):l=Bp k n:=by subst hk;subst hv;exact (Sz h).symm
abbrev W (l:List Nat):D:=.sl l.length false (AY .u32 l)
variable {G:Ah}
abbrev M0:B0:=fun _=>false
def Rm (l:List Nat) (i:Nat) :
  Ctr TP G 173 [.d (W l),.d (.int .i64 i)] [] (.d (.int .u32 (l.getD i 0:Nat))) []:=by
 refine Ctr.pure (M:=M0) Al Tryz.func173 rfl Acn ?_;simp(disch:=(try simp only[Ad]);omega)only[Tryz.f173,↓Ac,Ae,↓reduceIte,↓reduceDIte,↓Qe,Qu,Qv,Qw,Qx,Qy,Qz,QA,QB,QC,QD,QE,QF,QG,QH,QI,QK];intro h;rw[AbH,Ac6 (by omega)];rfl
def Ez (l:List Nat) (hd:Dig l) (hl:l.length<2^60):Ctr TP G 171 [.d (W l)] [] (.d (W (toW (val l)))) []:=by
 refine Ctr.pure (M:=M0) Al Tryz.func171 rfl AaO ?_;simp only[Tryz.f171,↓Ac,Zk,Zl,Qa,Qb,Qc,Qd,forall_const,↓reduceIte,↓reduceDIte,↓Qe,Qf,Qg,Qh,Qi,Qj,Qk,Ql,Qm,Qn,Qo,Qp,Qq,Qr,Qs,implies_true,Qt,Qu,Qv,Qw,Qx,Qy,Qz,QA,QB,QC,QD,QE,QF,QG,QH,QI,QJ,QK,QL,QM,QN,QO,QP,QQ];refine As.inv (α:=Nat) (fun k=>k) (fun k=>mkS 21 [(0,.d (.sl k false (AY .u32 (l.take k))))]) (fun _=>[]) (fun k=>k<=l.length/\val (l.take k)=val l) l.length ⟨AbP _,by simp⟩ (.pure ?_) ?_;·simp[mkS,SW,AW]
 rintro k ⟨hk,hv⟩;simp only[mkS,AeF,AbM,Aek,Ael];simp(disch:=(try simp only[Ad]);omega)only[↓Ac,Ae,↓reduceIte,↓reduceDIte,↓Qe,Qu,Qv,Qw,Qx,Qy,Qz,QA,QB,QC,QD,QE,QF,QG,QH,QI,QK];refine ⟨fun h=>⟨fun h0=>⟨k-1,⟨by omega,?_⟩,AeG (by omega) (by decide),.pure ?_⟩,fun h0=>?_⟩,fun h=>?_⟩
 ·have e:((k:Int)-1).toNat=k-1:=by omega
  rw[e,AbH,AdJ,if_pos (by omega),<-AbH] at h0;have:=Ij (l:=l) (k:=k-1) (by omega);rw[show k-1+1=k by omega,hv] at this;rw[this,show l.getD (k-1) 0=0 by omega];simp
 ·have e:((k:Int)-1).toNat=k-1:=by omega
  simp[SW,AW,e,List.take_take]
 ·have e:((k:Int)-1).toNat=k-1:=by omega
  rw[e] at h0;have:=Xa (hd.take k) (.inr (by rw[show (l.take k).length-1=k-1 by simp;omega];omega));rw[hv] at this;rw[this];simp[W,hk,AdY]
 have:k=0:=by omega
 subst this;have:val l=0:=by rw[<-hv];rfl
 rw[this,Bs];rfl
def Oq (a:Int):Ctr TP G 246 [.d (.int .i64 a)] [] (.d (.bool false)) []:=by refine Ctr.pure (M:=M0) Al Tryz.func246 rfl AaJ ?_;simp(disch:=(try simp only[Ad]);omega)only[Tryz.f246,↓Ac,Ae,↓reduceIte,↓reduceDIte,↓Qe,Qu,Qv,Qw,Qx,Qy,Qz,QA,QB,QC,QD,QE,QF,QG,QH,QI,QK]
def Oo (a:Int):Ctr TP G 247 [.d (.int .u32 a)] [] (.d (.bool false)) []:=by refine Ctr.pure (M:=M0) Al Tryz.func247 rfl Ab0 ?_;simp(disch:=(try simp only[Ad]);omega)only[Tryz.f247,↓Ac,Ae,↓reduceIte,↓reduceDIte,↓Qe,Qu,Qv,Qw,Qx,Qy,Qz,QA,QB,QC,QD,QE,QF,QG,QH,QI,QK]
def Aap (a b:Int):Ctr TP G 221 [.d (.int .i64 a),.d (.int .i64 b)] [] (.d (.int .i64 (cmpI a b))) []:=by refine Ctr.pure (M:=M0) Al Tryz.func221 rfl AaK ?_;simp(disch:=(try simp only[Ad]);omega)only[Tryz.f221,↓Ac,Ae,↓reduceIte,↓reduceDIte,↓Qe,Qu,Qv,Qw,Qx,Qy,Qz,QA,QB,QC,QD,QE,QF,QG,QH,QI,QK];refine Ab.pure (Oq _) ?_;simp(disch:=(try simp only[Ad]);omega)only[↓Ac,Ae,↓reduceIte,↓reduceDIte,↓Qe,Qu,Qv,Qw,Qx,Qy,Qz,QA,QB,QC,QD,QE,QF,QG,QH,QI,QK];refine Ab.pure (Oq _) ?_;simp(disch:=(try simp only[Ad]);omega)only[↓Ac,Ae,↓reduceIte,↓reduceDIte,↓Qe,Qu,Qv,Qw,Qx,Qy,Qz,QA,QB,QC,QD,QE,QF,QG,QH,QI,QK];refine ⟨fun h=>(JC h).symm,fun h=>⟨fun h'=>(JD h').symm,fun h'=>(Fh (by omega)).symm⟩⟩
def Aao (a b:Int):Ctr TP G 222 [.d (.int .u32 a),.d (.int .u32 b)] [] (.d (.int .i64 (cmpI a b))) []:=by refine Ctr.pure (M:=M0) Al Tryz.func222 rfl Ab4 ?_;simp(disch:=(try simp only[Ad]);omega)only[Tryz.f222,↓Ac,Ae,↓reduceIte,↓reduceDIte,↓Qe,Qu,Qv,Qw,Qx,Qy,Qz,QA,QB,QC,QD,QE,QF,QG,QH,QI,QK];refine Ab.pure (Oo _) ?_;simp(disch:=(try simp only[Ad]);omega)only[↓Ac,Ae,↓reduceIte,↓reduceDIte,↓Qe,Qu,Qv,Qw,Qx,Qy,Qz,QA,QB,QC,QD,QE,QF,QG,QH,QI,QK];refine Ab.pure (Oo _) ?_;simp(disch:=(try simp only[Ad]);omega)only[↓Ac,Ae,↓reduceIte,↓reduceDIte,↓Qe,Qu,Qv,Qw,Qx,Qy,Qz,QA,QB,QC,QD,QE,QF,QG,QH,QI,QK];refine ⟨fun h=>(JC h).symm,fun h=>⟨fun h'=>(JD h').symm,fun h'=>(Fh (by omega)).symm⟩⟩
def AaW (x y c:Nat) (hx:x<B) (hy:y<B) (hc:c<=1):Ctr TP G 172 [.d (.int .u32 x),.d (.int .u32 y),.d (.int .u32 c)] []
  (.d (.tup [.int .u32 ((x+y+c) % B:Nat),.int .u32 ((x+y+c) / B:Nat)])) []:=by
 refine Ctr.pure (M:=M0) Al Tryz.func172 rfl Aco ?_;simp only[B] at *;simp(disch:=(try simp only[Ad]);omega)only[Tryz.f172,↓Ac,Ae,↓reduceIte,↓reduceDIte,↓Qe,Qu,Qv,Qw,Qx,Qy,Qz,QA,QB,QC,QD,QE,QF,QG,QH,QI,QK];rw[show IntKind.u32.wrap ((x+y+c:Nat):Int)=(((x+y+c) % 4294967296:Nat):Int) by simp[IntKind.wrap,IntKind.bits,IntKind.signed]];simp
def AaE (x y c:Nat) (hx:x<B) (hy:y<B) (hc:c<=1):Ctr TP G 225 [.d (.int .u32 x),.d (.int .u32 y),.d (.int .u32 c)] []
  (.d (.tup [.int .u32 ((x+B-y-c) % B:Nat),.int .u32 ((if x<y+c then 1 else 0:Nat):Int)])) []:=by
 refine Ctr.pure (M:=M0) Al Tryz.func225 rfl Ab1 ?_;simp only[B] at *;simp(disch:=(try simp only[Ad]);omega)only[Tryz.f225,↓Ac,Ae,↓reduceIte,↓reduceDIte,↓Qe,Qu,Qv,Qw,Qx,Qy,Qz,QA,QB,QC,QD,QE,QF,QG,QH,QI,QK];have e1:IntKind.u32.wrap (IntKind.u32.wrap ((x:Int)-(y:Int))-(c:Int))=(((x+4294967296-y-c) % 4294967296:Nat):Int):=by simp[IntKind.wrap,IntKind.bits,IntKind.signed];omega
 have hxy:x ^^^ y<2^32:=Aej (by omega) (by omega);have h1:((4294967295-x) &&& y)<2^32:=AdK _ (by omega);have h2:((4294967295-(x ^^^ y)) &&& ((x+4294967296-y-c) % 4294967296))<2^32:=AdK _ (by omega);rw[e1,Ho hx hy,WX hx,WX hxy,Hp (by omega) hy,Hp (by omega) (by omega),Im h1 h2];have:=Abw hx hy hc rfl;rw[<-this];rfl
end Num
namespace Num
open Go Go.Proofs Go.Abs
variable {G:Ah}
def compare_spec (a b:Nat) (ha:(toW a).length<2^40) (hb:(toW b).length<2^40) :
  Ctr TP G 202 [.d (W (toW a)),.d (W (toW b))] [] (.d (.int .i64 (cmpI a b))) []:=by
 have da:=DL a;have db:=DL b;have va:=Dl a;have vb:=Dl b;have la:=@FY a b;have lb:=@FY b a;generalize toW a=l at *;generalize toW b=m at *;refine Ctr.pure (M:=M0) Al Tryz.func202 rfl Acb ?_;simp(disch:=(try simp only[Ad]);omega)only[Tryz.f202,↓Ac,Ae,↓reduceIte,↓reduceDIte,↓Qe,Qu,Qv,Qw,Qx,Qy,Qz,QA,QB,QC,QD,QE,QF,QG,QH,QI,QK];refine Ab.pure (Aap _ _) ?_;simp(disch:=(try simp only[Ad]);omega)only[↓Ac,Ae,↓reduceIte,↓reduceDIte,↓Qe,Qu,Qv,Qw,Qx,Qy,Qz,QA,QB,QC,QD,QE,QF,QG,QH,QI,QK];refine ⟨fun h=>?_,fun h=>?_⟩
 ·refine Vq (fun h=>?_) (fun h=>?_) (fun h'=>absurd (Fh h') h);·have:=la (by omega);omega
  have:=lb (by omega);omega
 have e:l.length=m.length:=by have:=OV.1 h;omega
 refine As.inv (α:=Nat) (fun k=>k) (fun k=>mkS 35 [(0,.d (W l)),(1,.d (W m)),(6,.d (.int .i64 ((k:Int)-1)))]) (fun _=>[]) (fun k=>k<=l.length/\l.drop k=m.drop k) l.length ⟨AbP _,by rw[Ad7,e,Ad7]⟩ (.pure ?_) ?_;·simp[mkS,SW,AW]
 rintro k ⟨hk,hv⟩;simp only[mkS,AeF,AbM,Aek,Ael];simp(disch:=(try simp only[Ad]);omega)only[↓Ac,Ae,↓reduceIte,↓reduceDIte,↓Qe,Qu,Qv,Qw,Qx,Qy,Qz,QA,QB,QC,QD,QE,QF,QG,QH,QI,QK];refine ⟨fun h=>?_,fun h=>?_⟩
 ·have e1:((k:Int)-1).toNat=k-1:=by omega
  refine Ab.pure (Aao _ _) ?_;simp(disch:=(try simp only[Ad]);omega)only[↓Ac,Ae,↓reduceIte,↓reduceDIte,↓Qe,Qu,Qv,Qw,Qx,Qy,Qz,QA,QB,QC,QD,QE,QF,QG,QH,QI,QK];refine ⟨by rfl,fun h1=>?_,fun h1=>?_⟩
  ·rw[e1,<-va,<-vb];rw[e1] at h1;refine Vq (fun h2=>?_) (fun h2=>?_) (fun h'=>absurd (Fh h') h1);·have:=NM (k:=k-1) da (by omega) (by omega) (by rw[show k-1+1=k by omega];exact hv) (by omega:l.getD (k-1) 0<m.getD (k-1) 0);omega
   have:=NM (k:=k-1) db (by omega) (by omega) (by rw[show k-1+1=k by omega];exact hv.symm) (by omega:m.getD (k-1) 0<l.getD (k-1) 0);omega
  rw[e1] at h1;have h2:=OV.1 h1;refine ⟨k-1,⟨by omega,Aai (by omega) (by omega) (by rw[show k-1+1=k by omega];exact hv) (by omega)⟩,AeG (by omega) (by decide),.pure ?_⟩;simp[SW,AW];omega
 have:k=0:=by omega
 subst this;simp only[AeA] at hv;rw[<-va,<-vb,hv];exact (Fh rfl).symm
end Num
end Go.Proofs.YtmidaophnbdcdaaGreatDoor
