/-
  Contracts of the functions, one after another.
-/
import Derived.Test.YtmidaophnbdcdaaGreatDoorZbNt2
set_option linter.all false
open Go.Abs renaming Bc->HW,Dv->BW,Cx->SW,Ap->AW,BP->sA,Bw->kZ
open Go.Proofs.Tryz renaming prog->TP
set_option maxHeartbeats 16000000
set_option maxRecDepth 100000
open Go.Abs renaming DD->Qe
open Nat renaming reduceAdd->Qu,reduceSub->Qv,reduceMul->Qw,reducePow->Qx,reduceDiv->Qy,reduceMod->Qz,reduceEqDiff->QI,reduceBEq->QK
open Int renaming reduceAdd->QA,reduceSub->QB,reduceMul->QC,reducePow->QD,reduceNeg->QE,reduceToNat->QF,reduceLT->QG,reduceLE->QH
open List renaming getElem?_cons_zero->AbY,getElem?_cons_succ->AbZ,getElem?_eq_getElem->Aeg,length_append->Aen,getD_eq_getElem?_getD->Aeq,length_cons->Aer,length_nil->Aeu,map_cons->AeB,length_set->Af1,map_nil->Af2,drop_eq_getElem_cons->Af7,getElem?_eq_some_iff->Aga,take_add_one->Agb,getElem?_append_right->Agp,nodup_cons->Agq,mem_cons->Agu,take_length->Agv,not_mem_nil->Agw,getElem?_map->Agx,getElem?_range->Agy,mem_range->Agz,range->AgC,mem_map->AgD,length_map->AgE,getElem?_zipIdx->AgF,nodup_nil->AgJ,drop_eq_nil_of_le->AgK,append_assoc->AgL,all_eq_true->AgN,mem_cons_of_mem->AgO,map_append->AgP,mem_singleton->AgQ,mem_cons_self->AgR,getElem?_zip_eq_some->AgS,length_erase_of_mem->AgT,cons_append->AgW,drop_of_length_le->AgY,length_pos_of_mem->AgZ,mem_append->Ag2,getElem?_set_ne->Ag3,mem_erase_of_ne->Ag5,contains_eq_mem->Ag7,mem_of_getElem?->Ag8,all_cons->Ag9,set_cons_zero->Ahb,set_cons_succ->Ahc,foldl_append->Ahf,any_eq_false->Ahg,length_take->Ahh,any_cons->Ahk
open Bool renaming true_and->Aes,false_and->Aet,or_eq_true->AgG,not_eq_true'->AgM,and_eq_true->AgX,true_or->Ag0,or_eq_false_iff->Ag4,not_false->Ag6,not_true->Aha,false_or->Ahl
open Nat renaming reduceMod->Aev,reduceDiv->Aew,le_refl->Aex,lt_or_ge->AeA,zero_le->AfI,eq_of_beq_eq_true->AfZ,add_assoc->Af0,lt_of_lt_of_le->AgB,add_sub_cancel_left->AgI,beq->Ag1,ne_of_gt->Ahd,sub_self->Ahe
open Option renaming getD_some->AgA,toList_some->AgH,map_some->Ahi,map_map->Ahj
open Or renaming inl->AgU,inr->AgV
open Int renaming le_refl->Ahm
namespace Go.Proofs.YtmidaophnbdcdaaGreatDoor
namespace Dst
open Go Go.Proofs Go.Abs
variable {G:Ah}
def cpt (l:List (List UInt8)):List (List UInt8):=dedup l++List.replicate (l.length-(dedup l).length) []
def SN (l:List (List UInt8)) (hl:l.length<=100000):Ctr TP G 143 [.lsl 0 1 0 l.length] [.row false (strs l)] (.lsl 0 1 0 (dedup l).length) [.row false (strs (cpt l))]:=by
 refine Ctr.body (M:=M0) Ak Tryz.func143 rfl Afn ?_;have sl:=@strs_length l;rcases AeA l.length 2 with h2 | h2
 ·have e:dedup l=l/\cpt l=l:=by
   match l,h2 with
   | [],_=>exact ⟨rfl,rfl⟩
   | [x],_=>exact ⟨rfl,rfl⟩
  rw[e.1,e.2];simp(disch:=try exact aa)only[Tryz.f143,↓Ab,Ad,Qv];exact m4
 simp(disch:=try exact aa)only[Tryz.f143,↓Ab,Ad,Qv];refine Al.fr 1 (α:=Nat) (fun i=>l.length-i) (fun i=>[(3,.d (.int .i64 i))]) (fun _=>[.row false (strs l)]) (fun i=>1<=i/\i<=l.length/\dedup (l.take i)=l.take i) 1 ⟨Aex _,lA,by
  match l,h2 with
  | x::r,_=>rfl⟩ ?_ ?_
 ·exact nj
 rintro i ⟨h1,h3,h4⟩;simp only[Bm,Aev,Aew];rcases AeA i l.length with h | h
 ·have e1:((i:Int)-1)=((i-1:Nat):Int):=by omega
  have g1:=strs_getD (l:=l) (i:=i-1) lA;have g2:=strs_getD h;have hd:=Ox h1 h;by_cases he:l.getD (i-1) []=l.getD i []
  ·rw[if_pos he] at hd;rw[he] at g1;simp(disch:=try exact aa)only[Af,sl,e1,g1,g2,beq_self_eq_true,↓Ab,Ad,↓reduceIte];refine ⟨lD,?_⟩;have hlt:(l.take i).length=i:=(by rw[Ahh];omega)
   refine Al.fr 17 (α:=Nat × Nat × List (List UInt8)) (fun x=>l.length-(i+x.1)) (fun x=>[(3,.d (.int .i64 x.2.1)),(5,.d (.int .i64 x.1))]) (fun x=>[.row false (strs x.2.2)])
    (fun x=>1<=x.1/\i+x.1<=l.length/\x.2.2.length=l.length/\x.2.1=(dedup (l.take (i+x.1))).length/\x.2.2.take x.2.1=dedup (l.take (i+x.1))/\x.2.1+1<=i+x.1/\∀ q,i+x.1<=q+1->q<l.length->x.2.2.getD q []=l.getD q [])
    (1,i,l) ⟨Aex _,h,rfl,by simp only;rw[hd,h4,hlt],by simp only;rw[hd,h4],Aex _,fun q _ _=>rfl⟩ ?_ ?_
   ·exact nj
   rintro ⟨j,k,R⟩ ⟨j1,j2,j3,j4,j5,j6,j7⟩;simp only at j1 j2 j3 j4 j5 j6 j7;have sR:=@strs_length R;simp only[Bm,Aev,Aew];rcases AeA (i+j) l.length with hj | hj
   ·have e2:((j:Int)-1)=((j-1:Nat):Int):=lA;have r1:=strs_getD (l:=R) (i:=i+j) lA;have r2:=strs_getD (l:=R) (i:=i+(j-1)) lA;rw[j7 (i+j) lA hj] at r1;rw[j7 (i+(j-1)) lA lA] at r2;have hd2:=Ox (l:=l) (i:=i+j) lA hj;rw[show i+j-1=i+(j-1) by omega] at hd2;by_cases hq:l.getD (i+(j-1)) []=l.getD (i+j) []
    ·rw[if_pos hq] at hd2;rw[hq] at r2;simp(disch:=try exact aa)only[Af,sR,j3,e2,r1,r2,beq_self_eq_true,↓Ab,Ad,↓reduceIte];exact ⟨lD,(j+1,k,R),⟨iz,hj,j3,by simp only;rw[<-Af0,hd2];exact j4,by simp only;rw[<-Af0,hd2];exact j5,iz,fun q a b=>j7 q (by simp only at a;omega) b⟩,iz,no⟩
    rw[if_neg hq] at hd2;have hne:(l.getD (i+j) [] == l.getD (i+(j-1)) [])=false:=(by simpa using fun q=>hq q.symm)
    have hk:k<R.length:=lA;have ht:(R.set k (l.getD (i+j) [])).take (k+1)=R.take k++[l.getD (i+j) []]:=(by rw[Agb,List.getElem?_set_self hk,List.take_set_of_le (Aex _)];rfl);simp(disch:=try exact aa)only[Af,sR,j3,e2,r1,r2,hne,Z1,↓Ab,Ad,↓reduceIte];exact ⟨lD,(j+1,k+1,R.set k (l.getD (i+j) [])),⟨iz,hj,by simp only[Af1];exact j3,by simp only;rw[<-Af0,hd2,Aen,<-j4];rfl,by simp only;rw[<-Af0,hd2,ht,j5],iz,fun q a b=>by simp only at a;rw[Aeq,Ag3 lA,<-Aeq];exact j7 q lA b⟩,iz,no⟩
   have hjl:i+j=l.length:=lA;rw[hjl,Agv] at j4 j5;have hrow:(strs R).take k++AQ [.str .empty] (l.length-k)++(strs R).drop l.length=strs (cpt l):=(by rw[AgY lA,List.append_nil,Vo,strs_app,j5];unfold cpt;rw[<-j4])
   have hkl:k+(l.length-k)=l.length:=lA;rw[<-j4];simp(disch:=try exact aa)only[sR,j3,hkl,Nat.mul_one,hrow,↓Ab,Ad,↓reduceIte];first
   | exact m4
   | trace_state
  rw[if_neg he,h4] at hd;have hne:(l.getD i [] == l.getD (i-1) [])=false:=by simpa using fun q=>he q.symm
  have hd2:dedup (l.take (i+1))=l.take (i+1):=by rw[hd,Agb,Aeg h,Aeq,Aeg h];rfl
  simp(disch:=try exact aa)only[Af,sl,e1,g1,g2,hne,↓Ab,Ad,↓reduceIte];exact ⟨lD,i+1,⟨lA,h,hd2⟩,iz,no⟩
 obtain rfl:i=l.length:=lA
 rw[Agv] at h4;have e:cpt l=l:=by unfold cpt;rw[h4];simp
 rw[h4,e];simp(disch:=try exact aa)only[↓Ab,Ad];exact m4
def MY:B8:=fun k=>k == 3000000
def MY_n {k:Nat} (h:k<3000000):MY k=false:=by simp only[MY,beq_eq_false_iff_ne];exact Nat.ne_of_lt h
def Tdo_cons {x:D} {r:List D} {t:List (D × Bool)} (h:Tdo (x::r) t):(∃ t',t=(x,true)::t'/\Tdo r t')\/t=[(x,false)]:=by
 match t,h with
 | (z,true)::t,h=>exact .inl ⟨t,by rw[h.1],h.2⟩
 | (z,false)::t,h=>exact .inr (by rw[h.1,h.2])
def Tdo_nil {t:List (D × Bool)} (h:Tdo [] t):t=[]:=by
 match t,h with
 | [],_=>rfl
def RM (l:List (List UInt8)) (full:Bool) (hl:l.length<=100000):OV TP G 179 [.ptr 1 0] [.box [.d (Ss l full)]] (strs l):=by
 refine OV.body (M:=MY) Ak Tryz.func179 rfl AeW ?_;intro lp J todo hJ hT;have sl:=@strs_length l;simp(disch:=try exact aa)only[Ss,MY_n,Tryz.f179,↓Ab,Ad,↓reduceIte,Qu,Qv];refine Al.fr 99 (α:=Nat × List (D × Bool)) (fun x=>l.length-x.1) (fun x=>[(7,.d (.int .i64 x.1))]) (fun x=>[.ext J x.2,.box [.d (.sl l.length full (strs l))]]) (fun x=>x.1<=l.length/\Tdo ((strs l).drop x.1) x.2) (0,todo) ⟨AfI _,hT⟩ ?_ ?_;·exact mV
 rintro ⟨i,t⟩ ⟨h1,h2⟩;simp only at h1 h2;simp only[Bm,Aev,Aew];rcases AeA i l.length with h | h
 ·have e:(strs l).drop i=S (l.getD i [])::(strs l).drop (i+1):=by
   rw[Af7 lA];simp[strs,h]
  rw[e] at h2;have g:=strs_getD h;rcases Tdo_cons h2 with ⟨t',rfl,h3⟩ | rfl
  ·simp(disch:=try exact aa)only[sl,g,MY_n,↓Ab,Ad,↓reduceIte,Qu];refine KU.by rfl hJ rfl rfl ?_;simp(disch:=try exact aa)only[MY_n,↓Ab,Ad,↓reduceIte,Qu];exact ⟨(i+1,t'),⟨h,h3⟩,iz,⟨[some 0,some 1],rfl,lC,jR,gU⟩⟩
  simp(disch:=try exact aa)only[sl,g,MY_n,↓Ab,Ad,↓reduceIte,Qu];refine KU.by rfl hJ rfl rfl ?_;simp(disch:=try exact aa)only[↓Ab,Ad,↓reduceIte,Qu];exact m4
 have e:(strs l).drop i=[]:=AgY lA;rw[e] at h2;rw[Tdo_nil h2];simp(disch:=try exact aa)only[↓Ab,Ad,Qu];exact m4
def Tk (l:List (List UInt8)) (full:Bool):Ctr TP G 145 [.d (Ss l full)] [] (.fn (.func 179) [] [.ptr 0 0]) [.box [.d (Ss l full)]]:=by refine Ctr.body (M:=M0) Ak Tryz.func145 rfl Afl ?_;simp only[Ss,Tryz.f145,↓Ab,Ad,↓reduceIte,Qv];exact mZ
def Adx:∀ {x y:List UInt8},bl x y=true↔x<y
 | [],[]=>gC
 | [],b::y=>gC
 | a::x,[]=>gC
 | a::x,b::y=>by rw[S7,List.cons_lt_cons_iff,UInt8.lt_iff_toNat_lt,Adx (x:=x) (y:=y)]
def Vw (l:List (List UInt8)):(srt l).Pairwise (fun x y=>bl y x=false):=by
 have h:=List.pairwise_mergeSort (le:=fun x y:List UInt8=>decide (x<=y)) (fun a b c h1 h2=>by simp at *;exact List.le_trans h1 h2) (fun a b=>by simp;exact List.le_total a b) l;refine h.imp fun {x y} h=>?_;simp only[decide_eq_true_eq] at h;cases hb:bl y x with
 | false=>rfl
 | true=>exact absurd (Adx.1 hb) ji
def MSt:B8:=fun k=>k == 178 || (k == 143 || k == 208)
def MSt_n {k:Nat} (h:2000000<=k):MSt k=false:=by simp only[MSt,Ag4,beq_eq_false_iff_ne];exact ⟨Ahd (AgB lz h),Ahd (AgB lz h),Ahd (AgB lz h)⟩
def OP (l:List (List UInt8)) (full:Bool) (hl:l.length<=100000):Ctr TP G 208 [.d (.sl 0 true []),.fn (.func 179) [] [.ptr 0 0]] [.box [.d (Ss l full)]] (.lsl 1 1 0 l.length) [.dead,.row false (strs l)]:=by
 refine Ctr.body (M:=M0) Ak Tryz.func208 rfl AeH ?_;have sl:=@strs_length l;simp only[Tryz.f208,↓Ab,Ad,↓reduceIte,Qu,Qv];refine JN.all (α:=Unit) (RM l full hl) [some 1,none] 0 [(2,.ptr 0 0)] (fun k _=>[.box [.lsl 1 1 0 k],.row false (strs (l.take k))]) (fun k _=>True) rfl rfl rfl rfl rfl rfl rfl lC () trivial gV (by simp[HW,BW,SW,AW,strs]) (fun _ _=>⟨rfl,rfl⟩) ?_ ?_
 ·rintro k d ⟨⟩ hk hd -;rw[strs_length] at hk;obtain ⟨y,hy,rfl⟩:=strs_get hd;have e:(l.take k).length=k:=by rw[Ahh];omega
  have st:=@strs_length (l.take k);rw[e] at st;simp only[Bm,Aew];simp(disch:=try exact aa)only[st,↓Ab,Ad,↓reduceIte,Qu];have e2:strs (l.take k)++[D.str (bs y)]=strs (l.take (k+1)):=by rw[Agb,hy];simp[strs]
  rw[e2];exact Vf.mk (⟨[some 0,some 3],rfl,lC,jR,gU⟩:DA 0 _ _ _ [.box [.lsl 1 1 0 (k+1)],.row false (strs (l.take (k+1)))]) ⟨(),rfl⟩
 rintro ⟨⟩ -;simp only[Bm,Aew];rw[List.take_of_length_le (by rw[strs_length];exact Aex _)];simp only[sl,↓Ab,Ad,↓reduceIte,Qu];exact ⟨[some 0,some 3],rfl,lC,jT,.inl kP⟩
def SO (l:List (List UInt8)) (full:Bool) (hl:l.length<=100000):Ctr TP G 177 [.fn (.func 179) [] [.ptr 0 0]] [.box [.d (Ss l full)]] (.lsl 1 1 0 l.length) [.dead,.row false (strs l)]:=by refine Ctr.body (M:=MSt) Ak Tryz.func177 rfl AeY ?_;have sl:=@strs_length l;have m1:MSt 208=true:=rfl;simp(disch:=try exact aa)only[m1,MSt_n,Tryz.f177,↓Ab,Ad,↓reduceIte,Qu,Qv];refine Aa.by (OP l full hl) rfl rfl lC ?_;simp(disch:=try exact aa)only[↓Ab,Ad,↓reduceIte,Qu,Qv];exact mE
def TB (l:List (List UInt8)) (full:Bool) (hl:l.length<=100000):Ctr TP G 144 [.fn (.func 179) [] [.ptr 0 0]] [.box [.d (Ss l full)]] (.lsl 1 1 0 l.length) [.dead,.row false (strs (srt l))]:=by refine Ctr.body (M:=MSt) Ak Tryz.func144 rfl Afm ?_;have sl:=@strs_length l;have m1:MSt 178=true:=rfl;have m2:MSt 177=false:=rfl;simp(disch:=try exact aa)only[m2,MSt_n,Tryz.f144,↓Ab,Ad,↓reduceIte,Qu,Qv];refine Aa.by (SO l full hl) rfl rfl lC ?_;simp(disch:=try exact aa)only[m1,MSt_n,↓Ab,Ad,↓reduceIte,Qu,Qv];refine Aa.by (Yj l hl) rfl rfl lC ?_;simp(disch:=try exact aa)only[MSt_n,↓Ab,Ad,↓reduceIte,Qu];exact mE
def AcV (l:List (List UInt8)):cut (strs (cpt l)) 0 (dedup l).length=strs (dedup l):=by simp[cut,cpt,strs]
def set_spec (l:List (List UInt8)) (full:Bool) (hl:l.length<=100000):Ctr TP G 104 [.d (Ss l full)] [] (.d (Ss (setL l) false)) []:=by
 refine Ctr.pure (M:=MSt) Ak Tryz.func104 rfl AfU ?_;have sl:=@strs_length l;have m1:MSt 143=true:=rfl;have m2:MSt 145=false:=rfl;have m3:MSt 144=false:=rfl;have hs:=@Vx l;have e:dedup (srt l)=setL l:=by exact VH (Vw l) (fun t=>by simp[srt])
 have cc:=AcV (srt l);have hc:=SN (G:=G) (srt l) lA;rw[e] at cc hc;simp(disch:=try exact aa)only[m2,MSt_n,Tryz.f104,↓Ab,Ad,↓reduceIte,Qu,Qv];refine Aa.by (Tk l false) rfl rfl lC ?_;simp(disch:=try exact aa)only[m3,MSt_n,↓Ab,Ad,↓reduceIte,Qu];refine Aa.by (TB l false hl) rfl rfl lC ?_;simp(disch:=try exact aa)only[m1,MSt_n,↓Ab,Ad,↓reduceIte,Qu,Qv];rw[hs] at hc;refine Aa.by hc rfl rfl lC ?_;simp(disch:=try exact aa)only[cc,Ss,↓Ab,Ad,↓reduceIte,↓Qe,Qu]
end Dst
section
open Go Go.Proofs Go.Abs
variable {G:Ah}
def WJ {l:List (List UInt8)} (h:Dst.Asc l):l.Nodup:=h.imp fun {a b} h e=>by subst e;rw[Dst.bl_irrefl] at h;cases h
def EE:∀ {l out:List (List UInt8)},l.Nodup->(∀ s∈l,s∈out)->l.length<=out.length
 | [],_,_,_=>AfI _
 | x::l,out,hn,hs=>by
   have hx:=hs x lC;have hn:=Agq.1 hn;have:=EE (l:=l) (out:=out.erase x) hn.2 (fun s h=>by have:s≠x:=fun e=>hn.1 (e▸h);exact (Ag5 this).2 (hs s (by simp[h])))
   rw[AgT hx] at this;have:0<out.length:=AgZ hx;rw[Aer];omega
def Jm:∀ {s l:List (List UInt8)},s.Nodup->(∀ x∈s,x∈l)->l.length<=s.length->l.Nodup
 | [],l,_,_,hl=>by have:l=[]:=List.length_eq_zero_iff.1 iI;rw[this];exact AgJ
 | a::s,l,hn,hs,hl=>by
   have ha:=hs a lC;have hn':=Agq.1 hn;have len:=AgT ha;have sub:∀ x∈s,x∈l.erase a:=fun x hx=>by have:x≠a:=fun e=>hn'.1 (e▸hx);exact (Ag5 this).2 (hs x kI)
   have ih:=Jm (l:=l.erase a) hn'.2 sub (by rw[len];rw[Aer] at hl;omega);have na:a∉l.erase a:=fun h=>by
    have:=EE (l:=a::s) (out:=l.erase a) hn (fun x hx=>by
     rcases Agu.1 hx with e | hx
     ·exact e▸h
     exact sub x hx)
    have p:=AgZ ha;rw[len,Aer] at this;rw[Aer] at hl;omega
   exact (List.perm_cons_erase ha).nodup_iff.2 (Agq.2 ⟨na,ih⟩)
def TE (l:Row):(Dst.setL l).length=l.length↔l.Nodup:=by
 have a:=WJ (Dst.asc_setL l);constructor;·intro h;exact Jm a (fun x hx=>Dst.mem_setL.1 hx) (Nat.le_of_eq h.symm)
 intro h;exact Nat.le_antisymm (EE a fun x hx=>Dst.mem_setL.1 hx) (EE h fun x hx=>Dst.mem_setL.2 hx)
def AbG (ks:List (List UInt8)):(ks.any fun s=>!AN s)=!ks.all AN:=by
 induction ks with
 | nil=>rfl
 | cons x l ih=>rw[Ahk,Ag9,ih,Bool.not_and]
def DJ (k:Int) (ks:List (List UInt8)) (m:Nat):Bool:=if k=6 then decide (ks.length=m) && (decide ks.Nodup && ks.all AN) else decide (ks.length=0)
mutual
def AM:Nd->Nat->Bool
 | .mk k t ks l,a=>decide (1<=k/\k<=6) && (decide (a<16) && (Cq k t && (DJ k ks l.length && ((decide (k=5\/k=6) || decide (l.length=0)) && Bv l (a+1)))))
def Bv:List Nd->Nat->Bool
 | [],_=>true
 | n::r,a=>AM n a && Bv r a
end
def IZ:∀ (l:List Nd) (a:Nat),(!(l.any fun n=>!AM n a))=Bv l a
 | [],a=>rfl
 | n::r,a=>by have ih:=IZ r a;rw[Ahk,Bv,<-ih];cases AM n a<;>rfl
mutual
def szN:Nd->Prop
 | .mk _ t ks l=>t.length<=1000000000/\ks.length<=100000/\(∀ s∈ks,s.length<=1000000000)/\l.length<=100000/\ZZ l
def ZZ:List Nd->Prop
 | []=>True
 | n::r=>szN n/\ZZ r
end
def Ft:∀ {l:List Nd},ZZ l->∀ n∈l,szN n
 | [],_,n,h=>lx
 | x::r,h,n,hn=>by
   rcases Agu.1 hn with rfl | hn
   ·exact h.1
   exact Ft h.2 n hn
def Wb (hT:HT G) (n:Nd) (hs:szN n):Ctr TP G 74 [.d (NdD n)] [] (.d (.bool (DJ n.kind n.keys n.kids.length))) []:=by
 obtain ⟨k,t,ks,l⟩:=n;obtain ⟨s1,s2,s3,s4,s5⟩:=hs;obtain ⟨r,hr⟩:∃ r,r=DJ k ks l.length:=⟨_,rfl⟩;show Ctr _ _ _ _ _ (.d (.bool (DJ k ks l.length))) _
 rw[<-hr];unfold DJ at hr;refine Ctr.pure (M:=M0) Ak Tryz.func74 rfl go74 ?_;by_cases k6:k=6
 ·subst k6;rw[if_pos rfl] at hr;by_cases e1:ks.length=l.length
  ·rw[decide_eq_true e1,Aes] at hr;simp(disch:=try exact aa)only[ndC,e1,Tryz.f74,↓Ab,Ad,↓reduceIte,Qu,Qv];refine Aa.of (Dst.set_spec ks false s2) (by rw[<-e1];rfl) ?_;have hq:=TE ks;generalize Dst.setL ks=q at *;have hany:=AbG ks;by_cases e2:ks.Nodup
   ·have h1:=hq.2 e2;rw[e1] at h1;rw[decide_eq_true e2,Aes] at hr;simp(disch:=try exact aa)only[h1,↓Ab,Ad,↓reduceIte,Qu];refine Aa.of (KF 106 (fun s=>!AN s) ks false lA (fun s h=>Wc hT s (s3 s h))) lD ?_;rw[hany,<-hr];cases r
    ·simp only[Ag6,Aha,↓Ab,Ad,↓reduceIte,↓Qe];first
     | rfl
     | exact ⟨lD,lD⟩
    simp only[Ag6,Aha,↓Ab,Ad,↓reduceIte,↓Qe];first
    | rfl
    | exact ⟨lD,lD⟩
   have h1:¬q.length=l.length:=fun c=>e2 (hq.1 (by rw[c,e1]));rw[decide_eq_false e2,Aet] at hr;subst hr;simp(disch:=try exact aa)only[↓Ab,Ad,↓reduceIte,↓Qe,Qu];first
   | rfl
   | exact ⟨lD,lD⟩
  rw[decide_eq_false e1,Aet] at hr;subst hr;simp(disch:=try exact aa)only[ndC,Tryz.f74,↓Ab,Ad,↓reduceIte,↓Qe,Qu,Qv];rfl
 rw[if_neg k6] at hr;subst hr;simp(disch:=try exact aa)only[ndC,k6,Tryz.f74,↓Ab,Ad,↓reduceIte,↓Qe,Qu,Qv];exact decide_eq_decide.2 lA
def Mr (g:FuncId) (p:Nd->Bool) (l:List Nd) (full:Bool) (fv:AV) (x:D) (hf:fv=.fn (.func g) [] [.ptr 0 0]) (hl:l.length<=1000000000) (hp:∀ c∈l,Ctr TP G g [.d (NdD c),.ptr 0 0] [.box [.d x]] (.d (.bool (p c))) [.box [.d x]]) :
  Ctr TP G 54 [.d (NdS l full),fv] [.box [.d x]] (.d (.int .i64 (ixF p l 0))) [.box [.d x]]:=by
 subst hf;refine Ctr.body (M:=M0) Ak Tryz.func54 rfl go54 ?_;have sl:=Ax l;simp only[Tryz.f54,↓Ab,Ad,Qu,Qv,QE];refine Al.fr 131 (α:=Nat) (fun i=>l.length-i) (fun i=>[(8,.d (.int .i64 i))]) (fun _=>[.box [.d x]]) (fun i=>i<=l.length/\ixF p l 0=ixF p (l.drop i) i) 0 ⟨AfI _,rfl⟩ ?_ ?_;·exact nr
 rintro i ⟨h1,h2⟩;simp only[Bm,Aev,Aew];rw[h2];rcases AeA i l.length with h | h
 ·have g:=Ca h;rw[Oc (d:=noN) h];simp(disch:=try exact aa)only[sl,g,St,↓Ab,Ad,↓reduceIte,QE];refine Aa.by (hp _ (Ds h)) lD lD lC ?_;cases hx:p (l.getD i noN)
  ·simp(disch:=try exact aa)only[↓Ab,Ad,↓reduceIte,QE];first
   | exact mh
  simp(disch:=try exact aa)only[↓Ab,Ad,↓reduceIte,QE];first
  | exact mY
 rw[AgK h,show ixF p [] (i:Int)=-1 from rfl];simp(disch:=try exact aa)only[↓Ab,Ad,QE];first
 | exact mY
def DV (g:FuncId) (p:Nd->Bool) (l:List Nd) (full:Bool) (x:D) (hl:l.length<=1000000000) (hp:∀ c∈l,Ctr TP G g [.d (NdD c),.ptr 0 0] [.box [.d x]] (.d (.bool (p c))) [.box [.d x]]) :
  Ctr TP G 28 [.d (NdS l full),.fn (.func g) [] [.ptr 0 0]] [.box [.d x]] (.d (.bool (l.any p))) [.box [.d x]]:=by
 refine Ctr.body (M:=M0) Ak Tryz.func28 rfl go28 ?_;simp only[Tryz.f28,↓Ab,Ad,↓reduceIte,Qu,Qv];refine Aa.by (Mr g p l false _ x rfl hl hp) lD lD lC ?_;have hi:=I3 (p:=p) l 0 (Ahm _);generalize ixF p l 0=q at *;rcases (by omega:0<=q\/q<0) with h | h
 ·exact oU
 have:l.any p=false:=by cases hx:l.any p with
  | false=>rfl
  | true=>have:=hi.2 hx;omega
 rw[this];exact pb
end
section
open Go Go.Proofs Go.Abs
variable {G:Ah}
def LL (hT:HT G) (hG:Num.HG G):∀ (N:Nat) (n:Nd),nsz n<=N->szN n->∀ a:Nat,a<=1000000->Ctr TP G 42 [.d (NdD n),.d (.int .i64 a)] [] (.d (.bool (AM n a))) []
 | 0,n,hN,_,_,_=>ic
 | N+1,n,hN,hz,a,ha=>by
   have hk:=Wb (G:=G) hT n hz;have hsc:=R6 (G:=G) hT hG n (by cases n;exact hz.1);have hnz:=CK n;obtain ⟨k,t,ks,l⟩:=n;obtain ⟨s1,s2,s3,s4,s5⟩:=hz;replace hnz:nsz (.mk k t ks l)=1+BG l:=hnz;replace hk:Ctr TP G 74 [.d (NdD (.mk k t ks l))] [] (.d (.bool (DJ k ks l.length))) []:=hk;replace hsc:Ctr TP G 73 [.d (NdD (.mk k t ks l))] [] (.d (.bool (Cq k t))) []:=hsc;have ih:∀ c∈l,∀ b:Nat,b<=1000000->Ctr TP G 42 [.d (NdD c),.d (.int .i64 b)] [] (.d (.bool (AM c b))) []:=fun c hc b hb =>LL hT hG N c g8 (Ft s5 c hc) b hb
   obtain ⟨r,hr⟩:∃ r,r=AM (.mk k t ks l) a:=⟨_,rfl⟩;rw[<-hr];rw[AM] at hr;refine Ctr.pure (M:=M0) Ak Tryz.func42 rfl go42 ?_;by_cases kr:1<=k/\k<=6
   ·rw[decide_eq_true kr,Aes] at hr;by_cases a16:a<16
    ·rw[decide_eq_true a16,Aes] at hr;have hv1:∀ c∈l,Ctr TP G 75 [.d (NdD c),.ptr 0 0] [.box [.d (.int .i64 a)]] (.d (.bool (!AM c (a+1)))) [.box [.d (.int .i64 a)]]:=by
      intro c hc;have ihc:=ih c hc (a+1) lA;generalize AM c (a+1)=z at *;obtain ⟨ck,ct,cks,cl⟩:=c;refine Ctr.body (M:=M0) Ak Tryz.func75 rfl go75 ?_;simp(disch:=try exact aa)only[ndC,Tryz.f75,↓Ab,Ad,↓reduceIte,Qu,Qv];first
      | (refine Aa.of ihc lD ?_)
      simp only[↓Ab,Ad,Qu];first
      | exact mY
     by_cases k5:k=5
     ·subst k5;rw[decide_eq_true (Or.inl rfl)] at hr;simp(disch:=try exact aa)only[ndC,Tryz.f42,↓Ab,Ad,↓reduceIte,Qu,Qv];refine Aa.of hsc lD ?_;cases e1:Cq 5 t
      ·rw[e1,Aet] at hr;subst hr;simp only[↓Ab,Ad,↓reduceIte,↓Qe,Qu];first
       | done
       | rfl
      rw[e1,Aes] at hr;simp(disch:=try exact aa)only[↓Ab,Ad,↓reduceIte,Qu];refine Aa.of hk lD ?_;cases e2:DJ 5 ks l.length
      ·rw[e2,Aet] at hr;subst hr;simp only[↓Ab,Ad,↓reduceIte,↓Qe,Qu];first
       | done
       | rfl
      rw[e2,Aes] at hr;simp(disch:=try exact aa)only[↓Ab,Ad,↓reduceIte,Qu];rw[Ag0,Aes] at hr;refine Aa.by (DV 75 (fun n=>!AM n (a+1)) l false (.int .i64 a) lA hv1) lD lD lC ?_;have hany:=IZ l (a+1);rw[<-hany] at hr;generalize (l.any fun n=>!AM n (a+1))=z at *;subst hr;simp(disch:=try exact aa)only[↓Ab,Ad,↓reduceIte,↓Qe,Qu];first
      | done
      | rfl
     by_cases k6:k=6
     ·subst k6;rw[decide_eq_true (Or.inr rfl)] at hr;simp(disch:=try exact aa)only[ndC,Tryz.f42,↓Ab,Ad,↓reduceIte,Qu,Qv];refine Aa.of hsc lD ?_;cases e1:Cq 6 t
      ·rw[e1,Aet] at hr;subst hr;simp only[↓Ab,Ad,↓reduceIte,↓Qe,Qu];first
       | done
       | rfl
      rw[e1,Aes] at hr;simp(disch:=try exact aa)only[↓Ab,Ad,↓reduceIte,Qu];refine Aa.of hk lD ?_;cases e2:DJ 6 ks l.length
      ·rw[e2,Aet] at hr;subst hr;simp only[↓Ab,Ad,↓reduceIte,↓Qe,Qu];first
       | done
       | rfl
      rw[e2,Aes] at hr;simp(disch:=try exact aa)only[↓Ab,Ad,↓reduceIte,Qu];rw[Ag0,Aes] at hr;refine Aa.by (DV 75 (fun n=>!AM n (a+1)) l false (.int .i64 a) lA hv1) lD lD lC ?_;have hany:=IZ l (a+1);rw[<-hany] at hr;generalize (l.any fun n=>!AM n (a+1))=z at *;subst hr;simp(disch:=try exact aa)only[↓Ab,Ad,↓reduceIte,↓Qe,Qu];first
      | done
      | rfl
     rw[decide_eq_false (show ¬(k=5\/k=6) by omega)] at hr;simp(disch:=try exact aa)only[ndC,k5,k6,Tryz.f42,↓Ab,Ad,↓reduceIte,Qu,Qv];refine Aa.of hsc lD ?_;cases e1:Cq k t
     ·rw[e1,Aet] at hr;subst hr;simp only[↓Ab,Ad,↓reduceIte,↓Qe,Qu];first
      | done
      | rfl
     rw[e1,Aes] at hr;simp(disch:=try exact aa)only[↓Ab,Ad,↓reduceIte,Qu];refine Aa.of hk lD ?_;cases e2:DJ k ks l.length
     ·rw[e2,Aet] at hr;subst hr;simp only[↓Ab,Ad,↓reduceIte,↓Qe,Qu];first
      | done
      | rfl
     rw[e2,Aes] at hr;simp(disch:=try exact aa)only[↓Ab,Ad,↓reduceIte,↓Qe,Qu];by_cases e3:l.length=0
     ·rw[decide_eq_true e3,Bool.or_true,Aes] at hr;simp(disch:=try exact aa)only[e3,Ad];refine Aa.by (DV 75 (fun n=>!AM n (a+1)) l false (.int .i64 a) lA hv1) (by rw[show NdS l false=.sl 0 false (AH l) by rw[<-e3]]) lD lC ?_;have hany:=IZ l (a+1);rw[<-hany] at hr;generalize (l.any fun n=>!AM n (a+1))=z at *;subst hr;simp(disch:=try exact aa)only[↓Ab,Ad,↓reduceIte,↓Qe,Qu];first
      | done
      | rfl
     rw[decide_eq_false e3,Bool.or_false,Aet] at hr;subst hr;simp(disch:=try exact aa)only[Ad];first
     | done
     | rfl
    rw[decide_eq_false a16,Aet] at hr;subst hr;simp(disch:=try exact aa)only[ndC,Tryz.f42,↓Ab,Ad,↓reduceIte,↓Qe,Qu,Qv];first
    | done
    | rfl
   rw[decide_eq_false kr,Aet] at hr;subst hr;rcases (by omega:k<1\/6<k) with h | h
   ·simp(disch:=try exact aa)only[ndC,Tryz.f42,↓Ab,Ad,↓reduceIte,↓Qe,Qu,Qv];first
    | done
    | rfl
   simp(disch:=try exact aa)only[ndC,Tryz.f42,↓Ab,Ad,↓reduceIte,↓Qe,Qu,Qv];first
   | done
   | rfl
def MR:B8:=fun k=>Ag1 k 4000059 || (Ag1 k 4000097 || Ag1 k 4000060)
def Zx:MR 4000059=true:=rfl
def Zw:MR 4000097=true:=rfl
def Zv:MR 4000060=true:=rfl
def WS {k:Nat} (h:¬(k=4000059\/k=4000097\/k=4000060)):MR k=false:=by
 cases e:MR k with
 | false=>rfl
 | true =>
  unfold MR at e;simp only[AgG] at e;rcases e with e | e | e
  ·exact qt
  ·exact qn
  exact absurd (.inr (.inr (AfZ e))) h
abbrev ndB (n:Nd):Ae:=.box ((ndC n).map .d)
def Ac7 (L:Rl->Nat) (s:Ly) (H:List Ae) (l:List Nd) (front:List UInt8) (ks:List (List UInt8)) (k:Nat) (x:(Rl->Nat) × List Ae):Prop :=
 BT x.1 (s.kid l front ks k) x.2/\C7 L s H x.1 (s.kid l front ks k) x.2/\NoX x.2
def RecT (G:Ah) (l:List Nd) (front:List UInt8) (ks:List (List UInt8)) (k:Nat) (x y:(Rl->Nat) × List Ae):Prop :=
 x.2.length+1<=y.2.length /\
 ((l.getD k noN).kind=6->Ctr TP G 59 [.ptr (x.1 (.n 0)) 0,.mp (x.1 (.n 1)),.d (S (front++ks.getD k []++[46])),.d (NdD (l.getD k noN))] (x.2++[ndB (l.getD k noN)]) (.d (.tup [])) y.2) /\
 ((l.getD k noN).kind=5->Ctr TP G 97 [.ptr (x.1 (.n 0)) 0,.d (S (front++ks.getD k [])),.d (NdS (l.getD k noN).kids false)] (x.2++[ndB (l.getD k noN)]) (.d (.tup [])) y.2) /\
 (¬(l.getD k noN).kind=6->¬(l.getD k noN).kind=5->Ctr TP G 60 [.ptr (x.1 (.n 0)) 0,.mp (x.1 (.n 1)),.d (S (front++ks.getD k [])),.d (NdD (l.getD k noN))] (x.2++[ndB (l.getD k noN)]) (.d (.tup [])) y.2)
def NE:∀ (N:Nat) (n:Nd),nsz n<=N->∀ {L:Rl->Nat} {s:Ly} {H:List Ae} {B:Nat} (front:List UInt8),BT L s H->0<s.rows.length->NoX H->Hp n->n.kind=6->LyB s B->B+nsz n<=1000000->front.length+200000*nsz n<=1000000000 ->
  ∃ L' H',Ctr TP G 59 [.ptr (L (.n 0)) 0,.mp (L (.n 1)),.d (S front),.d (NdD n)] H (.d (.tup [])) H'/\BT L' (s.parts (DT n front)) H'/\C7 L s H L' (s.parts (DT n front)) H'/\NoX H'
 | 0,n,hN,L,s,H,B,front,h,hr,h0,hok,h6,hB,hB2,hfr=>ic
 | N+1,n,hN,L,s,H,B,front,h,hr,h0,hok,h6,hB,hB2,hfr=>by
   obtain ⟨k6,nt,ks,l⟩:=n;have hk6:k6=6:=h6;subst hk6;rw[TV] at hok;obtain ⟨ok1,ok2,ok3⟩:=hok;have okl:ks.length=l.length:=ok1 rfl;have okk:∀ s∈ks,s.length<=100000:=ok2;have hsz:nsz (.mk 6 nt ks l)=1+BG l:=rfl;have hll:=CP l;rw[hsz] at hN hB2 hfr;have hst:∀ k,k<l.length->∀ x,Ac7 L s (H++[ndB (.mk 6 nt ks l)]) l front ks k x->∃ y,RecT G l front ks k x y/\Ac7 L s (H++[ndB (.mk 6 nt ks l)]) l front ks (k+1) y:=by
    intro k hk x hx;obtain ⟨L1,H1⟩:=x;obtain ⟨i1,i2,i3⟩:=hx;simp only at i1 i2 i3;have i1':=i1.app [ndB (l.getD k noN)];have i2':=C7.app L1 (s.kid l front ks k) H1 [ndB (l.getD k noN)];have i3':NoX (H1++[ndB (l.getD k noN)]):=i3.app kE;have hrk:(s.kid l front ks k).rows.length=s.rows.length:=s.kid_rows l front ks k;have hbk:=hB.kid l front ks k lA;have hbk2:=hB.kid l front ks (k+1) lA;have hsucc:=Lo hk;have hle:=Xy l (k+1);have hkm:l.getD k noN∈l:=Ds hk;have hkz:=CK (l.getD k noN);have hkl:=CP (l.getD k noN).kids;have hkey:(ks.getD k []).length<=100000:=okk _ (Ds lA);have hlen1:(H1++[ndB (l.getD k noN)]).length=H1.length+1:=lC
    have hsk:=s.kid_succ l front ks k;have hpo:partO (l.getD k noN) (front++ks.getD k [])=if (l.getD k noN).kind=6 then DT (l.getD k noN) (front++ks.getD k []++[46]) else if (l.getD k noN).kind=5 then [.l (front++ks.getD k []) (l.getD k noN).kids] else [.c (front++ks.getD k []) (Cf (l.getD k noN))]:=rfl
    have hnz:=Df hkm;by_cases c6:(l.getD k noN).kind=6;·rw[if_pos c6] at hpo;obtain ⟨L',H',r1,r2,r3,r4⟩:=NE N (l.getD k noN) lA (B:=B+Ud l k) (front++ks.getD k []++[46]) i1' lA i3' (Ju ok3 _ hkm) c6 hbk lA eU;rw[hpo] at hsk;rw[<-hsk] at r2 r3;have:=r3.len;exact ⟨(L',H'),⟨dB,fun _=>r1,fun q=>lA,fun q=>absurd c6 q⟩,r2,i2.trans (i2'.trans r3),r4⟩
    rw[if_neg c6] at hpo;by_cases c5:(l.getD k noN).kind=5;·rw[if_pos c5] at hpo;have hit:=hbk.it (front++ks.getD k []);obtain ⟨L',H',r1,r2,r3,r4⟩:=AaR (G:=G) i1' lA i3' (front++ks.getD k []) (l.getD k noN).kids false ⟨by have:=hbk.lists;omega,hbk.rows⟩ lA;rw[hpo,Ly.parts_one] at hsk;have e:(s.kid l front ks k).part (.l (front++ks.getD k []) (l.getD k noN).kids)=(s.kid l front ks k).list (front++ks.getD k []) (l.getD k noN).kids:=rfl;rw[e] at hsk;rw[<-hsk] at r2 r3;have:=r3.len;exact ⟨(L',H'),⟨dB,fun q=>absurd q c6,fun _=>r1,fun _ q=>absurd c5 q⟩,r2,i2.trans (i2'.trans r3),r4⟩
    rw[if_neg c5] at hpo;obtain ⟨L',H',r1,r2,r3,r4⟩:=Ns (G:=G) i1' lA i3' (front++ks.getD k []) (l.getD k noN) ⟨by have:=hbk.paths;omega,hbk.rows⟩ (by simp only[Aen];omega);rw[hpo,Ly.parts_one] at hsk;have e:(s.kid l front ks k).part (.c (front++ks.getD k []) (Cf (l.getD k noN)))=(s.kid l front ks k).single (front++ks.getD k []) (Cf (l.getD k noN)):=rfl;rw[e] at hsk;rw[<-hsk] at r2 r3;have:=r3.len;exact ⟨(L',H'),⟨dB,fun q=>absurd q c6,fun q=>absurd q c5,fun _ _=>r1⟩,r2,i2.trans (i2'.trans r3),r4⟩
   obtain ⟨f,f0,fI,fT⟩:=Lb (Ac7 L s (H++[ndB (.mk 6 nt ks l)]) l front ks) (RecT G l front ks) l.length (L,H++[ndB (.mk 6 nt ks l)])
    ⟨h.app _,C7.refl _ _ _,h0.app kE⟩ hst
   have hall:=s.kid_all l front ks okl;have fE:=fI l.length (Aex _);unfold Ac7 at fE;rw[hall] at fE;refine ⟨(f l.length).1,(f l.length).2,Ctr.bodyI (M:=MR) Ak Tryz.func59 rfl go59 fE.2.2.ok ?_,fE.1,(C7.app L s H _).trans fE.2.1,fE.2.2⟩;have nl:=Ax l;have sl:=@strs_length ks;simp(disch:=try exact aa)only[Tryz.f59,WS,ndC,AA,↓Ab,Ad,↓reduceIte,Qu,Qv];refine Al.frI 12423 (α:=Nat) (fun k=>l.length-k) (fun k=>[(14,.d (.int .i64 k))]) (fun k=>(f k).2) (fun k=>k<=l.length) 0 (AfI _) ?_ ?_
   ·rw[f0];first
    | exact .slots jc
   intro k hkk;simp only[Bm,Aev,Aew];rcases AeA k l.length with hlt | hge
   ·obtain ⟨t1,t2,t3,t4⟩:=fT k hlt;obtain ⟨i1,i2,i3⟩:=fI k hkk;have hb:(f k).2[H.length]?=some (ndB (.mk 6 nt ks l)):=by
     rw[i2.keep H.length lC (fun a ha=>by have:=h.lt a ha;omega),A0 (Aex _),Ahe];rfl
    have hln:=i2.len;simp only[Aen,Aer,Aeu] at hln;have k0:(f k).1 (.n 0)=L (.n 0):=i2.n0;have k1:(f k).1 (.n 1)=L (.n 1):=i2.n1;rw[k0,k1] at t2 t4;rw[k0] at t3;have g:=Ca hlt;have gk:=strs_getD (l:=ks) (i:=k) lA;have hkey:(ks.getD k []).length<=100000:=okk _ (Ds lA);generalize hHk:(f k).2=Hk at *;generalize hkd:l.getD k noN=kd at *;obtain ⟨ka,kb,kc,kl⟩:=kd;generalize ks.getD k []=key at *;have hbb:Hk[H.length]?=some (.box [.d (.int .i64 6),.d (S nt),.d (Ss ks false),.d (NdS l false)]):=hb;by_cases c6:ka=6
    ·subst c6;simp(disch:=try exact aa)only[Af,WS,Zx,hbb,g,gk,nl,sl,ndC,AA,↓Ab,Ad,↓reduceIte,Qu];rw[AgL] at t2;refine Au.go (t2 rfl) lS eU ?_;simp(disch:=try exact aa)only[WS,↓Ab,Ad];first
     | exact nf
    by_cases c5:ka=5
    ·subst c5;simp(disch:=try exact aa)only[Af,WS,Zw,hbb,g,gk,nl,sl,ndC,AA,↓Ab,Ad,↓reduceIte,Qu];refine Au.go (t3 rfl) ⟨.inl rfl,.inl rfl,.inl rfl,trivial⟩ eU ?_;simp(disch:=try exact aa)only[WS,↓Ab,Ad];first
     | exact nf
    simp(disch:=try exact aa)only[Af,WS,Zv,c6,c5,hbb,g,gk,nl,sl,ndC,AA,↓Ab,Ad,↓reduceIte,Qu];refine Au.go (t4 c6 c5) lS eU ?_;simp(disch:=try exact aa)only[WS,↓Ab,Ad];first
    | exact nf
   obtain rfl:k=l.length:=lA
   simp(disch:=try exact aa)only[↓Ab,Ad];first
   | exact RetI.unit
def LU (L:Rl->Nat) (n:Nat):List AV:=(AgC n).map fun i=>.mp (L (.n (8+i)))
def Sc (L:Rl->Nat) (n:Nat):(LU L n).length=n:=by simp[LU]
def FM (L:Rl->Nat) (n N:Nat):Rl->Nat:=BA (BA (BA L 2 (N+1)) 4 (N+4)) (8+n) (N+2)
def BT.newrow {L:Rl->Nat} {s:Ly} {H K:List Ae} (h:BT L s H) {N:Nat} {a:Int} (hN:H.length<=N) (hK:N+4<K.length) (hl:H.length<=K.length)
  (k0:K[L (.n 0)]?=some (.box [.d (.bool s.further),.lsl (N+1) 1 0 (s.above.length+1),.lsl (L (.n 3)) 1 0 s.paths.length,.lsl (N+4) 1 0 (s.rows.length+1),.lsl (L (.n 5)) 1 0 s.lists.length,.mp (L (.n 6)),.mp (L (.n 7))]))
  (k2:K[N+1]?=some (.row false (Ar .i64 (s.above++[a])))) (k4:K[N+4]?=some (.box (LU L s.rows.length++[.mp (N+2)]))) (k8:K[N+2]?=some (.map []))
  (kr:∀ a,BF s a->a≠.n 0->a≠.n 2->a≠.n 4->K[L a]?=H[L a]?):BT (FM L s.rows.length N) (s.row a) K:=by
 have ok:∀ k,k<8+s.rows.length->BF s (.n k):=fun k hk=>hk;have ne:∀ {k j:Nat},k≠j->Rl.n k≠Rl.n j:=fun h e=>h jV;have s2:FM L s.rows.length N (.n 2)=N+1:=by unfold FM;rw[A7 _ _ lA,A7 _ _ lz,DC]
 have s4:FM L s.rows.length N (.n 4)=N+4:=by unfold FM;rw[A7 _ _ lA,DC]
 have s8:FM L s.rows.length N (.n (8+s.rows.length))=N+2:=by unfold FM;rw[DC]
 have sk:∀ k,k≠2->k≠4->k≠8+s.rows.length->FM L s.rows.length N (.n k)=L (.n k):=fun k h2 h4 h8=>by unfold FM;rw[A7 _ _ h8,A7 _ _ h4,A7 _ _ h2]
 have get:∀ k,k<8+s.rows.length->k≠0->k≠2->k≠4->K[FM L s.rows.length N (.n k)]?=H[L (.n k)]?:=fun k hk h0 h2 h4=>by rw[sk k h2 h4 lA];exact kr _ (ok k hk) (ne h0) (ne h2) (ne h4)
 have lr:(s.row a).rows.length=s.rows.length+1:=jG
 have key:∀ x,BF (s.row a) x->(x=.n 2/\FM L s.rows.length N x=N+1)\/(x=.n 4/\FM L s.rows.length N x=N+4)\/(x=.n (8+s.rows.length)/\FM L s.rows.length N x=N+2) \/
   (x≠.n 2/\x≠.n 4/\x≠.n (8+s.rows.length)/\BF s x/\FM L s.rows.length N x=L x/\L x<H.length):=by
  intro x hx;cases x with
  | n k =>
   have hk:k<8+(s.row a).rows.length:=hx;rw[lr] at hk;by_cases e2:k=2;·subst e2;exact .inl ⟨rfl,s2⟩
   by_cases e4:k=4;·subst e4;exact .inr (.inl ⟨rfl,s4⟩)
   by_cases e8:k=8+s.rows.length;·subst e8;exact .inr (.inr (.inl ⟨rfl,s8⟩))
   have hk':BF s (.n k):=ok k lA;exact .inr (.inr (.inr ⟨ne e2,ne e4,ne e8,hk',sk k e2 e4 e8,h.lt _ hk'⟩))
  | i q=>exact .inr (.inr (.inr ⟨lC,lC,lC,hx,rfl,h.lt (.i q) hx⟩))
 refine ⟨fun x y hx hy e=>?_,fun x hx=>?_,?_,?_,?_,?_,?_,?_,?_,?_,?_,?_⟩
 ·rcases key x hx with ⟨a1,a2⟩ | ⟨a1,a2⟩ | ⟨a1,a2⟩ | ⟨_,_,_,a4,a5,a6⟩<;>rcases key y hy with ⟨b1,b2⟩ | ⟨b1,b2⟩ | ⟨b1,b2⟩ | ⟨_,_,_,b4,b5,b6⟩ <;>
   first
    | (rw[a1,b1];done)
    | omega
    | exact h.inj x y a4 b4 (by rw[<-a5,<-b5];exact e)
 ·rcases key x hx with ⟨a1,a2⟩ | ⟨a1,a2⟩ | ⟨a1,a2⟩ | ⟨_,_,_,a4,a5,a6⟩<;>omega
 ·rw[sk 0 lz lz lA,s2,sk 3 lz lz lA,s4,sk 5 lz lz lA,sk 6 lz lz lA,sk 7 lz lz lA,k0,lr];simp[Ly.row]
 ·rw[get 1 lA lz lz lz];exact h.seen
 ·rw[s2];exact k2
 ·rw[get 3 lA lz lz lz];exact h.paths
 ·rw[s4,k4,lr];unfold Kj LU;rw[if_neg lA,List.range_succ,AgP,AeB,Af2,s8];congr 3;refine List.map_congr_left fun i hi=>?_;have:=Agz.1 hi;rw[sk _ lA lA lA]
 ·rw[get 5 lA lz lz lz];exact h.lists
 ·rw[get 6 lA lz lz lz];exact h.items
 ·rw[get 7 lA lz lz lz];exact h.sev
 ·intro i hi;by_cases e:i=s.rows.length
  ·subst e;refine ⟨[],by rw[s8];exact k8,IF.nil,fun p=>?_⟩;have e1:(s.row a).rows[s.rows.length]=fun _=>none:=by
    simp only[Ly.row];rw[List.getElem_append_right (Aex _)];simp
   rw[JT,e1];rfl
  have hi':i<s.rows.length:=by rw[lr] at hi;omega
  have e1:(s.row a).rows[i]=s.rows[i]:=by simp only[Ly.row];rw[List.getElem_append_left hi']
  rw[get (8+i) lA lA lA lA,e1];exact h.row i hi'
 intro q hq;have e:K[L (.i q)]?=H[L (.i q)]?:=kr (.i q) hq lC lC lC;show K[L (.i q)]?=_
 rw[e];exact qE
def Aac {L:Rl->Nat} {s:Ly} {H:List Ae} {N:Nat} {a:Int} (hN:H.length<=N) {x:Rl} (hx:BF (s.row a) x):(∃ b,BF s b/\L b=FM L s.rows.length N x)\/H.length<=FM L s.rows.length N x:=by
 cases x with
 | n k =>
  have hk:k<8+(s.row a).rows.length:=hx;simp only[Ly.row,Aen,Aer,Aeu] at hk;unfold FM;by_cases e8:k=8+s.rows.length;·subst e8;rw[DC];exact .inr lA
  rw[A7 _ _ e8];by_cases e4:k=4;·subst e4;rw[DC];exact .inr lA
  rw[A7 _ _ e4];by_cases e2:k=2;·subst e2;rw[DC];exact .inr lA
  rw[A7 _ _ e2];exact .inl ⟨.n k,eT,rfl⟩
 | i q=>exact .inl ⟨.i q,hx,rfl⟩
def Gd (L:Rl->Nat) (s:Ly) (H:List Ae) (e:Elm):List Ae :=
 ((((H.set (L (.n 2)) .dead).set (L (.n 0)) (.box [.d (.bool s.further),.lsl (H.length+2) 1 0 (s.above.length+1),.lsl (L (.n 3)) 1 0 s.paths.length,.lsl (L (.n 4)) 1 0 s.rows.length,.lsl (L (.n 5)) 1 0 s.lists.length,.mp (L (.n 6)),.mp (L (.n 7))])).set (L (.n 4)) .dead).set (L (.n 0))
  (.box [.d (.bool s.further),.lsl (H.length+2) 1 0 (s.above.length+1),.lsl (L (.n 3)) 1 0 s.paths.length,.lsl (H.length+5) 1 0 (s.rows.length+1),.lsl (L (.n 5)) 1 0 s.lists.length,.mp (L (.n 6)),.mp (L (.n 7))])) ++
  [.box ((Ex e).map .d),.row false (Ar .i64 [e.1]),.row false (Ar .i64 (s.above++[e.1])),.map [],.box [.mp (H.length+3)],.box (LU L s.rows.length++[.mp (H.length+3)])]
def FR (L:Rl->Nat) (s:Ly) (H:List Ae) (e:Elm):(Gd L s H e).length=H.length+6:=by simp[Gd]
def Aae {L:Rl->Nat} {s:Ly} {H:List Ae} (h:BT L s H) (e:Elm):BT (FM L s.rows.length (H.length+1)) (s.row e.1) (Gd L s H e)/\C7 L s H (FM L s.rows.length (H.length+1)) (s.row e.1) (Gd L s H e):=by
 have ok:∀ k,k<8+s.rows.length->BF s (.n k):=fun k hk=>hk;have l0:=h.lt _ (ok 0 lA);have hlen:=FR L s H e;constructor
 ·refine h.newrow (N:=H.length+1) lA lA lA ?_ ?_ ?_ ?_ fun a ha a0 a2 a4=>?_;·unfold Gd;rw[Ay iZ,A8 iZ]
  ·show (Gd L s H e)[H.length+2]?=_
   unfold Gd;rw[A0 lC];simp
  ·show (Gd L s H e)[H.length+5]?=_
   unfold Gd;rw[A0 lC];simp
  ·show (Gd L s H e)[H.length+3]?=_
   unfold Gd;rw[A0 lC];simp
  have la:=h.lt a ha;unfold Gd;rw[Ay i7,Ao (h.ne (ok 0 lA) ha (Ne.symm a0)),Ao (h.ne (ok 4 lA) ha (Ne.symm a4)),Ao (h.ne (ok 0 lA) ha (Ne.symm a0)),Ao (h.ne (ok 2 lA) ha (Ne.symm a2))]
 refine ⟨?_,?_,lA,fun i hi hr=>?_,fun x hx=>Aac (a:=e.1) lA hx⟩;·unfold FM;rw[A7 _ _ lA,A7 _ _ lz,A7 _ _ lz]
 ·unfold FM;rw[A7 _ _ lA,A7 _ _ lz,A7 _ _ lz]
 unfold Gd;rw[Ay iQ,Ao (hr _ (ok 0 lA)),Ao (hr _ (ok 4 lA)),Ao (hr _ (ok 0 lA)),Ao (hr _ (ok 2 lA))]
def Aad {L:Rl->Nat} {s:Ly} {H:List Ae} (h:NoX H) (e:Elm):NoX (Gd L s H e):=by unfold Gd;exact ((((h.set _ lC).set _ lC).set _ lC).set _ lC).app kE
def MG:B8:=fun k=>Ag1 k 2000042 || (Ag1 k 4000059 || Ag1 k 4000060)
def MJ:MG 2000042=true:=rfl
def Vj:MG 4000059=true:=rfl
def Vi:MG 4000060=true:=rfl
def MH {k:Nat} (h:¬(k=2000042\/k=4000059\/k=4000060)):MG k=false:=by
 cases e:MG k with
 | false=>rfl
 | true =>
  unfold MG at e;simp only[AgG] at e;rcases e with e | e | e
  ·exact qt
  ·exact qn
  exact absurd (.inr (.inr (AfZ e))) h
def gK (recs further:Bool) (l:List Elm) (k:Nat):Ly:=(l.take k).foldl (Ly.elm recs) (ly0 further)
def I5 (recs further:Bool) (l:List Elm) {k:Nat} (h:k<l.length):gK recs further l (k+1)=(gK recs further l k).elm recs (l.getD k noE):=by unfold gK;rw[Agb,Aeg h,Ahf,Aeq,Aeg h];rfl
def Aa5 (further:Bool) (l:List Elm):gK (!l.any C3) further l l.length=A1 further l:=by unfold gK A1;rw[Agv]
def C8:List Elm->Nat
 | []=>0
 | e::r=>nsz e.2+C8 r
def Ir:∀ l:List Elm,l.length<=C8 l
 | []=>Aex _
 | e::r=>by have:=Ir r;have:=Cv e.2;rw[C8,Aer];omega
def Ov (a b:List Elm):C8 (a++b)=C8 a+C8 b:=by
 induction a with
 | nil=>simp[C8]
 | cons x r ih=>simp only[AgW,C8,ih];omega
def Q7 (l:List Elm) (k:Nat):C8 (l.take k)<=C8 l:=by have:=Ov (l.take k) (l.drop k);rw[List.take_append_drop] at this;omega
def Lz {l:List Elm} {k:Nat} (h:k<l.length):C8 (l.take (k+1))=C8 (l.take k)+nsz (l.getD k noE).2:=by rw[Agb,Aeg h,Ov,Aeq,Aeg h];simp[C8]
def LyB.row {s:Ly} {B:Nat} (h:LyB s B) (a:Int) (hr:s.rows.length+1<=1000000000):LyB (s.row a) B:=⟨h.paths,h.lists,by simpa[Ly.row] using hr,h.it⟩
def Ly.elm_rows (recs:Bool) (s:Ly) (e:Elm):(s.elm recs e).rows.length=s.rows.length+1:=by unfold Ly.elm;rw[Ly.parts_rows];simp[Ly.row]
def LyB.elm {s:Ly} {B:Nat} (h:LyB s B) (recs:Bool) (e:Elm) (hr:s.rows.length+1<=1000000000):LyB (s.elm recs e) (B+nsz e.2):=by
 unfold Ly.elm;split;·exact LyB.parts e.2 [] (h.row e.1 hr)
 rw[Ly.parts_one];have:=Cv e.2;exact ((h.row e.1 hr).single _ _).mono lA
def I6 (recs further:Bool) (l:List Elm):∀ k,k<=l.length->(gK recs further l k).rows.length=k
 | 0,_=>rfl
 | k+1,h=>by rw[I5 recs further l lA,Ly.elm_rows,I6 recs further l k lA]
def SF (recs further:Bool) (l:List Elm) (hl:l.length<=1000000):∀ k,k<=l.length->LyB (gK recs further l k) (C8 (l.take k))
 | 0,_=>⟨AfI _,AfI _,AfI _,fun _=>AfI _⟩
 | k+1,h=>by rw[I5 recs further l lA,Lz lA];exact (SF recs further l hl k lA).elm recs _ (by rw[I6 recs further l k lA];omega)
def Xn (L:Rl->Nat) (s:Ly) (H:List Ae) (a k:Int) (t:List UInt8) (ks:List (List UInt8)) (l:List Nd):Gd L s H (a,.mk k t ks l)=((((H.set (L (.n 2)) .dead).set (L (.n 0)) (.box [.d (.bool s.further),.lsl (H.length+2) 1 0 (s.above.length+1),.lsl (L (.n 3)) 1 0 s.paths.length,.lsl (L (.n 4)) 1 0 s.rows.length,.lsl (L (.n 5)) 1 0 s.lists.length,.mp (L (.n 6)),.mp (L (.n 7))])).set (L (.n 4)) .dead).set (L (.n 0)) (.box [.d (.bool s.further),.lsl (H.length+2) 1 0 (s.above.length+1),.lsl (L (.n 3)) 1 0 s.paths.length,.lsl (H.length+5) 1 0 (s.rows.length+1),.lsl (L (.n 5)) 1 0 s.lists.length,.mp (L (.n 6)),.mp (L (.n 7))]))++[.box [.d (.int .i64 a),.d (.int .i64 k),.d (S t),.d (Ss ks false),.d (.sl l.length false (AH l))],.row false [.int .i64 a],.row false (Ar .i64 s.above++[.int .i64 a]),.map [],.box [.mp (H.length+3)],.box (LU L s.rows.length++[.mp (H.length+3)])]:=by unfold Gd;simp[Ex,ndC,Ar]
def Aaf (L:Rl->Nat) (s:Ly) (H:List Ae) (a k:Int) (t:List UInt8) (ks:List (List UInt8)) (l:List Nd) (hn:s.rows.length=0):Gd L s H (a,.mk k t ks l)=((((H.set (L (.n 2)) .dead).set (L (.n 0)) (.box [.d (.bool s.further),.lsl (H.length+2) 1 0 (s.above.length+1),.lsl (L (.n 3)) 1 0 s.paths.length,.lsl (L (.n 4)) 1 0 s.rows.length,.lsl (L (.n 5)) 1 0 s.lists.length,.mp (L (.n 6)),.mp (L (.n 7))])).set (L (.n 4)) .dead).set (L (.n 0)) (.box [.d (.bool s.further),.lsl (H.length+2) 1 0 (s.above.length+1),.lsl (L (.n 3)) 1 0 s.paths.length,.lsl (H.length+5) 1 0 1,.lsl (L (.n 5)) 1 0 s.lists.length,.mp (L (.n 6)),.mp (L (.n 7))]))++[.box [.d (.int .i64 a),.d (.int .i64 k),.d (S t),.d (Ss ks false),.d (.sl l.length false (AH l))],.row false [.int .i64 a],.row false (Ar .i64 s.above++[.int .i64 a]),.map [],.box [.mp (H.length+3)],.box [.mp (H.length+3)]]:=by rw[Xn];simp[hn,LU]
def Ly.parts_above (s:Ly):∀ l:List Pt,(s.parts l).above=s.above
 | []=>rfl
 | q::r=>by
   have:=Ly.parts_above (s.part q) r;have e:(s.part q).above=s.above:=by
    cases q with
    | c p x=>rfl
    | l p k =>
     show (s.list p k).above=_
     unfold Ly.list;split<;>rfl
   rw[e] at this;exact this
def Oj (recs further:Bool) (l:List Elm):∀ k,k<=l.length->(gK recs further l k).above.length=k
 | 0,_=>rfl
 | k+1,h=>by rw[I5 recs further l lA];unfold Ly.elm;rw[Ly.parts_above];have:=Oj recs further l k lA;simp[Ly.row,this]
def Ac8 (recs further:Bool) (l:List Elm) (k:Nat) (x:(Rl->Nat) × List Ae):Prop:=BT x.1 (gK recs further l k) x.2/\NoX x.2/\x.1 (.n 0)=2/\x.1 (.n 1)=3
def GthT (G:Ah) (recs further:Bool) (l:List Elm) (k:Nat) (x y:(Rl->Nat) × List Ae):Prop :=
 x.2.length+6<=y.2.length /\
 (recs=true->Ctr TP G 59 [.ptr 2 0,.mp 3,.d (S []),.d (NdD (l.getD k noE).2)] (Gd x.1 (gK recs further l k) x.2 (l.getD k noE)) (.d (.tup [])) y.2) /\
 (recs=false->Ctr TP G 60 [.ptr 2 0,.mp 3,.d (S Ji),.d (NdD (l.getD k noE).2)] (Gd x.1 (gK recs further l k) x.2 (l.getD k noE)) (.d (.tup [])) y.2)
def Aa1 (recs further:Bool) (l:List Elm) (hrec:recs=true->∀ e∈l,e.2.kind=6) (hok:∀ e∈l,Hp e.2) (hz:C8 l<=4000) {k:Nat} (hk:k<l.length) {x:(Rl->Nat) × List Ae} (hx:Ac8 recs further l k x) :
  ∃ y,GthT G recs further l k x y/\Ac8 recs further l (k+1) y:=by
 obtain ⟨L1,H1⟩:=x;obtain ⟨i1,i2,i3,i4⟩:=hx;simp only at i1 i2 i3 i4;have hlz:=Ir l;have hem:l.getD k noE∈l:=Ds hk;have hsz:=Lz hk;have htk:=Q7 l (k+1);have hrw:=I6 recs further l k lA;have hB:=SF recs further l lA k lA;obtain ⟨y1,y2⟩:=Aae i1 (l.getD k noE);have y3:NoX (Gd L1 (gK recs further l k) H1 (l.getD k noE)):=Aad i2 _;have yl:=FR L1 (gK recs further l k) H1 (l.getD k noE);have z0:=y2.n0;have z1:=y2.n1;rw[i3] at z0;rw[i4] at z1;have hr0:0<((gK recs further l k).row (l.getD k noE).1).rows.length:=jG
 have hBr:=hB.row (l.getD k noE).1 lA;have hsucc:=I5 recs further l hk;generalize hL2:FM L1 (gK recs further l k).rows.length (H1.length+1)=L2 at *;cases recs with
 | true =>have e1:(gK true further l k).elm true (l.getD k noE)=((gK true further l k).row (l.getD k noE).1).parts (DT (l.getD k noE).2 []):=rfl;rw[e1] at hsucc;obtain ⟨L',H',r1,r2,r3,r4⟩:=NE (G:=G) _ (l.getD k noE).2 (Aex _) [] y1 hr0 y3 (hok _ hem) (hrec rfl _ hem) hBr lA (by rw[Aeu];omega);rw[<-hsucc] at r2 r3;rw[z0,z1] at r1;have:=r3.len;exact ⟨(L',H'),⟨dC,fun _=>r1,fun q=>(by cases q)⟩,r2,r4,r3.n0.trans z0,r3.n1.trans z1⟩
 | false =>have e1:(gK false further l k).elm false (l.getD k noE)=((gK false further l k).row (l.getD k noE).1).single Ji (Cf (l.getD k noE).2):=rfl;rw[e1] at hsucc;obtain ⟨L',H',r1,r2,r3,r4⟩:=Ns (G:=G) y1 hr0 y3 Ji (l.getD k noE).2 ⟨by have:=hBr.paths;omega,hBr.rows⟩ (by simp[Ji]);rw[<-hsucc] at r2 r3;rw[z0,z1] at r1;have:=r3.len;exact ⟨(L',H'),⟨dC,fun q=>(by cases q),fun _=>r1⟩,r2,r4,r3.n0.trans z0,r3.n1.trans z1⟩
def lyL:Rl->Nat
 | .n k=>[2,3,4,5,6,7,0,1].getD k 0
 | .i _=>0
def lyH (further:Bool):List Ae:=[.amap [],.map [],.box [.d (.bool further),.lsl 4 1 0 0,.lsl 5 1 0 0,.lsl 6 1 0 0,.lsl 7 1 0 0,.mp 0,.mp 1],.map [],.row false [],.row false [],.row false [],.row false []]
def Acx (further:Bool):BT lyL (ly0 further) (lyH further):=by
 have key:∀ a,BF (ly0 further) a->∃ k,k<8/\a=.n k:=fun a ha=>by
  cases a with
  | n k=>exact ⟨k,ha,rfl⟩
  | i q=>exact absurd rfl ha
 refine ⟨fun a b ha hb e=>?_,fun a ha=>?_,rfl,nh,rfl,rfl,rfl,rfl,nh,nh,fun i h=>absurd h (Nat.not_lt_zero _),fun p h=>absurd rfl h⟩
 ·obtain ⟨i,hi,rfl⟩:=key a ha;obtain ⟨j,hj,rfl⟩:=key b hb;have:∀ i,i<8->∀ j,j<8->lyL (.n i)=lyL (.n j)->i=j:=by decide
  rw[this i hi j hj e]
 obtain ⟨i,hi,rfl⟩:=key a ha;have:∀ i,i<8->lyL (.n i)<(lyH further).length:=by have h8:(lyH further).length=8:=rfl;rw[h8];decide
 exact this i hi
def JA (further:Bool) (l:List Elm) (full:Bool) (hok:∀ e∈l,Hp e.2) (hz:C8 l<=4000) :
  ∃ L' H',Ctr TP G 32 [.d (.bool further),.d (ElS l full)] [] (.ptr 2 0) H'/\BT L' (A1 further l) H'/\NoX H'/\L' (.n 0)=2:=by
 have hlz:=Ir l;have hrec:(!l.any C3)=true->∀ e∈l,e.2.kind=6:=by intro h e he;simp only[AgM,Ahg] at h;have:=h e he;simpa[C3,Ij] using this
 obtain ⟨f,f0,fI,fT⟩:=Lb (Ac8 (!l.any C3) further l) (GthT G (!l.any C3) further l) l.length (lyL,lyH further) ⟨Acx further,by simp[NoX,lyH],rfl,rfl⟩ (fun k hk x hx=>Aa1 _ further l hrec hok hz hk hx);have fE:=fI l.length (Aex _);unfold Ac8 at fE;rw[Aa5] at fE;refine ⟨(f l.length).1,(f l.length).2,Ctr.bodyI (M:=MG) Ak Tryz.func32 rfl go32 fE.2.1.ok ?_,fE.1,fE.2.1,fE.2.2.1⟩;have el:=BM l;simp(disch:=try exact aa)only[Tryz.f32,MH,↓Ab,Ad,↓reduceIte,Qu,Qv];refine Aa.of (JI 58 C3 l false lA fun e _=>Uu e) lD ?_;generalize hrc:(!l.any C3)=recs at *;have hany:l.any C3=!recs:=by rw[<-hrc];simp
 rw[hany];simp(disch:=try exact aa)only[MH,Bool.not_not,↓Ab,Ad,Qu];refine Al.frI 1573088 (α:=Nat) (fun k=>l.length-k) (fun k=>[(21,.d (.int .i64 k))]) (fun k=>(f k).2) (fun k=>k<=l.length) 0 (AfI _) ?_ ?_
 ·rw[f0];unfold lyH;first
  | exact .weak ⟨[some 0,some 1,some 2,some 3,none,none,none,none],rfl,lC,gV,gU⟩
 intro k hkk;simp only[Bm,Aev,Aew];rcases AeA k l.length with hlt | hge
 ·obtain ⟨t1,t2,t3⟩:=fT k hlt;obtain ⟨i1,i2,i3,i4⟩:=fI k hkk;have hrw:=I6 recs further l k hkk;have hB:=SF recs further l lA k hkk;have htk:=Q7 l k;have hab:=Oj recs further l k hkk;generalize hHk:(f k).2=Hk at *;generalize hLk:(f k).1=Lk at *;generalize hsk:gK recs further l k=sk at *;have ok:∀ j,j<8+sk.rows.length->BF sk (.n j):=fun j hj=>hj;have q0:=i1.box;have q2:=i1.above;have q4:=i1.rows;rw[i3] at q0;have l0:=i1.lt _ (ok 0 lA);have l2:=i1.lt _ (ok 2 lA);have l4:=i1.lt _ (ok 4 lA);have n02:=i1.ne (ok 0 lA) (ok 2 lA) lC;have n04:=i1.ne (ok 0 lA) (ok 4 lA) lC;have n24:=i1.ne (ok 2 lA) (ok 4 lA) lC;rw[i3] at l0 n02 n04;have al:=@ints_length .i64 sk.above;have g:=Lx hlt;have rl:=Sc Lk sk.rows.length;generalize hee:l.getD k noE=ee at *;obtain ⟨ea,ka,kb,kc,kl⟩:=ee;obtain ⟨cf,hcf⟩:=CB [2,Lk (.n 2),Hk.length,Hk.length+1,Hk.length+2] aE;have c0:=hcf 0 _ rfl;have c1:=hcf 1 _ rfl;have c2:=hcf 2 _ rfl;have c3:=hcf 3 _ rfl;have c4:=hcf 4 _ rfl;by_cases hn:sk.rows.length=0
  ·rw[Kj,if_pos hn] at q4;simp(disch:=try exact aa)only[MH,show DH MG (some 42)=true from rfl,el,g,q0,q2,q4,al,Ex,ndC,AA,↓Ab,Ad,↓reduceIte,Qu,Qw];refine ⟨AF cf bZ cO,?_⟩;have e1:=Aaf Lk sk Hk ea ka kb kc kl hn;rw[e1,i3] at t2 t3;have hl1:=congrArg List.length e1;rw[FR] at hl1;cases recs with
   | true =>
    simp(disch:=try exact aa)only[MH,Vj,AA,↓Ab,Ad,↓reduceIte,Qu];first
    | refine Au.go (t2 rfl) lS dH ?_
    simp(disch:=try exact aa)only[MH,↓Ab,Ad];first
    | exact nf
   | false =>
    simp(disch:=try exact aa)only[MH,Vi,AA,↓Ab,Ad,↓reduceIte,Qu];first
    | refine Au.go (t3 rfl) lS dH ?_
    simp(disch:=try exact aa)only[MH,↓Ab,Ad];first
    | exact nf
  rw[Kj,if_neg hn] at q4;have q4':Hk[Lk (.n 4)]?=some (.box (LU Lk sk.rows.length)):=q4;simp(disch:=try exact aa)only[MH,show DH MG (some 42)=true from rfl,el,g,q0,q2,q4',rl,al,Ex,ndC,AA,↓Ab,Ad,↓reduceIte,Qu];refine ⟨AF cf bZ cO,?_⟩;have e1:=Xn Lk sk Hk ea ka kb kc kl;rw[e1,i3] at t2 t3;have hl1:=congrArg List.length e1;rw[FR] at hl1;cases recs with
  | true =>
   simp(disch:=try exact aa)only[MH,Vj,AA,↓Ab,Ad,↓reduceIte,Qu];first
   | refine Au.go (t2 rfl) lS dH ?_
   simp(disch:=try exact aa)only[MH,↓Ab,Ad];first
   | exact nf
  | false =>
   simp(disch:=try exact aa)only[MH,Vi,AA,↓Ab,Ad,↓reduceIte,Qu];first
   | refine Au.go (t3 rfl) lS dH ?_
   simp(disch:=try exact aa)only[MH,↓Ab,Ad];first
   | exact nf
 obtain rfl:k=l.length:=lA
 simp(disch:=try exact aa)only[↓Ab,Ad];first
 | exact Or.inr nI
def Ua (n:Nat) (c:Col):Bool:=Kz c.name && (decide (c.cells.length<=4096) && (decide (c.cells.length=n) && c.cells.all Hq))
def PL (t:Tab):Bool:=Aay t.id t.name && (decide (t.cols.length<=64) && t.cols.all (Ua (EM t)))
def AdQ (t:Tab):Prop:=t.name.length<=1000000000/\t.cols.length<=1000000/\∀ c∈t.cols,c.name.length<=1000000000/\c.cells.length<=1000000/\∀ x∈c.cells,x.1.length<=1000000000
def Wp (hT:HT G) (l:List Cel) (full:Bool) (hl:l.length<=1000000000) (hs:∀ c∈l,c.1.length<=1000000000) :
  Ctr TP G 126 [.d (Ac9 l full),.d (.fn (.func 127) [] [])] [] (.d (.bool (l.all Hq))) []:=by
 refine Ctr.pure (M:=M0) Ak Tryz.func126 rfl AfC ?_;have sl:=B7 l;simp only[Tryz.f126,↓Ab,Ad,Qu,Qv];refine Al.fr 386 (α:=Nat) (fun i=>l.length-i) (fun i=>[(9,.d (.int .i64 i))]) (fun _=>[]) (fun i=>i<=l.length/\l.all Hq=(l.drop i).all Hq) 0 ⟨AfI _,rfl⟩ ?_ ?_;·exact nD
 rintro i ⟨h1,h2⟩;simp only[Bm,Aev,Aew];rw[h2];rcases AeA i l.length with h | h
 ·have g:=Rq h;have hd:(l.drop i).all Hq=(Hq (l.getD i noC) && (l.drop (i+1)).all Hq):=by
   rw[Af7 h,Ag9,Aeq,Aeg h];rfl
  have hm:(l.getD i noC).1.length<=1000000000:=hs _ (Ds h);rw[hd];simp(disch:=try exact aa)only[sl,g,↓Ab,Ad,↓reduceIte,Qu];refine Aa.of (Ng hT (l.getD i noC) hm) lD ?_;cases hx:Hq (l.getD i noC);·simp only[↓Ab,Ad,↓Qe];first | done | rfl | exact ⟨lD,lD⟩
  simp(disch:=try exact aa)only[↓Ab,Ad];first
  | exact ⟨i+1,⟨h,by rw[h2,hd,hx,Aes]⟩,iz,⟨[],rfl,lC,gV,gU⟩⟩
  | exact mJ
 rw[AgK h];simp(disch:=try exact aa)only[↓Ab,Ad,↓Qe];first | done | rfl
def Hd (n:Nat) (c:Col):Bool:=!Kz c.name || (decide (¬c.cells.length=n) || !c.cells.all Hq)
abbrev tabB (t:Tab) (f:Bool):Ae:=.box [.d (.int .i64 t.id),.d (S t.name),.d (Vl t.cols f)]
def Tm (hT:HT G) (t:Tab) (f:Bool) (ht:AdQ t) (c:Col) (hc:c∈t.cols):Ctr TP G 125 [.d (.agg (AbU c)),.ptr 0 0] [tabB t f] (.d (.bool (Hd (EM t) c))) [tabB t f]:=by
 obtain ⟨h1,h2,h3⟩:=ht;obtain ⟨c1,c2,c3⟩:=h3 c hc;obtain ⟨r,hr⟩:∃ r,r=Hd (EM t) c:=⟨_,rfl⟩;rw[<-hr];unfold Hd at hr;refine Ctr.body (M:=M0) Ak Tryz.func125 rfl AfD ?_;have sl:=B7 c.cells;have rs:=PC (G:=G) t false lA (fun c hc=>fP);have rn:EM t<=1000000:=by
  unfold EM;split;·omega
  rename_i c' r' he;exact (h3 c' (by rw[he];simp)).2.1
 generalize EM t=n at *;obtain ⟨id,name,cols⟩:=t;obtain ⟨cn,cc⟩:=c;simp(disch:=try exact aa)only[Tryz.f125,↓Ab,Ad,↓reduceIte,Qu,Qv];refine Aa.pure (Lw hT cn c1) ?_;cases hf:Kz cn
 ·rw[hf,Ag6,Ag0] at hr;subst hr;simp only[↓Ab,Ad,↓reduceIte,Qu];first
  | exact mZ
  | exact mN
 rw[hf,Aha,Ahl] at hr;simp(disch:=try exact aa)only[↓Ab,Ad,↓reduceIte,Qu];refine Aa.of rs lD ?_;by_cases hn:cc.length=n
 ·subst hn;rw[decide_eq_false (fun q=>q rfl),Ahl] at hr;simp(disch:=try exact aa)only[↓Ab,Ad,↓reduceIte,Qu];refine Aa.of (Wp hT cc false lA (fun x hx=>c3 x hx)) lD ?_;rw[hr];generalize cc.all Hq=b;cases b
  ·simp only[↓Ab,Ad,↓reduceIte,Qu];first
   | exact mZ
   | exact mN
  simp only[↓Ab,Ad,↓reduceIte,Qu];first
  | exact mZ
  | exact mN
 rw[decide_eq_true hn,Ag0] at hr;subst hr;simp(disch:=try exact aa)only[↓Ab,Ad,↓reduceIte,Qu];first
 | exact mZ
 | exact mN
def Mv (g:FuncId) (p:Col->Bool) (l:List Col) (full:Bool) (fv:AV) (x y z:D) (hf:fv=.fn (.func g) [] [.ptr 0 0]) (hl:l.length<=1000000000) (hp:∀ c∈l,Ctr TP G g [.d (.agg (AbU c)),.ptr 0 0] [.box [.d x,.d y,.d z]] (.d (.bool (p c))) [.box [.d x,.d y,.d z]]) :
  Ctr TP G 164 [.d (Vl l full),fv] [.box [.d x,.d y,.d z]] (.d (.int .i64 (ixF p l 0))) [.box [.d x,.d y,.d z]]:=by
 subst hf;refine Ctr.body (M:=M0) Ak Tryz.func164 rfl Ae7 ?_;have sl:=B6 l;simp only[Tryz.f164,↓Ab,Ad,Qu,Qv,QE];refine Al.fr 131 (α:=Nat) (fun i=>l.length-i) (fun i=>[(8,.d (.int .i64 i))]) (fun _=>[.box [.d x,.d y,.d z]]) (fun i=>i<=l.length/\ixF p l 0=ixF p (l.drop i) i) 0 ⟨AfI _,rfl⟩ ?_ ?_;·exact nr
 rintro i ⟨h1,h2⟩;simp only[Bm,Aev,Aew];rw[h2];rcases AeA i l.length with h | h
 ·have g:=Rn h;rw[Oc (d:=AaF) h];simp(disch:=try exact aa)only[sl,g,↓Ab,Ad,↓reduceIte,QE];refine Aa.by (hp _ (Ds h)) lD lD lC ?_;cases hx:p (l.getD i AaF)
  ·simp(disch:=try exact aa)only[↓Ab,Ad,↓reduceIte,QE];first
   | exact mh
  simp(disch:=try exact aa)only[↓Ab,Ad,↓reduceIte,QE];first
  | exact mY
 rw[AgK h,show ixF p [] (i:Int)=-1 from rfl];simp(disch:=try exact aa)only[↓Ab,Ad,QE];first
 | exact mY
def JJ (g:FuncId) (p:Col->Bool) (l:List Col) (full:Bool) (x y z:D) (hl:l.length<=1000000000) (hp:∀ c∈l,Ctr TP G g [.d (.agg (AbU c)),.ptr 0 0] [.box [.d x,.d y,.d z]] (.d (.bool (p c))) [.box [.d x,.d y,.d z]]) :
  Ctr TP G 124 [.d (Vl l full),.fn (.func g) [] [.ptr 0 0]] [.box [.d x,.d y,.d z]] (.d (.bool (l.any p))) [.box [.d x,.d y,.d z]]:=by
 refine Ctr.body (M:=M0) Ak Tryz.func124 rfl AfE ?_;simp only[Tryz.f124,↓Ab,Ad,↓reduceIte,Qu,Qv];refine Aa.by (Mv g p l false _ x y z rfl hl hp) lD lD lC ?_;have hi:=I3 (p:=p) l 0 (Ahm _);generalize ixF p l 0=q at *;rcases (by omega:0<=q\/q<0) with h | h
 ·exact oU
 have:l.any p=false:=by cases hx:l.any p with
  | false=>rfl
  | true=>have:=hi.2 hx;omega
 rw[this];exact pb
def Aau (t:Tab):PL t=(Aay t.id t.name && (decide (t.cols.length<=64) && (decide (EM t<=4096) && !t.cols.any (Hd (EM t))))):=by
 unfold PL;cases Aay t.id t.name;·rfl
 rw[Aes,Aes];cases decide (t.cols.length<=64);·rfl
 rw[Aes,Aes];obtain ⟨id,name,cols⟩:=t;cases cols with
 | nil=>simp[EM]
 | cons c r =>
  have e1:EM ⟨id,name,c::r⟩=c.cells.length:=rfl;simp only[e1];generalize hn:c.cells.length=n;by_cases h:n<=4096
  ·rw[decide_eq_true h,Aes,Bool.eq_iff_iff];simp only[AgN,AgM,Ahg];constructor;·intro q x hx;have:=q x hx;unfold Ua at this;unfold Hd;simp only[AgX,decide_eq_true_eq] at this;obtain ⟨q1,q2,q3,q4⟩:=this;rw[q1,q4,decide_eq_false (fun z=>z q3)];decide
   intro q x hx;have:=q x hx;unfold Hd at this;unfold Ua;simp only[AgG,AgM,decide_eq_true_eq,not_or,Bool.not_eq_false,Classical.not_not] at this;obtain ⟨q1,q3,q4⟩:=this;rw[q1,q4,decide_eq_true q3,decide_eq_true lA];rfl
  rw[decide_eq_false h,Aet,Ag9];have:Ua n c=false:=by unfold Ua;rw[decide_eq_false (by omega:¬c.cells.length<=4096)];simp
  rw[this,Aet]
def JX (hT:HT G) (t:Tab) (full:Bool) (ht:AdQ t) (i1:-9223372036854775808<=t.id) (i2:t.id<=9223372036854775807) :
  Ctr TP G 95 [.d (Zt t full)] [] (.d (.bool (PL t))) []:=by
 obtain ⟨h1,h2,h3⟩:=id ht;rw[Aau];obtain ⟨r,hr⟩:∃ r,r=(Aay t.id t.name && (decide (t.cols.length<=64) && (decide (EM t<=4096) && !t.cols.any (Hd (EM t))))):=⟨_,rfl⟩;rw[<-hr];unfold Aay at hr;refine Ctr.pure (M:=M0) Ak Tryz.func95 rfl go95 ?_;have rs:=PC (G:=G) t false lA (fun c hc=>fP);have rn:EM t<=1000000:=by
  unfold EM;split;·omega
  rename_i c' r' he;exact (h3 c' (by rw[he];simp)).2.1
 have cf:=JJ (G:=G) 125 (Hd (EM t)) t.cols false (.int .i64 t.id) (S t.name) (Vl t.cols full) lA (fun c hc=>Tm hT t full ht c hc);generalize EM t=n at *;obtain ⟨id,name,cols⟩:=t;simp only at *;have cl:=B6 cols;rcases (by omega:id<0\/1073741824<id\/(0<=id/\id<=1073741824)) with h | h | h
 ·exact nT
 ·exact nT
 rw[decide_eq_true h,Aes] at hr;simp(disch:=try exact aa)only[Tryz.f95,↓Ab,Ad,↓reduceIte,Qu,Qv];refine Aa.pure (Lw hT name h1) ?_;cases hf:Kz name;·rw[hf,Aet] at hr;subst hr;simp only[↓Ab,Ad,↓reduceIte,↓Qe];first | done | rfl | exact ⟨lD,lD⟩
 rw[hf,Aes] at hr;by_cases h64:cols.length<=64
 ·rw[decide_eq_true h64,Aes] at hr;simp(disch:=try exact aa)only[↓Ab,Ad,↓reduceIte,Qu];refine Aa.of rs lD ?_;by_cases hn:n<=4096
  ·rw[decide_eq_true hn,Aes] at hr;simp(disch:=try exact aa)only[↓Ab,Ad,↓reduceIte,Qu];refine Aa.by cf lD lD lC ?_;generalize cols.any (Hd n)=b at *;subst hr;cases b;·simp(disch:=try exact aa)only[↓Ab,Ad,↓reduceIte,↓Qe];first | done | rfl | exact ⟨lD,lD⟩
   simp(disch:=try exact aa)only[↓Ab,Ad,↓reduceIte,↓Qe];first | done | rfl | exact ⟨lD,lD⟩
  rw[decide_eq_false hn,Aet] at hr;subst hr;simp(disch:=try exact aa)only[↓Ab,Ad,↓reduceIte,↓Qe];first | done | rfl | exact ⟨lD,lD⟩
 rw[decide_eq_false h64,Aet] at hr;subst hr;simp(disch:=try exact aa)only[↓Ab,Ad,↓reduceIte,↓Qe,Qu];first | done | rfl | exact ⟨lD,lD⟩
def Iy (r:List UInt8->Option Cel) (p:List UInt8):Cel:=match r p with
 | some c=>c
 | none=>([],true)
def Sd:List UInt8:=[114,111,119]
def Dd (above:List Int):Col:=⟨Sd,above.map fun a=>(Lib.decDigits a.toNat,false)⟩
def FT (rows:List (List UInt8->Option Cel)) (p:List UInt8):Col:=⟨p,rows.map fun r=>Iy r p⟩
def Fb (s:Ly):List Col:=if s.further=true then [Dd s.above] else []
def Gn (s:Ly) (id:Int) (name:List UInt8):Tab:=⟨id,name,Fb s++s.paths.map (FT s.rows)⟩
def Gp (s:Ly) (id:Int) (name:List UInt8):Tab × Bool:=if 64<s.paths.length\/4096<s.rows.length then (⟨id,name,[]⟩,false) else (Gn s id name,PL (Gn s id name))
def LW (n:Nat):Ae:=if n=0 then .row false [] else .box ((AgC n).map fun i=>.mp (4+i))
structure TblH (s:Ly) (P0:List Ae):Prop where
 len:P0.length=4+s.rows.length
 c0:∃ x y z:D,P0[0]?=some (.box [.d (.bool s.further),.lsl 1 1 0 s.above.length,.lsl 2 1 0 s.paths.length,.lsl 3 1 0 s.rows.length,.d x,.d y,.d z])
 c1:P0[1]?=some (.row false (Ar .i64 s.above))
 c2:P0[2]?=some (.row false (strs s.paths))
 c3:P0[3]?=some (LW s.rows.length)
 cm:∀ i,(h:i<s.rows.length)->∃ m:List (D × D),P0[4+i]?=some (.map m)/\IF m/\∀ p,Gm m (S p)=(s.rows[i] p).map fun c=>.agg (HO c)
 self:∀ b∈P0,Va P0.length b
 nox:NoX P0
structure LyT (s:Ly):Prop where
 above:∀ a∈s.above,0<=a/\a<10000000
 al:s.above.length<=1000000
 pl:s.paths.length<=1000000
 rl:s.rows.length<=1000000
 ps:∀ p∈s.paths,p.length<=1000000000
 cs:∀ r∈s.rows,∀ p c,r p=some c->c.1.length<=1000000000
abbrev zB:Ae:=.box [.d (.int .i64 0),.d (.str ByteArray.empty),.d (.sl 0 true [])]
abbrev tB (id:Int) (name:List UInt8) (c:AV):Ae:=.box [.d (.int .i64 id),.d (S name),c]
def JF (s:Ly) (k:Nat):List Cel:=(Dd (s.above.take k)).cells
def UU (s:Ly) (k:Nat) (h:k<=s.above.length):(JF s k).length=k:=by simp[JF,Dd];omega
def Zb (s:Ly) (k:Nat) (h:k<s.above.length):JF s (k+1)=JF s k++[(Lib.decDigits (s.above.getD k 0).toNat,false)]:=by unfold JF Dd;rw[Agb,Aeg h,Aeq,Aeg h];simp only[AgH,AgP,AeB,Af2,AgA]
def Iv (s:Ly):JF s s.above.length=(Dd s.above).cells:=by unfold JF;rw[Agv]
def Ey (s:Ly) (k:Nat):List Col:=Fb s++(s.paths.take k).map (FT s.rows)
def KC (s:Ly) (k:Nat) (h:k<=s.paths.length):(Ey s k).length=(Fb s).length+k:=by simp[Ey];omega
def Re (s:Ly) (k:Nat) (h:k<s.paths.length):Ey s (k+1)=Ey s k++[FT s.rows (s.paths.getD k [])]:=by unfold Ey;rw[Agb,Aeg h,Aeq,Aeg h];simp only[AgH,AgP,AeB,Af2,AgA,AgL]
def UP (s:Ly):Ey s s.paths.length=Fb s++s.paths.map (FT s.rows):=by unfold Ey;rw[Agv]
def DU (s:Ly) (p:List UInt8) (i:Nat):List Cel:=(s.rows.take i).map fun r=>Iy r p
def KD (s:Ly) (p:List UInt8) (i:Nat) (h:i<=s.rows.length):(DU s p i).length=i:=by simp[DU];omega
def Ri (s:Ly) (p:List UInt8) (i:Nat) (h:i<s.rows.length):DU s p (i+1)=DU s p i++[Iy s.rows[i] p]:=by unfold DU;rw[Agb,Aeg h];simp only[AgH,AgP,AeB,Af2]
def UT (s:Ly) (p:List UInt8):DU s p s.rows.length=(FT s.rows p).cells:=by unfold DU;rw[Agv];rfl
def Jg.pre2 {P0 l:List Ae} {v r:AV} {d:D} (hs:∀ b∈P0,Va P0.length b) (hd:sealA (P0++l) v=some d) (hi:∀ j∈AY v,P0.length<=j) (hr:r=.d (unf d)):Jg P0.length (P0++l) v r P0:=hr▸Jg.pre hs hd hi
def Abo {n:Nat} (h:n<10000000):(Lib.decDigits n).length<=21:=by have:=Lib.itoa_length_le (n:Int) lA lA;rwa[Lib.itoa_nonneg] at this
def W4 {s:Ly} (hs:LyT s) (hp:¬64<s.paths.length) (id:Int) {name:List UInt8} (hn:name.length<=1000000000):AdQ (Gn s id name):=by
 obtain ⟨s1,s2,s3,s4,s5,s6⟩:=hs;have tcl:(Fb s).length<=1:=gt
 refine ⟨hn,by simp[Gn];omega,fun c hc=>?_⟩;rcases Ag2.1 hc with hc | hc
 ·unfold Fb at hc;split at hc;·rw[AgQ.1 hc];refine ⟨by simp[Dd,Sd],by simp[Dd];omega,fun x hx=>?_⟩;obtain ⟨a,ha,rfl⟩:=AgD.1 hx;obtain ⟨b1,b2⟩:=s1 a ha;have:=Abo (n:=a.toNat) lA;simp only;omega
  cases hc
 obtain ⟨p,hq,rfl⟩:=AgD.1 hc;refine ⟨s5 p hq,by simp[FT];omega,fun x hx=>?_⟩;obtain ⟨r,hr,rfl⟩:=AgD.1 hx;unfold Iy;split;·exact s6 r hr p _ (by assumption)
 simp
def Ye (hT:HT G) (hP:HP G) (s:Ly) (hs:LyT s) (id:Int) (i1:-9223372036854775808<=id) (i2:id<=9223372036854775807) (name:List UInt8) (hn:name.length<=1000000000) {P0:List Ae} (h:TblH s P0) :
  Ctr TP G 56 [.ptr 0 0,.d (.int .i64 id),.d (S name)] P0 (.d (.tup [Zt (Gp s id name).1 false,.bool (Gp s id name).2])) P0:=by
 obtain ⟨s1,s2,s3,s4,s5,s6⟩:=hs;obtain ⟨x,y,z,q0⟩:=h.c0;have q1:=h.c1;have q2:=h.c2;have q3:=h.c3;have hl:=h.len;have al:=@ints_length .i64 s.above;have sl:=@strs_length s.paths;obtain ⟨r,hr⟩:∃ r,r=Gp s id name:=⟨_,rfl⟩;rw[<-hr];unfold Gp at hr;refine Ctr.body (M:=M0) Ak Tryz.func56 rfl go56 ?_ (hx:=h.nox.ok);by_cases hp:64<s.paths.length
 ·rw[if_pos (.inl hp)] at hr;subst hr;simp(disch:=try exact aa)only[Tryz.f56,q0,AA,↓Ab,Ad,↓reduceIte,Qu,Qv];exact Jg.pre2 (d:=.tup [.agg [.int .i64 id,S name,.sl 0 true []],.bool false]) h.self lD jz lD
 by_cases hw:4096<s.rows.length
 ·rw[if_pos (.inr hw)] at hr;subst hr;simp(disch:=try exact aa)only[Tryz.f56,q0,AA,↓Ab,Ad,↓reduceIte,Qu,Qv];first
  | exact Jg.pre2 (d:=.tup [.agg [.int .i64 id,S name,.sl 0 true []],.bool false]) h.self lD jz lD
 rw[if_neg lA] at hr;cases hf:s.further with
 | false =>
  rw[hf] at q0;simp(disch:=try exact aa)only[Tryz.f56,q0,AA,↓Ab,Ad,↓reduceIte,Qu,Qv];refine Al.fr 1770887431076116955457 (α:=Nat) (fun k=>s.paths.length-k) (fun k=>[(71,.d (.int .i64 k))]) (fun k=>P0++[zB,tB id name (.lsl (P0.length+2) 2 0 ((Fb s).length+k)),.row false (Cm (Ey s k))]) (fun k=>k<=s.paths.length) 0 (AfI _) ?_ ?_
  ·first
   | exact DA.pre [some P0.length,some (P0.length+1),none] h.self lC lC bI (by simp(disch:=omega) [HW,BW,SW,AW,Ba,A0,AbY,AbZ,Ey,Fb,hf,Cm])
  intro k hkk;simp only[Bm,Aev,Aew];rcases AeA k s.paths.length with hlt | hge
  ·have gk:=strs_getD hlt;have ck:=KC s k hkk;have cdl:=B6 (Ey s k);have csu:=Re s k hlt;have tcl:(Fb s).length<=1:=gt
   have cce:Cm (Ey s (k+1))=Cm (Ey s k)++[.str (bs (s.paths.getD k [])),.sl s.rows.length false (BR (DU s (s.paths.getD k []) s.rows.length))]:=fQ;generalize hpk:s.paths.getD k []=pk at *;generalize htc:(Fb s).length=tc at *;simp(disch:=try exact aa)only[q0,q2,sl,gk,AA,↓Ab,Ad,↓reduceIte,Qu];refine Al.fr 3630909529516398463705409 (α:=Nat) (fun i=>s.rows.length-i) (fun i=>[(82,.d (.int .i64 i))]) (fun i=>P0++[zB,tB id name (.lsl (P0.length+2) 2 0 (tc+k)),.row false (Cm (Ey s k)),.box [.d (S pk),.lsl (P0.length+4) 2 0 i],.row false (BR (DU s pk i))]) (fun i=>i<=s.rows.length) 0 (AfI _) ?_ ?_
   ·first
    | exact DA.pre [some P0.length,some (P0.length+1),some (P0.length+2),some (P0.length+3),none] h.self lC lC bI bu
   intro i hii;simp only[Bm,Aev,Aew];rcases AeA i s.rows.length with hit | hig
   ·have q3':=q3;rw[LW,if_neg lA] at q3';have rl:((AgC s.rows.length).map fun i=>AV.mp (4+i)).length=s.rows.length:=lC
    have rg:((AgC s.rows.length).map fun i=>AV.mp (4+i)).getD i .undef=.mp (4+i):=(by rw[Aeq,Agx,Agy hit];rfl);generalize ((AgC s.rows.length).map fun i=>AV.mp (4+i))=rb at *;obtain ⟨m,m1,m2,m3⟩:=h.cm i hit;have kr:=m2.ok;have cl:=KD s pk i hii;have cel:=B7 (DU s pk i);have csc:=Ri s pk i hit;obtain ⟨cf,hcf⟩:=CB [P0.length+3,P0.length+4,P0.length+5,P0.length+6,P0.length+7] lC;have c0:=hcf 0 _ rfl;have c1:=hcf 1 _ rfl;have c2:=hcf 2 _ rfl;have c3:=hcf 3 _ rfl;have c4:=hcf 4 _ rfl;cases hc:s.rows[i] pk with
    | none =>
     have v2:DI (.agg [.bool false,.str ByteArray.empty]) m (S pk) true=.tup [.agg [.bool false,.str ByteArray.empty],.bool false]:=ie;have cge:BR (DU s pk (i+1))=BR (DU s pk i)++[.bool true,.str ByteArray.empty]:=dK;simp(disch:=try exact aa)only[q3',m1,kr,rl,rg,v2,cel,cl,AA,↓Ab,Ad,↓reduceIte,Qu,Qw,Qz];first
     | exact lG
     | exact lI
    | some c =>
     have v2:DI (.agg [.bool false,.str ByteArray.empty]) m (S pk) true=.tup [.agg (HO c),.bool true]:=ie;have cge:BR (DU s pk (i+1))=BR (DU s pk i)++[.bool c.2,.str (bs c.1)]:=dK;obtain ⟨c1',c2'⟩:=c;cases c2'
     ·simp(disch:=try exact aa)only[q3',m1,kr,rl,rg,v2,cel,cl,AA,↓Ab,Ad,↓reduceIte,Qu,Qw,Qz];first
      | exact lI
     simp(disch:=try exact aa)only[q3',m1,kr,rl,rg,v2,cel,cl,AA,↓Ab,Ad,↓reduceIte,Qu,Qw,Qz];first
     | exact lI
   obtain rfl:i=s.rows.length:=lA
   have cl:=KD s pk s.rows.length (Aex _);have cel:=B7 (DU s pk s.rows.length);have ccu:cut (BR (DU s pk s.rows.length)) 0 (s.rows.length*2)=BR (DU s pk s.rows.length):=cut_all lA;simp(disch:=try exact aa)only[cdl,ck,ccu,AA,↓Ab,Ad,↓reduceIte,Qu,Qw,Qz];first
   | exact lN
   | exact lO
  obtain rfl:k=s.paths.length:=lA
  have ck:=KC s s.paths.length (Aex _);have cdl:=B6 (Ey s s.paths.length);have tl:(Gn s id name).cols.length=(Fb s).length+s.paths.length:=by simp[Gn]
  have cpt:Ey s s.paths.length=(Gn s id name).cols:=UP s;have ctt:cut (Cm (Ey s s.paths.length)) 0 (((Fb s).length+s.paths.length)*2)=Cm (Gn s id name).cols:=df
  simp(disch:=try exact aa)only[ctt,AA,↓Ab,Ad,↓reduceIte,Qu];refine Aa.frozenE (JX hT (Gn s id name) false (W4 ⟨s1,s2,s3,s4,s5,s6⟩ hp id hn) i1 i2) (by rw[<-tl];rfl) ?_;rw[cpt] at *;rw[<-tl];simp(disch:=try exact aa)only[AA,↓Ab,Ad,↓reduceIte,Qu];obtain ⟨cf,hcf⟩:=CB [P0.length,P0.length+1,P0.length+2] lC;have c0:=hcf 0 _ rfl;have c1:=hcf 1 _ rfl;have c2:=hcf 2 _ rfl;refine ⟨AF cf cv dL,?_⟩;subst hr;refine Jg.pre2 (d:=.tup [Zt (Gn s id name) false,.bool (PL (Gn s id name))]) h.self ?_ jz lD;first
  | (simp[sealA,sealL,Aen,AgI];exact mF)
 | true =>
  rw[hf] at q0;simp(disch:=try exact aa)only[Tryz.f56,q0,AA,↓Ab,Ad,↓reduceIte,Qu,Qv];refine Al.fr 105553116267329 (α:=Nat) (fun k=>s.above.length-k) (fun k=>[(47,.d (.int .i64 k))]) (fun k=>P0++[zB,tB id name (.d (.sl 0 true [])),.box [.d (.str {data:=#[114,111,119]}),.lsl (P0.length+3) 2 0 k],.row false (BR (JF s k))]) (fun k=>k<=s.above.length) 0 (AfI _) ?_ ?_
  ·first
   | exact DA.pre [some P0.length,some (P0.length+1),some (P0.length+2),none] h.self lC lC bI (by simp(disch:=omega) [HW,BW,SW,AW,Ba,A0,AbY,AbZ,JF,Dd,BR])
  intro k hkk;simp only[Bm,Aev,Aew];rcases AeA k s.above.length with hlt | hge
  ·have ck:=UU s k hkk;have cdl:=B7 (JF s k);have csu:=Zb s k hlt;obtain ⟨b1,b2⟩:=s1 _ (Ds (d:=0) hlt);obtain ⟨m,hm⟩:∃ m:Nat,s.above.getD k 0=m:=⟨(s.above.getD k 0).toNat,lA⟩;rw[hm] at csu b1 b2;simp(disch:=try exact aa)only[q1,al,hm,AA,↓Ab,Ad,↓reduceIte,Qu];refine Aa.of (Od hP m lA) lD ?_;simp(disch:=try exact aa)only[cdl,ck,AA,↓Ab,Ad,↓reduceIte,Qu,Qw,Qz];obtain ⟨cf,hcf⟩:=CB [P0.length+2,P0.length+3,P0.length+4,P0.length+5] lC;have c0:=hcf 0 _ rfl;have c1:=hcf 1 _ rfl;have c2:=hcf 2 _ rfl;have c3:=hcf 3 _ rfl;have cge:BR (JF s (k+1))=BR (JF s k)++[.bool false,.str (bs (Lib.decDigits m))]:=(by rw[csu,GK];rfl)
   first
   | exact ⟨ko,AF cf bZ dh,k+1,hlt,iz,DA.pre [some P0.length,some (P0.length+1),some (P0.length+2),some (P0.length+5)] h.self lC lC co bo⟩
  obtain rfl:k=s.above.length:=lA
  have ck:=UU s s.above.length (Aex _);have cdl:=B7 (JF s s.above.length);simp(disch:=try exact aa)only[q0,AA,↓Ab,Ad,↓reduceIte,Qu,Qw,Qz];refine ⟨ko,?_⟩;have cda:cut (BR (JF s s.above.length)) 0 (s.above.length*2)=BR (Dd s.above).cells:=by rw[<-Iv];exact cut_all lA
  rw[cda];refine Al.fr 1770887431076116955457 (α:=Nat) (fun k=>s.paths.length-k) (fun k=>[(71,.d (.int .i64 k))]) (fun k=>P0++[zB,tB id name (.lsl (P0.length+2) 2 0 ((Fb s).length+k)),.row false (Cm (Ey s k))]) (fun k=>k<=s.paths.length) 0 (AfI _) ?_ ?_
  ·first
   | exact DA.pre [some P0.length,some (P0.length+1),some (P0.length+5)] h.self lC lC bI (by simp(disch:=omega) [HW,BW,SW,AW,Ba,A0,AbY,AbZ,Ey,Fb,hf,Cm,cut,Dd,Sd,Iv])
  intro k hkk;simp only[Bm,Aev,Aew];rcases AeA k s.paths.length with hlt | hge
  ·have gk:=strs_getD hlt;have ck:=KC s k hkk;have cdl:=B6 (Ey s k);have csu:=Re s k hlt;have tcl:(Fb s).length<=1:=gt
   have cce:Cm (Ey s (k+1))=Cm (Ey s k)++[.str (bs (s.paths.getD k [])),.sl s.rows.length false (BR (DU s (s.paths.getD k []) s.rows.length))]:=fQ;generalize hpk:s.paths.getD k []=pk at *;generalize htc:(Fb s).length=tc at *;simp(disch:=try exact aa)only[q0,q2,sl,gk,AA,↓Ab,Ad,↓reduceIte,Qu];refine Al.fr 3630909529516398463705409 (α:=Nat) (fun i=>s.rows.length-i) (fun i=>[(82,.d (.int .i64 i))]) (fun i=>P0++[zB,tB id name (.lsl (P0.length+2) 2 0 (tc+k)),.row false (Cm (Ey s k)),.box [.d (S pk),.lsl (P0.length+4) 2 0 i],.row false (BR (DU s pk i))]) (fun i=>i<=s.rows.length) 0 (AfI _) ?_ ?_
   ·first
    | exact DA.pre [some P0.length,some (P0.length+1),some (P0.length+2),some (P0.length+3),none] h.self lC lC bI bu
   intro i hii;simp only[Bm,Aev,Aew];rcases AeA i s.rows.length with hit | hig
   ·have q3':=q3;rw[LW,if_neg lA] at q3';have rl:((AgC s.rows.length).map fun i=>AV.mp (4+i)).length=s.rows.length:=lC
    have rg:((AgC s.rows.length).map fun i=>AV.mp (4+i)).getD i .undef=.mp (4+i):=(by rw[Aeq,Agx,Agy hit];rfl);generalize ((AgC s.rows.length).map fun i=>AV.mp (4+i))=rb at *;obtain ⟨m,m1,m2,m3⟩:=h.cm i hit;have kr:=m2.ok;have cl:=KD s pk i hii;have cel:=B7 (DU s pk i);have csc:=Ri s pk i hit;obtain ⟨cf,hcf⟩:=CB [P0.length+3,P0.length+4,P0.length+5,P0.length+6,P0.length+7] lC;have c0:=hcf 0 _ rfl;have c1:=hcf 1 _ rfl;have c2:=hcf 2 _ rfl;have c3:=hcf 3 _ rfl;have c4:=hcf 4 _ rfl;cases hc:s.rows[i] pk with
    | none =>
     have v2:DI (.agg [.bool false,.str ByteArray.empty]) m (S pk) true=.tup [.agg [.bool false,.str ByteArray.empty],.bool false]:=ie;have cge:BR (DU s pk (i+1))=BR (DU s pk i)++[.bool true,.str ByteArray.empty]:=dK;simp(disch:=try exact aa)only[q3',m1,kr,rl,rg,v2,cel,cl,AA,↓Ab,Ad,↓reduceIte,Qu,Qw,Qz];first
     | exact lG
     | exact lI
    | some c =>
     have v2:DI (.agg [.bool false,.str ByteArray.empty]) m (S pk) true=.tup [.agg (HO c),.bool true]:=ie;have cge:BR (DU s pk (i+1))=BR (DU s pk i)++[.bool c.2,.str (bs c.1)]:=dK;obtain ⟨c1',c2'⟩:=c;cases c2'
     ·simp(disch:=try exact aa)only[q3',m1,kr,rl,rg,v2,cel,cl,AA,↓Ab,Ad,↓reduceIte,Qu,Qw,Qz];first
      | exact lI
     simp(disch:=try exact aa)only[q3',m1,kr,rl,rg,v2,cel,cl,AA,↓Ab,Ad,↓reduceIte,Qu,Qw,Qz];first
     | exact lI
   obtain rfl:i=s.rows.length:=lA
   have cl:=KD s pk s.rows.length (Aex _);have cel:=B7 (DU s pk s.rows.length);have ccu:cut (BR (DU s pk s.rows.length)) 0 (s.rows.length*2)=BR (DU s pk s.rows.length):=cut_all lA;simp(disch:=try exact aa)only[cdl,ck,ccu,AA,↓Ab,Ad,↓reduceIte,Qu,Qw,Qz];first
   | exact lN
   | exact lO
  obtain rfl:k=s.paths.length:=lA
  have ck:=KC s s.paths.length (Aex _);have cdl:=B6 (Ey s s.paths.length);have tl:(Gn s id name).cols.length=(Fb s).length+s.paths.length:=by simp[Gn]
  have cpt:Ey s s.paths.length=(Gn s id name).cols:=UP s;have ctt:cut (Cm (Ey s s.paths.length)) 0 (((Fb s).length+s.paths.length)*2)=Cm (Gn s id name).cols:=df
  simp(disch:=try exact aa)only[ctt,AA,↓Ab,Ad,↓reduceIte,Qu];refine Aa.frozenE (JX hT (Gn s id name) false (W4 ⟨s1,s2,s3,s4,s5,s6⟩ hp id hn) i1 i2) (by rw[<-tl];rfl) ?_;rw[cpt] at *;rw[<-tl];simp(disch:=try exact aa)only[AA,↓Ab,Ad,↓reduceIte,Qu];obtain ⟨cf,hcf⟩:=CB [P0.length,P0.length+1,P0.length+2] lC;have c0:=hcf 0 _ rfl;have c1:=hcf 1 _ rfl;have c2:=hcf 2 _ rfl;refine ⟨AF cf cv dL,?_⟩;subst hr;refine Jg.pre2 (d:=.tup [Zt (Gn s id name) false,.bool (PL (Gn s id name))]) h.self ?_ jz lD;first
  | (simp[sealA,sealL,Aen,AgI];exact mF)
def TW {f:Nat->Nat} {r r':List Nat} (h:Dh r=false) (hc:∀ b∈r,f b∈r') (b:Nat) (hb:rd r' (f b)=false):rd r b=false:=by simp only[rd,Ag4,Ag7,decide_eq_false_iff_not] at hb ⊢;exact ⟨fun hm=>hb.1 (hc b hm),h⟩
def MK (f:Nat->Nat):TR->TR->Prop
 | [],[]=>True
 | t::r,u::v=>(Dh t.1=false/\(∀ b∈t.1,f b∈u.1)/\∀ b∈t.2,f b∈u.2)/\MK f r v
 | _,_=>False
def MK.get {f:Nat->Nat}:∀ {tr ur:TR},MK f tr ur->∀ (i:Nat) t,tr[i]?=some t->∃ u,ur[i]?=some u/\Dh t.1=false/\(∀ b∈t.1,f b∈u.1)/\∀ b∈t.2,f b∈u.2
 | [],[],_,i,t,h=>kx
 | x::r,y::v,hc,i,t,h=>by
   cases i with
   | zero=>simp at h;subst h;exact ⟨y,rfl,hc.1⟩
   | succ i=>simp at h;simpa using MK.get hc.2 i t h
 | [],_::_,hc,_,_,_=>by simp[MK] at hc
 | _::_,[],hc,_,_,_=>by simp[MK] at hc
def Sy {ops:Array Oper} {x y:Oper} {f:Nat->Nat} {tx ty ux uy:List Nat × List Nat} (h1:Dh tx.1=false) (h3:Dh ty.1=false)
  (c1:∀ b∈tx.1,f b∈ux.1) (c2:∀ b∈tx.2,f b∈ux.2) (c3:∀ b∈ty.1,f b∈uy.1) (c4:∀ b∈ty.2,f b∈uy.2)
  (h:EX ops x y ux uy=true):EX ops x y tx ty=true:=by
 simp only[EX,AgX,AgN,AgM] at h ⊢;obtain ⟨⟨⟨⟨k1,k2⟩,k3⟩,k4⟩,k5⟩:=h;refine ⟨⟨⟨⟨k1,k2⟩,k3⟩,fun b hb=>⟨TW h3 c3 b (k4 (f b) (c2 b hb)).1,?_⟩⟩,fun b hb=>TW h1 c1 b (k5 (f b) (c4 b hb))⟩;have:=(k4 (f b) (c2 b hb)).2;simp only[Ag7,decide_eq_false_iff_not] at this ⊢;exact fun hm=>this (c4 b hm)
def D9 {ops:Array Oper} {tr:TR} (f:Nat->Nat) (ur:TR) (hc:MK f tr ur) (h:Ea ops ur=true):Ea ops tr=true:=by
 have gz:∀ {i:Nat} {o:Oper} {t:List Nat × List Nat},(ops.toList.zip tr).zipIdx[i]?=some ((o,t),i)->∃ u,(ops.toList.zip ur).zipIdx[i]?=some ((o,u),i)/\Dh t.1=false/\(∀ b∈t.1,f b∈u.1)/\∀ b∈t.2,f b∈u.2:=by
  intro i o t hi;rw[AgF] at hi;cases hz:(ops.toList.zip tr)[i]? with
  | none=>simp[hz] at hi
  | some p =>simp[hz] at hi;subst hi;rw[AgS] at hz;obtain ⟨z1,z2⟩:=hz;obtain ⟨u,u1,u2⟩:=hc.get i _ z2;refine ⟨u,?_,u2⟩;have e:(ops.toList.zip ur)[i]?=some (o,u):=AgS.2 ⟨z1,u1⟩;rw[AgF,e];simp
 have idx:∀ {l:List (Oper × (List Nat × List Nat))} {q:(Oper × (List Nat × List Nat)) × Nat},q∈l.zipIdx->l.zipIdx[q.2]?=some (q.1,q.2):=by intro l q hq;obtain ⟨x,j⟩:=q;rw[List.mem_zipIdx_iff_getElem?] at hq;rw[AgF,hq];simp
 simp only[Ea,AgN] at h ⊢;rintro ⟨⟨o,t⟩,j⟩ hm;have hj:=idx hm;obtain ⟨u,u1,u2,u3,u4⟩:=gz hj;have hh:=h ((o,u),j) (Ag8 u1);simp only[AgX,AgN,decide_eq_true_eq,AgG] at hh ⊢;refine ⟨hh.1,?_⟩;rintro ⟨⟨o',t'⟩,i⟩ hi;have hi2:=List.mem_take_iff_getElem.1 hi;obtain ⟨k,hk,ek⟩:=hi2;have hk2:(ops.toList.zip tr).zipIdx[k]?=some ((o',t'),i):=by rw[Aeg lA,ek]
 have hik:i=k:=by
  rw[AgF] at hk2;cases hz:(ops.toList.zip tr)[k]? with
  | none=>simp[hz] at hk2
  | some p=>simp[hz] at hk2;exact hk2.2.symm
 subst hik;obtain ⟨v,v1,v2,v3,v4⟩:=gz hk2;rcases hh.2 ((o',v),i) (by refine Ag8 (i:=i) ?_;rw[List.getElem?_take,if_pos lA];exact v1) with h1 | h1
 ·exact .inl h1
 exact .inr (Sy v2 u2 v3 v4 u3 u4 h1)
section
variable {P:Program} {M:B8} {ops:Array Oper} {rest:List Oper} {s:List AV} {H Hn:List Ae} {tr:TR} {dst:Option Nat} {K:RK} {v:AV}
def DE (base k:Nat):outN [] base k=base+k:=by simp[outN]
def ON:∀ (a b:List (Nat × Ae)) (H:List Ae),applyW H (a++b)=applyW (applyW H a) b
 | [],_,_=>rfl
 | (i,x)::r,b,H=>by simp only[AgW,applyW];exact ON r b _
def WW:∀ (a b:List (Nat × Ae)) (n:Nat),(∀ p∈a,p.1<n)->wOK n (a++b)=wOK n b
 | [],_,_,_=>rfl
 | (i,x)::r,b,n,h=>by simp only[AgW,wOK];rw[if_pos (h (i,x) lC)];exact WW r b n fun p hp=>h p (AgO _ hp)
def RA:∀ (a:List (Nat × Ae)) (H:List Ae),(∀ p∈a,p.1<H.length)->(applyW H a).length=H.length
 | [],_,_=>rfl
 | (i,x)::r,H,h=>by simp only[applyW];rw[if_pos (h (i,x) lC),RA r _ fun p hp=>by rw[Af1];exact h p (AgO _ hp),Af1]
def Xr (f:Nat->Nat) (base:Nat):∀ (l:List Ae) (k:Nat),wOK (base+k) (outW [] base k l)=true
 | [],_=>rfl
 | b::r,k=>by simp only[outW,wOK,DE];rw[if_neg lA];simp only[BEq.rfl,Aes];exact Xr f base r (k+1)
def NR (base:Nat):∀ (l:List Ae) (k:Nat) (H:List Ae),H.length=base+k->applyW H (outW [] base k l)=H++l.map (renB (outN [] base))
 | [],_,H,_=>by simp[outW,applyW]
 | b::r,k,H,h=>by simp only[outW,applyW,DE];rw[if_neg lA,NR base r (k+1) _ jW];simp
def Aa.newgo {f:FuncId} {ars ars':List AV} {ids:List Nat} {H1:List Ae} (h:Ctr P G f ars' [] v Hn) (ea:ars=ars') (hn:Hn≠[]) (hw:∀ p∈frz H ids,p.1<H.length) (e1:applyW H (frz H ids)=H1)
  (hk:∀ t:List Nat × List Nat,EU P G M ops rest (putA s dst (renA (outN [] H.length) v)) (H1++Hn.map (renB (outN [] H.length))) (tr++[t]) K):Aa P G H f ars [] ids [] (OpC P G M ops rest s H tr dst K):=by
 subst ea;refine .by h rfl rfl lC ?_;have hne:Hn.isEmpty=false:=by cases Hn with | nil=>exact absurd rfl hn | cons=>rfl
 have e2:applyW H (frz H ids++outW [] H.length 0 Hn)=H1++Hn.map (renB (outN [] H.length)):=by rw[ON,e1,NR H.length Hn 0 H1 (by rw[<-e1,RA _ _ hw];rfl)]
 unfold callEff;rw[hne,Bool.and_false,Aet,if_neg lC,OpC_mk,e2,WW _ _ _ hw];exact ⟨Xr id H.length Hn 0,hk _⟩
end
def Gx (f:Nat->Nat) (b off:Nat):renA f (.ptr b off)=.ptr (f b) off:=by simp[renA]
def Q5 {β γ:Type} (g:β->γ) (k:D):∀ m:List (D × β),BX k (m.map fun p=>(p.1,g p.2))=(BX k m).map fun p=>(p.1,g p.2)
 | []=>rfl
 | x::r=>by
   rw[AeB,BX,BX];by_cases h:CC k x.1=true;·rw[if_pos h,if_pos h];rfl
   rw[if_neg h,if_neg h,Q5 g k r,Ahj,Ahj];rfl
def ZF {β γ:Type} (g:β->γ) (k:D) (m:List (D × β)):Gm (m.map fun p=>(p.1,g p.2)) k=(Gm m k).map g:=by unfold Gm;rw[Q5];cases BX k m<;>rfl
def BT.shift {L:Rl->Nat} {s:Ly} {H:List Ae} (h:BT L s H) (E:List Ae):BT (fun a=>outN [] E.length (L a)) s (E++H.map (renB (outN [] E.length))):=by
 have get:∀ {i:Nat} {b:Ae},H[i]?=some b->(E++H.map (renB (outN [] E.length)))[outN [] E.length i]?=some (renB (outN [] E.length) b):=by intro i b e;rw[DE,Agp lA,AgI,Agx,e];rfl
 refine ⟨fun a b ha hb e=>h.inj a b ha hb (by simp only[DE] at e;omega),fun a ha=>?_,?_,?_,?_,?_,?_,?_,?_,?_,?_,?_⟩;·have:=h.lt a ha;simp only[DE,Aen,AgE];omega
 ·rw[get h.box];simp[renB,renL,renA]
 ·obtain ⟨m,m1,m2,m3⟩:=h.seen;exact ⟨m,gE,m2,m3⟩
 ·rw[get h.above];simp[renB]
 ·rw[get h.paths];simp[renB]
 ·rw[get h.rows];unfold Kj;split;·simp[renB]
  simp only[renB,Dp,List.map_map];congr 3
 ·rw[get h.lists];simp[renB]
 ·obtain ⟨m,m1,m2,m3⟩:=h.items;refine ⟨m.map fun p=>(p.1,renA (outN [] E.length) p.2),gE,fun e he=>?_,fun p=>?_⟩;·obtain ⟨x,hx,rfl⟩:=AgD.1 he;exact m2 x hx
  rw[ZF,m3];split;·rfl
  simp[renA]
 ·obtain ⟨m,m1,m2,m3⟩:=h.sev;exact ⟨m,gE,m2,m3⟩
 ·intro i hi;obtain ⟨m,m1,m2,m3⟩:=h.row i hi;exact ⟨m,gE,m2,m3⟩
 intro p hp;rw[get (h.item p hp)];simp[renB]
def NoX.ren {H:List Ae} (h:NoX H) (f:Nat->Nat):NoX (H.map (renB f)):=fun b hb J t e=>by obtain ⟨x,hx,rfl⟩:=AgD.1 hb;cases x<;>simp[renB] at e
end
section
open Go Go.Proofs Go.Abs
variable {G:Ah}
def Jr (L:Rl->Nat) (n:Nat):List Nat:=[L (.n 0),L (.n 2),L (.n 3),L (.n 4)]++(AgC n).map fun i=>L (.n (8+i))
def Ab8 (s:Ly) (e:Nat->Nat->Value):Ae:=.box [.d (.bool s.further),.lsl 1 1 0 s.above.length,.lsl 2 1 0 s.paths.length,.lsl 3 1 0 s.rows.length,.d (.val (e 0 4)),.d (.val (e 0 5)),.d (.val (e 0 6))]
def ZR (L:Rl->Nat) (n:Nat) (H:List Ae):List Ae:=(AgC n).map fun i=>(H[L (.n (8+i))]?).getD .dead
def Vs (L:Rl->Nat) (s:Ly) (H:List Ae) (e:Nat->Nat->Value):List Ae:=[Ab8 s e,.row false (Ar .i64 s.above),.row false (strs s.paths),LW s.rows.length]++ZR L s.rows.length H
def Tx (L:Rl->Nat) (n:Nat):(Jr L n).length=4+n:=by simp[Jr];omega
def ZQ (L:Rl->Nat) (n:Nat) (H:List Ae):(ZR L n H).length=n:=by simp[ZR]
def Tw (L:Rl->Nat) (s:Ly) (H:List Ae) (e:Nat->Nat->Value):(Vs L s H e).length=4+s.rows.length:=by simp only[Vs,Aen,ZQ,Aer,Aeu]
def W2 (L:Rl->Nat) {n i:Nat} (h:i<n):(Jr L n)[4+i]?=some (L (.n (8+i))):=by unfold Jr;rw[Agp (by simp only[Aer,Aeu];omega)];simp only[Aer,Aeu];rw[show 4+i-(0+1+1+1+1)=i by omega,Agx,Agy h,Ahi]
def Ab7 {L:Rl->Nat} {n i:Nat} {H:List Ae} {b:Ae} (h:i<n) (e:H[L (.n (8+i))]?=some b):(ZR L n H)[i]?=some b:=by unfold ZR;rw[Agx,Agy h,Ahi,e];rfl
def W0 {L:Rl->Nat} {s:Ly} {H:List Ae} {e:Nat->Nat->Value} {i:Nat} {b:Ae} (h:i<s.rows.length) (q:H[L (.n (8+i))]?=some b):(Vs L s H e)[4+i]?=some b:=by unfold Vs;rw[Agp (by simp only[Aer,Aeu];omega)];simp only[Aer,Aeu];rw[show 4+i-(0+1+1+1+1)=i by omega];exact Ab7 h q
def Tv {L:Rl->Nat} {s:Ly} {H:List Ae} (h:BT L s H) {e:Nat->Nat->Value} {b:Ae} (hb:b∈Vs L s H e) :
  b=Ab8 s e\/b=.row false (Ar .i64 s.above)\/b=.row false (strs s.paths)\/b=LW s.rows.length\/∃ m:List (D × D),b=.map m:=by
 rcases Ag2.1 hb with hb | hb
 ·simp only[Agu,Agw,or_false] at hb;rcases hb with hb | hb | hb | hb
  ·exact .inl hb
  ·exact .inr (.inl hb)
  ·exact .inr (.inr (.inl hb))
  exact .inr (.inr (.inr (.inl hb)))
 obtain ⟨i,hi,rfl⟩:=AgD.1 hb;obtain ⟨m,m1,_⟩:=h.row i (Agz.1 hi);exact .inr (.inr (.inr (.inr ⟨m,by rw[m1];rfl⟩)))
def W9 (fs:List (Option Nat)) (N:Nat):∀ (l:List Nat),(∀ i∈l,4+i<N)->SW (idf N++fs) (l.map fun i=>.mp (4+i)) (l.map fun i=>.mp (4+i))
 | [],_=>trivial
 | i::r,h=>by refine ⟨?_,W9 fs N r fun j hj=>h j (AgO _ hj)⟩;simp only[AW,A4 (h i lC)]
def tblH {L:Rl->Nat} {s:Ly} {H:List Ae} (h:BT L s H) (e:Nat->Nat->Value):TblH s (Vs L s H e):=by
 have hl:=Tw L s H e;refine ⟨hl,⟨_,_,_,rfl⟩,rfl,rfl,rfl,fun i hi=>?_,fun b hb fs=>?_,fun b hb J t q=>?_⟩;·obtain ⟨m,m1,m2,m3⟩:=h.row i hi;exact ⟨m,W0 hi m1,m2,m3⟩
 ·rw[hl];rcases Tv h hb with rfl | rfl | rfl | rfl | ⟨m,rfl⟩
  ·have k1:=A4 (n:=4+s.rows.length) (k:=1) (fs:=fs) lA;have k2:=A4 (n:=4+s.rows.length) (k:=2) (fs:=fs) lA;have k3:=A4 (n:=4+s.rows.length) (k:=3) (fs:=fs) lA;simp[Ab8,BW,SW,AW,k1,k2,k3]
  ·simp[BW]
  ·simp[BW]
  ·unfold LW;split;·simp[BW]
   simp only[BW];exact W9 fs _ _ fun i hi=>by have:=Agz.1 hi;omega
  simp[BW]
 rcases Tv h hb with rfl | rfl | rfl | rfl | ⟨m,rfl⟩
 ·simp[Ab8] at q
 ·simp at q
 ·simp at q
 ·unfold LW at q;split at q<;>simp at q
 simp at q
def Vt {L:Rl->Nat} {s:Ly} {H:List Ae} (h:BT L s H):(Jr L s.rows.length).Nodup:=by
 have ok:∀ k,k<8+s.rows.length->BF s (.n k):=fun k hk=>hk;have ne:∀ {i j:Nat},i<8+s.rows.length->j<8+s.rows.length->i≠j->¬L (.n i)=L (.n j):=fun hi hj hij=>h.ne (ok _ hi) (ok _ hj) (by simpa using hij);unfold Jr;refine List.nodup_append.2 ⟨?_,?_,?_⟩
 ·simp only[Agq,Agu,Agw,or_false,not_or,AgJ,and_true,not_false_eq_true];exact ⟨⟨ne lA lA lz,ne lA lA lz,ne lA lA lz⟩,⟨ne lA lA lz,ne lA lA lz⟩,ne lA lA lz⟩
 ·refine List.pairwise_map.2 (List.Pairwise.imp_of_mem (fun {a b} ha hb hab=>?_) List.nodup_range);have:=Agz.1 ha;have:=Agz.1 hb;exact ne lA lA lA
 intro a ha b hb;obtain ⟨i,hi,rfl⟩:=AgD.1 hb;have hi:=Agz.1 hi;simp only[Agu,Agw,or_false] at ha;rcases ha with rfl | rfl | rfl | rfl
 ·exact ne lA lA lA
 ·exact ne lA lA lA
 ·exact ne lA lA lA
 exact ne lA lA lA
def Fs (hT:HT G) (hP:HP G) {L:Rl->Nat} {s:Ly} {H:List Ae} (h:BT L s H) (hs:LyT s) (id:Int) (i1:-9223372036854775808<=id) (i2:id<=9223372036854775807) (name:List UInt8) (hn:name.length<=1000000000) {k:Eff->Prop}
  (hk:k ⟨.d (.tup [Zt (Gp s id name).1 false,.bool (Gp s id name).2]),[],Jr L s.rows.length⟩):Au TP G H 56 [.ptr (L (.n 0)) 0,.d (.int .i64 id),.d (S name)] k:=by
 refine Au.view (ars:=[.ptr 0 0,.d (.int .i64 id),.d (S name)]) (Jr L s.rows.length) (Vs L s H) (Vt h) (fun e=>by rw[Tw,Tx]) (fun e j b hj=>?_) ?_ (fun e=>Ye hT hP s hs id i1 i2 name hn (tblH h e)) hk
 ·have hj2:j<4+s.rows.length:=by have:=(Aga.1 hj).1;rwa[Tx] at this
  rcases AeA j 4 with hlt | hge
  ·rcases (by omega:j=0\/j=1\/j=2\/j=3) with rfl | rfl | rfl | rfl
   ·have:L (.n 0)=b:=by simpa[Jr] using hj
    subst this;refine ⟨_,_,h.box,rfl,?_⟩;refine ⟨rfl,fun i x y hx hy=>?_⟩;have hi:i<7:=cU
    rcases (by omega:i=0\/i=1\/i=2\/i=3\/i=4\/i=5\/i=6) with rfl | rfl | rfl | rfl | rfl | rfl | rfl<;>simp at hx hy<;>subst hx<;>subst hy
    ·exact .inr (.inl ⟨_,rfl,rfl⟩)
    ·exact qw
    ·exact qw
    ·exact qw
    ·exact .inl rfl
    ·exact .inl rfl
    exact .inl rfl
   ·have:L (.n 2)=b:=by simpa[Jr] using hj
    subst this;exact ⟨_,_,h.above,rfl,rfl,rfl⟩
   ·have:L (.n 3)=b:=by simpa[Jr] using hj
    subst this;exact ⟨_,_,h.paths,rfl,rfl,rfl⟩
   have:L (.n 4)=b:=by simpa[Jr] using hj
   subst this;refine ⟨_,_,h.rows,rfl,?_⟩;unfold Kj LW;split;·exact ⟨rfl,rfl⟩
   refine ⟨lC,fun i x y hx hy=>?_⟩;have hi:i<s.rows.length:=cU
   rw[Agx,Agy hi] at hx hy;simp at hx hy;subst hx;subst hy;exact .inr (.inr (.inr ⟨_,_,rfl,rfl,W2 L hi⟩))
  obtain ⟨i,rfl⟩:∃ i,j=4+i:=⟨j-4,lA⟩;have hi:i<s.rows.length:=lA
  rw[W2 L hi] at hj;cases hj;obtain ⟨m,m1,_⟩:=h.row i hi;exact ⟨_,_,m1,W0 hi m1,rfl⟩
 exact ⟨.inr ⟨_,_,_,rfl,rfl,rfl⟩,.inl nA,.inl nA,trivial⟩
def ZT (L:Rl->Nat) (n:Nat):Dh (Jr L n)=false:=rfl
def ZS {L:Rl->Nat} {s:Ly} {H:List Ae} (h:BT L s H) {b:Nat} (hb:b∈Jr L s.rows.length):b<H.length/\∃ k,BF s (.n k)/\b=L (.n k):=by
 have ok:∀ k,k<8+s.rows.length->BF s (.n k):=fun k hk=>hk;rcases Ag2.1 hb with hb | hb
 ·simp only[Agu,Agw,or_false] at hb;rcases hb with rfl | rfl | rfl | rfl
  ·exact ⟨h.lt _ (ok 0 lA),0,ok 0 lA,rfl⟩
  ·exact ⟨h.lt _ (ok 2 lA),2,ok 2 lA,rfl⟩
  ·exact ⟨h.lt _ (ok 3 lA),3,ok 3 lA,rfl⟩
  exact ⟨h.lt _ (ok 4 lA),4,ok 4 lA,rfl⟩
 obtain ⟨i,hi,rfl⟩:=AgD.1 hb;have hi:=Agz.1 hi;exact ⟨h.lt _ (ok _ lA),8+i,ok _ lA,rfl⟩
abbrev Pj (t:Tab):List D:=[.int .i64 t.id,S t.name,Vl t.cols false]
def DB (l:List Tab):List D:=l.flatMap Pj
def Fa:∀ l:List Tab,(DB l).length=3*l.length
 | []=>rfl
 | o::l=>by have ih:=Fa l;simp only[DB,List.flatMap_cons,Aen,Aer,Aeu] at ih ⊢;omega
def GL:Nat->Ly->Int->List UInt8->List Tab->List Tab × Bool
 | 0,_,_,_,ts=>(ts,true)
 | n+1,s,id,name,ts =>
  if (Gp s (id+ts.length) name).2=true/\ts.length+1<=1024 then
   s.lists.foldl (fun a p=>if a.2=true then GL n (A1 true (s.it p)) id (name++[46]++p) a.1 else a) (ts++[(Gp s (id+ts.length) name).1],true)
  else (ts++[(Gp s (id+ts.length) name).1],false)
def DN (n:Nat) (s:Ly) (id:Int) (name:List UInt8) (ts:List Tab) (k:Nat):List Tab × Bool :=
 (s.lists.take k).foldl (fun a p=>if a.2=true then GL n (A1 true (s.it p)) id (name++[46]++p) a.1 else a) (ts,true)
def LG (n:Nat) (s:Ly) (id:Int) (name:List UInt8) (ts:List Tab) {k:Nat} (h:k<s.lists.length):DN n s id name ts (k+1) =
  if (DN n s id name ts k).2=true then GL n (A1 true (s.it (s.lists.getD k []))) id (name++[46]++s.lists.getD k []) (DN n s id name ts k).1 else DN n s id name ts k:=by
 unfold DN;rw[Agb,Aeg h,Aeq,Aeg h];simp only[AgH,Ahf,List.foldl_cons,List.foldl_nil,AgA]
def AbH (n:Nat) (s:Ly) (id:Int) (name:List UInt8) (ts:List Tab):DN n s id name ts s.lists.length=s.lists.foldl (fun a p=>if a.2=true then GL n (A1 true (s.it p)) id (name++[46]++p) a.1 else a) (ts,true):=by unfold DN;rw[Agv]
def XW (n:Nat) (s:Ly) (id:Int) (name:List UInt8) (ts:List Tab):GL (n+1) s id name ts =
  if (Gp s (id+ts.length) name).2=true/\ts.length+1<=1024 then DN n s id name (ts++[(Gp s (id+ts.length) name).1]) s.lists.length else (ts++[(Gp s (id+ts.length) name).1],false):=by
 rw[GL,AbH]
def U8:∀ (n:Nat) (s:Ly) (id:Int) (name:List UInt8) (ts:List Tab),ts.length<=1024->(GL n s id name ts).2=true->(GL n s id name ts).1.length<=1024
 | 0,_,_,_,ts,h,_=>h
 | n+1,s,id,name,ts,h,ht=>by
   rw[XW] at ht ⊢;by_cases c:(Gp s (id+ts.length) name).2=true/\ts.length+1<=1024
   ·rw[if_pos c] at ht ⊢;have key:∀ k,k<=s.lists.length->(DN n s id name (ts++[(Gp s (id+ts.length) name).1]) k).2=true->(DN n s id name (ts++[(Gp s (id+ts.length) name).1]) k).1.length<=1024:=by
     intro k;induction k with
     | zero=>intro _ _;simp[DN];omega
     | succ k ih =>
      intro hk h2;rw[LG _ _ _ _ _ lA] at h2 ⊢;by_cases e:(DN n s id name (ts++[(Gp s (id+ts.length) name).1]) k).2=true;·rw[if_pos e] at h2 ⊢;exact U8 n _ _ _ _ (ih lA e) h2
      rw[if_neg e] at h2;exact absurd h2 e
    exact key _ (Aex _) ht
   rw[if_neg c] at ht;cases ht
def LH (n:Nat) (s:Ly) (id:Int) (name:List UInt8) (ts:List Tab) {k:Nat} (hf:(DN n s id name ts k).2=false):∀ m,k+m<=s.lists.length->DN n s id name ts (k+m)=DN n s id name ts k
 | 0,_=>rfl
 | m+1,h=>by have ih:=LH n s id name ts hf m lA;rw[<-Af0,LG _ _ _ _ _ lA,ih,hf,if_neg lC]
def RE:Nat->Ly->Nat->Prop
 | 0,_,_=>False
 | n+1,s,m=>LyT s/\m<=1000000000/\s.lists.length<=1000000/\s.lists.Nodup/\∀ p∈s.lists,(∀ e∈s.it p,Hp e.2)/\C8 (s.it p)<=4000/\RE n (A1 true (s.it p)) (m+1+p.length)
def LO (j:Option Nat) (n:Nat):AV:=match j with
 | none=>.d (.sl 0 true [])
 | some j=>.lsl j 3 0 n
def Af9 (j:Option Nat) (ts:List Tab) (H:List Ae):Prop:=match j with
 | none=>ts=[]
 | some j=>H[j]?=some (.row false (DB ts))
abbrev flB (id:Int) (j:Option Nat) (n:Nat):Ae:=.box [.d (.int .i64 id),LO j n]
def MA:B8:=fun k=>Ag1 k 4000056 || Ag1 k 4000031
def Pk:MA 4000056=true:=rfl
def Hz:MA 4000031=true:=rfl
def Eg {k:Nat} (h:¬(k=4000056\/k=4000031)):MA k=false:=by
 cases e:MA k with
 | false=>rfl
 | true =>
  unfold MA at e;rw[AgG] at e;rcases e with e | e
  ·exact qt
  exact absurd (.inr (AfZ e)) h
structure Adc (L:Rl->Nat) (s:Ly) (F:Nat) (j:Option Nat) (id:Int) (ts:List Tab) (H H':List Ae):Prop where
 len:H.length<=H'.length
 nox:NoX H'
 tabs:∃ q,H.length<=q/\H'[F]?=some (flB id (some q) ts.length)/\H'[q]?=some (.row false (DB ts))
 same:∀ i,i<H.length->i≠F->some i≠j->(∀ p,¬s.it p=[]->i≠L (.i p))->H'[i]?=H[i]?
structure AddA (L:Rl->Nat) (s:Ly) (F:Nat) (j:Option Nat) (id:Int) (name:List UInt8) (ts:List Tab) (H:List Ae):Prop where
 lay:BT L s H
 nox:NoX H
 i1:-1000000000000<=id
 i2:id<=1000000000000
 cap:ts.length<=1024
 fl:H[F]?=some (flB id j ts.length)
 tabs:Af9 j ts H
 fj:some F≠j
 ne:∀ a,BF s a->L a≠F/\some (L a)≠j
def AddC (G:Ah) (n:Nat):Prop:=∀ {L:Rl->Nat} {s:Ly} {F:Nat} {j:Option Nat} {id:Int} {name:List UInt8} {ts:List Tab} {H:List Ae},RE n s name.length->AddA L s F j id name ts H ->
 ∃ H',Ctr TP G 31 [.ptr F 0,.ptr (L (.n 0)) 0,.d (S name)] H (.d (.bool (GL n s id name ts).2)) H'/\Adc L s F j id (GL n s id name ts).1 H H'
def Ky (x:List Ae) (l:List Elm) (i:Nat):List Ae:=if l=[] then x else x.set i (.row true (BI l))
def Aa6 (x:List Ae) (l:List Elm) (i:Nat):(Ky x l i).length=x.length:=by unfold Ky;split<;>simp
structure Ade (n:Nat) (L:Rl->Nat) (s:Ly) (F:Nat) (j:Option Nat) (id:Int) (name:List UInt8) (ts:List Tab) (H:List Ae) (k:Nat) (x:List Ae):Prop where
 p:Adc L s F j id (DN n s id name ts k).1 H x
 rest:∀ q∈s.lists.drop k,¬s.it q=[]->x[L (.i q)]?=some (.row false (BI (s.it q)))
 cap:(DN n s id name ts k).2=true->(DN n s id name ts k).1.length<=1024
def AbX (G:Ah) (n:Nat) (L:Rl->Nat) (s:Ly) (F:Nat) (id:Int) (name:List UInt8) (ts:List Tab) (k:Nat) (x y:List Ae):Prop :=
 ((DN n s id name ts k).2=false->y=x)/\((DN n s id name ts k).2=true->∃ H',Ctr TP G 32 [.d (.bool true),.d (ElS (s.it (s.lists.getD k [])) false)] [] (.ptr 2 0) H'/\H'≠[]/\x.length+H'.length<=y.length /\
  Ctr TP G 31 [.ptr F 0,.ptr (outN [] x.length 2) 0,.d (S (name++[46]++s.lists.getD k []))] (Ky x (s.it (s.lists.getD k [])) (L (.i (s.lists.getD k [])))++H'.map (renB (outN [] x.length))) (.d (.bool (DN n s id name ts (k+1)).2)) y)
def U7 {n:Nat} (IH:AddC G n) {L:Rl->Nat} {s:Ly} {F:Nat} {j:Option Nat} {id:Int} {name:List UInt8} {ts:List Tab} {H:List Ae} (h:BT L s H) (i1:-1000000000000<=id) (i2:id<=1000000000000) (hFl:F<H.length)
  (hr:∀ a,BF s a->L a≠F/\some (L a)≠j) (hnd:s.lists.Nodup) (hok:∀ p∈s.lists,(∀ e∈s.it p,Hp e.2)/\C8 (s.it p)<=4000/\RE n (A1 true (s.it p)) (name.length+1+p.length))
  {k:Nat} (hk:k<s.lists.length) {x:List Ae} (hx:Ade n L s F j id name ts H k x):∃ y,AbX G n L s F id name ts k x y/\Ade n L s F j id name ts H (k+1) y:=by
 have hsucc:=LG n s id name ts hk;obtain ⟨⟨p1,p2,⟨q,q1,q2,q3⟩,p4⟩,hrest,hcap⟩:=hx;have hdr:∀ r,r∈s.lists.drop (k+1)->r∈s.lists.drop k:=fun r hr=>by rw[show s.lists.drop (k+1)=(s.lists.drop k).drop 1 by rw[List.drop_drop]] at hr;exact List.mem_of_mem_drop hr
 cases e:(DN n s id name ts k).2 with
 | false =>rw[e,if_neg lC] at hsucc;refine ⟨x,⟨fun _=>rfl,fun c=>(by rw[e] at c;cases c)⟩,⟨?_,fun r hr=>hrest r (hdr r hr),fun c=>(by rw[hsucc,e] at c;cases c)⟩⟩;rw[hsucc];exact ⟨p1,p2,⟨q,q1,q2,q3⟩,p4⟩
 | true =>
  rw[e,if_pos rfl] at hsucc;have hcap:=hcap e;have hpm:s.lists.getD k []∈s.lists:=Ds hk;have hpd:s.lists.getD k []∈s.lists.drop k:=by rw[Aeq,Aeg hk,AgA,Af7 hk];exact AgR
  have hpn:∀ r∈s.lists.drop (k+1),r≠s.lists.getD k []:=by intro r hr c;have:=List.Nodup.sublist (List.drop_sublist k s.lists) hnd;rw[Af7 hk] at this;rw[Aeq,Aeg hk] at c;simp at c;exact (Agq.1 this).1 (c▸hr)
  generalize hp:s.lists.getD k []=p at *;obtain ⟨k1,k2,k3⟩:=hok p hpm;obtain ⟨L',H',g1,g2,g3,g4⟩:=JA (G:=G) true (s.it p) false k1 k2;have hl1:=Aa6 x (s.it p) (L (.i p));have g5:=g2.shift (Ky x (s.it p) (L (.i p)));rw[hl1] at g5;have hH':0<H'.length:=by have:=g2.lt (.n 0) (by show 0<8+_;omega);omega
  have hne:H'≠[]:=by intro c;rw[c] at hH';simp at hH'
  have nx1:NoX (Ky x (s.it p) (L (.i p))):=by
   unfold Ky;split;·exact p2
   exact p2.set _ lC
  have at1:∀ i,i<x.length->(¬s.it p=[]->i≠L (.i p))->(Ky x (s.it p) (L (.i p))++H'.map (renB (outN [] x.length)))[i]?=x[i]?:=by
   intro i hi hne;rw[List.getElem?_append_left lA];unfold Ky;split;·rfl
   rename_i c;exact Ag3 fun c2=>hne c c2.symm
  have hFx:F<x.length:=lA
  have hqx:q<x.length:=(Aga.1 q3).1;obtain ⟨y,y1,⟨y2,y3,⟨q',y4,y5,y6⟩,y7⟩⟩:=IH (L:=fun a=>outN [] x.length (L' a)) (F:=F) (j:=some q) (id:=id) (name:=name++[46]++p) (ts:=(DN n s id name ts k).1)
   (H:=Ky x (s.it p) (L (.i p))++H'.map (renB (outN [] x.length))) (by
    have:(name++[46]++p).length=name.length+1+p.length:=by simp only[Aen,Aer,Aeu]
    rw[this];exact k3)
   ⟨g5,nx1.app (g3.ren _),i1,i2,hcap,by rw[at1 F hFx fun c=>(hr (.i p) c).1.symm];exact q2,by
     show _=_
     rw[at1 q hqx fun c c2=>by have:=h.lt (.i p) c;omega];exact q3,by simp;intro c;omega,fun a ha=>⟨by rw[DE];omega,g9⟩⟩
  have lX:(Ky x (s.it p) (L (.i p))++H'.map (renB (outN [] x.length))).length=x.length+H'.length:=by rw[Aen,hl1,AgE]
  rw[lX] at y2 y4;have y7':∀ i,i<x.length->i≠F->i≠q->(¬s.it p=[]->i≠L (.i p))->y[i]?=x[i]?:=by intro i hi c1 c2 c3;rw[y7 i (by rw[lX];omega) c1 (by simpa using c2) fun r _=>by rw[DE];omega];exact at1 i hi c3
  refine ⟨y,⟨fun c=>(by rw[e] at c;cases c),fun _=>⟨H',by rw[hp];exact g1,hne,y2,?_⟩⟩,⟨?_,fun r hr2 hrn=>?_,fun c=>?_⟩⟩
  ·rw[hp,hsucc];have:(fun a=>outN [] x.length (L' a)) (.n 0)=outN [] x.length 2:=by simp only[g4]
   rw[<-this];exact y1
  ·rw[hsucc];refine ⟨lA,y3,⟨q',lA,y5,y6⟩,fun i hi c1 c2 c3=>?_⟩;rw[y7' i lA c1 lA fun c=>c3 p c];exact p4 i hi c1 c2 c3
  ·have hlt:=h.lt (.i r) hrn;rw[y7' _ lA (hr (.i r) hrn).1 lA fun c=>h.ne hrn c (by intro c2;cases c2;exact hpn _ hr2 rfl)];exact hrest r (hdr r hr2) hrn
  rw[hsucc] at c ⊢;exact U8 n _ _ _ _ hcap c
def U6 {n:Nat} {L:Rl->Nat} {s:Ly} {F:Nat} {id:Int} {name:List UInt8} {ts:List Tab} {f:Nat->List Ae} (fT:∀ k,k<s.lists.length->AbX G n L s F id name ts k (f k) (f (k+1))) {k:Nat} (hf:(DN n s id name ts k).2=false):∀ m,k+m<=s.lists.length->f (k+m)=f k
 | 0,_=>rfl
 | m+1,h=>((fT (k+m) lA).1 (by rw[LH n s id name ts hf m lA];exact hf)).trans (U6 fT hf m lA)
def M9 {n:Nat} {L:Rl->Nat} {s:Ly} {F:Nat} {id:Int} {name:List UInt8} {ts:List Tab} {f:Nat->List Ae} (fT:∀ k,k<s.lists.length->AbX G n L s F id name ts k (f k) (f (k+1))) {k:Nat} (hk:k<=s.lists.length) (hf:(DN n s id name ts k).2=false) :
  f s.lists.length=f k/\(DN n s id name ts s.lists.length).2=false:=by
 have e:=U6 fT hf (s.lists.length-k) lA;have e2:=LH n s id name ts hf (s.lists.length-k) lA;rw[show k+(s.lists.length-k)=s.lists.length by omega] at e e2;exact ⟨e,by rw[e2];exact hf⟩
def XV (hT:HT G) (hP:HP G):∀ n:Nat,AddC G n:=by
 intro n;induction n with
 | zero=>intro L s F j id name ts H hok _;cases hok
 | succ n IH =>
  intro L s F j id name ts H hok hA0;obtain ⟨h,h0,i1,i2,ht,hF,hj,hFj,hr⟩:=hA0;obtain ⟨hs,hn,hll,hnd,hok⟩:=hok;have fl:=(Aga.1 hF).1;have tl:=Fa ts;have q0:=h.box;have ok:∀ k,k<8+s.rows.length->BF s (.n k):=fun k hk=>hk;have rF:∀ k,k<8+s.rows.length->¬L (.n k)=F:=fun k hk=>(hr _ (ok k hk)).1;have rj:∀ k,k<8+s.rows.length->some (L (.n k))≠j:=fun k hk=>(hr _ (ok k hk)).2;have b0:=h.lt _ (ok 0 lA);have F0:=rF 0 lA;obtain ⟨r,hrr⟩:∃ r,r=Gp s (id+ts.length) name:=⟨_,rfl⟩;have hA:=XW n s id name ts;rw[<-hrr] at hA;have hcv:∀ b∈Jr L s.rows.length,b<H.length:=fun b hb=>(ZS h hb).1;have hcl:=ZT L s.rows.length;have sl:=@strs_length s.lists;cases j with
  | some j =>
   replace hj:H[j]?=some (.row false (DB ts)):=hj;have jl:=(Aga.1 hj).1;have Fj:¬F=j:=fun c=>hFj (by rw[c]);have J0:¬L (.n 0)=j:=fun c=>rj 0 lA (by rw[c]);have hF2:=hF;unfold flB LO at hF;simp only at hF;obtain ⟨HA,hHA⟩:∃ HA,HA=(H.set j .dead).set F (flB id (some (H.length+2)) (ts.length+1))++[.box [.d (.int .i64 r.1.id),.d (S r.1.name),.d (Vl r.1.cols false)],.row false (Pj r.1),.row false (DB (ts++[r.1]))]:=⟨_,rfl⟩;have hsame:∀ i,i<H.length->i≠F->some i≠(some j)->HA[i]?=H[i]?:=(by intro i hi c1 c2;rw[hHA,Ay iQ,Ao (fun c=>c1 c.symm)];exact Ao fun c=>c2 (by rw[c]))
   have hAP:Adc L s F (some j) id (ts++[r.1]) H HA:=by
    refine ⟨jI,?_,⟨H.length+2,lA,?_,?_⟩,fun i hi c1 c2 c3=>hsame i hi c1 c2⟩<;>rw[hHA];·exact ((h0.set _ lC).set _ lC).app kE
    ·simp only[Ay,A8,Af1,fl,Aen,Aer,Aeu]
    rw[Agp lC];simp
   obtain ⟨cf,hcf⟩:=CB [F,j,H.length,H.length+1,H.length+2] aE;have c0:=hcf 0 _ rfl;have c1:=hcf 1 _ rfl;have c2:=hcf 2 _ rfl;have c3:=hcf 3 _ rfl;have c4:=hcf 4 _ rfl;cases hr2:r.2 with
   | false =>
    rw[hr2,if_neg lC] at hA;refine ⟨HA,?_,ig⟩;refine Ctr.bodyI (M:=MA) Ak Tryz.func31 rfl Aa3 hAP.nox.ok ?_;simp(disch:=try exact aa)only[Tryz.f31,Eg,Pk,hF,↓Ab,Ad,↓reduceIte,Qu,Qv];refine Fs hT hP h hs (id+ts.length) lA lA name hn ?_;rw[<-hrr,hr2,hA];simp(disch:=try exact aa)only[Eg,tl,hF,hj,AA,↓Ab,Ad,↓reduceIte,Qu,Qw,Qz];refine ⟨D9 (fun x=>if x<H.length then 0 else 1) [([],[]),([],[]),([],[]),([],[]),([0],[]),([],[]),([],[]),([],[]),([0],[]),([],[]),([],[]),([],[]),([0],[]),([],[]),([],[]),([],[]),([1],[1]),([1],[1]),([],[])] dM lD,ko,AF cf bZ cO,?_⟩;first
    | exact Or.inr ⟨dX,Or.inl rfl⟩
   | true =>
    by_cases hc:ts.length+1<=1024
    ·rw[hr2,if_pos ⟨rfl,hc⟩] at hA;obtain ⟨TS,hTS⟩:∃ TS,TS=ts++[r.1]:=⟨_,rfl⟩;rw[<-hTS] at hA hAP;have hTl:TS.length<=1024:=cP
     obtain ⟨f,f0,fI,fT⟩:=Lb (Ade n L s F (some j) id name TS H) (AbX G n L s F id name TS) s.lists.length HA
      ⟨hAP,fun q _ hq=>az,fun _=>hTl⟩ (fun k hk x hx=>U7 IH h i1 i2 fl hr hnd hok hk hx)
     have fE:=fI _ (Aex _);refine ⟨f s.lists.length,?_,by rw[hA];exact fE.p⟩;refine Ctr.bodyI (M:=MA) Ak Tryz.func31 rfl Aa3 fE.p.nox.ok ?_;simp(disch:=try exact aa)only[Tryz.f31,Eg,Pk,hF,↓Ab,Ad,↓reduceIte,Qu,Qv];refine Fs hT hP h hs (id+ts.length) lA lA name hn ?_;rw[<-hrr,hr2,hA];simp(disch:=try exact aa)only[Eg,tl,hF,hj,q0,AA,↓Ab,Ad,↓reduceIte,Qu,Qw,Qz];refine ⟨D9 (fun x=>if x<H.length then 0 else 1) [([],[]),([],[]),([],[]),([],[]),([0],[]),([],[]),([],[]),([],[]),([0],[]),([],[]),([],[]),([],[]),([0],[]),([],[]),([],[]),([],[]),([1],[1]),([1],[1]),([],[])] dM lD,ko,AF cf bZ cO,?_⟩;refine Al.frI 3377699720527879 (α:=Nat) (fun k=>s.lists.length-k) (fun k=>[(52,.d (.int .i64 k))]) (fun k=>f k) (fun k=>k<=s.lists.length/\(DN n s id name TS k).2=true) 0 ⟨AfI _,rfl⟩ ?_ ?_
     ·have htb:DB (ts++[r.1])=DB ts++Pj r.1:=(by simp[DB]);have hce:cut [.int .i64 r.1.id,.str (bs r.1.name),.sl r.1.cols.length false (Cm r.1.cols)] 0 3=Pj r.1:=ko;rw[f0,hHA,htb,hce];first
      | exact .slots jc
     rintro k ⟨hkk,ha2⟩;simp only[Bm,Aev,Aew];rcases AeA k s.lists.length with hlt | hge
     ·obtain ⟨_,t2⟩:=fT k hlt;obtain ⟨H',g1,g2,g3,g4⟩:=t2 ha2;obtain ⟨⟨p1,p2,_,p4⟩,prest,_⟩:=fI k hkk;have hpm:s.lists.getD k []∈s.lists:=Ds hlt;have hpd:s.lists.getD k []∈s.lists.drop k:=by
       rw[Aeq,Aeg hlt,AgA,Af7 hlt];exact AgR
      have hpl:name.length+1+(s.lists.getD k []).length<=1000000000:=by
       cases n with
       | zero=>exact (hok _ hpm).2.2.elim
       | succ n=>exact (hok _ hpm).2.2.2.1
      have g:=strs_getD hlt;have pit:=prest _ hpd;have at':∀ a,a<8+s.rows.length->(f k)[L (.n a)]?=H[L (.n a)]?:=fun a ha=>p4 _ (h.lt _ (ok a ha)) (rF a ha) (rj a ha) fun p hp=>h.ne (ok a ha) hp lC;have e0:=(at' 0 lA).trans h.box;have e5:=(at' 5 lA).trans h.lists;obtain ⟨m,m1,m2,m3⟩:=h.items;have e6:=(at' 6 lA).trans m1;have kr:=m2.ok;have pl:=fun a ha=>AgB (h.lt a ha) p1;generalize f k=Hk at *;generalize s.lists.getD k []=p at *;have hnm:name++[46]++p=name++46::p:=lC
      rw[hnm] at g4;generalize hρ:outN [] Hk.length=ρ at *;by_cases hit:s.it p=[]
      ·have v2:G7 (.sl 0 true []) m (S p) false=.d (.sl 0 true []):=(by rw[Ew,m3,if_pos hit]);rw[hit] at g1 g4;unfold Ky at g4;rw[if_pos rfl] at g4;simp(disch:=try exact aa)only[Eg,e0,e5,e6,g,kr,v2,sl,↓Ab,Ad,↓reduceIte,Qu];refine Aa.newgo g1 lD g2 fC lD ?_;intro t;rw[hρ,Gx];simp(disch:=try exact aa)only[Af,Eg,Hz,AA,↓Ab,Ad,Qu];refine Au.go g4 lT fe ?_;cases e:(DN n s id name TS (k+1)).2 with
       | false =>
        obtain ⟨z1,z2⟩:=M9 fT (by omega:k+1<=s.lists.length) e;simp only[↓Ab,Ad];rw[z1,z2];first
        | exact Or.inr nI
       | true =>
        simp(disch:=try exact aa)only[Eg,↓Ab,Ad];first
        | exact mW
      have v2:G7 (.sl 0 true []) m (S p) false=.lsl (L (.i p)) 5 0 (s.it p).length:=(by rw[Ew,m3,if_neg hit]);have pit:=pit hit;unfold Ky at g4;rw[if_neg hit] at g4;have el:=BM (s.it p);have lp:=pl (.i p) hit;have cu:cut (BI (s.it p)) 0 ((s.it p).length*5)=BI (s.it p):=cut_all lA;simp(disch:=try exact aa)only[Eg,e0,e5,e6,g,kr,v2,sl,pit,cu,↓Ab,Ad,↓reduceIte,Qu];have fz:frz Hk [L (.i p)]=[(L (.i p),.row true (BI (s.it p)))]:=(by simp[frz,pit])
      refine Aa.newgo g1 lD g2 cD (by rw[fz]) ?_;intro t;rw[hρ,Gx];simp(disch:=try exact aa)only[Af,Eg,Hz,AA,↓Ab,Ad,↓reduceIte,Qu];refine Au.go g4 lT dN ?_;cases e:(DN n s id name TS (k+1)).2 with
      | false =>
       obtain ⟨z1,z2⟩:=M9 fT (by omega:k+1<=s.lists.length) e;simp only[↓Ab,Ad];rw[z1,z2];first
       | exact Or.inr nI
      | true =>
       simp(disch:=try exact aa)only[Eg,↓Ab,Ad];first
       | exact mW
     obtain rfl:k=s.lists.length:=lA
     simp(disch:=try exact aa)only[AA,↓Ab,Ad];rw[ha2];first
     | exact Or.inr nI
    rw[hr2,if_neg lA] at hA;refine ⟨HA,?_,ig⟩;refine Ctr.bodyI (M:=MA) Ak Tryz.func31 rfl Aa3 hAP.nox.ok ?_;simp(disch:=try exact aa)only[Tryz.f31,Eg,Pk,hF,↓Ab,Ad,↓reduceIte,Qu,Qv];refine Fs hT hP h hs (id+ts.length) lA lA name hn ?_;rw[<-hrr,hr2,hA];simp(disch:=try exact aa)only[Eg,tl,hF,hj,AA,↓Ab,Ad,↓reduceIte,Qu,Qw,Qz];refine ⟨D9 (fun x=>if x<H.length then 0 else 1) [([],[]),([],[]),([],[]),([],[]),([0],[]),([],[]),([],[]),([],[]),([0],[]),([],[]),([],[]),([],[]),([0],[]),([],[]),([],[]),([],[]),([1],[1]),([1],[1]),([],[])] dM lD,ko,AF cf bZ cO,?_⟩;first
    | exact Or.inr ⟨dX,Or.inl rfl⟩
  | none =>
   obtain rfl:ts=[]:=hj;have hF2:=hF;unfold flB LO at hF;simp only at hF;obtain ⟨HA,hHA⟩:∃ HA,HA=H.set F (flB id (some (H.length+2)) 1)++[.box [.d (.int .i64 r.1.id),.d (S r.1.name),.d (Vl r.1.cols false)],.row false (Pj r.1),.row false (DB (([]:List Tab)++[r.1]))]:=⟨_,rfl⟩;have hsame:∀ i,i<H.length->i≠F->some i≠none->HA[i]?=H[i]?:=(by intro i hi c1 c2;rw[hHA,Ay iQ,Ao (fun c=>c1 c.symm)])
   have hAP:Adc L s F none id (([]:List Tab)++[r.1]) H HA:=by
    refine ⟨jI,?_,⟨H.length+2,lA,?_,?_⟩,fun i hi c1 c2 c3=>hsame i hi c1 c2⟩<;>rw[hHA];·exact (h0.set _ lC).app kE
    ·simp only[Ay,A8,Af1,fl,Aen,Aer,Aeu]
    rw[Agp lC];simp
   obtain ⟨cf,hcf⟩:=CB [F,H.length,H.length+1,H.length+2] aE;have c0:=hcf 0 _ rfl;have c1:=hcf 1 _ rfl;have c2:=hcf 2 _ rfl;have c3:=hcf 3 _ rfl;cases hr2:r.2 with
   | false =>
    rw[hr2,if_neg lC] at hA;refine ⟨HA,?_,ig⟩;refine Ctr.bodyI (M:=MA) Ak Tryz.func31 rfl Aa3 hAP.nox.ok ?_;simp(disch:=try exact aa)only[Tryz.f31,Eg,Pk,hF,↓Ab,Ad,↓reduceIte,Qu,Qv];refine Fs hT hP h hs (id+([]:List Tab).length) jW jW name hn ?_;rw[<-hrr,hr2,hA];simp(disch:=try exact aa)only[Eg,hF,AA,↓Ab,Ad,↓reduceIte,Qu,Qw,Qz];refine ⟨D9 (fun x=>if x<H.length then 0 else 1) [([],[]),([],[]),([],[]),([],[]),([0],[]),([],[]),([],[]),([],[]),([0],[]),([],[]),([],[]),([],[]),([0],[]),([],[]),([],[]),([],[]),([1],[1]),([1],[1]),([],[])] dM lD,ko,AF cf bY dh,?_⟩;first
    | exact Or.inr ⟨dX,Or.inl rfl⟩
   | true =>
    rw[hr2,if_pos ⟨rfl,lC⟩] at hA;obtain ⟨TS,hTS⟩:∃ TS,TS=([]:List Tab)++[r.1]:=⟨_,rfl⟩;rw[<-hTS] at hA hAP;have hTl:TS.length<=1024:=cP
    obtain ⟨f,f0,fI,fT⟩:=Lb (Ade n L s F none id name TS H) (AbX G n L s F id name TS) s.lists.length HA
     ⟨hAP,fun q _ hq=>az,fun _=>hTl⟩ (fun k hk x hx=>U7 IH h i1 i2 fl hr hnd hok hk hx)
    have fE:=fI _ (Aex _);refine ⟨f s.lists.length,?_,by rw[hA];exact fE.p⟩;refine Ctr.bodyI (M:=MA) Ak Tryz.func31 rfl Aa3 fE.p.nox.ok ?_;simp(disch:=try exact aa)only[Tryz.f31,Eg,Pk,hF,↓Ab,Ad,↓reduceIte,Qu,Qv];refine Fs hT hP h hs (id+([]:List Tab).length) jW jW name hn ?_;rw[<-hrr,hr2,hA];simp(disch:=try exact aa)only[Eg,hF,q0,AA,↓Ab,Ad,↓reduceIte,Qu,Qw,Qz];refine ⟨D9 (fun x=>if x<H.length then 0 else 1) [([],[]),([],[]),([],[]),([],[]),([0],[]),([],[]),([],[]),([],[]),([0],[]),([],[]),([],[]),([],[]),([0],[]),([],[]),([],[]),([],[]),([1],[1]),([1],[1]),([],[])] dM lD,ko,AF cf bY dh,?_⟩;refine Al.frI 3377699720527879 (α:=Nat) (fun k=>s.lists.length-k) (fun k=>[(52,.d (.int .i64 k))]) (fun k=>f k) (fun k=>k<=s.lists.length/\(DN n s id name TS k).2=true) 0 ⟨AfI _,rfl⟩ ?_ ?_
    ·have htb:DB (([]:List Tab)++[r.1])=DB ([]:List Tab)++Pj r.1:=(by simp[DB]);have hce:cut [.int .i64 r.1.id,.str (bs r.1.name),.sl r.1.cols.length false (Cm r.1.cols)] 0 3=Pj r.1:=ko;rw[f0,hHA,htb,hce];first
     | exact .slots jc
    rintro k ⟨hkk,ha2⟩;simp only[Bm,Aev,Aew];rcases AeA k s.lists.length with hlt | hge
    ·obtain ⟨_,t2⟩:=fT k hlt;obtain ⟨H',g1,g2,g3,g4⟩:=t2 ha2;obtain ⟨⟨p1,p2,_,p4⟩,prest,_⟩:=fI k hkk;have hpm:s.lists.getD k []∈s.lists:=Ds hlt;have hpd:s.lists.getD k []∈s.lists.drop k:=by
      rw[Aeq,Aeg hlt,AgA,Af7 hlt];exact AgR
     have hpl:name.length+1+(s.lists.getD k []).length<=1000000000:=by
      cases n with
      | zero=>exact (hok _ hpm).2.2.elim
      | succ n=>exact (hok _ hpm).2.2.2.1
     have g:=strs_getD hlt;have pit:=prest _ hpd;have at':∀ a,a<8+s.rows.length->(f k)[L (.n a)]?=H[L (.n a)]?:=fun a ha=>p4 _ (h.lt _ (ok a ha)) (rF a ha) (rj a ha) fun p hp=>h.ne (ok a ha) hp lC;have e0:=(at' 0 lA).trans h.box;have e5:=(at' 5 lA).trans h.lists;obtain ⟨m,m1,m2,m3⟩:=h.items;have e6:=(at' 6 lA).trans m1;have kr:=m2.ok;have pl:=fun a ha=>AgB (h.lt a ha) p1;generalize f k=Hk at *;generalize s.lists.getD k []=p at *;have hnm:name++[46]++p=name++46::p:=lC
     rw[hnm] at g4;generalize hρ:outN [] Hk.length=ρ at *;by_cases hit:s.it p=[]
     ·have v2:G7 (.sl 0 true []) m (S p) false=.d (.sl 0 true []):=(by rw[Ew,m3,if_pos hit]);rw[hit] at g1 g4;unfold Ky at g4;rw[if_pos rfl] at g4;simp(disch:=try exact aa)only[Eg,e0,e5,e6,g,kr,v2,sl,↓Ab,Ad,↓reduceIte,Qu];refine Aa.newgo g1 lD g2 fC lD ?_;intro t;rw[hρ,Gx];simp(disch:=try exact aa)only[Af,Eg,Hz,AA,↓Ab,Ad,Qu];refine Au.go g4 lT fe ?_;cases e:(DN n s id name TS (k+1)).2 with
      | false =>
       obtain ⟨z1,z2⟩:=M9 fT (by omega:k+1<=s.lists.length) e;simp only[↓Ab,Ad];rw[z1,z2];first
       | exact Or.inr nI
      | true =>
       simp(disch:=try exact aa)only[Eg,↓Ab,Ad];first
       | exact mW
     have v2:G7 (.sl 0 true []) m (S p) false=.lsl (L (.i p)) 5 0 (s.it p).length:=(by rw[Ew,m3,if_neg hit]);have pit:=pit hit;unfold Ky at g4;rw[if_neg hit] at g4;have el:=BM (s.it p);have lp:=pl (.i p) hit;have cu:cut (BI (s.it p)) 0 ((s.it p).length*5)=BI (s.it p):=cut_all lA;simp(disch:=try exact aa)only[Eg,e0,e5,e6,g,kr,v2,sl,pit,cu,↓Ab,Ad,↓reduceIte,Qu];have fz:frz Hk [L (.i p)]=[(L (.i p),.row true (BI (s.it p)))]:=(by simp[frz,pit])
     refine Aa.newgo g1 lD g2 cD (by rw[fz]) ?_;intro t;rw[hρ,Gx];simp(disch:=try exact aa)only[Af,Eg,Hz,AA,↓Ab,Ad,↓reduceIte,Qu];refine Au.go g4 lT dN ?_;cases e:(DN n s id name TS (k+1)).2 with
     | false =>
      obtain ⟨z1,z2⟩:=M9 fT (by omega:k+1<=s.lists.length) e;simp only[↓Ab,Ad];rw[z1,z2];first
      | exact Or.inr nI
     | true =>
      simp(disch:=try exact aa)only[Eg,↓Ab,Ad];first
      | exact mW
    obtain rfl:k=s.lists.length:=lA
    simp(disch:=try exact aa)only[AA,↓Ab,Ad];rw[ha2];first
    | exact Or.inr nI
end
end Go.Proofs.YtmidaophnbdcdaaGreatDoor
