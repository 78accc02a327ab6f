/-
  Contracts of the functions, one after another.
-/
import Derived.Test.YtmidaophnbdcdaaGreatDoorZbIx2
set_option linter.all false
open Go.Abs renaming Bm->HW,DN->BW,CK->SW,Aw->AW,B5->sA,Ap->kZ
open Go.Proofs.Tryz renaming prog->TP
set_option maxHeartbeats 16000000
set_option maxRecDepth 100000
open Go.Abs renaming Ed->Qe
open Nat renaming reduceAdd->Qu,reduceSub->Qv,reduceMul->Qw,reducePow->Qx,reduceDiv->Qy,reduceMod->Qz,reduceEqDiff->QI,reduceBEq->QK
open Int renaming reduceAdd->QA,reduceSub->QB,reduceMul->QC,reducePow->QD,reduceNeg->QE,reduceToNat->QF,reduceLT->QG,reduceLE->QH
open List renaming getElem?_cons_zero->AaZ,getElem?_cons_succ->Aa0,getElem?_eq_getElem->Ac7,getD_eq_getElem?_getD->Ada,length_append->Adj,length_cons->Adk,length_nil->Adl,map_cons->Adn,drop_eq_getElem_cons->Adp,map_nil->AeJ,getElem?_eq_some_iff->AeK,take_add_one->AeL,length_set->AeQ,getElem?_append_right->AeT,not_mem_nil->Ae7,getElem?_map->Ae8,mem_cons->Afc,getElem?_range->Afd,all_eq_true->Afe,mem_range->Aff,range->Afh,mem_map->Afi,length_map->Afj,getElem?_zipIdx->Afk,take_length->Afl,nodup_cons->Afo,mem_singleton->Afp,mem_cons_self->Afq,drop_eq_nil_of_le->Afs,append_assoc->Aft,cons_append->Afv,mem_cons_of_mem->Afx,map_append->Afz,nodup_nil->AfB,getElem?_zip_eq_some->AfC,nodup_append->AfD,take_of_length_le->AfH,mem_append->AfI,take_append_drop->AfJ,contains_eq_mem->AfL,mem_of_getElem?->AfM,set_cons_zero->AfN,set_cons_succ->AfO,foldl_append->AfR,any_eq_false->AfS,all_append->AfT,all_cons->AfX
open Bool renaming false_and->Adf,true_and->Adi,false_or->Afm,or_eq_true->Afn,not_eq_true'->Afu,and_eq_true->Afw,true_or->AfA,and_false->AfK,not_true->AfW
open Nat renaming lt_or_ge->Adm,zero_le->Ado,reduceMod->Adq,reduceDiv->Aet,eq_of_beq_eq_true->AeI,le_refl->AeR,add_assoc->Ae6,add_sub_cancel_left->Afr,not_lt_zero->Afy,beq->AfG,lt_of_lt_of_le->AfP,sub_self->AfQ
open Option renaming getD_some->AeU,toList_some->Afg,map_some->AfU,map_map->AfV
open Or renaming inl->AfE,inr->AfF
namespace Go.Proofs.YtmidaophnbdcdaaGreatDoor
section
open Go Go.Proofs Go.Abs
variable {G:Ah}
def LQ (hT:HT G) (hG:Num.HG G):∀ (N:Nat) (n:Nd),nsz n<=N->szN n->∀ a:Nat,a<=1000000->Ctr TP G 42 [.d (NdD n),.d (.int .i64 a)] [] (.d (.bool (AH n a))) []
 | 0,n,hN,_,_,_=>by have:=DQ n;omega
 | N+1,n,hN,hz,a,ha=>by
   have hk:=VJ (G:=G) hT n hz;have hsc:=R3 (G:=G) hT hG n (by cases n;exact hz.1);have hnz:=Dx n;obtain ⟨k,t,ks,l⟩:=n;obtain ⟨s1,s2,s3,s4,s5⟩:=hz;replace hnz:nsz (.mk k t ks l)=1+Cf l:=hnz;replace hk:Ctr TP G 74 [.d (NdD (.mk k t ks l))] [] (.d (.bool (DJ k ks l.length))) []:=hk;replace hsc:Ctr TP G 73 [.d (NdD (.mk k t ks l))] [] (.d (.bool (Cw k t))) []:=hsc;have ih:∀ c∈l,∀ b:Nat,b<=1000000->Ctr TP G 42 [.d (NdD c),.d (.int .i64 b)] [] (.d (.bool (AH c b))) []:=fun c hc b hb =>LQ hT hG N c (by have:=GL hc;omega) (Nq s5 c hc) b hb
   obtain ⟨r,hr⟩:∃ r,r=AH (.mk k t ks l) a:=⟨_,rfl⟩;rw[<-hr];rw[AH] at hr;refine Ctr.pure (M:=M0) Am Tryz.func42 rfl go42 ?_;by_cases kr:1<=k/\k<=6
   ·rw[decide_eq_true kr,Adi] at hr;by_cases a16:a<16
    ·rw[decide_eq_true a16,Adi] at hr;have hv1:∀ c∈l,Ctr TP G 75 [.d (NdD c),.ptr 0 0] [.box [.d (.int .i64 a)]] (.d (.bool (!AH c (a+1)))) [.box [.d (.int .i64 a)]]:=by
      intro c hc;have ihc:=ih c hc (a+1) (by omega);generalize AH c (a+1)=z at *;obtain ⟨ck,ct,cks,cl⟩:=c;refine Ctr.body (M:=M0) Am Tryz.func75 rfl go75 ?_;simp(disch:=(try simp only[Ab]);omega)only[ndC,Tryz.f75,↓Aa,Ac,↓reduceIte,Qu,Qv];first
      | (refine Ad.of ihc (by rfl) ?_)
      simp only[↓Aa,Ac,Qu];first
      | exact ⟨[some 0],rfl,by simp,by simp[HW,BW,SW,AW],.inl (by simp[AW])⟩
     by_cases k5:k=5
     ·subst k5;rw[decide_eq_true (Or.inl rfl)] at hr;simp(disch:=(try simp only[Ab]);omega)only[ndC,Tryz.f42,↓Aa,Ac,↓reduceIte,Qu,Qv];refine Ad.of hsc (by rfl) ?_;cases e1:Cw 5 t
      ·rw[e1,Adf] at hr;subst hr;simp only[↓Aa,Ac,↓reduceIte,↓Qe,Qu];first
       | done
       | rfl
      rw[e1,Adi] at hr;simp(disch:=(try simp only[Ab]);omega)only[↓Aa,Ac,↓reduceIte,Qu];refine Ad.of hk (by rfl) ?_;cases e2:DJ 5 ks l.length
      ·rw[e2,Adf] at hr;subst hr;simp only[↓Aa,Ac,↓reduceIte,↓Qe,Qu];first
       | done
       | rfl
      rw[e2,Adi] at hr;simp(disch:=(try simp only[Ab]);omega)only[↓Aa,Ac,↓reduceIte,Qu];rw[AfA,Adi] at hr;refine Ad.by (DZ 75 (fun n=>!AH n (a+1)) l false (.int .i64 a) (by omega) hv1) (by rfl) (by rfl) (by simp) ?_;have hany:=I4 l (a+1);rw[<-hany] at hr;generalize (l.any fun n=>!AH n (a+1))=z at *;subst hr;simp(disch:=(try simp only[Ab]);omega)only[↓Aa,Ac,↓reduceIte,↓Qe,Qu];first
      | done
      | rfl
     by_cases k6:k=6
     ·subst k6;rw[decide_eq_true (Or.inr rfl)] at hr;simp(disch:=(try simp only[Ab]);omega)only[ndC,Tryz.f42,↓Aa,Ac,↓reduceIte,Qu,Qv];refine Ad.of hsc (by rfl) ?_;cases e1:Cw 6 t
      ·rw[e1,Adf] at hr;subst hr;simp only[↓Aa,Ac,↓reduceIte,↓Qe,Qu];first
       | done
       | rfl
      rw[e1,Adi] at hr;simp(disch:=(try simp only[Ab]);omega)only[↓Aa,Ac,↓reduceIte,Qu];refine Ad.of hk (by rfl) ?_;cases e2:DJ 6 ks l.length
      ·rw[e2,Adf] at hr;subst hr;simp only[↓Aa,Ac,↓reduceIte,↓Qe,Qu];first
       | done
       | rfl
      rw[e2,Adi] at hr;simp(disch:=(try simp only[Ab]);omega)only[↓Aa,Ac,↓reduceIte,Qu];rw[AfA,Adi] at hr;refine Ad.by (DZ 75 (fun n=>!AH n (a+1)) l false (.int .i64 a) (by omega) hv1) (by rfl) (by rfl) (by simp) ?_;have hany:=I4 l (a+1);rw[<-hany] at hr;generalize (l.any fun n=>!AH n (a+1))=z at *;subst hr;simp(disch:=(try simp only[Ab]);omega)only[↓Aa,Ac,↓reduceIte,↓Qe,Qu];first
      | done
      | rfl
     rw[decide_eq_false (show ¬(k=5\/k=6) by omega)] at hr;simp(disch:=(try simp only[Ab]);omega)only[ndC,k5,k6,Tryz.f42,↓Aa,Ac,↓reduceIte,Qu,Qv];refine Ad.of hsc (by rfl) ?_;cases e1:Cw k t
     ·rw[e1,Adf] at hr;subst hr;simp only[↓Aa,Ac,↓reduceIte,↓Qe,Qu];first
      | done
      | rfl
     rw[e1,Adi] at hr;simp(disch:=(try simp only[Ab]);omega)only[↓Aa,Ac,↓reduceIte,Qu];refine Ad.of hk (by rfl) ?_;cases e2:DJ k ks l.length
     ·rw[e2,Adf] at hr;subst hr;simp only[↓Aa,Ac,↓reduceIte,↓Qe,Qu];first
      | done
      | rfl
     rw[e2,Adi] at hr;simp(disch:=(try simp only[Ab]);omega)only[↓Aa,Ac,↓reduceIte,↓Qe,Qu];by_cases e3:l.length=0
     ·rw[decide_eq_true e3,Bool.or_true,Adi] at hr;simp(disch:=(try simp only[Ab]);omega)only[e3,Ac];refine Ad.by (DZ 75 (fun n=>!AH n (a+1)) l false (.int .i64 a) (by omega) hv1) (by rw[show NdS l false=.sl 0 false (AA l) by rw[<-e3]]) (by rfl) (by simp) ?_;have hany:=I4 l (a+1);rw[<-hany] at hr;generalize (l.any fun n=>!AH n (a+1))=z at *;subst hr;simp(disch:=(try simp only[Ab]);omega)only[↓Aa,Ac,↓reduceIte,↓Qe,Qu];first
      | done
      | rfl
     rw[decide_eq_false e3,Bool.or_false,Adf] at hr;subst hr;simp(disch:=(try simp only[Ab]);omega)only[Ac];first
     | done
     | rfl
    rw[decide_eq_false a16,Adf] at hr;subst hr;simp(disch:=(try simp only[Ab]);omega)only[ndC,Tryz.f42,↓Aa,Ac,↓reduceIte,↓Qe,Qu,Qv];first
    | done
    | rfl
   rw[decide_eq_false kr,Adf] at hr;subst hr;rcases (by omega:k<1\/6<k) with h | h
   ·simp(disch:=(try simp only[Ab]);omega)only[ndC,Tryz.f42,↓Aa,Ac,↓reduceIte,↓Qe,Qu,Qv];first
    | done
    | rfl
   simp(disch:=(try simp only[Ab]);omega)only[ndC,Tryz.f42,↓Aa,Ac,↓reduceIte,↓Qe,Qu,Qv];first
   | done
   | rfl
def R9 (s:List UInt8):Bool:=!s.any IC && (Lib.validD s && decide (s.length<=1024))
def XT (s:List UInt8):R9 s=AP s:=by unfold R9 AP;cases s.any IC<;>cases Lib.validD s<;>cases decide (s.length<=1024)<;>rfl
def Dk (hT:HT G) (s:List UInt8) (hs:s.length<=1000000000):Ctr TP G 76 [.d (S s)] [] (.d (.bool (AP s))) []:=by
 rw[<-XT];obtain ⟨r,hr⟩:∃ r,r=R9 s:=⟨_,rfl⟩;rw[<-hr];unfold R9 at hr;refine Ctr.pure (M:=M0) Am Tryz.func76 rfl go76 ?_;simp only[Tryz.f76,↓Aa,Ac,Qv];refine Ak.fr 1 (α:=Nat) (fun i=>s.length-i) (fun i=>[(3,.d (.int .i64 i))]) (fun _=>[]) (fun i=>i<=s.length/\s.any IC=(s.drop i).any IC) 0 ⟨Ado _,rfl⟩ ?_ ?_;·exact ⟨[],rfl,by simp,by simp[sA,kZ,SW,AW],by simp[HW]⟩
 rintro i ⟨h1,h2⟩;simp only[Bi,Adq,Aet];rcases Adm i s.length with h | h
 ·have ed:s.drop i=s.getD i 0::s.drop (i+1):=by rw[Adp h,Ada,Ac7 h];rfl
  rw[ed,List.any_cons] at h2;generalize hx:s.getD i 0=x at *;have hcb:IC x=decide (x.toNat<32/\x.toNat≠9/\x.toNat≠10/\x.toNat≠13):=rfl;rcases (by omega:32<=x.toNat\/x.toNat=9\/x.toNat=10\/x.toNat=13\/(x.toNat<32/\x.toNat≠9/\x.toNat≠10/\x.toNat≠13)) with k | k | k | k | ⟨k1,k2,k3,k4⟩
  ·rw[hcb,decide_eq_false (by omega),Afm] at h2;simp(disch:=(try simp only[Ab]);omega)only[Af,hx,↓Aa,Ac,↓reduceIte];exact ⟨i+1,⟨h,h2⟩,by simp only;omega,⟨[],rfl,by simp,by simp[SW,AW],by simp[HW]⟩⟩
  ·rw[hcb,decide_eq_false (by omega),Afm] at h2;simp(disch:=(try simp only[Ab]);omega)only[Af,hx,↓Aa,Ac,↓reduceIte];exact ⟨i+1,⟨h,h2⟩,by simp only;omega,⟨[],rfl,by simp,by simp[SW,AW],by simp[HW]⟩⟩
  ·rw[hcb,decide_eq_false (by omega),Afm] at h2;simp(disch:=(try simp only[Ab]);omega)only[Af,hx,↓Aa,Ac,↓reduceIte];exact ⟨i+1,⟨h,h2⟩,by simp only;omega,⟨[],rfl,by simp,by simp[SW,AW],by simp[HW]⟩⟩
  ·rw[hcb,decide_eq_false (by omega),Afm] at h2;simp(disch:=(try simp only[Ab]);omega)only[Af,hx,↓Aa,Ac,↓reduceIte];exact ⟨i+1,⟨h,h2⟩,by simp only;omega,⟨[],rfl,by simp,by simp[SW,AW],by simp[HW]⟩⟩
  rw[hcb,decide_eq_true ⟨k1,k2,k3,k4⟩,AfA] at h2;rw[h2,AfW,Adf] at hr;subst hr;simp(disch:=(try simp only[Ab]);omega)only[Af,hx,↓Aa,Ac,↓reduceIte,↓Qe];first
  | done
  | rfl
 rw[Afs h] at h2;rw[h2] at hr;replace hr:r=(Lib.validD s && decide (s.length<=1024)):=hr;simp(disch:=(try simp only[Ab]);omega)only[Af,↓Aa,Ac,↓reduceIte];refine Ad.pure (D9 hT s (by omega)) ?_;cases hv:Lib.validD s
 ·rw[hv,Adf] at hr;subst hr;simp only[↓Aa,Ac,↓reduceIte,↓Qe];first
  | done
  | rfl
 rw[hv,Adi] at hr;subst hr;simp only[Af,↓Aa,Ac,↓reduceIte,↓Qe];first
 | done
 | rfl
 | exact decide_eq_decide.2 (by omega)
def Ib (k:Int):Bool:=decide (2<=k/\k<=4)
def CH (k:Int):Ctr TP G 77 [.d (.int .i64 k)] [] (.d (.bool (Ib k))) []:=by
 obtain ⟨r,hr⟩:∃ r,r=Ib k:=⟨_,rfl⟩;rw[<-hr];unfold Ib at hr;refine Ctr.pure (M:=M0) Am Tryz.func77 rfl go77 ?_;rcases (by omega:k<2\/4<k\/(2<=k/\k<=4)) with h | h | h
 ·rw[decide_eq_false (by omega)] at hr;subst hr;simp(disch:=(try simp only[Ab]);omega)only[Tryz.f77,↓Aa,Ac,↓reduceIte,↓Qe,Qv]
 ·rw[decide_eq_false (by omega)] at hr;subst hr;simp(disch:=(try simp only[Ab]);omega)only[Tryz.f77,↓Aa,Ac,↓reduceIte,↓Qe,Qv]
 rw[decide_eq_true h] at hr;subst hr;simp(disch:=(try simp only[Ab]);omega)only[Tryz.f77,↓Aa,Ac,↓reduceIte,↓Qe,Qv]
def D3 (n:Nd):Ctr TP G 61 [.d (NdD n)] [] (.d (.agg (GY (AN n)))) []:=by
 obtain ⟨k,t,ks,l⟩:=n;obtain ⟨r,hr⟩:∃ r,r=AN (.mk k t ks l):=⟨_,rfl⟩;rw[<-hr];refine Ctr.pure (M:=M0) Am Tryz.func61 rfl go61 ?_;simp(disch:=(try simp only[Ab]);omega)only[ndC,Tryz.f61,↓Aa,Ac,↓reduceIte,Qu,Qv];refine Ad.pure (CH k) ?_;by_cases h:2<=k/\k<=4;·rw[show Ib k=true from decide_eq_true h];rw[M8 (by omega)] at hr;subst hr;simp(disch:=(try simp only[Ab]);omega)only[↓Aa,Ac,↓reduceIte,↓Qe,Qu];first | done | rfl
 rw[show Ib k=false from decide_eq_false h];rw[Xe (by omega)] at hr;subst hr;simp(disch:=(try simp only[Ab]);omega)only[↓Aa,Ac,↓reduceIte,↓Qe,Qu];first | done | rfl
mutual
def nmT:Nd->Prop
 | .mk k t _ l=>(k=3->Num.decOk t=true->AP t=true)/\Abp l
def Abp:List Nd->Prop
 | []=>True
 | n::r=>nmT n/\Abp r
end
def TZ:∀ {l:List Nd},Abp l->∀ n∈l,nmT n
 | [],_,n,h=>by cases h
 | x::r,h,n,hn=>by
   rcases Afc.1 hn with rfl | hn
   ·exact h.1
   exact TZ h.2 n hn
def Fw {k:Int} {t:List UInt8} (h3:k=3->Num.decOk t=true->AP t=true) (h:AP t=false):Cw k t=false:=by
 cases e:Cw k t with
 | false=>rfl
 | true =>
  unfold Cw at e;split at e
  ·rcases of_decide_eq_true e with rfl | rfl
   ·exact absurd h (by decide)
   exact absurd h (by decide)
  split at e;·rename_i k3;rw[h3 k3 e] at h;cases h
  split at e;·rw[e] at h;cases h
  have:=of_decide_eq_true e;subst this;exact absurd h (by decide)
def NY {l:List Nd} {i a:Nat} (h:i<l.length) (h1:BF (l.take i) a=true):BF (l.take (i+1)) a=AH (l.getD i noN) a:=by
 have app:∀ x y:List Nd,BF (x++y) a=(BF x a && BF y a):=by
  intro x y;induction x with
  | nil=>rfl
  | cons z w ih=>rw[Afv,BF,BF,ih,Bool.and_assoc]
 rw[AeL,Ac7 h,app,h1,Adi,Ada,Ac7 h];simp[BF]
def Lo:∀ {l:List Nd} {i a:Nat},i<l.length->AH (l.getD i noN) a=false->BF l a=false
 | [],_,_,h,_=>absurd h (Afy _)
 | n::r,0,a,_,h=>by rw[BF];rw[show AH n a=false from h];rfl
 | n::r,i+1,a,h,h2=>by rw[BF,Lo (l:=r) (i:=i) (by simpa using h) h2,AfK]
def EB (ks:List (List UInt8)):Bool:=decide ks.Nodup && ks.all AP
def X1 {l:List (List UInt8)} {i:Nat} (h:i<l.length) (h1:EB (l.take i)=true) (h3:AP (l.getD i [])=true) (h4:l.getD i []∉l.take i):EB (l.take (i+1))=true:=by unfold EB at h1 ⊢;rw[Afw] at h1;rw[AeL,Ac7 h];rw[Ada,Ac7 h] at h3 h4;simp only[AeU] at h3 h4;rw[Afg,AfT,h1.2,Adi];rw[show ([l[i]].all AP)=true by simp[h3],Bool.and_true];refine decide_eq_true (AfD.2 ⟨of_decide_eq_true h1.1,by simp,fun a ha b hb=>?_⟩);rw[Afp.1 hb];exact fun e=>h4 (e▸ha)
def ZC {l:List (List UInt8)} {i:Nat} (h:i<l.length) (h3:AP (l.getD i [])=false):EB l=false:=by
 unfold EB;cases e:l.all AP with
 | false=>rw[AfK]
 | true=>rw[Afe.1 e _ (Cs h)] at h3;cases h3
def ZB {l:List (List UInt8)} {i:Nat} (h:i<l.length) (h4:l.getD i []∈l.take i):EB l=false:=by
 unfold EB;rw[decide_eq_false,Adf];intro hn;have e:l=l.take i++l.drop i:=(AfJ i l).symm;rw[e] at hn;have:=(AfD.1 hn).2.2 _ h4 (l.getD i []) (by rw[Ada,Ac7 h,AeU,Adp h];exact Afq)
 exact this rfl
end
section
open Go Go.Proofs Go.Abs
variable {G:Ah}
def MR:Ci:=fun k=>AfG k 4000059 || (AfG k 4000097 || AfG k 4000060)
def YO:MR 4000059=true:=rfl
def YN:MR 4000097=true:=rfl
def YM:MR 4000060=true:=rfl
def Wj {k:Nat} (h:¬(k=4000059\/k=4000097\/k=4000060)):MR k=false:=by
 cases e:MR k with
 | false=>rfl
 | true =>
  unfold MR at e;simp only[Afn] at e;rcases e with e | e | e
  ·exact absurd (.inl (AeI e)) h
  ·exact absurd (.inr (.inl (AeI e))) h
  exact absurd (.inr (.inr (AeI e))) h
abbrev ndB (n:Nd):Ae:=.box ((ndC n).map .d)
def AbZ (L:Rl->Nat) (s:Ly) (H:List Ae) (l:List Nd) (front:List UInt8) (ks:List (List UInt8)) (k:Nat) (x:(Rl->Nat) × List Ae):Prop :=
 B1 x.1 (s.kid l front ks k) x.2/\Df L s H x.1 (s.kid l front ks k) x.2/\NoX x.2
def RecT (G:Ah) (l:List Nd) (front:List UInt8) (ks:List (List UInt8)) (k:Nat) (x y:(Rl->Nat) × List Ae):Prop :=
 x.2.length+1<=y.2.length /\
 ((l.getD k noN).kind=6->Ctr TP G 59 [.ptr (x.1 (.n 0)) 0,.mp (x.1 (.n 1)),.d (S (front++ks.getD k []++[46])),.d (NdD (l.getD k noN))] (x.2++[ndB (l.getD k noN)]) (.d (.tup [])) y.2) /\
 ((l.getD k noN).kind=5->Ctr TP G 97 [.ptr (x.1 (.n 0)) 0,.d (S (front++ks.getD k [])),.d (NdS (l.getD k noN).kids false)] (x.2++[ndB (l.getD k noN)]) (.d (.tup [])) y.2) /\
 (¬(l.getD k noN).kind=6->¬(l.getD k noN).kind=5->Ctr TP G 60 [.ptr (x.1 (.n 0)) 0,.mp (x.1 (.n 1)),.d (S (front++ks.getD k [])),.d (NdD (l.getD k noN))] (x.2++[ndB (l.getD k noN)]) (.d (.tup [])) y.2)
def NG:∀ (N:Nat) (n:Nd),nsz n<=N->∀ {L:Rl->Nat} {s:Ly} {H:List Ae} {B:Nat} (front:List UInt8),B1 L s H->0<s.rows.length->NoX H->GJ n->n.kind=6->LyB s B->B+nsz n<=1000000->front.length+200000*nsz n<=1000000000 ->
  ∃ L' H',Ctr TP G 59 [.ptr (L (.n 0)) 0,.mp (L (.n 1)),.d (S front),.d (NdD n)] H (.d (.tup [])) H'/\B1 L' (s.parts (Dw n front)) H'/\Df L s H L' (s.parts (Dw n front)) H'/\NoX H'
 | 0,n,hN,L,s,H,B,front,h,hr,h0,hok,h6,hB,hB2,hfr=>by have:=DQ n;omega
 | N+1,n,hN,L,s,H,B,front,h,hr,h0,hok,h6,hB,hB2,hfr=>by
   obtain ⟨k6,nt,ks,l⟩:=n;have hk6:k6=6:=h6;subst hk6;rw[Ty] at hok;obtain ⟨ok1,ok2,ok3⟩:=hok;have okl:ks.length=l.length:=ok1 rfl;have okk:∀ s∈ks,s.length<=100000:=ok2;have hsz:nsz (.mk 6 nt ks l)=1+Cf l:=rfl;have hll:=DG l;rw[hsz] at hN hB2 hfr;have hst:∀ k,k<l.length->∀ x,AbZ L s (H++[ndB (.mk 6 nt ks l)]) l front ks k x->∃ y,RecT G l front ks k x y/\AbZ L s (H++[ndB (.mk 6 nt ks l)]) l front ks (k+1) y:=by
    intro k hk x hx;obtain ⟨L1,H1⟩:=x;obtain ⟨i1,i2,i3⟩:=hx;simp only at i1 i2 i3;have i1':=i1.app [ndB (l.getD k noN)];have i2':=Df.app L1 (s.kid l front ks k) H1 [ndB (l.getD k noN)];have i3':NoX (H1++[ndB (l.getD k noN)]):=i3.app (by simp[NoX]);have hrk:(s.kid l front ks k).rows.length=s.rows.length:=s.kid_rows l front ks k;have hbk:=hB.kid l front ks k (by omega);have hbk2:=hB.kid l front ks (k+1) (by omega);have hsucc:=Lq hk;have hle:=WX l (k+1);have hkm:l.getD k noN∈l:=Cs hk;have hkz:=Dx (l.getD k noN);have hkl:=DG (l.getD k noN).kids;have hkey:(ks.getD k []).length<=100000:=okk _ (Cs (by omega));have hlen1:(H1++[ndB (l.getD k noN)]).length=H1.length+1:=(by simp)
    have hsk:=s.kid_succ l front ks k;have hpo:partO (l.getD k noN) (front++ks.getD k [])=if (l.getD k noN).kind=6 then Dw (l.getD k noN) (front++ks.getD k []++[46]) else if (l.getD k noN).kind=5 then [.l (front++ks.getD k []) (l.getD k noN).kids] else [.c (front++ks.getD k []) (AN (l.getD k noN))]:=rfl
    have hnz:=GL hkm;by_cases c6:(l.getD k noN).kind=6;·rw[if_pos c6] at hpo;obtain ⟨L',H',r1,r2,r3,r4⟩:=NG N (l.getD k noN) (by omega) (B:=B+TW l k) (front++ks.getD k []++[46]) i1' (by omega) i3' (JB ok3 _ hkm) c6 hbk (by omega) (by simp only[Adj,Adk,Adl];omega);rw[hpo] at hsk;rw[<-hsk] at r2 r3;have:=r3.len;exact ⟨(L',H'),⟨by show H1.length+1<=H'.length;omega,fun _=>r1,fun q=>by omega,fun q=>absurd c6 q⟩,r2,i2.trans (i2'.trans r3),r4⟩
    rw[if_neg c6] at hpo;by_cases c5:(l.getD k noN).kind=5;·rw[if_pos c5] at hpo;have hit:=hbk.it (front++ks.getD k []);obtain ⟨L',H',r1,r2,r3,r4⟩:=ZV (G:=G) i1' (by omega) i3' (front++ks.getD k []) (l.getD k noN).kids false ⟨by have:=hbk.lists;omega,hbk.rows⟩ (by omega);rw[hpo,Ly.parts_one] at hsk;have e:(s.kid l front ks k).part (.l (front++ks.getD k []) (l.getD k noN).kids)=(s.kid l front ks k).list (front++ks.getD k []) (l.getD k noN).kids:=rfl;rw[e] at hsk;rw[<-hsk] at r2 r3;have:=r3.len;exact ⟨(L',H'),⟨by show H1.length+1<=H'.length;omega,fun q=>absurd q c6,fun _=>r1,fun _ q=>absurd c5 q⟩,r2,i2.trans (i2'.trans r3),r4⟩
    rw[if_neg c5] at hpo;obtain ⟨L',H',r1,r2,r3,r4⟩:=Nu (G:=G) i1' (by omega) i3' (front++ks.getD k []) (l.getD k noN) ⟨by have:=hbk.paths;omega,hbk.rows⟩ (by simp only[Adj];omega);rw[hpo,Ly.parts_one] at hsk;have e:(s.kid l front ks k).part (.c (front++ks.getD k []) (AN (l.getD k noN)))=(s.kid l front ks k).single (front++ks.getD k []) (AN (l.getD k noN)):=rfl;rw[e] at hsk;rw[<-hsk] at r2 r3;have:=r3.len;exact ⟨(L',H'),⟨by show H1.length+1<=H'.length;omega,fun q=>absurd q c6,fun q=>absurd q c5,fun _ _=>r1⟩,r2,i2.trans (i2'.trans r3),r4⟩
   obtain ⟨f,f0,fI,fT⟩:=Le (AbZ L s (H++[ndB (.mk 6 nt ks l)]) l front ks) (RecT G l front ks) l.length (L,H++[ndB (.mk 6 nt ks l)])
    ⟨h.app _,Df.refl _ _ _,h0.app (by simp[NoX])⟩ hst
   have hall:=s.kid_all l front ks okl;have fE:=fI l.length (AeR _);unfold AbZ at fE;rw[hall] at fE;refine ⟨(f l.length).1,(f l.length).2,Ctr.bodyI (M:=MR) Am Tryz.func59 rfl go59 fE.2.2.ok ?_,fE.1,(Df.app L s H _).trans fE.2.1,fE.2.2⟩;have nl:=Ay l;have sl:=@strs_length ks;simp(disch:=(try simp only[Ab]);omega)only[Tryz.f59,Wj,ndC,Be,↓Aa,Ac,↓reduceIte,Qu,Qv];refine Ak.frI 12423 (α:=Nat) (fun k=>l.length-k) (fun k=>[(14,.d (.int .i64 k))]) (fun k=>(f k).2) (fun k=>k<=l.length) 0 (Ado _) ?_ ?_
   ·rw[f0];first
    | exact .slots (by simp[sA,kZ,Dg])
   intro k hkk;simp only[Bi,Adq,Aet];rcases Adm k l.length with hlt | hge
   ·obtain ⟨t1,t2,t3,t4⟩:=fT k hlt;obtain ⟨i1,i2,i3⟩:=fI k hkk;have hb:(f k).2[H.length]?=some (ndB (.mk 6 nt ks l)):=by
     rw[i2.keep H.length (by simp) (fun a ha=>by have:=h.lt a ha;omega),Bc (AeR _),AfQ];rfl
    have hln:=i2.len;simp only[Adj,Adk,Adl] at hln;have k0:(f k).1 (.n 0)=L (.n 0):=i2.n0;have k1:(f k).1 (.n 1)=L (.n 1):=i2.n1;rw[k0,k1] at t2 t4;rw[k0] at t3;have g:=BM hlt;have gk:=strs_getD (l:=ks) (i:=k) (by omega);have hkey:(ks.getD k []).length<=100000:=okk _ (Cs (by omega));generalize hHk:(f k).2=Hk at *;generalize hkd:l.getD k noN=kd at *;obtain ⟨ka,kb,kc,kl⟩:=kd;generalize ks.getD k []=key at *;have hbb:Hk[H.length]?=some (.box [.d (.int .i64 6),.d (S nt),.d (Ss ks false),.d (NdS l false)]):=hb;by_cases c6:ka=6
    ·subst c6;simp(disch:=(try simp only[Ab]);omega)only[Af,Wj,YO,hbb,g,gk,nl,sl,ndC,Be,↓Aa,Ac,↓reduceIte,Qu];rw[Aft] at t2;refine Aq.go (t2 rfl) ⟨.inl rfl,.inl rfl,.inl rfl,.inr (.inr ⟨_,rfl,rfl,.inl rfl⟩),trivial⟩ (by simp only[Adj,Adk,Adl];omega) ?_;simp(disch:=(try simp only[Ab]);omega)only[Wj,↓Aa,Ac];first
     | exact ⟨k+1,hlt,by simp only;omega,.inl ⟨rfl,by simp[Dg]⟩⟩
    by_cases c5:ka=5
    ·subst c5;simp(disch:=(try simp only[Ab]);omega)only[Af,Wj,YN,hbb,g,gk,nl,sl,ndC,Be,↓Aa,Ac,↓reduceIte,Qu];refine Aq.go (t3 rfl) ⟨.inl rfl,.inl rfl,.inl rfl,trivial⟩ (by simp only[Adj,Adk,Adl];omega) ?_;simp(disch:=(try simp only[Ab]);omega)only[Wj,↓Aa,Ac];first
     | exact ⟨k+1,hlt,by simp only;omega,.inl ⟨rfl,by simp[Dg]⟩⟩
    simp(disch:=(try simp only[Ab]);omega)only[Af,Wj,YM,c6,c5,hbb,g,gk,nl,sl,ndC,Be,↓Aa,Ac,↓reduceIte,Qu];refine Aq.go (t4 c6 c5) ⟨.inl rfl,.inl rfl,.inl rfl,.inr (.inr ⟨_,rfl,rfl,.inl rfl⟩),trivial⟩ (by simp only[Adj,Adk,Adl];omega) ?_;simp(disch:=(try simp only[Ab]);omega)only[Wj,↓Aa,Ac];first
    | exact ⟨k+1,hlt,by simp only;omega,.inl ⟨rfl,by simp[Dg]⟩⟩
   obtain rfl:k=l.length:=by omega
   simp(disch:=(try simp only[Ab]);omega)only[↓Aa,Ac];first
   | exact RetI.unit
def LZ (L:Rl->Nat) (n:Nat):List AV:=(Afh n).map fun i=>.mp (L (.n (8+i)))
def R5 (L:Rl->Nat) (n:Nat):(LZ L n).length=n:=by simp[LZ]
def FU (L:Rl->Nat) (n N:Nat):Rl->Nat:=BJ (BJ (BJ L 2 (N+1)) 4 (N+4)) (8+n) (N+2)
def B1.newrow {L:Rl->Nat} {s:Ly} {H K:List Ae} (h:B1 L s H) {N:Nat} {a:Int} (hN:H.length<=N) (hK:N+4<K.length) (hl:H.length<=K.length)
  (k0:K[L (.n 0)]?=some (.box [.d (.bool s.further),.lsl (N+1) 1 0 (s.above.length+1),.lsl (L (.n 3)) 1 0 s.paths.length,.lsl (N+4) 1 0 (s.rows.length+1),.lsl (L (.n 5)) 1 0 s.lists.length,.mp (L (.n 6)),.mp (L (.n 7))]))
  (k2:K[N+1]?=some (.row false (AF .i64 (s.above++[a])))) (k4:K[N+4]?=some (.box (LZ L s.rows.length++[.mp (N+2)]))) (k8:K[N+2]?=some (.map []))
  (kr:∀ a,BN s a->a≠.n 0->a≠.n 2->a≠.n 4->K[L a]?=H[L a]?):B1 (FU L s.rows.length N) (s.row a) K:=by
 have ok:∀ k,k<8+s.rows.length->BN s (.n k):=fun k hk=>hk;have ne:∀ {k j:Nat},k≠j->Rl.n k≠Rl.n j:=fun h e=>h (by cases e;rfl);have s2:FU L s.rows.length N (.n 2)=N+1:=by unfold FU;rw[Bd _ _ (by omega),Bd _ _ (by decide),DD]
 have s4:FU L s.rows.length N (.n 4)=N+4:=by unfold FU;rw[Bd _ _ (by omega),DD]
 have s8:FU L s.rows.length N (.n (8+s.rows.length))=N+2:=by unfold FU;rw[DD]
 have sk:∀ k,k≠2->k≠4->k≠8+s.rows.length->FU L s.rows.length N (.n k)=L (.n k):=fun k h2 h4 h8=>by unfold FU;rw[Bd _ _ h8,Bd _ _ h4,Bd _ _ h2]
 have get:∀ k,k<8+s.rows.length->k≠0->k≠2->k≠4->K[FU L s.rows.length N (.n k)]?=H[L (.n k)]?:=fun k hk h0 h2 h4=>by rw[sk k h2 h4 (by omega)];exact kr _ (ok k hk) (ne h0) (ne h2) (ne h4)
 have lr:(s.row a).rows.length=s.rows.length+1:=by simp[Ly.row]
 have key:∀ x,BN (s.row a) x->(x=.n 2/\FU L s.rows.length N x=N+1)\/(x=.n 4/\FU L s.rows.length N x=N+4)\/(x=.n (8+s.rows.length)/\FU L s.rows.length N x=N+2) \/
   (x≠.n 2/\x≠.n 4/\x≠.n (8+s.rows.length)/\BN s x/\FU L s.rows.length N x=L x/\L x<H.length):=by
  intro x hx;cases x with
  | n k =>
   have hk:k<8+(s.row a).rows.length:=hx;rw[lr] at hk;by_cases e2:k=2;·subst e2;exact .inl ⟨rfl,s2⟩
   by_cases e4:k=4;·subst e4;exact .inr (.inl ⟨rfl,s4⟩)
   by_cases e8:k=8+s.rows.length;·subst e8;exact .inr (.inr (.inl ⟨rfl,s8⟩))
   have hk':BN s (.n k):=ok k (by omega);exact .inr (.inr (.inr ⟨ne e2,ne e4,ne e8,hk',sk k e2 e4 e8,h.lt _ hk'⟩))
  | i q=>exact .inr (.inr (.inr ⟨by simp,by simp,by simp,hx,rfl,h.lt (.i q) hx⟩))
 refine ⟨fun x y hx hy e=>?_,fun x hx=>?_,?_,?_,?_,?_,?_,?_,?_,?_,?_,?_⟩
 ·rcases key x hx with ⟨a1,a2⟩ | ⟨a1,a2⟩ | ⟨a1,a2⟩ | ⟨_,_,_,a4,a5,a6⟩<;>rcases key y hy with ⟨b1,b2⟩ | ⟨b1,b2⟩ | ⟨b1,b2⟩ | ⟨_,_,_,b4,b5,b6⟩ <;>
   first
    | (rw[a1,b1];done)
    | omega
    | exact h.inj x y a4 b4 (by rw[<-a5,<-b5];exact e)
 ·rcases key x hx with ⟨a1,a2⟩ | ⟨a1,a2⟩ | ⟨a1,a2⟩ | ⟨_,_,_,a4,a5,a6⟩<;>omega
 ·rw[sk 0 (by decide) (by decide) (by omega),s2,sk 3 (by decide) (by decide) (by omega),s4,sk 5 (by decide) (by decide) (by omega),sk 6 (by decide) (by decide) (by omega),sk 7 (by decide) (by decide) (by omega),k0,lr];simp[Ly.row]
 ·rw[get 1 (by omega) (by decide) (by decide) (by decide)];exact h.seen
 ·rw[s2];exact k2
 ·rw[get 3 (by omega) (by decide) (by decide) (by decide)];exact h.paths
 ·rw[s4,k4,lr];unfold Kq LZ;rw[if_neg (by omega),List.range_succ,Afz,Adn,AeJ,s8];congr 3;refine List.map_congr_left fun i hi=>?_;have:=Aff.1 hi;rw[sk _ (by omega) (by omega) (by omega)]
 ·rw[get 5 (by omega) (by decide) (by decide) (by decide)];exact h.lists
 ·rw[get 6 (by omega) (by decide) (by decide) (by decide)];exact h.items
 ·rw[get 7 (by omega) (by decide) (by decide) (by decide)];exact h.sev
 ·intro i hi;by_cases e:i=s.rows.length
  ·subst e;refine ⟨[],by rw[s8];exact k8,IJ.nil,fun p=>?_⟩;have e1:(s.row a).rows[s.rows.length]=fun _=>none:=by
    simp only[Ly.row];rw[List.getElem_append_right (AeR _)];simp
   rw[J8,e1];rfl
  have hi':i<s.rows.length:=by rw[lr] at hi;omega
  have e1:(s.row a).rows[i]=s.rows[i]:=by simp only[Ly.row];rw[List.getElem_append_left hi']
  rw[get (8+i) (by omega) (by omega) (by omega) (by omega),e1];exact h.row i hi'
 intro q hq;have e:K[L (.i q)]?=H[L (.i q)]?:=kr (.i q) hq (by simp) (by simp) (by simp);show K[L (.i q)]?=_
 rw[e];exact h.item q hq
def Zi {L:Rl->Nat} {s:Ly} {H:List Ae} {N:Nat} {a:Int} (hN:H.length<=N) {x:Rl} (hx:BN (s.row a) x):(∃ b,BN s b/\L b=FU L s.rows.length N x)\/H.length<=FU L s.rows.length N x:=by
 cases x with
 | n k =>
  have hk:k<8+(s.row a).rows.length:=hx;simp only[Ly.row,Adj,Adk,Adl] at hk;unfold FU;by_cases e8:k=8+s.rows.length;·subst e8;rw[DD];exact .inr (by omega)
  rw[Bd _ _ e8];by_cases e4:k=4;·subst e4;rw[DD];exact .inr (by omega)
  rw[Bd _ _ e4];by_cases e2:k=2;·subst e2;rw[DD];exact .inr (by omega)
  rw[Bd _ _ e2];exact .inl ⟨.n k,by show k<8+s.rows.length;omega,rfl⟩
 | i q=>exact .inl ⟨.i q,hx,rfl⟩
def Gr (L:Rl->Nat) (s:Ly) (H:List Ae) (e:Elm):List Ae :=
 ((((H.set (L (.n 2)) .dead).set (L (.n 0)) (.box [.d (.bool s.further),.lsl (H.length+2) 1 0 (s.above.length+1),.lsl (L (.n 3)) 1 0 s.paths.length,.lsl (L (.n 4)) 1 0 s.rows.length,.lsl (L (.n 5)) 1 0 s.lists.length,.mp (L (.n 6)),.mp (L (.n 7))])).set (L (.n 4)) .dead).set (L (.n 0))
  (.box [.d (.bool s.further),.lsl (H.length+2) 1 0 (s.above.length+1),.lsl (L (.n 3)) 1 0 s.paths.length,.lsl (H.length+5) 1 0 (s.rows.length+1),.lsl (L (.n 5)) 1 0 s.lists.length,.mp (L (.n 6)),.mp (L (.n 7))])) ++
  [.box ((EG e).map .d),.row false (AF .i64 [e.1]),.row false (AF .i64 (s.above++[e.1])),.map [],.box [.mp (H.length+3)],.box (LZ L s.rows.length++[.mp (H.length+3)])]
def F8 (L:Rl->Nat) (s:Ly) (H:List Ae) (e:Elm):(Gr L s H e).length=H.length+6:=by simp[Gr]
def Zk {L:Rl->Nat} {s:Ly} {H:List Ae} (h:B1 L s H) (e:Elm):B1 (FU L s.rows.length (H.length+1)) (s.row e.1) (Gr L s H e)/\Df L s H (FU L s.rows.length (H.length+1)) (s.row e.1) (Gr L s H e):=by
 have ok:∀ k,k<8+s.rows.length->BN s (.n k):=fun k hk=>hk;have l0:=h.lt _ (ok 0 (by omega));have hlen:=F8 L s H e;constructor
 ·refine h.newrow (N:=H.length+1) (by omega) (by omega) (by omega) ?_ ?_ ?_ ?_ fun a ha a0 a2 a4=>?_;·unfold Gr;rw[AJ (by simpa using l0),BS (by simpa using l0)]
  ·show (Gr L s H e)[H.length+2]?=_
   unfold Gr;rw[Bc (by simp)];simp
  ·show (Gr L s H e)[H.length+5]?=_
   unfold Gr;rw[Bc (by simp)];simp
  ·show (Gr L s H e)[H.length+3]?=_
   unfold Gr;rw[Bc (by simp)];simp
  have la:=h.lt a ha;unfold Gr;rw[AJ (by simpa using la),As (h.ne (ok 0 (by omega)) ha (Ne.symm a0)),As (h.ne (ok 4 (by omega)) ha (Ne.symm a4)),As (h.ne (ok 0 (by omega)) ha (Ne.symm a0)),As (h.ne (ok 2 (by omega)) ha (Ne.symm a2))]
 refine ⟨?_,?_,by omega,fun i hi hr=>?_,fun x hx=>Zi (a:=e.1) (by omega) hx⟩;·unfold FU;rw[Bd _ _ (by omega),Bd _ _ (by decide),Bd _ _ (by decide)]
 ·unfold FU;rw[Bd _ _ (by omega),Bd _ _ (by decide),Bd _ _ (by decide)]
 unfold Gr;rw[AJ (by simpa using hi),As (hr _ (ok 0 (by omega))),As (hr _ (ok 4 (by omega))),As (hr _ (ok 0 (by omega))),As (hr _ (ok 2 (by omega)))]
def Zj {L:Rl->Nat} {s:Ly} {H:List Ae} (h:NoX H) (e:Elm):NoX (Gr L s H e):=by unfold Gr;exact ((((h.set _ (by simp)).set _ (by simp)).set _ (by simp)).set _ (by simp)).app (by simp[NoX])
def MG:Ci:=fun k=>AfG k 2000042 || (AfG k 4000059 || AfG k 4000060)
def MN:MG 2000042=true:=rfl
def UZ:MG 4000059=true:=rfl
def UY:MG 4000060=true:=rfl
def MM {k:Nat} (h:¬(k=2000042\/k=4000059\/k=4000060)):MG k=false:=by
 cases e:MG k with
 | false=>rfl
 | true =>
  unfold MG at e;simp only[Afn] at e;rcases e with e | e | e
  ·exact absurd (.inl (AeI e)) h
  ·exact absurd (.inr (.inl (AeI e))) h
  exact absurd (.inr (.inr (AeI e))) h
def gK (recs further:Bool) (l:List Elm) (k:Nat):Ly:=(l.take k).foldl (Ly.elm recs) (ly0 further)
def Gg (recs further:Bool) (l:List Elm) {k:Nat} (h:k<l.length):gK recs further l (k+1)=(gK recs further l k).elm recs (l.getD k noE):=by unfold gK;rw[AeL,Ac7 h,AfR,Ada,Ac7 h];rfl
def Sw (further:Bool) (l:List Elm):gK (!l.any A4) further l l.length=Av further l:=by unfold gK Av;rw[Afl]
def Ct:List Elm->Nat
 | []=>0
 | e::r=>nsz e.2+Ct r
def Ei:∀ l:List Elm,l.length<=Ct l
 | []=>AeR _
 | e::r=>by have:=Ei r;have:=DQ e.2;rw[Ct,Adk];omega
def Ov (a b:List Elm):Ct (a++b)=Ct a+Ct b:=by
 induction a with
 | nil=>simp[Ct]
 | cons x r ih=>simp only[Afv,Ct,ih];omega
def Q5 (l:List Elm) (k:Nat):Ct (l.take k)<=Ct l:=by have:=Ov (l.take k) (l.drop k);rw[AfJ] at this;omega
def LD {l:List Elm} {k:Nat} (h:k<l.length):Ct (l.take (k+1))=Ct (l.take k)+nsz (l.getD k noE).2:=by rw[AeL,Ac7 h,Ov,Ada,Ac7 h];simp[Ct]
def LyB.row {s:Ly} {B:Nat} (h:LyB s B) (a:Int) (hr:s.rows.length+1<=1000000000):LyB (s.row a) B:=⟨h.paths,h.lists,by simpa[Ly.row] using hr,h.it⟩
def Ly.elm_rows (recs:Bool) (s:Ly) (e:Elm):(s.elm recs e).rows.length=s.rows.length+1:=by unfold Ly.elm;rw[Ly.parts_rows];simp[Ly.row]
def LyB.elm {s:Ly} {B:Nat} (h:LyB s B) (recs:Bool) (e:Elm) (hr:s.rows.length+1<=1000000000):LyB (s.elm recs e) (B+nsz e.2):=by
 unfold Ly.elm;split;·exact LyB.parts e.2 [] (h.row e.1 hr)
 rw[Ly.parts_one];have:=DQ e.2;exact ((h.row e.1 hr).single _ _).mono (by omega)
def Jb (recs further:Bool) (l:List Elm):∀ k,k<=l.length->(gK recs further l k).rows.length=k
 | 0,_=>rfl
 | k+1,h=>by rw[Gg recs further l (by omega),Ly.elm_rows,Jb recs further l k (by omega)]
def Sx (recs further:Bool) (l:List Elm) (hl:l.length<=1000000):∀ k,k<=l.length->LyB (gK recs further l k) (Ct (l.take k))
 | 0,_=>⟨Ado _,Ado _,Ado _,fun _=>Ado _⟩
 | k+1,h=>by rw[Gg recs further l (by omega),LD (by omega)];exact (Sx recs further l hl k (by omega)).elm recs _ (by rw[Jb recs further l k (by omega)];omega)
def WL (L:Rl->Nat) (s:Ly) (H:List Ae) (a k:Int) (t:List UInt8) (ks:List (List UInt8)) (l:List Nd):Gr L s H (a,.mk k t ks l)=((((H.set (L (.n 2)) .dead).set (L (.n 0)) (.box [.d (.bool s.further),.lsl (H.length+2) 1 0 (s.above.length+1),.lsl (L (.n 3)) 1 0 s.paths.length,.lsl (L (.n 4)) 1 0 s.rows.length,.lsl (L (.n 5)) 1 0 s.lists.length,.mp (L (.n 6)),.mp (L (.n 7))])).set (L (.n 4)) .dead).set (L (.n 0)) (.box [.d (.bool s.further),.lsl (H.length+2) 1 0 (s.above.length+1),.lsl (L (.n 3)) 1 0 s.paths.length,.lsl (H.length+5) 1 0 (s.rows.length+1),.lsl (L (.n 5)) 1 0 s.lists.length,.mp (L (.n 6)),.mp (L (.n 7))]))++[.box [.d (.int .i64 a),.d (.int .i64 k),.d (S t),.d (Ss ks false),.d (.sl l.length false (AA l))],.row false [.int .i64 a],.row false (AF .i64 s.above++[.int .i64 a]),.map [],.box [.mp (H.length+3)],.box (LZ L s.rows.length++[.mp (H.length+3)])]:=by unfold Gr;simp[EG,ndC,AF]
def Zl (L:Rl->Nat) (s:Ly) (H:List Ae) (a k:Int) (t:List UInt8) (ks:List (List UInt8)) (l:List Nd) (hn:s.rows.length=0):Gr L s H (a,.mk k t ks l)=((((H.set (L (.n 2)) .dead).set (L (.n 0)) (.box [.d (.bool s.further),.lsl (H.length+2) 1 0 (s.above.length+1),.lsl (L (.n 3)) 1 0 s.paths.length,.lsl (L (.n 4)) 1 0 s.rows.length,.lsl (L (.n 5)) 1 0 s.lists.length,.mp (L (.n 6)),.mp (L (.n 7))])).set (L (.n 4)) .dead).set (L (.n 0)) (.box [.d (.bool s.further),.lsl (H.length+2) 1 0 (s.above.length+1),.lsl (L (.n 3)) 1 0 s.paths.length,.lsl (H.length+5) 1 0 1,.lsl (L (.n 5)) 1 0 s.lists.length,.mp (L (.n 6)),.mp (L (.n 7))]))++[.box [.d (.int .i64 a),.d (.int .i64 k),.d (S t),.d (Ss ks false),.d (.sl l.length false (AA l))],.row false [.int .i64 a],.row false (AF .i64 s.above++[.int .i64 a]),.map [],.box [.mp (H.length+3)],.box [.mp (H.length+3)]]:=by rw[WL];simp[hn,LZ]
def Ly.parts_above (s:Ly):∀ l:List Pt,(s.parts l).above=s.above
 | []=>rfl
 | q::r=>by
   have:=Ly.parts_above (s.part q) r;have e:(s.part q).above=s.above:=by
    cases q with
    | c p x=>rfl
    | l p k =>
     show (s.list p k).above=_
     unfold Ly.list;split<;>rfl
   rw[e] at this;exact this
def Ol (recs further:Bool) (l:List Elm):∀ k,k<=l.length->(gK recs further l k).above.length=k
 | 0,_=>rfl
 | k+1,h=>by rw[Gg recs further l (by omega)];unfold Ly.elm;rw[Ly.parts_above];have:=Ol recs further l k (by omega);simp[Ly.row,this]
def Ab0 (recs further:Bool) (l:List Elm) (k:Nat) (x:(Rl->Nat) × List Ae):Prop:=B1 x.1 (gK recs further l k) x.2/\NoX x.2/\x.1 (.n 0)=2/\x.1 (.n 1)=3
def GthT (G:Ah) (recs further:Bool) (l:List Elm) (k:Nat) (x y:(Rl->Nat) × List Ae):Prop :=
 x.2.length+6<=y.2.length /\
 (recs=true->Ctr TP G 59 [.ptr 2 0,.mp 3,.d (S []),.d (NdD (l.getD k noE).2)] (Gr x.1 (gK recs further l k) x.2 (l.getD k noE)) (.d (.tup [])) y.2) /\
 (recs=false->Ctr TP G 60 [.ptr 2 0,.mp 3,.d (S CY),.d (NdD (l.getD k noE).2)] (Gr x.1 (gK recs further l k) x.2 (l.getD k noE)) (.d (.tup [])) y.2)
def Z3 (recs further:Bool) (l:List Elm) (hrec:recs=true->∀ e∈l,e.2.kind=6) (hok:∀ e∈l,GJ e.2) (hz:Ct l<=4000) {k:Nat} (hk:k<l.length) {x:(Rl->Nat) × List Ae} (hx:Ab0 recs further l k x) :
  ∃ y,GthT G recs further l k x y/\Ab0 recs further l (k+1) y:=by
 obtain ⟨L1,H1⟩:=x;obtain ⟨i1,i2,i3,i4⟩:=hx;simp only at i1 i2 i3 i4;have hlz:=Ei l;have hem:l.getD k noE∈l:=Cs hk;have hsz:=LD hk;have htk:=Q5 l (k+1);have hrw:=Jb recs further l k (by omega);have hB:=Sx recs further l (by omega) k (by omega);obtain ⟨y1,y2⟩:=Zk i1 (l.getD k noE);have y3:NoX (Gr L1 (gK recs further l k) H1 (l.getD k noE)):=Zj i2 _;have yl:=F8 L1 (gK recs further l k) H1 (l.getD k noE);have z0:=y2.n0;have z1:=y2.n1;rw[i3] at z0;rw[i4] at z1;have hr0:0<((gK recs further l k).row (l.getD k noE).1).rows.length:=by simp[Ly.row]
 have hBr:=hB.row (l.getD k noE).1 (by omega);have hsucc:=Gg recs further l hk;generalize hL2:FU L1 (gK recs further l k).rows.length (H1.length+1)=L2 at *;cases recs with
 | true =>have e1:(gK true further l k).elm true (l.getD k noE)=((gK true further l k).row (l.getD k noE).1).parts (Dw (l.getD k noE).2 []):=rfl;rw[e1] at hsucc;obtain ⟨L',H',r1,r2,r3,r4⟩:=NG (G:=G) _ (l.getD k noE).2 (AeR _) [] y1 hr0 y3 (hok _ hem) (hrec rfl _ hem) hBr (by omega) (by rw[Adl];omega);rw[<-hsucc] at r2 r3;rw[z0,z1] at r1;have:=r3.len;exact ⟨(L',H'),⟨by show H1.length+6<=H'.length;omega,fun _=>r1,fun q=>(by cases q)⟩,r2,r4,r3.n0.trans z0,r3.n1.trans z1⟩
 | false =>have e1:(gK false further l k).elm false (l.getD k noE)=((gK false further l k).row (l.getD k noE).1).single CY (AN (l.getD k noE).2):=rfl;rw[e1] at hsucc;obtain ⟨L',H',r1,r2,r3,r4⟩:=Nu (G:=G) y1 hr0 y3 CY (l.getD k noE).2 ⟨by have:=hBr.paths;omega,hBr.rows⟩ (by simp[CY]);rw[<-hsucc] at r2 r3;rw[z0,z1] at r1;have:=r3.len;exact ⟨(L',H'),⟨by show H1.length+6<=H'.length;omega,fun q=>(by cases q),fun _=>r1⟩,r2,r4,r3.n0.trans z0,r3.n1.trans z1⟩
def lyL:Rl->Nat
 | .n k=>[2,3,4,5,6,7,0,1].getD k 0
 | .i _=>0
def lyH (further:Bool):List Ae:=[.amap [],.map [],.box [.d (.bool further),.lsl 4 1 0 0,.lsl 5 1 0 0,.lsl 6 1 0 0,.lsl 7 1 0 0,.mp 0,.mp 1],.map [],.row false [],.row false [],.row false [],.row false []]
def Abt (further:Bool):B1 lyL (ly0 further) (lyH further):=by
 have key:∀ a,BN (ly0 further) a->∃ k,k<8/\a=.n k:=fun a ha=>by
  cases a with
  | n k=>exact ⟨k,ha,rfl⟩
  | i q=>exact absurd rfl ha
 refine ⟨fun a b ha hb e=>?_,fun a ha=>?_,rfl,⟨[],rfl,IJ.nil,fun p=>by simp[J8,ly0]⟩,rfl,rfl,rfl,rfl,⟨[],rfl,IJ.nil,fun p=>by simp[J8,ly0]⟩,⟨[],rfl,IJ.nil,fun p=>by simp[J8,ly0]⟩,fun i h=>absurd h (Afy _),fun p h=>absurd rfl h⟩
 ·obtain ⟨i,hi,rfl⟩:=key a ha;obtain ⟨j,hj,rfl⟩:=key b hb;have:∀ i,i<8->∀ j,j<8->lyL (.n i)=lyL (.n j)->i=j:=by decide
  rw[this i hi j hj e]
 obtain ⟨i,hi,rfl⟩:=key a ha;have:∀ i,i<8->lyL (.n i)<(lyH further).length:=by have h8:(lyH further).length=8:=rfl;rw[h8];decide
 exact this i hi
def JM (further:Bool) (l:List Elm) (full:Bool) (hok:∀ e∈l,GJ e.2) (hz:Ct l<=4000) :
  ∃ L' H',Ctr TP G 32 [.d (.bool further),.d (ElS l full)] [] (.ptr 2 0) H'/\B1 L' (Av further l) H'/\NoX H'/\L' (.n 0)=2:=by
 have hlz:=Ei l;have hrec:(!l.any A4)=true->∀ e∈l,e.2.kind=6:=by intro h e he;simp only[Afu,AfS] at h;have:=h e he;simpa[A4,Ca] using this
 obtain ⟨f,f0,fI,fT⟩:=Le (Ab0 (!l.any A4) further l) (GthT G (!l.any A4) further l) l.length (lyL,lyH further) ⟨Abt further,by simp[NoX,lyH],rfl,rfl⟩ (fun k hk x hx=>Z3 _ further l hrec hok hz hk hx);have fE:=fI l.length (AeR _);unfold Ab0 at fE;rw[Sw] at fE;refine ⟨(f l.length).1,(f l.length).2,Ctr.bodyI (M:=MG) Am Tryz.func32 rfl go32 fE.2.1.ok ?_,fE.1,fE.2.1,fE.2.2.1⟩;have el:=BU l;simp(disch:=(try simp only[Ab]);omega)only[Tryz.f32,MM,↓Aa,Ac,↓reduceIte,Qu,Qv];refine Ad.of (JU 58 A4 l false (by omega) fun e _=>Ue e) (by rfl) ?_;generalize hrc:(!l.any A4)=recs at *;have hany:l.any A4=!recs:=by rw[<-hrc];simp
 rw[hany];simp(disch:=(try simp only[Ab]);omega)only[MM,Bool.not_not,↓Aa,Ac,Qu];refine Ak.frI 1573088 (α:=Nat) (fun k=>l.length-k) (fun k=>[(21,.d (.int .i64 k))]) (fun k=>(f k).2) (fun k=>k<=l.length) 0 (Ado _) ?_ ?_
 ·rw[f0];unfold lyH;first
  | exact .weak ⟨[some 0,some 1,some 2,some 3,none,none,none,none],rfl,by simp,by simp[sA,kZ,SW,AW],by simp[HW,BW,SW,AW]⟩
 intro k hkk;simp only[Bi,Adq,Aet];rcases Adm k l.length with hlt | hge
 ·obtain ⟨t1,t2,t3⟩:=fT k hlt;obtain ⟨i1,i2,i3,i4⟩:=fI k hkk;have hrw:=Jb recs further l k hkk;have hB:=Sx recs further l (by omega) k hkk;have htk:=Q5 l k;have hab:=Ol recs further l k hkk;generalize hHk:(f k).2=Hk at *;generalize hLk:(f k).1=Lk at *;generalize hsk:gK recs further l k=sk at *;have ok:∀ j,j<8+sk.rows.length->BN sk (.n j):=fun j hj=>hj;have q0:=i1.box;have q2:=i1.above;have q4:=i1.rows;rw[i3] at q0;have l0:=i1.lt _ (ok 0 (by omega));have l2:=i1.lt _ (ok 2 (by omega));have l4:=i1.lt _ (ok 4 (by omega));have n02:=i1.ne (ok 0 (by omega)) (ok 2 (by omega)) (by simp);have n04:=i1.ne (ok 0 (by omega)) (ok 4 (by omega)) (by simp);have n24:=i1.ne (ok 2 (by omega)) (ok 4 (by omega)) (by simp);rw[i3] at l0 n02 n04;have al:=@ints_length .i64 sk.above;have g:=LC hlt;have rl:=R5 Lk sk.rows.length;generalize hee:l.getD k noE=ee at *;obtain ⟨ea,ka,kb,kc,kl⟩:=ee;obtain ⟨cf,hcf⟩:=DA [2,Lk (.n 2),Hk.length,Hk.length+1,Hk.length+2] (by simp only[Afo,Afc,Ae7,or_false,not_or,AfB,and_true,not_false_eq_true];omega);have c0:=hcf 0 _ rfl;have c1:=hcf 1 _ rfl;have c2:=hcf 2 _ rfl;have c3:=hcf 3 _ rfl;have c4:=hcf 4 _ rfl;by_cases hn:sk.rows.length=0
  ·rw[Kq,if_pos hn] at q4;simp(disch:=(try simp only[Ab]);omega)only[MM,show Io MG (some 42)=true from rfl,el,g,q0,q2,q4,al,EG,ndC,Be,↓Aa,Ac,↓reduceIte,Qu,Qw];refine ⟨AR cf (by simp(disch:=omega)only[BC,A8,A7,Bu,and_self]) (by simp only[Adn,AeJ,c0,c1,c2,c3,c4];rfl),?_⟩;have e1:=Zl Lk sk Hk ea ka kb kc kl hn;rw[e1,i3] at t2 t3;have hl1:=congrArg List.length e1;rw[F8] at hl1;cases recs with
   | true =>
    simp(disch:=(try simp only[Ab]);omega)only[MM,UZ,Be,↓Aa,Ac,↓reduceIte,Qu];first
    | refine Aq.go (t2 rfl) ⟨.inl rfl,.inl rfl,.inl rfl,.inr (.inr ⟨_,rfl,rfl,.inl rfl⟩),trivial⟩ (by rw[i3] at hl1;rw[<-hl1];exact t1) ?_
    simp(disch:=(try simp only[Ab]);omega)only[MM,↓Aa,Ac];first
    | exact ⟨k+1,hlt,by simp only;omega,.inl ⟨rfl,by simp[Dg]⟩⟩
   | false =>
    simp(disch:=(try simp only[Ab]);omega)only[MM,UY,Be,↓Aa,Ac,↓reduceIte,Qu];first
    | refine Aq.go (t3 rfl) ⟨.inl rfl,.inl rfl,.inl rfl,.inr (.inr ⟨_,rfl,rfl,.inl rfl⟩),trivial⟩ (by rw[i3] at hl1;rw[<-hl1];exact t1) ?_
    simp(disch:=(try simp only[Ab]);omega)only[MM,↓Aa,Ac];first
    | exact ⟨k+1,hlt,by simp only;omega,.inl ⟨rfl,by simp[Dg]⟩⟩
  rw[Kq,if_neg hn] at q4;have q4':Hk[Lk (.n 4)]?=some (.box (LZ Lk sk.rows.length)):=q4;simp(disch:=(try simp only[Ab]);omega)only[MM,show Io MG (some 42)=true from rfl,el,g,q0,q2,q4',rl,al,EG,ndC,Be,↓Aa,Ac,↓reduceIte,Qu];refine ⟨AR cf (by simp(disch:=omega)only[BC,A8,A7,Bu,and_self]) (by simp only[Adn,AeJ,c0,c1,c2,c3,c4];rfl),?_⟩;have e1:=WL Lk sk Hk ea ka kb kc kl;rw[e1,i3] at t2 t3;have hl1:=congrArg List.length e1;rw[F8] at hl1;cases recs with
  | true =>
   simp(disch:=(try simp only[Ab]);omega)only[MM,UZ,Be,↓Aa,Ac,↓reduceIte,Qu];first
   | refine Aq.go (t2 rfl) ⟨.inl rfl,.inl rfl,.inl rfl,.inr (.inr ⟨_,rfl,rfl,.inl rfl⟩),trivial⟩ (by rw[i3] at hl1;rw[<-hl1];exact t1) ?_
   simp(disch:=(try simp only[Ab]);omega)only[MM,↓Aa,Ac];first
   | exact ⟨k+1,hlt,by simp only;omega,.inl ⟨rfl,by simp[Dg]⟩⟩
  | false =>
   simp(disch:=(try simp only[Ab]);omega)only[MM,UY,Be,↓Aa,Ac,↓reduceIte,Qu];first
   | refine Aq.go (t3 rfl) ⟨.inl rfl,.inl rfl,.inl rfl,.inr (.inr ⟨_,rfl,rfl,.inl rfl⟩),trivial⟩ (by rw[i3] at hl1;rw[<-hl1];exact t1) ?_
   simp(disch:=(try simp only[Ab]);omega)only[MM,↓Aa,Ac];first
   | exact ⟨k+1,hlt,by simp only;omega,.inl ⟨rfl,by simp[Dg]⟩⟩
 obtain rfl:k=l.length:=by omega
 simp(disch:=(try simp only[Ab]);omega)only[↓Aa,Ac];first
 | exact Or.inr ⟨rfl,Or.inl rfl⟩
def Ku (n:Nat) (c:Col):Bool:=FJ c.name && (decide (c.cells.length<=4096) && (decide (c.cells.length=n) && c.cells.all Ee))
def Ck (t:Tab):Bool:=X2 t.id t.name && (decide (t.cols.length<=64) && t.cols.all (Ku (DE t)))
def Sd (t:Tab):Prop:=t.name.length<=1000000000/\t.cols.length<=1000000/\∀ c∈t.cols,c.name.length<=1000000000/\c.cells.length<=1000000/\∀ x∈c.cells,x.1.length<=1000000000
def UJ {α:Type} {l:List α} {p:α->Bool} {i:Nat} {d:α} (h:i<l.length) (h2:(l.take i).all p=true) (h3:p (l.getD i d)=true):(l.take (i+1)).all p=true:=by
 rw[AeL,AbI (d:=d) h,AfT,h2,Adi];show (p (l.getD i d) && true)=true
 rw[h3];rfl
def Xh {α:Type} {l:List α} {p:α->Bool} {i:Nat} {d:α} (h:i<l.length) (h3:p (l.getD i d)=false):l.all p=false:=by
 cases e:l.all p with
 | false=>rfl
 | true=>rw[Afe.1 e _ (Cs (d:=d) h)] at h3;cases h3
def Kn (hT:HT G) (t:Tab) (full:Bool) (ht:Sd t) (i1:-9223372036854775808<=t.id) (i2:t.id<=9223372036854775807) :
  Ctr TP G 35 [.d (SY t full)] [] (.d (.bool (Ck t))) []:=by
 obtain ⟨r,hr⟩:∃ r,r=Ck t:=⟨_,rfl⟩;rw[<-hr];unfold Ck X2 at hr;obtain ⟨id,name,cols⟩:=t;obtain ⟨s1,s2,s3⟩:=ht;simp only at s1 s2 s3 i1 i2 hr ⊢;have cl:=AX cols;refine Ctr.pure (M:=M0) Am Tryz.func35 rfl go35 ?_;rcases (by omega:id<0\/1073741824<id\/(0<=id/\id<=1073741824)) with h | h | h
 ·rw[decide_eq_false (by omega),Adf,Adf] at hr;subst hr;simp(disch:=(try simp only[Ab]);omega)only[Tryz.f35,↓Aa,Ac,↓reduceIte,↓Qe,Qu,Qv];first | done | rfl | exact ⟨by rfl,by rfl⟩
 ·rw[decide_eq_false (by omega),Adf,Adf] at hr;subst hr;simp(disch:=(try simp only[Ab]);omega)only[Tryz.f35,↓Aa,Ac,↓reduceIte,↓Qe,Qu,Qv];first | done | rfl | exact ⟨by rfl,by rfl⟩
 rw[decide_eq_true h,Adi] at hr;simp(disch:=(try simp only[Ab]);omega)only[Tryz.f35,↓Aa,Ac,↓reduceIte,Qu,Qv];refine Ad.pure (ND hT name s1) ?_;cases hf:FJ name;·rw[hf,Adf] at hr;subst hr;simp only[↓Aa,Ac,↓reduceIte,↓Qe];first | done | rfl | exact ⟨by rfl,by rfl⟩
 rw[hf,Adi] at hr;rcases Adm 64 cols.length with h2 | h2
 ·rw[decide_eq_false (by omega),Adf] at hr;subst hr;simp(disch:=(try simp only[Ab]);omega)only[↓Aa,Ac,↓reduceIte,↓Qe,Qu];first | done | rfl | exact ⟨by rfl,by rfl⟩
 rw[decide_eq_true h2,Adi] at hr;simp(disch:=(try simp only[Ab]);omega)only[↓Aa,Ac,↓reduceIte,Qu];refine Ak.fr 805306370 (α:=Nat) (fun k=>cols.length-k) (fun k=>[(30,.d (.int .i64 (k:Nat)))])
  (fun _=>[.box [.d (.int .i64 id),.d (S name),.d (HY cols full)]]) (fun k=>k<=cols.length/\(cols.take k).all (Ku (DE ⟨id,name,cols⟩))=true) 0 ⟨Ado _,rfl⟩ ?_ ?_
 ·exact ⟨[some 0],rfl,by simp,by simp[sA,kZ,SW,AW],by simp[HW,BW,SW,AW]⟩
 rintro k ⟨hk,ha⟩;simp only[Bi,Adq,Aet];rcases Adm k cols.length with h3 | h3
 ·have gk:=Je h3;have at1:=UJ (p:=Ku (DE ⟨id,name,cols⟩)) (d:=Gc) h3 ha;have no1:=fun q=>Xh (p:=Ku (DE ⟨id,name,cols⟩)) (d:=Gc) h3 q;obtain ⟨z1,z2,z3⟩:=s3 _ (Cs (d:=Gc) h3);have g0:(AM cols).getD 1 .nilp=KX (cols.getD 0 Gc).cells false:=by
   rcases cols with _ | ⟨c,l⟩
   ·exact absurd h3 (Afy _)
   rfl
  have r0:DE ⟨id,name,cols⟩=(cols.getD 0 Gc).cells.length:=by
   rcases cols with _ | ⟨c,l⟩
   ·exact absurd h3 (Afy _)
   rfl
  obtain ⟨y1,y2,y3⟩:=s3 _ (Cs (d:=Gc) (show 0<cols.length by omega));have l0:=Az (cols.getD 0 Gc).cells;rw[r0] at at1 no1 ha hr;generalize cols.getD 0 Gc=c0 at *;generalize cols.getD k Gc=c at *;have lc:=Az c.cells;have oc:Ku c0.cells.length c=(FJ c.name && (decide (c.cells.length<=4096) && (decide (c.cells.length=c0.cells.length) && c.cells.all Ee))):=rfl;simp(disch:=(try simp only[Ab]);omega)only[cl,gk,↓Aa,Ac,↓reduceIte,Qu];refine Ad.pure (ND hT c.name z1) ?_;cases f1:FJ c.name
  ·rw[f1,Adf] at oc;have:=no1 oc;rw[this] at hr;subst hr;simp only[↓Aa,Ac,↓reduceIte,↓Qe,Qu];first | done | rfl | exact ⟨by rfl,by rfl⟩ | exact ⟨by rfl,by rfl,by rfl⟩
  rw[f1,Adi] at oc;rcases Adm 4096 c.cells.length with h4 | h4
  ·rw[decide_eq_false (by omega),Adf] at oc;have:=no1 oc;rw[this] at hr;subst hr;simp(disch:=(try simp only[Ab]);omega)only[↓Aa,Ac,↓reduceIte,↓Qe,Qu];first | done | rfl | exact ⟨by rfl,by rfl⟩ | exact ⟨by rfl,by rfl,by rfl⟩
  rw[decide_eq_true h4,Adi] at oc;by_cases h5:c.cells.length=c0.cells.length
  ·rw[decide_eq_true h5,Adi] at oc;simp(disch:=(try simp only[Ab]);omega)only[cl,g0,h5,↓Aa,Ac,↓reduceIte,Qu];rw[<-h5] at r0 ⊢;refine ⟨by rfl,?_⟩;refine Ak.fr 432345566106615810 (α:=Nat) (fun i=>c.cells.length-i) (fun i=>[(59,.d (.int .i64 (i:Nat)))])
    (fun _=>[.box [.d (.int .i64 id),.d (S name),.d (HY cols full)]]) (fun i=>i<=c.cells.length/\(c.cells.take i).all Ee=true) 0 ⟨Ado _,rfl⟩ ?_ ?_
   ·exact ⟨[some 0],rfl,by simp,by simp[sA,kZ,SW,AW],by simp[HW,BW,SW,AW]⟩
   rintro i ⟨hi,hb⟩;simp only[Bi,Adq,Aet];rcases Adm i c.cells.length with h6 | h6
   ·have gc:=Jf h6;have a2:=UJ (p:=Ee) (d:=noC) h6 hb;have n2:=fun q=>Xh (p:=Ee) (d:=noC) h6 q;have x1:=z3 _ (Cs (d:=noC) h6);generalize c.cells.getD i noC=x at *;simp(disch:=(try simp only[Ab]);omega)only[lc,gc,↓Aa,Ac,↓reduceIte,Qu];refine Ad.pure (Mt hT x x1) ?_;cases f2:Ee x
    ·rw[n2 f2] at oc;have:=no1 oc;rw[this] at hr;subst hr;simp only[↓Aa,Ac,↓Qe,Qu];first | done | rfl | exact ⟨by rfl,by rfl⟩ | exact ⟨by rfl,by rfl,by rfl⟩
    have:=a2 f2;simp(disch:=(try simp only[Ab]);omega)only[↓Aa,Ac,Qu];exact ⟨i+1,⟨h6,this⟩,by simp only;omega,⟨[some 0],rfl,by simp,by simp[SW,AW],by simp[HW,BW,SW,AW]⟩⟩
   rw[AfH h6] at hb;rw[hb] at oc;have:=at1 oc;rw[h5] at r0;rw[<-r0] at this;simp(disch:=(try simp only[Ab]);omega)only[↓Aa,Ac];exact ⟨k+1,⟨h3,this⟩,by simp only;omega,⟨[some 0],rfl,by simp,by simp[SW,AW],by simp[HW,BW,SW,AW]⟩⟩
  rw[decide_eq_false h5,Adf] at oc;have:=no1 oc;rw[this] at hr;subst hr;simp(disch:=(try simp only[Ab]);omega)only[cl,g0,↓Aa,Ac,↓reduceIte,↓Qe,Qu];first | done | rfl | exact ⟨by rfl,by rfl⟩ | exact ⟨by rfl,by rfl,by rfl⟩
 rw[AfH h3] at ha;rw[ha] at hr;subst hr;simp(disch:=(try simp only[Ab]);omega)only[↓Aa,Ac,↓Qe];first | done | rfl | exact ⟨by rfl,by rfl⟩
def VX (hT:HT G) (l:List Cel) (full:Bool) (hl:l.length<=1000000000) (hs:∀ c∈l,c.1.length<=1000000000) :
  Ctr TP G 126 [.d (KX l full),.d (.fn (.func 127) [] [])] [] (.d (.bool (l.all Ee))) []:=by
 refine Ctr.pure (M:=M0) Am Tryz.func126 rfl Aeo ?_;have sl:=Az l;simp only[Tryz.f126,↓Aa,Ac,Qu,Qv];refine Ak.fr 386 (α:=Nat) (fun i=>l.length-i) (fun i=>[(9,.d (.int .i64 i))]) (fun _=>[]) (fun i=>i<=l.length/\l.all Ee=(l.drop i).all Ee) 0 ⟨Ado _,rfl⟩ ?_ ?_;·exact ⟨[],rfl,by simp,by simp[sA,kZ,SW,AW],by simp[HW]⟩
 rintro i ⟨h1,h2⟩;simp only[Bi,Adq,Aet];rw[h2];rcases Adm i l.length with h | h
 ·have g:=Jf h;have hd:(l.drop i).all Ee=(Ee (l.getD i noC) && (l.drop (i+1)).all Ee):=by
   rw[Adp h,AfX,Ada,Ac7 h];rfl
  have hm:(l.getD i noC).1.length<=1000000000:=hs _ (Cs h);rw[hd];simp(disch:=(try simp only[Ab]);omega)only[sl,g,↓Aa,Ac,↓reduceIte,Qu];refine Ad.of (Ni hT (l.getD i noC) hm) (by rfl) ?_;cases hx:Ee (l.getD i noC);·simp only[↓Aa,Ac,↓Qe];first | done | rfl | exact ⟨by rfl,by rfl⟩
  simp(disch:=(try simp only[Ab]);omega)only[↓Aa,Ac];first
  | exact ⟨i+1,⟨h,by rw[h2,hd,hx,Adi]⟩,by simp only;omega,⟨[],rfl,by simp,by simp[sA,kZ,SW,AW],by simp[HW,BW,SW,AW]⟩⟩
  | exact ⟨i+1,⟨h,rfl⟩,by simp only;omega,⟨[],rfl,by simp,by simp[SW,AW],by simp[HW]⟩⟩
 rw[Afs h];simp(disch:=(try simp only[Ab]);omega)only[↓Aa,Ac,↓Qe];first | done | rfl
def Hp (n:Nat) (c:Col):Bool:=!FJ c.name || (decide (¬c.cells.length=n) || !c.cells.all Ee)
abbrev tabB (t:Tab) (f:Bool):Ae:=.box [.d (.int .i64 t.id),.d (S t.name),.d (HY t.cols f)]
def Ta (hT:HT G) (t:Tab) (f:Bool) (ht:Sd t) (c:Col) (hc:c∈t.cols):Ctr TP G 125 [.d (.agg (AaV c)),.ptr 0 0] [tabB t f] (.d (.bool (Hp (DE t) c))) [tabB t f]:=by
 obtain ⟨h1,h2,h3⟩:=ht;obtain ⟨c1,c2,c3⟩:=h3 c hc;obtain ⟨r,hr⟩:∃ r,r=Hp (DE t) c:=⟨_,rfl⟩;rw[<-hr];unfold Hp at hr;refine Ctr.body (M:=M0) Am Tryz.func125 rfl Aep ?_;have sl:=Az c.cells;have rs:=Px (G:=G) t false (by omega) (fun c hc=>by have:=(h3 c hc).2.1;omega);have rn:DE t<=1000000:=by
  unfold DE;split;·omega
  rename_i c' r' he;exact (h3 c' (by rw[he];simp)).2.1
 generalize DE t=n at *;obtain ⟨id,name,cols⟩:=t;obtain ⟨cn,cc⟩:=c;simp(disch:=(try simp only[Ab]);omega)only[Tryz.f125,↓Aa,Ac,↓reduceIte,Qu,Qv];refine Ad.pure (LB hT cn c1) ?_;cases hf:FJ cn
 ·rw[hf,Bool.not_false,AfA] at hr;subst hr;simp only[↓Aa,Ac,↓reduceIte,Qu];first
  | exact ⟨[some 0],rfl,by simp,by simp[HW,BW,SW,AW],.inl (by simp[AW,SW])⟩
  | exact ⟨by rfl,⟨[some 0],rfl,by simp,by simp[HW,BW,SW,AW],.inl (by simp[AW])⟩⟩
 rw[hf,AfW,Afm] at hr;simp(disch:=(try simp only[Ab]);omega)only[↓Aa,Ac,↓reduceIte,Qu];refine Ad.of rs (by rfl) ?_;by_cases hn:cc.length=n
 ·subst hn;rw[decide_eq_false (fun q=>q rfl),Afm] at hr;simp(disch:=(try simp only[Ab]);omega)only[↓Aa,Ac,↓reduceIte,Qu];refine Ad.of (VX hT cc false (by omega) (fun x hx=>c3 x hx)) (by rfl) ?_;rw[hr];generalize cc.all Ee=b;cases b
  ·simp only[↓Aa,Ac,↓reduceIte,Qu];first
   | exact ⟨[some 0],rfl,by simp,by simp[HW,BW,SW,AW],.inl (by simp[AW,SW])⟩
   | exact ⟨by rfl,⟨[some 0],rfl,by simp,by simp[HW,BW,SW,AW],.inl (by simp[AW])⟩⟩
  simp only[↓Aa,Ac,↓reduceIte,Qu];first
  | exact ⟨[some 0],rfl,by simp,by simp[HW,BW,SW,AW],.inl (by simp[AW,SW])⟩
  | exact ⟨by rfl,⟨[some 0],rfl,by simp,by simp[HW,BW,SW,AW],.inl (by simp[AW])⟩⟩
 rw[decide_eq_true hn,AfA] at hr;subst hr;simp(disch:=(try simp only[Ab]);omega)only[↓Aa,Ac,↓reduceIte,Qu];first
 | exact ⟨[some 0],rfl,by simp,by simp[HW,BW,SW,AW],.inl (by simp[AW,SW])⟩
 | exact ⟨by rfl,⟨[some 0],rfl,by simp,by simp[HW,BW,SW,AW],.inl (by simp[AW])⟩⟩
def MB (g:FuncId) (p:Col->Bool) (l:List Col) (full:Bool) (fv:AV) (x y z:D) (hf:fv=.fn (.func g) [] [.ptr 0 0]) (hl:l.length<=1000000000) (hp:∀ c∈l,Ctr TP G g [.d (.agg (AaV c)),.ptr 0 0] [.box [.d x,.d y,.d z]] (.d (.bool (p c))) [.box [.d x,.d y,.d z]]) :
  Ctr TP G 164 [.d (HY l full),fv] [.box [.d x,.d y,.d z]] (.d (.int .i64 (ixF p l 0))) [.box [.d x,.d y,.d z]]:=by
 subst hf;refine Ctr.body (M:=M0) Am Tryz.func164 rfl AdV ?_;have sl:=AX l;simp only[Tryz.f164,↓Aa,Ac,Qu,Qv,QE];refine Ak.fr 131 (α:=Nat) (fun i=>l.length-i) (fun i=>[(8,.d (.int .i64 i))]) (fun _=>[.box [.d x,.d y,.d z]]) (fun i=>i<=l.length/\ixF p l 0=ixF p (l.drop i) i) 0 ⟨Ado _,rfl⟩ ?_ ?_;·exact ⟨[some 0],rfl,by simp,by simp[sA,kZ,SW,AW],by simp[HW,BW,SW,AW]⟩
 rintro i ⟨h1,h2⟩;simp only[Bi,Adq,Aet];rw[h2];rcases Adm i l.length with h | h
 ·have g:=Je h;rw[Od (d:=Gc) h];simp(disch:=(try simp only[Ab]);omega)only[sl,g,↓Aa,Ac,↓reduceIte,QE];refine Ad.by (hp _ (Cs h)) (by rfl) (by rfl) (by simp) ?_;cases hx:p (l.getD i Gc)
  ·simp(disch:=(try simp only[Ab]);omega)only[↓Aa,Ac,↓reduceIte,QE];first
   | exact ⟨i+1,⟨h,rfl⟩,by simp only;omega,⟨[some 0],rfl,by simp,by simp[SW,AW],by simp[HW,BW,SW,AW]⟩⟩
  simp(disch:=(try simp only[Ab]);omega)only[↓Aa,Ac,↓reduceIte,QE];first
  | exact ⟨[some 0],rfl,by simp,by simp[HW,BW,SW,AW],.inl (by simp[AW])⟩
 rw[Afs h,show ixF p [] (i:Int)=-1 from rfl];simp(disch:=(try simp only[Ab]);omega)only[↓Aa,Ac,QE];first
 | exact ⟨[some 0],rfl,by simp,by simp[HW,BW,SW,AW],.inl (by simp[AW])⟩
def JV (g:FuncId) (p:Col->Bool) (l:List Col) (full:Bool) (x y z:D) (hl:l.length<=1000000000) (hp:∀ c∈l,Ctr TP G g [.d (.agg (AaV c)),.ptr 0 0] [.box [.d x,.d y,.d z]] (.d (.bool (p c))) [.box [.d x,.d y,.d z]]) :
  Ctr TP G 124 [.d (HY l full),.fn (.func g) [] [.ptr 0 0]] [.box [.d x,.d y,.d z]] (.d (.bool (l.any p))) [.box [.d x,.d y,.d z]]:=by
 refine Ctr.body (M:=M0) Am Tryz.func124 rfl Aeq ?_;simp only[Tryz.f124,↓Aa,Ac,↓reduceIte,Qu,Qv];refine Ad.by (MB g p l false _ x y z rfl hl hp) (by rfl) (by rfl) (by simp) ?_;have hi:=I9 (p:=p) l 0 (Int.le_refl _);generalize ixF p l 0=q at *;rcases (by omega:0<=q\/q<0) with h | h
 ·rw[hi.1 h];simp(disch:=(try simp only[Ab]);omega)only[↓Aa,Ac,↓reduceIte];exact ⟨[some 0],rfl,by simp,by simp[HW,BW,SW,AW],.inl (by simp[AW])⟩
 have:l.any p=false:=by cases hx:l.any p with
  | false=>rfl
  | true=>have:=hi.2 hx;omega
 rw[this];simp(disch:=(try simp only[Ab]);omega)only[↓Aa,Ac,↓reduceIte];exact ⟨[some 0],rfl,by simp,by simp[HW,BW,SW,AW],.inl (by simp[AW])⟩
def Zz (t:Tab):Ck t=(X2 t.id t.name && (decide (t.cols.length<=64) && (decide (DE t<=4096) && !t.cols.any (Hp (DE t))))):=by
 unfold Ck;cases X2 t.id t.name;·rfl
 rw[Adi,Adi];cases decide (t.cols.length<=64);·rfl
 rw[Adi,Adi];obtain ⟨id,name,cols⟩:=t;cases cols with
 | nil=>simp[DE]
 | cons c r =>
  have e1:DE ⟨id,name,c::r⟩=c.cells.length:=rfl;simp only[e1];generalize hn:c.cells.length=n;by_cases h:n<=4096
  ·rw[decide_eq_true h,Adi,Bool.eq_iff_iff];simp only[Afe,Afu,AfS];constructor;·intro q x hx;have:=q x hx;unfold Ku at this;unfold Hp;simp only[Afw,decide_eq_true_eq] at this;obtain ⟨q1,q2,q3,q4⟩:=this;rw[q1,q4,decide_eq_false (fun z=>z q3)];decide
   intro q x hx;have:=q x hx;unfold Hp at this;unfold Ku;simp only[Afn,Afu,decide_eq_true_eq,not_or,Bool.not_eq_false,Classical.not_not] at this;obtain ⟨q1,q3,q4⟩:=this;rw[q1,q4,decide_eq_true q3,decide_eq_true (by omega)];rfl
  rw[decide_eq_false h,Adf,AfX];have:Ku n c=false:=by unfold Ku;rw[decide_eq_false (by omega:¬c.cells.length<=4096)];simp
  rw[this,Adf]
def Kd (hT:HT G) (t:Tab) (full:Bool) (ht:Sd t) (i1:-9223372036854775808<=t.id) (i2:t.id<=9223372036854775807) :
  Ctr TP G 95 [.d (SY t full)] [] (.d (.bool (Ck t))) []:=by
 obtain ⟨h1,h2,h3⟩:=id ht;rw[Zz];obtain ⟨r,hr⟩:∃ r,r=(X2 t.id t.name && (decide (t.cols.length<=64) && (decide (DE t<=4096) && !t.cols.any (Hp (DE t))))):=⟨_,rfl⟩;rw[<-hr];unfold X2 at hr;refine Ctr.pure (M:=M0) Am Tryz.func95 rfl go95 ?_;have rs:=Px (G:=G) t false (by omega) (fun c hc=>by have:=(h3 c hc).2.1;omega);have rn:DE t<=1000000:=by
  unfold DE;split;·omega
  rename_i c' r' he;exact (h3 c' (by rw[he];simp)).2.1
 have cf:=JV (G:=G) 125 (Hp (DE t)) t.cols false (.int .i64 t.id) (S t.name) (HY t.cols full) (by omega) (fun c hc=>Ta hT t full ht c hc);generalize DE t=n at *;obtain ⟨id,name,cols⟩:=t;simp only at *;have cl:=AX cols;rcases (by omega:id<0\/1073741824<id\/(0<=id/\id<=1073741824)) with h | h | h
 ·rw[decide_eq_false (by omega),Adf,Adf] at hr;subst hr;simp(disch:=(try simp only[Ab]);omega)only[Tryz.f95,↓Aa,Ac,↓reduceIte,↓Qe,Qu,Qv];first | done | rfl | exact ⟨by rfl,by rfl⟩
 ·rw[decide_eq_false (by omega),Adf,Adf] at hr;subst hr;simp(disch:=(try simp only[Ab]);omega)only[Tryz.f95,↓Aa,Ac,↓reduceIte,↓Qe,Qu,Qv];first | done | rfl | exact ⟨by rfl,by rfl⟩
 rw[decide_eq_true h,Adi] at hr;simp(disch:=(try simp only[Ab]);omega)only[Tryz.f95,↓Aa,Ac,↓reduceIte,Qu,Qv];refine Ad.pure (LB hT name h1) ?_;cases hf:FJ name;·rw[hf,Adf] at hr;subst hr;simp only[↓Aa,Ac,↓reduceIte,↓Qe];first | done | rfl | exact ⟨by rfl,by rfl⟩
 rw[hf,Adi] at hr;by_cases h64:cols.length<=64
 ·rw[decide_eq_true h64,Adi] at hr;simp(disch:=(try simp only[Ab]);omega)only[↓Aa,Ac,↓reduceIte,Qu];refine Ad.of rs (by rfl) ?_;by_cases hn:n<=4096
  ·rw[decide_eq_true hn,Adi] at hr;simp(disch:=(try simp only[Ab]);omega)only[↓Aa,Ac,↓reduceIte,Qu];refine Ad.by cf (by rfl) (by rfl) (by simp) ?_;generalize cols.any (Hp n)=b at *;subst hr;cases b;·simp(disch:=(try simp only[Ab]);omega)only[↓Aa,Ac,↓reduceIte,↓Qe];first | done | rfl | exact ⟨by rfl,by rfl⟩
   simp(disch:=(try simp only[Ab]);omega)only[↓Aa,Ac,↓reduceIte,↓Qe];first | done | rfl | exact ⟨by rfl,by rfl⟩
  rw[decide_eq_false hn,Adf] at hr;subst hr;simp(disch:=(try simp only[Ab]);omega)only[↓Aa,Ac,↓reduceIte,↓Qe];first | done | rfl | exact ⟨by rfl,by rfl⟩
 rw[decide_eq_false h64,Adf] at hr;subst hr;simp(disch:=(try simp only[Ab]);omega)only[↓Aa,Ac,↓reduceIte,↓Qe,Qu];first | done | rfl | exact ⟨by rfl,by rfl⟩
def FQ (r:List UInt8->Option Cel) (p:List UInt8):Cel:=match r p with
 | some c=>c
 | none=>([],true)
def Mv:List UInt8:=[114,111,119]
def B0 (above:List Int):Col:=⟨Mv,above.map fun a=>(Lib.decDigits a.toNat,false)⟩
def DP (rows:List (List UInt8->Option Cel)) (p:List UInt8):Col:=⟨p,rows.map fun r=>FQ r p⟩
def Ep (s:Ly):List Col:=if s.further=true then [B0 s.above] else []
def E6 (s:Ly) (id:Int) (name:List UInt8):Tab:=⟨id,name,Ep s++s.paths.map (DP s.rows)⟩
def D8 (s:Ly) (id:Int) (name:List UInt8):Tab × Bool:=if 64<s.paths.length\/4096<s.rows.length then (⟨id,name,[]⟩,false) else (E6 s id name,Ck (E6 s id name))
def L7 (n:Nat):Ae:=if n=0 then .row false [] else .box ((Afh n).map fun i=>.mp (4+i))
structure TblH (s:Ly) (P0:List Ae):Prop where
 len:P0.length=4+s.rows.length
 c0:∃ x y z:D,P0[0]?=some (.box [.d (.bool s.further),.lsl 1 1 0 s.above.length,.lsl 2 1 0 s.paths.length,.lsl 3 1 0 s.rows.length,.d x,.d y,.d z])
 c1:P0[1]?=some (.row false (AF .i64 s.above))
 c2:P0[2]?=some (.row false (strs s.paths))
 c3:P0[3]?=some (L7 s.rows.length)
 cm:∀ i,(h:i<s.rows.length)->∃ m:List (D × D),P0[4+i]?=some (.map m)/\IJ m/\∀ p,GB m (S p)=(s.rows[i] p).map fun c=>.agg (GY c)
 self:∀ b∈P0,UR P0.length b
 nox:NoX P0
structure LyT (s:Ly):Prop where
 above:∀ a∈s.above,0<=a/\a<10000000
 al:s.above.length<=1000000
 pl:s.paths.length<=1000000
 rl:s.rows.length<=1000000
 ps:∀ p∈s.paths,p.length<=1000000000
 cs:∀ r∈s.rows,∀ p c,r p=some c->c.1.length<=1000000000
abbrev zB:Ae:=.box [.d (.int .i64 0),.d (.str ByteArray.empty),.d (.sl 0 true [])]
abbrev tB (id:Int) (name:List UInt8) (c:AV):Ae:=.box [.d (.int .i64 id),.d (S name),c]
def FN (s:Ly) (k:Nat):List Cel:=(B0 (s.above.take k)).cells
def KM (s:Ly) (k:Nat) (h:k<=s.above.length):(FN s k).length=k:=by simp[FN,B0];omega
def Rg (s:Ly) (k:Nat) (h:k<s.above.length):FN s (k+1)=FN s k++[(Lib.decDigits (s.above.getD k 0).toNat,false)]:=by unfold FN B0;rw[AeL,Ac7 h,Ada,Ac7 h];simp only[Afg,Afz,Adn,AeJ,AeU]
def GV (s:Ly):FN s s.above.length=(B0 s.above).cells:=by unfold FN;rw[Afl]
def EH (s:Ly) (k:Nat):List Col:=Ep s++(s.paths.take k).map (DP s.rows)
def KI (s:Ly) (k:Nat) (h:k<=s.paths.length):(EH s k).length=(Ep s).length+k:=by simp[EH];omega
def Rb (s:Ly) (k:Nat) (h:k<s.paths.length):EH s (k+1)=EH s k++[DP s.rows (s.paths.getD k [])]:=by unfold EH;rw[AeL,Ac7 h,Ada,Ac7 h];simp only[Afg,Afz,Adn,AeJ,AeU,Aft]
def Uu (s:Ly):EH s s.paths.length=Ep s++s.paths.map (DP s.rows):=by unfold EH;rw[Afl]
def DY (s:Ly) (p:List UInt8) (i:Nat):List Cel:=(s.rows.take i).map fun r=>FQ r p
def KJ (s:Ly) (p:List UInt8) (i:Nat) (h:i<=s.rows.length):(DY s p i).length=i:=by simp[DY];omega
def Rf (s:Ly) (p:List UInt8) (i:Nat) (h:i<s.rows.length):DY s p (i+1)=DY s p i++[FQ s.rows[i] p]:=by unfold DY;rw[AeL,Ac7 h];simp only[Afg,Afz,Adn,AeJ]
def Uy (s:Ly) (p:List UInt8):DY s p s.rows.length=(DP s.rows p).cells:=by unfold DY;rw[Afl];rfl
def Jp.pre2 {P0 l:List Ae} {v r:AV} {d:D} (hs:∀ b∈P0,UR P0.length b) (hd:sealA (P0++l) v=some d) (hi:∀ j∈A3 v,P0.length<=j) (hr:r=.d (unf d)):Jp P0.length (P0++l) v r P0:=hr▸Jp.pre hs hd hi
def Us {n:Nat} (h:n<10000000):(Lib.decDigits n).length<=21:=by have:=Lib.itoa_length_le (n:Int) (by omega) (by omega);rwa[Lib.itoa_nonneg] at this
def Wt {s:Ly} (hs:LyT s) (hp:¬64<s.paths.length) (id:Int) {name:List UInt8} (hn:name.length<=1000000000):Sd (E6 s id name):=by
 obtain ⟨s1,s2,s3,s4,s5,s6⟩:=hs;have tcl:(Ep s).length<=1:=by unfold Ep;split<;>simp
 refine ⟨hn,by simp[E6];omega,fun c hc=>?_⟩;rcases AfI.1 hc with hc | hc
 ·unfold Ep at hc;split at hc;·rw[Afp.1 hc];refine ⟨by simp[B0,Mv],by simp[B0];omega,fun x hx=>?_⟩;obtain ⟨a,ha,rfl⟩:=Afi.1 hx;obtain ⟨b1,b2⟩:=s1 a ha;have:=Us (n:=a.toNat) (by omega);simp only;omega
  cases hc
 obtain ⟨p,hq,rfl⟩:=Afi.1 hc;refine ⟨s5 p hq,by simp[DP];omega,fun x hx=>?_⟩;obtain ⟨r,hr,rfl⟩:=Afi.1 hx;unfold FQ;split;·exact s6 r hr p _ (by assumption)
 simp
def Xz (hT:HT G) (hP:HP G) (s:Ly) (hs:LyT s) (id:Int) (i1:-9223372036854775808<=id) (i2:id<=9223372036854775807) (name:List UInt8) (hn:name.length<=1000000000) {P0:List Ae} (h:TblH s P0) :
  Ctr TP G 56 [.ptr 0 0,.d (.int .i64 id),.d (S name)] P0 (.d (.tup [SY (D8 s id name).1 false,.bool (D8 s id name).2])) P0:=by
 obtain ⟨s1,s2,s3,s4,s5,s6⟩:=hs;obtain ⟨x,y,z,q0⟩:=h.c0;have q1:=h.c1;have q2:=h.c2;have q3:=h.c3;have hl:=h.len;have al:=@ints_length .i64 s.above;have sl:=@strs_length s.paths;obtain ⟨r,hr⟩:∃ r,r=D8 s id name:=⟨_,rfl⟩;rw[<-hr];unfold D8 at hr;refine Ctr.body (M:=M0) Am Tryz.func56 rfl go56 ?_ (hx:=h.nox.ok);by_cases hp:64<s.paths.length
 ·rw[if_pos (.inl hp)] at hr;subst hr;simp(disch:=(try simp only[Ab]);omega)only[Tryz.f56,q0,Be,↓Aa,Ac,↓reduceIte,Qu,Qv];exact Jp.pre2 (d:=.tup [.agg [.int .i64 id,S name,.sl 0 true []],.bool false]) h.self (by rfl) (by simp[A3,idsL]) (by rfl)
 by_cases hw:4096<s.rows.length
 ·rw[if_pos (.inr hw)] at hr;subst hr;simp(disch:=(try simp only[Ab]);omega)only[Tryz.f56,q0,Be,↓Aa,Ac,↓reduceIte,Qu,Qv];first
  | exact Jp.pre2 (d:=.tup [.agg [.int .i64 id,S name,.sl 0 true []],.bool false]) h.self (by rfl) (by simp[A3,idsL]) (by rfl)
 rw[if_neg (by omega)] at hr;cases hf:s.further with
 | false =>
  rw[hf] at q0;simp(disch:=(try simp only[Ab]);omega)only[Tryz.f56,q0,Be,↓Aa,Ac,↓reduceIte,Qu,Qv];refine Ak.fr 1770887431076116955457 (α:=Nat) (fun k=>s.paths.length-k) (fun k=>[(71,.d (.int .i64 k))]) (fun k=>P0++[zB,tB id name (.lsl (P0.length+2) 2 0 ((Ep s).length+k)),.row false (AM (EH s k))]) (fun k=>k<=s.paths.length) 0 (Ado _) ?_ ?_
  ·first
   | exact DB.pre [some P0.length,some (P0.length+1),none] h.self (by simp) (by simp) (by simp(disch:=omega) [sA,kZ,SW,AW,Ba,Bh,Bj,AaZ,Aa0]) (by simp(disch:=omega) [HW,BW,SW,AW,Bh,Bc,AaZ,Aa0,EH,Ep,hf,AM])
  intro k hkk;simp only[Bi,Adq,Aet];rcases Adm k s.paths.length with hlt | hge
  ·have gk:=strs_getD hlt;have ck:=KI s k hkk;have cdl:=AX (EH s k);have csu:=Rb s k hlt;have tcl:(Ep s).length<=1:=(by unfold Ep;split<;>simp)
   have cce:AM (EH s (k+1))=AM (EH s k)++[.str (bs (s.paths.getD k [])),.sl s.rows.length false (AE (DY s (s.paths.getD k []) s.rows.length))]:=(by rw[csu,Fy,Uy];simp[AM,DP]);generalize hpk:s.paths.getD k []=pk at *;generalize htc:(Ep s).length=tc at *;simp(disch:=(try simp only[Ab]);omega)only[q0,q2,sl,gk,Be,↓Aa,Ac,↓reduceIte,Qu];refine Ak.fr 3630909529516398463705409 (α:=Nat) (fun i=>s.rows.length-i) (fun i=>[(82,.d (.int .i64 i))]) (fun i=>P0++[zB,tB id name (.lsl (P0.length+2) 2 0 (tc+k)),.row false (AM (EH s k)),.box [.d (S pk),.lsl (P0.length+4) 2 0 i],.row false (AE (DY s pk i))]) (fun i=>i<=s.rows.length) 0 (Ado _) ?_ ?_
   ·first
    | exact DB.pre [some P0.length,some (P0.length+1),some (P0.length+2),some (P0.length+3),none] h.self (by simp) (by simp) (by simp(disch:=omega) [sA,kZ,SW,AW,Ba,Bh,Bj,AaZ,Aa0]) (by simp(disch:=omega) [HW,BW,SW,AW,Bh,Bc,AaZ,Aa0,DY,AE])
   intro i hii;simp only[Bi,Adq,Aet];rcases Adm i s.rows.length with hit | hig
   ·have q3':=q3;rw[L7,if_neg (by omega)] at q3';have rl:((Afh s.rows.length).map fun i=>AV.mp (4+i)).length=s.rows.length:=(by simp)
    have rg:((Afh s.rows.length).map fun i=>AV.mp (4+i)).getD i .undef=.mp (4+i):=(by rw[Ada,Ae8,Afd hit];rfl);generalize ((Afh s.rows.length).map fun i=>AV.mp (4+i))=rb at *;obtain ⟨m,m1,m2,m3⟩:=h.cm i hit;have kr:=m2.ok;have cl:=KJ s pk i hii;have cel:=Az (DY s pk i);have csc:=Rf s pk i hit;obtain ⟨cf,hcf⟩:=DA [P0.length+3,P0.length+4,P0.length+5,P0.length+6,P0.length+7] (by simp);have c0:=hcf 0 _ rfl;have c1:=hcf 1 _ rfl;have c2:=hcf 2 _ rfl;have c3:=hcf 3 _ rfl;have c4:=hcf 4 _ rfl;cases hc:s.rows[i] pk with
    | none =>
     have v2:DI (.agg [.bool false,.str ByteArray.empty]) m (S pk) true=.tup [.agg [.bool false,.str ByteArray.empty],.bool false]:=(by rw[Dl,m3,hc];rfl);have cge:AE (DY s pk (i+1))=AE (DY s pk i)++[.bool true,.str ByteArray.empty]:=(by rw[csc,CB];unfold FQ;rw[hc];rfl);simp(disch:=(try simp only[Ab]);omega)only[q3',m1,kr,rl,rg,v2,cel,cl,Be,↓Aa,Ac,↓reduceIte,Qu,Qw,Qz];first
     | exact ⟨by simp[cut],by simp[cut],i+1,hit,by simp only;omega,DB.pre [some P0.length,some (P0.length+1),some (P0.length+2),some (P0.length+3),some (P0.length+7)] h.self (by simp) (by simp) (by simp(disch:=omega) [sA,kZ,SW,AW,Ba,Bh,Bj,AaZ,Aa0,cge,cut]) (by simp(disch:=omega) [HW,BW,SW,AW,Ba,Bh,Bj,Bc,AaZ,Aa0,cge,cut])⟩
     | exact ⟨by simp[cut],i+1,hit,by simp only;omega,DB.pre [some P0.length,some (P0.length+1),some (P0.length+2),some (P0.length+3),some (P0.length+7)] h.self (by simp) (by simp) (by simp(disch:=omega) [SW,AW,Ba,Bh,Bj,AaZ,Aa0]) (by simp(disch:=omega) [HW,BW,SW,AW,Bh,Bc,AaZ,Aa0,cge,cut])⟩
    | some c =>
     have v2:DI (.agg [.bool false,.str ByteArray.empty]) m (S pk) true=.tup [.agg (GY c),.bool true]:=(by rw[Dl,m3,hc];rfl);have cge:AE (DY s pk (i+1))=AE (DY s pk i)++[.bool c.2,.str (bs c.1)]:=(by rw[csc,CB];unfold FQ;rw[hc];rfl);obtain ⟨c1',c2'⟩:=c;cases c2'
     ·simp(disch:=(try simp only[Ab]);omega)only[q3',m1,kr,rl,rg,v2,cel,cl,Be,↓Aa,Ac,↓reduceIte,Qu,Qw,Qz];first
      | exact ⟨by simp[cut],i+1,hit,by simp only;omega,DB.pre [some P0.length,some (P0.length+1),some (P0.length+2),some (P0.length+3),some (P0.length+7)] h.self (by simp) (by simp) (by simp(disch:=omega) [SW,AW,Ba,Bh,Bj,AaZ,Aa0]) (by simp(disch:=omega) [HW,BW,SW,AW,Bh,Bc,AaZ,Aa0,cge,cut])⟩
     simp(disch:=(try simp only[Ab]);omega)only[q3',m1,kr,rl,rg,v2,cel,cl,Be,↓Aa,Ac,↓reduceIte,Qu,Qw,Qz];first
     | exact ⟨by simp[cut],i+1,hit,by simp only;omega,DB.pre [some P0.length,some (P0.length+1),some (P0.length+2),some (P0.length+3),some (P0.length+7)] h.self (by simp) (by simp) (by simp(disch:=omega) [SW,AW,Ba,Bh,Bj,AaZ,Aa0]) (by simp(disch:=omega) [HW,BW,SW,AW,Bh,Bc,AaZ,Aa0,cge,cut])⟩
   obtain rfl:i=s.rows.length:=by omega
   have cl:=KJ s pk s.rows.length (AeR _);have cel:=Az (DY s pk s.rows.length);have ccu:cut (AE (DY s pk s.rows.length)) 0 (s.rows.length*2)=AE (DY s pk s.rows.length):=cut_all (by omega);simp(disch:=(try simp only[Ab]);omega)only[cdl,ck,ccu,Be,↓Aa,Ac,↓reduceIte,Qu,Qw,Qz];first
   | exact ⟨by simp[cut],k+1,hlt,by simp only;omega,DB.pre [some P0.length,some (P0.length+1),some (P0.length+6)] h.self (by simp) (by simp) (by simp(disch:=omega) [SW,AW,Ba,Bh,Bj,AaZ,Aa0]) (by simp(disch:=omega) [HW,BW,SW,AW,Bh,Bc,AaZ,Aa0,cce,cut,Ae6])⟩
   | exact ⟨k+1,hlt,by simp only;omega,DB.pre [some P0.length,some (P0.length+1),some (P0.length+6)] h.self (by simp) (by simp) (by simp(disch:=omega) [sA,kZ,SW,AW,Ba,Bh,Bj,AaZ,Aa0,cce,Ae6]) (by simp(disch:=omega) [HW,BW,SW,AW,Ba,Bh,Bj,Bc,AaZ,Aa0,cce,Ae6])⟩
  obtain rfl:k=s.paths.length:=by omega
  have ck:=KI s s.paths.length (AeR _);have cdl:=AX (EH s s.paths.length);have tl:(E6 s id name).cols.length=(Ep s).length+s.paths.length:=by simp[E6]
  have cpt:EH s s.paths.length=(E6 s id name).cols:=Uu s;have ctt:cut (AM (EH s s.paths.length)) 0 (((Ep s).length+s.paths.length)*2)=AM (E6 s id name).cols:=by rw[<-cpt];exact cut_all (by omega)
  simp(disch:=(try simp only[Ab]);omega)only[ctt,Be,↓Aa,Ac,↓reduceIte,Qu];refine Ad.frozenE (Kd hT (E6 s id name) false (Wt ⟨s1,s2,s3,s4,s5,s6⟩ hp id hn) i1 i2) (by rw[<-tl];rfl) ?_;rw[cpt] at *;rw[<-tl];simp(disch:=(try simp only[Ab]);omega)only[Be,↓Aa,Ac,↓reduceIte,Qu];obtain ⟨cf,hcf⟩:=DA [P0.length,P0.length+1,P0.length+2] (by simp);have c0:=hcf 0 _ rfl;have c1:=hcf 1 _ rfl;have c2:=hcf 2 _ rfl;refine ⟨AR cf (by simp(disch:=omega)only[BC,A8,A7,and_self]) (by simp only[Adn,AeJ,c0,c1,c2];rfl),?_⟩;subst hr;refine Jp.pre2 (d:=.tup [SY (E6 s id name) false,.bool (Ck (E6 s id name))]) h.self ?_ (by simp[A3,idsL]) (by rfl);first
  | (simp[sealA,sealL,Adj,Afr];exact ⟨rfl,rfl,cut_all (by rw[AX];omega)⟩)
 | true =>
  rw[hf] at q0;simp(disch:=(try simp only[Ab]);omega)only[Tryz.f56,q0,Be,↓Aa,Ac,↓reduceIte,Qu,Qv];refine Ak.fr 105553116267329 (α:=Nat) (fun k=>s.above.length-k) (fun k=>[(47,.d (.int .i64 k))]) (fun k=>P0++[zB,tB id name (.d (.sl 0 true [])),.box [.d (.str {data:=#[114,111,119]}),.lsl (P0.length+3) 2 0 k],.row false (AE (FN s k))]) (fun k=>k<=s.above.length) 0 (Ado _) ?_ ?_
  ·first
   | exact DB.pre [some P0.length,some (P0.length+1),some (P0.length+2),none] h.self (by simp) (by simp) (by simp(disch:=omega) [sA,kZ,SW,AW,Ba,Bh,Bj,AaZ,Aa0]) (by simp(disch:=omega) [HW,BW,SW,AW,Bh,Bc,AaZ,Aa0,FN,B0,AE])
  intro k hkk;simp only[Bi,Adq,Aet];rcases Adm k s.above.length with hlt | hge
  ·have ck:=KM s k hkk;have cdl:=Az (FN s k);have csu:=Rg s k hlt;obtain ⟨b1,b2⟩:=s1 _ (Cs (d:=0) hlt);obtain ⟨m,hm⟩:∃ m:Nat,s.above.getD k 0=m:=⟨(s.above.getD k 0).toNat,by omega⟩;rw[hm] at csu b1 b2;simp(disch:=(try simp only[Ab]);omega)only[q1,al,hm,Be,↓Aa,Ac,↓reduceIte,Qu];refine Ad.of (JL hP m (by omega)) (by rfl) ?_;simp(disch:=(try simp only[Ab]);omega)only[cdl,ck,Be,↓Aa,Ac,↓reduceIte,Qu,Qw,Qz];obtain ⟨cf,hcf⟩:=DA [P0.length+2,P0.length+3,P0.length+4,P0.length+5] (by simp);have c0:=hcf 0 _ rfl;have c1:=hcf 1 _ rfl;have c2:=hcf 2 _ rfl;have c3:=hcf 3 _ rfl;have cge:AE (FN s (k+1))=AE (FN s k)++[.bool false,.str (bs (Lib.decDigits m))]:=(by rw[csu,CB];rfl)
   first
   | exact ⟨by simp[cut],AR cf (by simp(disch:=omega)only[BC,A8,A7,Bu,and_self]) (by simp only[Adn,AeJ,c0,c1,c2,c3];rfl),k+1,hlt,by simp only;omega,DB.pre [some P0.length,some (P0.length+1),some (P0.length+2),some (P0.length+5)] h.self (by simp) (by simp) (by simp(disch:=omega) [SW,AW,Ba,Bh,Bj,AaZ,Aa0]) (by simp(disch:=omega) [HW,BW,SW,AW,Bh,Bc,AaZ,Aa0,cge,cut])⟩
  obtain rfl:k=s.above.length:=by omega
  have ck:=KM s s.above.length (AeR _);have cdl:=Az (FN s s.above.length);simp(disch:=(try simp only[Ab]);omega)only[q0,Be,↓Aa,Ac,↓reduceIte,Qu,Qw,Qz];refine ⟨by simp[cut],?_⟩;have cda:cut (AE (FN s s.above.length)) 0 (s.above.length*2)=AE (B0 s.above).cells:=by rw[<-GV];exact cut_all (by omega)
  rw[cda];refine Ak.fr 1770887431076116955457 (α:=Nat) (fun k=>s.paths.length-k) (fun k=>[(71,.d (.int .i64 k))]) (fun k=>P0++[zB,tB id name (.lsl (P0.length+2) 2 0 ((Ep s).length+k)),.row false (AM (EH s k))]) (fun k=>k<=s.paths.length) 0 (Ado _) ?_ ?_
  ·first
   | exact DB.pre [some P0.length,some (P0.length+1),some (P0.length+5)] h.self (by simp) (by simp) (by simp(disch:=omega) [sA,kZ,SW,AW,Ba,Bh,Bj,AaZ,Aa0]) (by simp(disch:=omega) [HW,BW,SW,AW,Bh,Bc,AaZ,Aa0,EH,Ep,hf,AM,cut,B0,Mv,GV])
  intro k hkk;simp only[Bi,Adq,Aet];rcases Adm k s.paths.length with hlt | hge
  ·have gk:=strs_getD hlt;have ck:=KI s k hkk;have cdl:=AX (EH s k);have csu:=Rb s k hlt;have tcl:(Ep s).length<=1:=(by unfold Ep;split<;>simp)
   have cce:AM (EH s (k+1))=AM (EH s k)++[.str (bs (s.paths.getD k [])),.sl s.rows.length false (AE (DY s (s.paths.getD k []) s.rows.length))]:=(by rw[csu,Fy,Uy];simp[AM,DP]);generalize hpk:s.paths.getD k []=pk at *;generalize htc:(Ep s).length=tc at *;simp(disch:=(try simp only[Ab]);omega)only[q0,q2,sl,gk,Be,↓Aa,Ac,↓reduceIte,Qu];refine Ak.fr 3630909529516398463705409 (α:=Nat) (fun i=>s.rows.length-i) (fun i=>[(82,.d (.int .i64 i))]) (fun i=>P0++[zB,tB id name (.lsl (P0.length+2) 2 0 (tc+k)),.row false (AM (EH s k)),.box [.d (S pk),.lsl (P0.length+4) 2 0 i],.row false (AE (DY s pk i))]) (fun i=>i<=s.rows.length) 0 (Ado _) ?_ ?_
   ·first
    | exact DB.pre [some P0.length,some (P0.length+1),some (P0.length+2),some (P0.length+3),none] h.self (by simp) (by simp) (by simp(disch:=omega) [sA,kZ,SW,AW,Ba,Bh,Bj,AaZ,Aa0]) (by simp(disch:=omega) [HW,BW,SW,AW,Bh,Bc,AaZ,Aa0,DY,AE])
   intro i hii;simp only[Bi,Adq,Aet];rcases Adm i s.rows.length with hit | hig
   ·have q3':=q3;rw[L7,if_neg (by omega)] at q3';have rl:((Afh s.rows.length).map fun i=>AV.mp (4+i)).length=s.rows.length:=(by simp)
    have rg:((Afh s.rows.length).map fun i=>AV.mp (4+i)).getD i .undef=.mp (4+i):=(by rw[Ada,Ae8,Afd hit];rfl);generalize ((Afh s.rows.length).map fun i=>AV.mp (4+i))=rb at *;obtain ⟨m,m1,m2,m3⟩:=h.cm i hit;have kr:=m2.ok;have cl:=KJ s pk i hii;have cel:=Az (DY s pk i);have csc:=Rf s pk i hit;obtain ⟨cf,hcf⟩:=DA [P0.length+3,P0.length+4,P0.length+5,P0.length+6,P0.length+7] (by simp);have c0:=hcf 0 _ rfl;have c1:=hcf 1 _ rfl;have c2:=hcf 2 _ rfl;have c3:=hcf 3 _ rfl;have c4:=hcf 4 _ rfl;cases hc:s.rows[i] pk with
    | none =>
     have v2:DI (.agg [.bool false,.str ByteArray.empty]) m (S pk) true=.tup [.agg [.bool false,.str ByteArray.empty],.bool false]:=(by rw[Dl,m3,hc];rfl);have cge:AE (DY s pk (i+1))=AE (DY s pk i)++[.bool true,.str ByteArray.empty]:=(by rw[csc,CB];unfold FQ;rw[hc];rfl);simp(disch:=(try simp only[Ab]);omega)only[q3',m1,kr,rl,rg,v2,cel,cl,Be,↓Aa,Ac,↓reduceIte,Qu,Qw,Qz];first
     | exact ⟨by simp[cut],by simp[cut],i+1,hit,by simp only;omega,DB.pre [some P0.length,some (P0.length+1),some (P0.length+2),some (P0.length+3),some (P0.length+7)] h.self (by simp) (by simp) (by simp(disch:=omega) [sA,kZ,SW,AW,Ba,Bh,Bj,AaZ,Aa0,cge,cut]) (by simp(disch:=omega) [HW,BW,SW,AW,Ba,Bh,Bj,Bc,AaZ,Aa0,cge,cut])⟩
     | exact ⟨by simp[cut],i+1,hit,by simp only;omega,DB.pre [some P0.length,some (P0.length+1),some (P0.length+2),some (P0.length+3),some (P0.length+7)] h.self (by simp) (by simp) (by simp(disch:=omega) [SW,AW,Ba,Bh,Bj,AaZ,Aa0]) (by simp(disch:=omega) [HW,BW,SW,AW,Bh,Bc,AaZ,Aa0,cge,cut])⟩
    | some c =>
     have v2:DI (.agg [.bool false,.str ByteArray.empty]) m (S pk) true=.tup [.agg (GY c),.bool true]:=(by rw[Dl,m3,hc];rfl);have cge:AE (DY s pk (i+1))=AE (DY s pk i)++[.bool c.2,.str (bs c.1)]:=(by rw[csc,CB];unfold FQ;rw[hc];rfl);obtain ⟨c1',c2'⟩:=c;cases c2'
     ·simp(disch:=(try simp only[Ab]);omega)only[q3',m1,kr,rl,rg,v2,cel,cl,Be,↓Aa,Ac,↓reduceIte,Qu,Qw,Qz];first
      | exact ⟨by simp[cut],i+1,hit,by simp only;omega,DB.pre [some P0.length,some (P0.length+1),some (P0.length+2),some (P0.length+3),some (P0.length+7)] h.self (by simp) (by simp) (by simp(disch:=omega) [SW,AW,Ba,Bh,Bj,AaZ,Aa0]) (by simp(disch:=omega) [HW,BW,SW,AW,Bh,Bc,AaZ,Aa0,cge,cut])⟩
     simp(disch:=(try simp only[Ab]);omega)only[q3',m1,kr,rl,rg,v2,cel,cl,Be,↓Aa,Ac,↓reduceIte,Qu,Qw,Qz];first
     | exact ⟨by simp[cut],i+1,hit,by simp only;omega,DB.pre [some P0.length,some (P0.length+1),some (P0.length+2),some (P0.length+3),some (P0.length+7)] h.self (by simp) (by simp) (by simp(disch:=omega) [SW,AW,Ba,Bh,Bj,AaZ,Aa0]) (by simp(disch:=omega) [HW,BW,SW,AW,Bh,Bc,AaZ,Aa0,cge,cut])⟩
   obtain rfl:i=s.rows.length:=by omega
   have cl:=KJ s pk s.rows.length (AeR _);have cel:=Az (DY s pk s.rows.length);have ccu:cut (AE (DY s pk s.rows.length)) 0 (s.rows.length*2)=AE (DY s pk s.rows.length):=cut_all (by omega);simp(disch:=(try simp only[Ab]);omega)only[cdl,ck,ccu,Be,↓Aa,Ac,↓reduceIte,Qu,Qw,Qz];first
   | exact ⟨by simp[cut],k+1,hlt,by simp only;omega,DB.pre [some P0.length,some (P0.length+1),some (P0.length+6)] h.self (by simp) (by simp) (by simp(disch:=omega) [SW,AW,Ba,Bh,Bj,AaZ,Aa0]) (by simp(disch:=omega) [HW,BW,SW,AW,Bh,Bc,AaZ,Aa0,cce,cut,Ae6])⟩
   | exact ⟨k+1,hlt,by simp only;omega,DB.pre [some P0.length,some (P0.length+1),some (P0.length+6)] h.self (by simp) (by simp) (by simp(disch:=omega) [sA,kZ,SW,AW,Ba,Bh,Bj,AaZ,Aa0,cce,Ae6]) (by simp(disch:=omega) [HW,BW,SW,AW,Ba,Bh,Bj,Bc,AaZ,Aa0,cce,Ae6])⟩
  obtain rfl:k=s.paths.length:=by omega
  have ck:=KI s s.paths.length (AeR _);have cdl:=AX (EH s s.paths.length);have tl:(E6 s id name).cols.length=(Ep s).length+s.paths.length:=by simp[E6]
  have cpt:EH s s.paths.length=(E6 s id name).cols:=Uu s;have ctt:cut (AM (EH s s.paths.length)) 0 (((Ep s).length+s.paths.length)*2)=AM (E6 s id name).cols:=by rw[<-cpt];exact cut_all (by omega)
  simp(disch:=(try simp only[Ab]);omega)only[ctt,Be,↓Aa,Ac,↓reduceIte,Qu];refine Ad.frozenE (Kd hT (E6 s id name) false (Wt ⟨s1,s2,s3,s4,s5,s6⟩ hp id hn) i1 i2) (by rw[<-tl];rfl) ?_;rw[cpt] at *;rw[<-tl];simp(disch:=(try simp only[Ab]);omega)only[Be,↓Aa,Ac,↓reduceIte,Qu];obtain ⟨cf,hcf⟩:=DA [P0.length,P0.length+1,P0.length+2] (by simp);have c0:=hcf 0 _ rfl;have c1:=hcf 1 _ rfl;have c2:=hcf 2 _ rfl;refine ⟨AR cf (by simp(disch:=omega)only[BC,A8,A7,and_self]) (by simp only[Adn,AeJ,c0,c1,c2];rfl),?_⟩;subst hr;refine Jp.pre2 (d:=.tup [SY (E6 s id name) false,.bool (Ck (E6 s id name))]) h.self ?_ (by simp[A3,idsL]) (by rfl);first
  | (simp[sealA,sealL,Adj,Afr];exact ⟨rfl,rfl,cut_all (by rw[AX];omega)⟩)
def Tz {f:Nat->Nat} {r r':List Nat} (h:Dt r=false) (hc:∀ b∈r,f b∈r') (b:Nat) (hb:rd r' (f b)=false):rd r b=false:=by simp only[rd,Bool.or_eq_false_iff,AfL,decide_eq_false_iff_not] at hb ⊢;exact ⟨fun hm=>hb.1 (hc b hm),h⟩
def MO (f:Nat->Nat):TR->TR->Prop
 | [],[]=>True
 | t::r,u::v=>(Dt t.1=false/\(∀ b∈t.1,f b∈u.1)/\∀ b∈t.2,f b∈u.2)/\MO f r v
 | _,_=>False
def MO.get {f:Nat->Nat}:∀ {tr ur:TR},MO f tr ur->∀ (i:Nat) t,tr[i]?=some t->∃ u,ur[i]?=some u/\Dt t.1=false/\(∀ b∈t.1,f b∈u.1)/\∀ b∈t.2,f b∈u.2
 | [],[],_,i,t,h=>by simp at h
 | x::r,y::v,hc,i,t,h=>by
   cases i with
   | zero=>simp at h;subst h;exact ⟨y,rfl,hc.1⟩
   | succ i=>simp at h;simpa using MO.get hc.2 i t h
 | [],_::_,hc,_,_,_=>by simp[MO] at hc
 | _::_,[],hc,_,_,_=>by simp[MO] at hc
def St {ops:Array Oper} {x y:Oper} {f:Nat->Nat} {tx ty ux uy:List Nat × List Nat} (h1:Dt tx.1=false) (h3:Dt ty.1=false)
  (c1:∀ b∈tx.1,f b∈ux.1) (c2:∀ b∈tx.2,f b∈ux.2) (c3:∀ b∈ty.1,f b∈uy.1) (c4:∀ b∈ty.2,f b∈uy.2)
  (h:Fa ops x y ux uy=true):Fa ops x y tx ty=true:=by
 simp only[Fa,Afw,Afe,Afu] at h ⊢;obtain ⟨⟨⟨⟨k1,k2⟩,k3⟩,k4⟩,k5⟩:=h;refine ⟨⟨⟨⟨k1,k2⟩,k3⟩,fun b hb=>⟨Tz h3 c3 b (k4 (f b) (c2 b hb)).1,?_⟩⟩,fun b hb=>Tz h1 c1 b (k5 (f b) (c4 b hb))⟩;have:=(k4 (f b) (c2 b hb)).2;simp only[AfL,decide_eq_false_iff_not] at this ⊢;exact fun hm=>this (c4 b hm)
def Ej {ops:Array Oper} {tr:TR} (f:Nat->Nat) (ur:TR) (hc:MO f tr ur) (h:Ek ops ur=true):Ek ops tr=true:=by
 have gz:∀ {i:Nat} {o:Oper} {t:List Nat × List Nat},(ops.toList.zip tr).zipIdx[i]?=some ((o,t),i)->∃ u,(ops.toList.zip ur).zipIdx[i]?=some ((o,u),i)/\Dt t.1=false/\(∀ b∈t.1,f b∈u.1)/\∀ b∈t.2,f b∈u.2:=by
  intro i o t hi;rw[Afk] at hi;cases hz:(ops.toList.zip tr)[i]? with
  | none=>simp[hz] at hi
  | some p =>simp[hz] at hi;subst hi;rw[AfC] at hz;obtain ⟨z1,z2⟩:=hz;obtain ⟨u,u1,u2⟩:=hc.get i _ z2;refine ⟨u,?_,u2⟩;have e:(ops.toList.zip ur)[i]?=some (o,u):=AfC.2 ⟨z1,u1⟩;rw[Afk,e];simp
 have idx:∀ {l:List (Oper × (List Nat × List Nat))} {q:(Oper × (List Nat × List Nat)) × Nat},q∈l.zipIdx->l.zipIdx[q.2]?=some (q.1,q.2):=by intro l q hq;obtain ⟨x,j⟩:=q;rw[List.mem_zipIdx_iff_getElem?] at hq;rw[Afk,hq];simp
 simp only[Ek,Afe] at h ⊢;rintro ⟨⟨o,t⟩,j⟩ hm;have hj:=idx hm;obtain ⟨u,u1,u2,u3,u4⟩:=gz hj;have hh:=h ((o,u),j) (AfM u1);simp only[Afw,Afe,decide_eq_true_eq,Afn] at hh ⊢;refine ⟨hh.1,?_⟩;rintro ⟨⟨o',t'⟩,i⟩ hi;have hi2:=List.mem_take_iff_getElem.1 hi;obtain ⟨k,hk,ek⟩:=hi2;have hk2:(ops.toList.zip tr).zipIdx[k]?=some ((o',t'),i):=by rw[Ac7 (by omega),ek]
 have hik:i=k:=by
  rw[Afk] at hk2;cases hz:(ops.toList.zip tr)[k]? with
  | none=>simp[hz] at hk2
  | some p=>simp[hz] at hk2;exact hk2.2.symm
 subst hik;obtain ⟨v,v1,v2,v3,v4⟩:=gz hk2;rcases hh.2 ((o',v),i) (by refine AfM (i:=i) ?_;rw[List.getElem?_take,if_pos (by omega)];exact v1) with h1 | h1
 ·exact .inl h1
 exact .inr (St v2 u2 v3 v4 u3 u4 h1)
section
variable {P:Program} {M:Ci} {ops:Array Oper} {rest:List Oper} {s:List AV} {H Hn:List Ae} {tr:TR} {dst:Option Nat} {K:RK} {v:AV}
def DF (base k:Nat):outN [] base k=base+k:=by simp[outN]
def OM:∀ (a b:List (Nat × Ae)) (H:List Ae),applyW H (a++b)=applyW (applyW H a) b
 | [],_,_=>rfl
 | (i,x)::r,b,H=>by simp only[Afv,applyW];exact OM r b _
def Wm:∀ (a b:List (Nat × Ae)) (n:Nat),(∀ p∈a,p.1<n)->wOK n (a++b)=wOK n b
 | [],_,_,_=>rfl
 | (i,x)::r,b,n,h=>by simp only[Afv,wOK];rw[if_pos (h (i,x) (by simp))];exact Wm r b n fun p hp=>h p (Afx _ hp)
def Rz:∀ (a:List (Nat × Ae)) (H:List Ae),(∀ p∈a,p.1<H.length)->(applyW H a).length=H.length
 | [],_,_=>rfl
 | (i,x)::r,H,h=>by simp only[applyW];rw[if_pos (h (i,x) (by simp)),Rz r _ fun p hp=>by rw[AeQ];exact h p (Afx _ hp),AeQ]
def WQ (f:Nat->Nat) (base:Nat):∀ (l:List Ae) (k:Nat),wOK (base+k) (outW [] base k l)=true
 | [],_=>rfl
 | b::r,k=>by simp only[outW,wOK,DF];rw[if_neg (by omega)];simp only[BEq.rfl,Adi];exact WQ f base r (k+1)
def NT (base:Nat):∀ (l:List Ae) (k:Nat) (H:List Ae),H.length=base+k->applyW H (outW [] base k l)=H++l.map (renB (outN [] base))
 | [],_,H,_=>by simp[outW,applyW]
 | b::r,k,H,h=>by simp only[outW,applyW,DF];rw[if_neg (by omega),NT base r (k+1) _ (by simp;omega)];simp
def Ad.newgo {f:FuncId} {ars ars':List AV} {ids:List Nat} {H1:List Ae} (h:Ctr P G f ars' [] v Hn) (ea:ars=ars') (hn:Hn≠[]) (hw:∀ p∈frz H ids,p.1<H.length) (e1:applyW H (frz H ids)=H1)
  (hk:∀ t:List Nat × List Nat,E7 P G M ops rest (putA s dst (renA (outN [] H.length) v)) (H1++Hn.map (renB (outN [] H.length))) (tr++[t]) K):Ad P G H f ars [] ids [] (OpC P G M ops rest s H tr dst K):=by
 subst ea;refine .by h rfl rfl (by simp) ?_;have hne:Hn.isEmpty=false:=by cases Hn with | nil=>exact absurd rfl hn | cons=>rfl
 have e2:applyW H (frz H ids++outW [] H.length 0 Hn)=H1++Hn.map (renB (outN [] H.length)):=by rw[OM,e1,NT H.length Hn 0 H1 (by rw[<-e1,Rz _ _ hw];rfl)]
 unfold callEff;rw[hne,AfK,Adf,if_neg (by simp),OpC_mk,e2,Wm _ _ _ hw];exact ⟨WQ id H.length Hn 0,hk _⟩
end
def GH (f:Nat->Nat) (b off:Nat):renA f (.ptr b off)=.ptr (f b) off:=by simp[renA]
def Q4 {β γ:Type} (g:β->γ) (k:D):∀ m:List (D × β),B6 k (m.map fun p=>(p.1,g p.2))=(B6 k m).map fun p=>(p.1,g p.2)
 | []=>rfl
 | x::r=>by
   rw[Adn,B6,B6];by_cases h:CJ k x.1=true;·rw[if_pos h,if_pos h];rfl
   rw[if_neg h,if_neg h,Q4 g k r,AfV,AfV];rfl
def YV {β γ:Type} (g:β->γ) (k:D) (m:List (D × β)):GB (m.map fun p=>(p.1,g p.2)) k=(GB m k).map g:=by unfold GB;rw[Q4];cases B6 k m<;>rfl
def B1.shift {L:Rl->Nat} {s:Ly} {H:List Ae} (h:B1 L s H) (E:List Ae):B1 (fun a=>outN [] E.length (L a)) s (E++H.map (renB (outN [] E.length))):=by
 have get:∀ {i:Nat} {b:Ae},H[i]?=some b->(E++H.map (renB (outN [] E.length)))[outN [] E.length i]?=some (renB (outN [] E.length) b):=by intro i b e;rw[DF,AeT (by omega),Afr,Ae8,e];rfl
 refine ⟨fun a b ha hb e=>h.inj a b ha hb (by simp only[DF] at e;omega),fun a ha=>?_,?_,?_,?_,?_,?_,?_,?_,?_,?_,?_⟩;·have:=h.lt a ha;simp only[DF,Adj,Afj];omega
 ·rw[get h.box];simp[renB,renL,renA]
 ·obtain ⟨m,m1,m2,m3⟩:=h.seen;exact ⟨m,by rw[get m1];simp[renB],m2,m3⟩
 ·rw[get h.above];simp[renB]
 ·rw[get h.paths];simp[renB]
 ·rw[get h.rows];unfold Kq;split;·simp[renB]
  simp only[renB,EM,List.map_map];congr 3
 ·rw[get h.lists];simp[renB]
 ·obtain ⟨m,m1,m2,m3⟩:=h.items;refine ⟨m.map fun p=>(p.1,renA (outN [] E.length) p.2),by rw[get m1];simp[renB],fun e he=>?_,fun p=>?_⟩;·obtain ⟨x,hx,rfl⟩:=Afi.1 he;exact m2 x hx
  rw[YV,m3];split;·rfl
  simp[renA]
 ·obtain ⟨m,m1,m2,m3⟩:=h.sev;exact ⟨m,by rw[get m1];simp[renB],m2,m3⟩
 ·intro i hi;obtain ⟨m,m1,m2,m3⟩:=h.row i hi;exact ⟨m,by rw[get m1];simp[renB],m2,m3⟩
 intro p hp;rw[get (h.item p hp)];simp[renB]
def NoX.ren {H:List Ae} (h:NoX H) (f:Nat->Nat):NoX (H.map (renB f)):=fun b hb J t e=>by obtain ⟨x,hx,rfl⟩:=Afi.1 hb;cases x<;>simp[renB] at e
end
section
open Go Go.Proofs Go.Abs
variable {G:Ah}
def Jx (L:Rl->Nat) (n:Nat):List Nat:=[L (.n 0),L (.n 2),L (.n 3),L (.n 4)]++(Afh n).map fun i=>L (.n (8+i))
def Aa7 (s:Ly) (e:Nat->Nat->Value):Ae:=.box [.d (.bool s.further),.lsl 1 1 0 s.above.length,.lsl 2 1 0 s.paths.length,.lsl 3 1 0 s.rows.length,.d (.val (e 0 4)),.d (.val (e 0 5)),.d (.val (e 0 6))]
def Y4 (L:Rl->Nat) (n:Nat) (H:List Ae):List Ae:=(Afh n).map fun i=>(H[L (.n (8+i))]?).getD .dead
def U7 (L:Rl->Nat) (s:Ly) (H:List Ae) (e:Nat->Nat->Value):List Ae:=[Aa7 s e,.row false (AF .i64 s.above),.row false (strs s.paths),L7 s.rows.length]++Y4 L s.rows.length H
def Tj (L:Rl->Nat) (n:Nat):(Jx L n).length=4+n:=by simp[Jx];omega
def Y3 (L:Rl->Nat) (n:Nat) (H:List Ae):(Y4 L n H).length=n:=by simp[Y4]
def Ti (L:Rl->Nat) (s:Ly) (H:List Ae) (e:Nat->Nat->Value):(U7 L s H e).length=4+s.rows.length:=by simp only[U7,Adj,Y3,Adk,Adl]
def Wr (L:Rl->Nat) {n i:Nat} (h:i<n):(Jx L n)[4+i]?=some (L (.n (8+i))):=by unfold Jx;rw[AeT (by simp only[Adk,Adl];omega)];simp only[Adk,Adl];rw[show 4+i-(0+1+1+1+1)=i by omega,Ae8,Afd h,AfU]
def Aa6 {L:Rl->Nat} {n i:Nat} {H:List Ae} {b:Ae} (h:i<n) (e:H[L (.n (8+i))]?=some b):(Y4 L n H)[i]?=some b:=by unfold Y4;rw[Ae8,Afd h,AfU,e];rfl
def Wq {L:Rl->Nat} {s:Ly} {H:List Ae} {e:Nat->Nat->Value} {i:Nat} {b:Ae} (h:i<s.rows.length) (q:H[L (.n (8+i))]?=some b):(U7 L s H e)[4+i]?=some b:=by unfold U7;rw[AeT (by simp only[Adk,Adl];omega)];simp only[Adk,Adl];rw[show 4+i-(0+1+1+1+1)=i by omega];exact Aa6 h q
def Th {L:Rl->Nat} {s:Ly} {H:List Ae} (h:B1 L s H) {e:Nat->Nat->Value} {b:Ae} (hb:b∈U7 L s H e) :
  b=Aa7 s e\/b=.row false (AF .i64 s.above)\/b=.row false (strs s.paths)\/b=L7 s.rows.length\/∃ m:List (D × D),b=.map m:=by
 rcases AfI.1 hb with hb | hb
 ·simp only[Afc,Ae7,or_false] at hb;rcases hb with hb | hb | hb | hb
  ·exact .inl hb
  ·exact .inr (.inl hb)
  ·exact .inr (.inr (.inl hb))
  exact .inr (.inr (.inr (.inl hb)))
 obtain ⟨i,hi,rfl⟩:=Afi.1 hb;obtain ⟨m,m1,_⟩:=h.row i (Aff.1 hi);exact .inr (.inr (.inr (.inr ⟨m,by rw[m1];rfl⟩)))
def WA (fs:List (Option Nat)) (N:Nat):∀ (l:List Nat),(∀ i∈l,4+i<N)->SW (idf N++fs) (l.map fun i=>.mp (4+i)) (l.map fun i=>.mp (4+i))
 | [],_=>trivial
 | i::r,h=>by refine ⟨?_,WA fs N r fun j hj=>h j (Afx _ hj)⟩;simp only[AW,Ba (h i (by simp))]
def tblH {L:Rl->Nat} {s:Ly} {H:List Ae} (h:B1 L s H) (e:Nat->Nat->Value):TblH s (U7 L s H e):=by
 have hl:=Ti L s H e;refine ⟨hl,⟨_,_,_,rfl⟩,rfl,rfl,rfl,fun i hi=>?_,fun b hb fs=>?_,fun b hb J t q=>?_⟩;·obtain ⟨m,m1,m2,m3⟩:=h.row i hi;exact ⟨m,Wq hi m1,m2,m3⟩
 ·rw[hl];rcases Th h hb with rfl | rfl | rfl | rfl | ⟨m,rfl⟩
  ·have k1:=Ba (n:=4+s.rows.length) (k:=1) (fs:=fs) (by omega);have k2:=Ba (n:=4+s.rows.length) (k:=2) (fs:=fs) (by omega);have k3:=Ba (n:=4+s.rows.length) (k:=3) (fs:=fs) (by omega);simp[Aa7,BW,SW,AW,k1,k2,k3]
  ·simp[BW]
  ·simp[BW]
  ·unfold L7;split;·simp[BW]
   simp only[BW];exact WA fs _ _ fun i hi=>by have:=Aff.1 hi;omega
  simp[BW]
 rcases Th h hb with rfl | rfl | rfl | rfl | ⟨m,rfl⟩
 ·simp[Aa7] at q
 ·simp at q
 ·simp at q
 ·unfold L7 at q;split at q<;>simp at q
 simp at q
def U8 {L:Rl->Nat} {s:Ly} {H:List Ae} (h:B1 L s H):(Jx L s.rows.length).Nodup:=by
 have ok:∀ k,k<8+s.rows.length->BN s (.n k):=fun k hk=>hk;have ne:∀ {i j:Nat},i<8+s.rows.length->j<8+s.rows.length->i≠j->¬L (.n i)=L (.n j):=fun hi hj hij=>h.ne (ok _ hi) (ok _ hj) (by simpa using hij);unfold Jx;refine AfD.2 ⟨?_,?_,?_⟩
 ·simp only[Afo,Afc,Ae7,or_false,not_or,AfB,and_true,not_false_eq_true];exact ⟨⟨ne (by omega) (by omega) (by decide),ne (by omega) (by omega) (by decide),ne (by omega) (by omega) (by decide)⟩,⟨ne (by omega) (by omega) (by decide),ne (by omega) (by omega) (by decide)⟩,ne (by omega) (by omega) (by decide)⟩
 ·refine List.pairwise_map.2 (List.Pairwise.imp_of_mem (fun {a b} ha hb hab=>?_) List.nodup_range);have:=Aff.1 ha;have:=Aff.1 hb;exact ne (by omega) (by omega) (by omega)
 intro a ha b hb;obtain ⟨i,hi,rfl⟩:=Afi.1 hb;have hi:=Aff.1 hi;simp only[Afc,Ae7,or_false] at ha;rcases ha with rfl | rfl | rfl | rfl
 ·exact ne (by omega) (by omega) (by omega)
 ·exact ne (by omega) (by omega) (by omega)
 ·exact ne (by omega) (by omega) (by omega)
 exact ne (by omega) (by omega) (by omega)
def Fz (hT:HT G) (hP:HP G) {L:Rl->Nat} {s:Ly} {H:List Ae} (h:B1 L s H) (hs:LyT s) (id:Int) (i1:-9223372036854775808<=id) (i2:id<=9223372036854775807) (name:List UInt8) (hn:name.length<=1000000000) {k:Eff->Prop}
  (hk:k ⟨.d (.tup [SY (D8 s id name).1 false,.bool (D8 s id name).2]),[],Jx L s.rows.length⟩):Aq TP G H 56 [.ptr (L (.n 0)) 0,.d (.int .i64 id),.d (S name)] k:=by
 refine Aq.view (ars:=[.ptr 0 0,.d (.int .i64 id),.d (S name)]) (Jx L s.rows.length) (U7 L s H) (U8 h) (fun e=>by rw[Ti,Tj]) (fun e j b hj=>?_) ?_ (fun e=>Xz hT hP s hs id i1 i2 name hn (tblH h e)) hk
 ·have hj2:j<4+s.rows.length:=by have:=(AeK.1 hj).1;rwa[Tj] at this
  rcases Adm j 4 with hlt | hge
  ·rcases (by omega:j=0\/j=1\/j=2\/j=3) with rfl | rfl | rfl | rfl
   ·have:L (.n 0)=b:=by simpa[Jx] using hj
    subst this;refine ⟨_,_,h.box,rfl,?_⟩;refine ⟨rfl,fun i x y hx hy=>?_⟩;have hi:i<7:=(by have:=(AeK.1 hx).1;simpa using this)
    rcases (by omega:i=0\/i=1\/i=2\/i=3\/i=4\/i=5\/i=6) with rfl | rfl | rfl | rfl | rfl | rfl | rfl<;>simp at hx hy<;>subst hx<;>subst hy
    ·exact .inr (.inl ⟨_,rfl,rfl⟩)
    ·exact .inr (.inr (.inl ⟨_,_,_,_,_,rfl,rfl,rfl⟩))
    ·exact .inr (.inr (.inl ⟨_,_,_,_,_,rfl,rfl,rfl⟩))
    ·exact .inr (.inr (.inl ⟨_,_,_,_,_,rfl,rfl,rfl⟩))
    ·exact .inl rfl
    ·exact .inl rfl
    exact .inl rfl
   ·have:L (.n 2)=b:=by simpa[Jx] using hj
    subst this;exact ⟨_,_,h.above,rfl,rfl,rfl⟩
   ·have:L (.n 3)=b:=by simpa[Jx] using hj
    subst this;exact ⟨_,_,h.paths,rfl,rfl,rfl⟩
   have:L (.n 4)=b:=by simpa[Jx] using hj
   subst this;refine ⟨_,_,h.rows,rfl,?_⟩;unfold Kq L7;split;·exact ⟨rfl,rfl⟩
   refine ⟨by simp,fun i x y hx hy=>?_⟩;have hi:i<s.rows.length:=(by have:=(AeK.1 hx).1;simpa using this)
   rw[Ae8,Afd hi] at hx hy;simp at hx hy;subst hx;subst hy;exact .inr (.inr (.inr ⟨_,_,rfl,rfl,Wr L hi⟩))
  obtain ⟨i,rfl⟩:∃ i,j=4+i:=⟨j-4,by omega⟩;have hi:i<s.rows.length:=by omega
  rw[Wr L hi] at hj;cases hj;obtain ⟨m,m1,_⟩:=h.row i hi;exact ⟨_,_,m1,Wq hi m1,rfl⟩
 exact ⟨.inr ⟨_,_,_,rfl,rfl,rfl⟩,.inl ⟨_,rfl,rfl,.inl rfl⟩,.inl ⟨_,rfl,rfl,.inl rfl⟩,trivial⟩
def Y6 (L:Rl->Nat) (n:Nat):Dt (Jx L n)=false:=rfl
def Y5 {L:Rl->Nat} {s:Ly} {H:List Ae} (h:B1 L s H) {b:Nat} (hb:b∈Jx L s.rows.length):b<H.length/\∃ k,BN s (.n k)/\b=L (.n k):=by
 have ok:∀ k,k<8+s.rows.length->BN s (.n k):=fun k hk=>hk;rcases AfI.1 hb with hb | hb
 ·simp only[Afc,Ae7,or_false] at hb;rcases hb with rfl | rfl | rfl | rfl
  ·exact ⟨h.lt _ (ok 0 (by omega)),0,ok 0 (by omega),rfl⟩
  ·exact ⟨h.lt _ (ok 2 (by omega)),2,ok 2 (by omega),rfl⟩
  ·exact ⟨h.lt _ (ok 3 (by omega)),3,ok 3 (by omega),rfl⟩
  exact ⟨h.lt _ (ok 4 (by omega)),4,ok 4 (by omega),rfl⟩
 obtain ⟨i,hi,rfl⟩:=Afi.1 hb;have hi:=Aff.1 hi;exact ⟨h.lt _ (ok _ (by omega)),8+i,ok _ (by omega),rfl⟩
abbrev LM (t:Tab):List D:=[.int .i64 t.id,S t.name,HY t.cols false]
def AQ (l:List Tab):List D:=l.flatMap LM
def Bq:∀ l:List Tab,(AQ l).length=3*l.length
 | []=>rfl
 | o::l=>by have ih:=Bq l;simp only[AQ,List.flatMap_cons,Adj,Adk,Adl] at ih ⊢;omega
def Lb (a b:List Tab):AQ (a++b)=AQ a++AQ b:=by simp[AQ]
def FX:Nat->Ly->Int->List UInt8->List Tab->List Tab × Bool
 | 0,_,_,_,ts=>(ts,true)
 | n+1,s,id,name,ts =>
  if (D8 s (id+ts.length) name).2=true/\ts.length+1<=1024 then
   s.lists.foldl (fun a p=>if a.2=true then FX n (Av true (s.it p)) id (name++[46]++p) a.1 else a) (ts++[(D8 s (id+ts.length) name).1],true)
  else (ts++[(D8 s (id+ts.length) name).1],false)
def Dp (n:Nat) (s:Ly) (id:Int) (name:List UInt8) (ts:List Tab) (k:Nat):List Tab × Bool :=
 (s.lists.take k).foldl (fun a p=>if a.2=true then FX n (Av true (s.it p)) id (name++[46]++p) a.1 else a) (ts,true)
def Jj (n:Nat) (s:Ly) (id:Int) (name:List UInt8) (ts:List Tab) {k:Nat} (h:k<s.lists.length):Dp n s id name ts (k+1) =
  if (Dp n s id name ts k).2=true then FX n (Av true (s.it (s.lists.getD k []))) id (name++[46]++s.lists.getD k []) (Dp n s id name ts k).1 else Dp n s id name ts k:=by
 unfold Dp;rw[AeL,Ac7 h,Ada,Ac7 h];simp only[Afg,AfR,List.foldl_cons,List.foldl_nil,AeU]
def AaH (n:Nat) (s:Ly) (id:Int) (name:List UInt8) (ts:List Tab):Dp n s id name ts s.lists.length=s.lists.foldl (fun a p=>if a.2=true then FX n (Av true (s.it p)) id (name++[46]++p) a.1 else a) (ts,true):=by unfold Dp;rw[Afl]
def Na (n:Nat) (s:Ly) (id:Int) (name:List UInt8) (ts:List Tab):FX (n+1) s id name ts =
  if (D8 s (id+ts.length) name).2=true/\ts.length+1<=1024 then Dp n s id name (ts++[(D8 s (id+ts.length) name).1]) s.lists.length else (ts++[(D8 s (id+ts.length) name).1],false):=by
 rw[FX,AaH]
def UO:∀ (n:Nat) (s:Ly) (id:Int) (name:List UInt8) (ts:List Tab),ts.length<=1024->(FX n s id name ts).2=true->(FX n s id name ts).1.length<=1024
 | 0,_,_,_,ts,h,_=>h
 | n+1,s,id,name,ts,h,ht=>by
   rw[Na] at ht ⊢;by_cases c:(D8 s (id+ts.length) name).2=true/\ts.length+1<=1024
   ·rw[if_pos c] at ht ⊢;have key:∀ k,k<=s.lists.length->(Dp n s id name (ts++[(D8 s (id+ts.length) name).1]) k).2=true->(Dp n s id name (ts++[(D8 s (id+ts.length) name).1]) k).1.length<=1024:=by
     intro k;induction k with
     | zero=>intro _ _;simp[Dp];omega
     | succ k ih =>
      intro hk h2;rw[Jj _ _ _ _ _ (by omega)] at h2 ⊢;by_cases e:(Dp n s id name (ts++[(D8 s (id+ts.length) name).1]) k).2=true;·rw[if_pos e] at h2 ⊢;exact UO n _ _ _ _ (ih (by omega) e) h2
      rw[if_neg e] at h2;exact absurd h2 e
    exact key _ (AeR _) ht
   rw[if_neg c] at ht;cases ht
def LL (n:Nat) (s:Ly) (id:Int) (name:List UInt8) (ts:List Tab) {k:Nat} (hf:(Dp n s id name ts k).2=false):∀ m,k+m<=s.lists.length->Dp n s id name ts (k+m)=Dp n s id name ts k
 | 0,_=>rfl
 | m+1,h=>by have ih:=LL n s id name ts hf m (by omega);rw[<-Ae6,Jj _ _ _ _ _ (by omega),ih,hf,if_neg (by simp)]
def RG:Nat->Ly->Nat->Prop
 | 0,_,_=>False
 | n+1,s,m=>LyT s/\m<=1000000000/\s.lists.length<=1000000/\s.lists.Nodup/\∀ p∈s.lists,(∀ e∈s.it p,GJ e.2)/\Ct (s.it p)<=4000/\RG n (Av true (s.it p)) (m+1+p.length)
def LU (j:Option Nat) (n:Nat):AV:=match j with
 | none=>.d (.sl 0 true [])
 | some j=>.lsl j 3 0 n
def AeS (j:Option Nat) (ts:List Tab) (H:List Ae):Prop:=match j with
 | none=>ts=[]
 | some j=>H[j]?=some (.row false (AQ ts))
abbrev flB (id:Int) (j:Option Nat) (n:Nat):Ae:=.box [.d (.int .i64 id),LU j n]
def MA:Ci:=fun k=>AfG k 4000056 || AfG k 4000031
def Pf:MA 4000056=true:=rfl
def HL:MA 4000031=true:=rfl
def Es {k:Nat} (h:¬(k=4000056\/k=4000031)):MA k=false:=by
 cases e:MA k with
 | false=>rfl
 | true =>
  unfold MA at e;rw[Afn] at e;rcases e with e | e
  ·exact absurd (.inl (AeI e)) h
  exact absurd (.inr (AeI e)) h
structure Ab3 (L:Rl->Nat) (s:Ly) (F:Nat) (j:Option Nat) (id:Int) (ts:List Tab) (H H':List Ae):Prop where
 len:H.length<=H'.length
 nox:NoX H'
 tabs:∃ q,H.length<=q/\H'[F]?=some (flB id (some q) ts.length)/\H'[q]?=some (.row false (AQ ts))
 same:∀ i,i<H.length->i≠F->some i≠j->(∀ p,¬s.it p=[]->i≠L (.i p))->H'[i]?=H[i]?
structure AddA (L:Rl->Nat) (s:Ly) (F:Nat) (j:Option Nat) (id:Int) (name:List UInt8) (ts:List Tab) (H:List Ae):Prop where
 lay:B1 L s H
 nox:NoX H
 i1:-1000000000000<=id
 i2:id<=1000000000000
 cap:ts.length<=1024
 fl:H[F]?=some (flB id j ts.length)
 tabs:AeS j ts H
 fj:some F≠j
 ne:∀ a,BN s a->L a≠F/\some (L a)≠j
def AddC (G:Ah) (n:Nat):Prop:=∀ {L:Rl->Nat} {s:Ly} {F:Nat} {j:Option Nat} {id:Int} {name:List UInt8} {ts:List Tab} {H:List Ae},RG n s name.length->AddA L s F j id name ts H ->
 ∃ H',Ctr TP G 31 [.ptr F 0,.ptr (L (.n 0)) 0,.d (S name)] H (.d (.bool (FX n s id name ts).2)) H'/\Ab3 L s F j id (FX n s id name ts).1 H H'
def KC (x:List Ae) (l:List Elm) (i:Nat):List Ae:=if l=[] then x else x.set i (.row true (BQ l))
def Z9 (x:List Ae) (l:List Elm) (i:Nat):(KC x l i).length=x.length:=by unfold KC;split<;>simp
structure Ab4 (n:Nat) (L:Rl->Nat) (s:Ly) (F:Nat) (j:Option Nat) (id:Int) (name:List UInt8) (ts:List Tab) (H:List Ae) (k:Nat) (x:List Ae):Prop where
 p:Ab3 L s F j id (Dp n s id name ts k).1 H x
 rest:∀ q∈s.lists.drop k,¬s.it q=[]->x[L (.i q)]?=some (.row false (BQ (s.it q)))
 cap:(Dp n s id name ts k).2=true->(Dp n s id name ts k).1.length<=1024
def AaY (G:Ah) (n:Nat) (L:Rl->Nat) (s:Ly) (F:Nat) (id:Int) (name:List UInt8) (ts:List Tab) (k:Nat) (x y:List Ae):Prop :=
 ((Dp n s id name ts k).2=false->y=x)/\((Dp n s id name ts k).2=true->∃ H',Ctr TP G 32 [.d (.bool true),.d (ElS (s.it (s.lists.getD k [])) false)] [] (.ptr 2 0) H'/\H'≠[]/\x.length+H'.length<=y.length /\
  Ctr TP G 31 [.ptr F 0,.ptr (outN [] x.length 2) 0,.d (S (name++[46]++s.lists.getD k []))] (KC x (s.it (s.lists.getD k [])) (L (.i (s.lists.getD k [])))++H'.map (renB (outN [] x.length))) (.d (.bool (Dp n s id name ts (k+1)).2)) y)
def UN {n:Nat} (IH:AddC G n) {L:Rl->Nat} {s:Ly} {F:Nat} {j:Option Nat} {id:Int} {name:List UInt8} {ts:List Tab} {H:List Ae} (h:B1 L s H) (i1:-1000000000000<=id) (i2:id<=1000000000000) (hFl:F<H.length)
  (hr:∀ a,BN s a->L a≠F/\some (L a)≠j) (hnd:s.lists.Nodup) (hok:∀ p∈s.lists,(∀ e∈s.it p,GJ e.2)/\Ct (s.it p)<=4000/\RG n (Av true (s.it p)) (name.length+1+p.length))
  {k:Nat} (hk:k<s.lists.length) {x:List Ae} (hx:Ab4 n L s F j id name ts H k x):∃ y,AaY G n L s F id name ts k x y/\Ab4 n L s F j id name ts H (k+1) y:=by
 have hsucc:=Jj n s id name ts hk;obtain ⟨⟨p1,p2,⟨q,q1,q2,q3⟩,p4⟩,hrest,hcap⟩:=hx;have hdr:∀ r,r∈s.lists.drop (k+1)->r∈s.lists.drop k:=fun r hr=>by rw[show s.lists.drop (k+1)=(s.lists.drop k).drop 1 by rw[List.drop_drop]] at hr;exact List.mem_of_mem_drop hr
 cases e:(Dp n s id name ts k).2 with
 | false =>rw[e,if_neg (by simp)] at hsucc;refine ⟨x,⟨fun _=>rfl,fun c=>(by rw[e] at c;cases c)⟩,⟨?_,fun r hr=>hrest r (hdr r hr),fun c=>(by rw[hsucc,e] at c;cases c)⟩⟩;rw[hsucc];exact ⟨p1,p2,⟨q,q1,q2,q3⟩,p4⟩
 | true =>
  rw[e,if_pos rfl] at hsucc;have hcap:=hcap e;have hpm:s.lists.getD k []∈s.lists:=Cs hk;have hpd:s.lists.getD k []∈s.lists.drop k:=by rw[Ada,Ac7 hk,AeU,Adp hk];exact Afq
  have hpn:∀ r∈s.lists.drop (k+1),r≠s.lists.getD k []:=by intro r hr c;have:=List.Nodup.sublist (List.drop_sublist k s.lists) hnd;rw[Adp hk] at this;rw[Ada,Ac7 hk] at c;simp at c;exact (Afo.1 this).1 (c▸hr)
  generalize hp:s.lists.getD k []=p at *;obtain ⟨k1,k2,k3⟩:=hok p hpm;obtain ⟨L',H',g1,g2,g3,g4⟩:=JM (G:=G) true (s.it p) false k1 k2;have hl1:=Z9 x (s.it p) (L (.i p));have g5:=g2.shift (KC x (s.it p) (L (.i p)));rw[hl1] at g5;have hH':0<H'.length:=by have:=g2.lt (.n 0) (by show 0<8+_;omega);omega
  have hne:H'≠[]:=by intro c;rw[c] at hH';simp at hH'
  have nx1:NoX (KC x (s.it p) (L (.i p))):=by
   unfold KC;split;·exact p2
   exact p2.set _ (by simp)
  have at1:∀ i,i<x.length->(¬s.it p=[]->i≠L (.i p))->(KC x (s.it p) (L (.i p))++H'.map (renB (outN [] x.length)))[i]?=x[i]?:=by
   intro i hi hne;rw[List.getElem?_append_left (by omega)];unfold KC;split;·rfl
   rename_i c;exact List.getElem?_set_ne fun c2=>hne c c2.symm
  have hFx:F<x.length:=by omega
  have hqx:q<x.length:=(AeK.1 q3).1;obtain ⟨y,y1,⟨y2,y3,⟨q',y4,y5,y6⟩,y7⟩⟩:=IH (L:=fun a=>outN [] x.length (L' a)) (F:=F) (j:=some q) (id:=id) (name:=name++[46]++p) (ts:=(Dp n s id name ts k).1)
   (H:=KC x (s.it p) (L (.i p))++H'.map (renB (outN [] x.length))) (by
    have:(name++[46]++p).length=name.length+1+p.length:=by simp only[Adj,Adk,Adl]
    rw[this];exact k3)
   ⟨g5,nx1.app (g3.ren _),i1,i2,hcap,by rw[at1 F hFx fun c=>(hr (.i p) c).1.symm];exact q2,by
     show _=_
     rw[at1 q hqx fun c c2=>by have:=h.lt (.i p) c;omega];exact q3,by simp;intro c;omega,fun a ha=>⟨by rw[DF];omega,by rw[DF];simp;omega⟩⟩
  have lX:(KC x (s.it p) (L (.i p))++H'.map (renB (outN [] x.length))).length=x.length+H'.length:=by rw[Adj,hl1,Afj]
  rw[lX] at y2 y4;have y7':∀ i,i<x.length->i≠F->i≠q->(¬s.it p=[]->i≠L (.i p))->y[i]?=x[i]?:=by intro i hi c1 c2 c3;rw[y7 i (by rw[lX];omega) c1 (by simpa using c2) fun r _=>by rw[DF];omega];exact at1 i hi c3
  refine ⟨y,⟨fun c=>(by rw[e] at c;cases c),fun _=>⟨H',by rw[hp];exact g1,hne,y2,?_⟩⟩,⟨?_,fun r hr2 hrn=>?_,fun c=>?_⟩⟩
  ·rw[hp,hsucc];have:(fun a=>outN [] x.length (L' a)) (.n 0)=outN [] x.length 2:=by simp only[g4]
   rw[<-this];exact y1
  ·rw[hsucc];refine ⟨by omega,y3,⟨q',by omega,y5,y6⟩,fun i hi c1 c2 c3=>?_⟩;rw[y7' i (by omega) c1 (by omega) fun c=>c3 p c];exact p4 i hi c1 c2 c3
  ·have hlt:=h.lt (.i r) hrn;rw[y7' _ (by omega) (hr (.i r) hrn).1 (by omega) fun c=>h.ne hrn c (by intro c2;cases c2;exact hpn _ hr2 rfl)];exact hrest r (hdr r hr2) hrn
  rw[hsucc] at c ⊢;exact UO n _ _ _ _ hcap c
def UM {n:Nat} {L:Rl->Nat} {s:Ly} {F:Nat} {id:Int} {name:List UInt8} {ts:List Tab} {f:Nat->List Ae} (fT:∀ k,k<s.lists.length->AaY G n L s F id name ts k (f k) (f (k+1))) {k:Nat} (hf:(Dp n s id name ts k).2=false):∀ m,k+m<=s.lists.length->f (k+m)=f k
 | 0,_=>rfl
 | m+1,h=>((fT (k+m) (by omega)).1 (by rw[LL n s id name ts hf m (by omega)];exact hf)).trans (UM fT hf m (by omega))
def M9 {n:Nat} {L:Rl->Nat} {s:Ly} {F:Nat} {id:Int} {name:List UInt8} {ts:List Tab} {f:Nat->List Ae} (fT:∀ k,k<s.lists.length->AaY G n L s F id name ts k (f k) (f (k+1))) {k:Nat} (hk:k<=s.lists.length) (hf:(Dp n s id name ts k).2=false) :
  f s.lists.length=f k/\(Dp n s id name ts s.lists.length).2=false:=by
 have e:=UM fT hf (s.lists.length-k) (by omega);have e2:=LL n s id name ts hf (s.lists.length-k) (by omega);rw[show k+(s.lists.length-k)=s.lists.length by omega] at e e2;exact ⟨e,by rw[e2];exact hf⟩
def Xi (hT:HT G) (hP:HP G):∀ n:Nat,AddC G n:=by
 intro n;induction n with
 | zero=>intro L s F j id name ts H hok _;cases hok
 | succ n IH =>
  intro L s F j id name ts H hok hA0;obtain ⟨h,h0,i1,i2,ht,hF,hj,hFj,hr⟩:=hA0;obtain ⟨hs,hn,hll,hnd,hok⟩:=hok;have fl:=(AeK.1 hF).1;have tl:=Bq ts;have q0:=h.box;have ok:∀ k,k<8+s.rows.length->BN s (.n k):=fun k hk=>hk;have rF:∀ k,k<8+s.rows.length->¬L (.n k)=F:=fun k hk=>(hr _ (ok k hk)).1;have rj:∀ k,k<8+s.rows.length->some (L (.n k))≠j:=fun k hk=>(hr _ (ok k hk)).2;have b0:=h.lt _ (ok 0 (by omega));have F0:=rF 0 (by omega);obtain ⟨r,hrr⟩:∃ r,r=D8 s (id+ts.length) name:=⟨_,rfl⟩;have hA:=Na n s id name ts;rw[<-hrr] at hA;have hcv:∀ b∈Jx L s.rows.length,b<H.length:=fun b hb=>(Y5 h hb).1;have hcl:=Y6 L s.rows.length;have sl:=@strs_length s.lists;cases j with
  | some j =>
   replace hj:H[j]?=some (.row false (AQ ts)):=hj;have jl:=(AeK.1 hj).1;have Fj:¬F=j:=fun c=>hFj (by rw[c]);have J0:¬L (.n 0)=j:=fun c=>rj 0 (by omega) (by rw[c]);have hF2:=hF;unfold flB LU at hF;simp only at hF;obtain ⟨HA,hHA⟩:∃ HA,HA=(H.set j .dead).set F (flB id (some (H.length+2)) (ts.length+1))++[.box [.d (.int .i64 r.1.id),.d (S r.1.name),.d (HY r.1.cols false)],.row false (LM r.1),.row false (AQ (ts++[r.1]))]:=⟨_,rfl⟩;have hsame:∀ i,i<H.length->i≠F->some i≠(some j)->HA[i]?=H[i]?:=(by intro i hi c1 c2;rw[hHA,AJ (by simpa using hi),As (fun c=>c1 c.symm)];exact As fun c=>c2 (by rw[c]))
   have hAP:Ab3 L s F (some j) id (ts++[r.1]) H HA:=by
    refine ⟨by rw[hHA];simp,?_,⟨H.length+2,by omega,?_,?_⟩,fun i hi c1 c2 c3=>hsame i hi c1 c2⟩<;>rw[hHA];·exact ((h0.set _ (by simp)).set _ (by simp)).app (by simp[NoX])
    ·simp only[AJ,BS,AeQ,fl,Adj,Adk,Adl]
    rw[AeT (by simp)];simp
   obtain ⟨cf,hcf⟩:=DA [F,j,H.length,H.length+1,H.length+2] (by simp only[Afo,Afc,Ae7,or_false,not_or,AfB,and_true,not_false_eq_true];omega);have c0:=hcf 0 _ rfl;have c1:=hcf 1 _ rfl;have c2:=hcf 2 _ rfl;have c3:=hcf 3 _ rfl;have c4:=hcf 4 _ rfl;cases hr2:r.2 with
   | false =>
    rw[hr2,if_neg (by simp)] at hA;refine ⟨HA,?_,by rw[hA];exact hAP⟩;refine Ctr.bodyI (M:=MA) Am Tryz.func31 rfl Z5 hAP.nox.ok ?_;simp(disch:=(try simp only[Ab]);omega)only[Tryz.f31,Es,Pf,hF,↓Aa,Ac,↓reduceIte,Qu,Qv];refine Fz hT hP h hs (id+ts.length) (by omega) (by omega) name hn ?_;rw[<-hrr,hr2,hA];simp(disch:=(try simp only[Ab]);omega)only[Es,tl,hF,hj,Be,↓Aa,Ac,↓reduceIte,Qu,Qw,Qz];refine ⟨Ej (fun x=>if x<H.length then 0 else 1) [([],[]),([],[]),([],[]),([],[]),([0],[]),([],[]),([],[]),([],[]),([0],[]),([],[]),([],[]),([],[]),([0],[]),([],[]),([],[]),([],[]),([1],[1]),([1],[1]),([],[])] (by simp[MO,A8,A7,hcl,fl];exact hcv) (by rfl),by simp[cut],AR cf (by simp(disch:=omega)only[BC,A8,A7,Bu,and_self]) (by simp only[Adn,AeJ,c0,c1,c2,c3,c4];rfl),?_⟩;first
    | exact Or.inr ⟨by rw[hHA];simp[cut,flB,LU,AQ,LM],Or.inl rfl⟩
   | true =>
    by_cases hc:ts.length+1<=1024
    ·rw[hr2,if_pos ⟨rfl,hc⟩] at hA;obtain ⟨TS,hTS⟩:∃ TS,TS=ts++[r.1]:=⟨_,rfl⟩;rw[<-hTS] at hA hAP;have hTl:TS.length<=1024:=(by rw[hTS];simp only[Adj,Adk,Adl];omega)
     obtain ⟨f,f0,fI,fT⟩:=Le (Ab4 n L s F (some j) id name TS H) (AaY G n L s F id name TS) s.lists.length HA
      ⟨hAP,fun q _ hq=>by rw[hsame _ (h.lt (.i q) hq) (hr (.i q) hq).1 (hr (.i q) hq).2];exact h.item q hq,fun _=>hTl⟩ (fun k hk x hx=>UN IH h i1 i2 fl hr hnd hok hk hx)
     have fE:=fI _ (AeR _);refine ⟨f s.lists.length,?_,by rw[hA];exact fE.p⟩;refine Ctr.bodyI (M:=MA) Am Tryz.func31 rfl Z5 fE.p.nox.ok ?_;simp(disch:=(try simp only[Ab]);omega)only[Tryz.f31,Es,Pf,hF,↓Aa,Ac,↓reduceIte,Qu,Qv];refine Fz hT hP h hs (id+ts.length) (by omega) (by omega) name hn ?_;rw[<-hrr,hr2,hA];simp(disch:=(try simp only[Ab]);omega)only[Es,tl,hF,hj,q0,Be,↓Aa,Ac,↓reduceIte,Qu,Qw,Qz];refine ⟨Ej (fun x=>if x<H.length then 0 else 1) [([],[]),([],[]),([],[]),([],[]),([0],[]),([],[]),([],[]),([],[]),([0],[]),([],[]),([],[]),([],[]),([0],[]),([],[]),([],[]),([],[]),([1],[1]),([1],[1]),([],[])] (by simp[MO,A8,A7,hcl,fl];exact hcv) (by rfl),by simp[cut],AR cf (by simp(disch:=omega)only[BC,A8,A7,Bu,and_self]) (by simp only[Adn,AeJ,c0,c1,c2,c3,c4];rfl),?_⟩;refine Ak.frI 3377699720527879 (α:=Nat) (fun k=>s.lists.length-k) (fun k=>[(52,.d (.int .i64 k))]) (fun k=>f k) (fun k=>k<=s.lists.length/\(Dp n s id name TS k).2=true) 0 ⟨Ado _,rfl⟩ ?_ ?_
     ·have htb:AQ (ts++[r.1])=AQ ts++LM r.1:=(by simp[AQ]);have hce:cut [.int .i64 r.1.id,.str (bs r.1.name),.sl r.1.cols.length false (AM r.1.cols)] 0 3=LM r.1:=(by simp[cut]);rw[f0,hHA,htb,hce];first
      | exact .slots (by simp[sA,kZ,Dg])
     rintro k ⟨hkk,ha2⟩;simp only[Bi,Adq,Aet];rcases Adm k s.lists.length with hlt | hge
     ·obtain ⟨_,t2⟩:=fT k hlt;obtain ⟨H',g1,g2,g3,g4⟩:=t2 ha2;obtain ⟨⟨p1,p2,_,p4⟩,prest,_⟩:=fI k hkk;have hpm:s.lists.getD k []∈s.lists:=Cs hlt;have hpd:s.lists.getD k []∈s.lists.drop k:=by
       rw[Ada,Ac7 hlt,AeU,Adp hlt];exact Afq
      have hpl:name.length+1+(s.lists.getD k []).length<=1000000000:=by
       cases n with
       | zero=>exact (hok _ hpm).2.2.elim
       | succ n=>exact (hok _ hpm).2.2.2.1
      have g:=strs_getD hlt;have pit:=prest _ hpd;have at':∀ a,a<8+s.rows.length->(f k)[L (.n a)]?=H[L (.n a)]?:=fun a ha=>p4 _ (h.lt _ (ok a ha)) (rF a ha) (rj a ha) fun p hp=>h.ne (ok a ha) hp (by simp);have e0:=(at' 0 (by omega)).trans h.box;have e5:=(at' 5 (by omega)).trans h.lists;obtain ⟨m,m1,m2,m3⟩:=h.items;have e6:=(at' 6 (by omega)).trans m1;have kr:=m2.ok;have pl:=fun a ha=>AfP (h.lt a ha) p1;generalize f k=Hk at *;generalize s.lists.getD k []=p at *;have hnm:name++[46]++p=name++46::p:=(by simp)
      rw[hnm] at g4;generalize hρ:outN [] Hk.length=ρ at *;by_cases hit:s.it p=[]
      ·have v2:Hf (.sl 0 true []) m (S p) false=.d (.sl 0 true []):=(by rw[ED,m3,if_pos hit]);rw[hit] at g1 g4;unfold KC at g4;rw[if_pos rfl] at g4;simp(disch:=(try simp only[Ab]);omega)only[Es,e0,e5,e6,g,kr,v2,sl,↓Aa,Ac,↓reduceIte,Qu];refine Ad.newgo g1 (by rfl) g2 (by intro p hp;simp[frz] at hp) (by rfl) ?_;intro t;rw[hρ,GH];simp(disch:=(try simp only[Ab]);omega)only[Af,Es,HL,Be,↓Aa,Ac,Qu];refine Aq.go g4 ⟨.inl rfl,.inl rfl,.inr (.inr ⟨_,rfl,rfl,.inl rfl⟩),trivial⟩ (by simp only[Adj,Afj];exact g3) ?_;cases e:(Dp n s id name TS (k+1)).2 with
       | false =>
        obtain ⟨z1,z2⟩:=M9 fT (by omega:k+1<=s.lists.length) e;simp only[↓Aa,Ac];rw[z1,z2];first
        | exact Or.inr ⟨rfl,Or.inl rfl⟩
       | true =>
        simp(disch:=(try simp only[Ab]);omega)only[Es,↓Aa,Ac];first
        | exact ⟨k+1,⟨hlt,e⟩,by simp only;omega,.inl ⟨rfl,by simp[Dg]⟩⟩
      have v2:Hf (.sl 0 true []) m (S p) false=.lsl (L (.i p)) 5 0 (s.it p).length:=(by rw[ED,m3,if_neg hit]);have pit:=pit hit;unfold KC at g4;rw[if_neg hit] at g4;have el:=BU (s.it p);have lp:=pl (.i p) hit;have cu:cut (BQ (s.it p)) 0 ((s.it p).length*5)=BQ (s.it p):=cut_all (by omega);simp(disch:=(try simp only[Ab]);omega)only[Es,e0,e5,e6,g,kr,v2,sl,pit,cu,↓Aa,Ac,↓reduceIte,Qu];have fz:frz Hk [L (.i p)]=[(L (.i p),.row true (BQ (s.it p)))]:=(by simp[frz,pit])
      refine Ad.newgo g1 (by rfl) g2 (by rw[fz];intro p hp;rw[Afp.1 hp];exact lp) (by rw[fz]) ?_;intro t;rw[hρ,GH];simp(disch:=(try simp only[Ab]);omega)only[Af,Es,HL,Be,↓Aa,Ac,↓reduceIte,Qu];refine Aq.go g4 ⟨.inl rfl,.inl rfl,.inr (.inr ⟨_,rfl,rfl,.inl rfl⟩),trivial⟩ (by simp only[Adj,AeQ,Afj];exact g3) ?_;cases e:(Dp n s id name TS (k+1)).2 with
      | false =>
       obtain ⟨z1,z2⟩:=M9 fT (by omega:k+1<=s.lists.length) e;simp only[↓Aa,Ac];rw[z1,z2];first
       | exact Or.inr ⟨rfl,Or.inl rfl⟩
      | true =>
       simp(disch:=(try simp only[Ab]);omega)only[Es,↓Aa,Ac];first
       | exact ⟨k+1,⟨hlt,e⟩,by simp only;omega,.inl ⟨rfl,by simp[Dg]⟩⟩
     obtain rfl:k=s.lists.length:=by omega
     simp(disch:=(try simp only[Ab]);omega)only[Be,↓Aa,Ac];rw[ha2];first
     | exact Or.inr ⟨rfl,Or.inl rfl⟩
    rw[hr2,if_neg (by omega)] at hA;refine ⟨HA,?_,by rw[hA];exact hAP⟩;refine Ctr.bodyI (M:=MA) Am Tryz.func31 rfl Z5 hAP.nox.ok ?_;simp(disch:=(try simp only[Ab]);omega)only[Tryz.f31,Es,Pf,hF,↓Aa,Ac,↓reduceIte,Qu,Qv];refine Fz hT hP h hs (id+ts.length) (by omega) (by omega) name hn ?_;rw[<-hrr,hr2,hA];simp(disch:=(try simp only[Ab]);omega)only[Es,tl,hF,hj,Be,↓Aa,Ac,↓reduceIte,Qu,Qw,Qz];refine ⟨Ej (fun x=>if x<H.length then 0 else 1) [([],[]),([],[]),([],[]),([],[]),([0],[]),([],[]),([],[]),([],[]),([0],[]),([],[]),([],[]),([],[]),([0],[]),([],[]),([],[]),([],[]),([1],[1]),([1],[1]),([],[])] (by simp[MO,A8,A7,hcl,fl];exact hcv) (by rfl),by simp[cut],AR cf (by simp(disch:=omega)only[BC,A8,A7,Bu,and_self]) (by simp only[Adn,AeJ,c0,c1,c2,c3,c4];rfl),?_⟩;first
    | exact Or.inr ⟨by rw[hHA];simp[cut,flB,LU,AQ,LM],Or.inl rfl⟩
  | none =>
   obtain rfl:ts=[]:=hj;have hF2:=hF;unfold flB LU at hF;simp only at hF;obtain ⟨HA,hHA⟩:∃ HA,HA=H.set F (flB id (some (H.length+2)) 1)++[.box [.d (.int .i64 r.1.id),.d (S r.1.name),.d (HY r.1.cols false)],.row false (LM r.1),.row false (AQ (([]:List Tab)++[r.1]))]:=⟨_,rfl⟩;have hsame:∀ i,i<H.length->i≠F->some i≠none->HA[i]?=H[i]?:=(by intro i hi c1 c2;rw[hHA,AJ (by simpa using hi),As (fun c=>c1 c.symm)])
   have hAP:Ab3 L s F none id (([]:List Tab)++[r.1]) H HA:=by
    refine ⟨by rw[hHA];simp,?_,⟨H.length+2,by omega,?_,?_⟩,fun i hi c1 c2 c3=>hsame i hi c1 c2⟩<;>rw[hHA];·exact (h0.set _ (by simp)).app (by simp[NoX])
    ·simp only[AJ,BS,AeQ,fl,Adj,Adk,Adl]
    rw[AeT (by simp)];simp
   obtain ⟨cf,hcf⟩:=DA [F,H.length,H.length+1,H.length+2] (by simp only[Afo,Afc,Ae7,or_false,not_or,AfB,and_true,not_false_eq_true];omega);have c0:=hcf 0 _ rfl;have c1:=hcf 1 _ rfl;have c2:=hcf 2 _ rfl;have c3:=hcf 3 _ rfl;cases hr2:r.2 with
   | false =>
    rw[hr2,if_neg (by simp)] at hA;refine ⟨HA,?_,by rw[hA];exact hAP⟩;refine Ctr.bodyI (M:=MA) Am Tryz.func31 rfl Z5 hAP.nox.ok ?_;simp(disch:=(try simp only[Ab]);omega)only[Tryz.f31,Es,Pf,hF,↓Aa,Ac,↓reduceIte,Qu,Qv];refine Fz hT hP h hs (id+([]:List Tab).length) (by simp;omega) (by simp;omega) name hn ?_;rw[<-hrr,hr2,hA];simp(disch:=(try simp only[Ab]);omega)only[Es,hF,Be,↓Aa,Ac,↓reduceIte,Qu,Qw,Qz];refine ⟨Ej (fun x=>if x<H.length then 0 else 1) [([],[]),([],[]),([],[]),([],[]),([0],[]),([],[]),([],[]),([],[]),([0],[]),([],[]),([],[]),([],[]),([0],[]),([],[]),([],[]),([],[]),([1],[1]),([1],[1]),([],[])] (by simp[MO,A8,A7,hcl,fl];exact hcv) (by rfl),by simp[cut],AR cf (by simp(disch:=omega)only[BC,A8,A7,Bv,and_self]) (by simp only[Adn,AeJ,c0,c1,c2,c3];rfl),?_⟩;first
    | exact Or.inr ⟨by rw[hHA];simp[cut,flB,LU,AQ,LM],Or.inl rfl⟩
   | true =>
    rw[hr2,if_pos ⟨rfl,by simp⟩] at hA;obtain ⟨TS,hTS⟩:∃ TS,TS=([]:List Tab)++[r.1]:=⟨_,rfl⟩;rw[<-hTS] at hA hAP;have hTl:TS.length<=1024:=(by rw[hTS];simp only[Adj,Adk,Adl];omega)
    obtain ⟨f,f0,fI,fT⟩:=Le (Ab4 n L s F none id name TS H) (AaY G n L s F id name TS) s.lists.length HA
     ⟨hAP,fun q _ hq=>by rw[hsame _ (h.lt (.i q) hq) (hr (.i q) hq).1 (hr (.i q) hq).2];exact h.item q hq,fun _=>hTl⟩ (fun k hk x hx=>UN IH h i1 i2 fl hr hnd hok hk hx)
    have fE:=fI _ (AeR _);refine ⟨f s.lists.length,?_,by rw[hA];exact fE.p⟩;refine Ctr.bodyI (M:=MA) Am Tryz.func31 rfl Z5 fE.p.nox.ok ?_;simp(disch:=(try simp only[Ab]);omega)only[Tryz.f31,Es,Pf,hF,↓Aa,Ac,↓reduceIte,Qu,Qv];refine Fz hT hP h hs (id+([]:List Tab).length) (by simp;omega) (by simp;omega) name hn ?_;rw[<-hrr,hr2,hA];simp(disch:=(try simp only[Ab]);omega)only[Es,hF,q0,Be,↓Aa,Ac,↓reduceIte,Qu,Qw,Qz];refine ⟨Ej (fun x=>if x<H.length then 0 else 1) [([],[]),([],[]),([],[]),([],[]),([0],[]),([],[]),([],[]),([],[]),([0],[]),([],[]),([],[]),([],[]),([0],[]),([],[]),([],[]),([],[]),([1],[1]),([1],[1]),([],[])] (by simp[MO,A8,A7,hcl,fl];exact hcv) (by rfl),by simp[cut],AR cf (by simp(disch:=omega)only[BC,A8,A7,Bv,and_self]) (by simp only[Adn,AeJ,c0,c1,c2,c3];rfl),?_⟩;refine Ak.frI 3377699720527879 (α:=Nat) (fun k=>s.lists.length-k) (fun k=>[(52,.d (.int .i64 k))]) (fun k=>f k) (fun k=>k<=s.lists.length/\(Dp n s id name TS k).2=true) 0 ⟨Ado _,rfl⟩ ?_ ?_
    ·have htb:AQ (([]:List Tab)++[r.1])=AQ ([]:List Tab)++LM r.1:=(by simp[AQ]);have hce:cut [.int .i64 r.1.id,.str (bs r.1.name),.sl r.1.cols.length false (AM r.1.cols)] 0 3=LM r.1:=(by simp[cut]);rw[f0,hHA,htb,hce];first
     | exact .slots (by simp[sA,kZ,Dg])
    rintro k ⟨hkk,ha2⟩;simp only[Bi,Adq,Aet];rcases Adm k s.lists.length with hlt | hge
    ·obtain ⟨_,t2⟩:=fT k hlt;obtain ⟨H',g1,g2,g3,g4⟩:=t2 ha2;obtain ⟨⟨p1,p2,_,p4⟩,prest,_⟩:=fI k hkk;have hpm:s.lists.getD k []∈s.lists:=Cs hlt;have hpd:s.lists.getD k []∈s.lists.drop k:=by
      rw[Ada,Ac7 hlt,AeU,Adp hlt];exact Afq
     have hpl:name.length+1+(s.lists.getD k []).length<=1000000000:=by
      cases n with
      | zero=>exact (hok _ hpm).2.2.elim
      | succ n=>exact (hok _ hpm).2.2.2.1
     have g:=strs_getD hlt;have pit:=prest _ hpd;have at':∀ a,a<8+s.rows.length->(f k)[L (.n a)]?=H[L (.n a)]?:=fun a ha=>p4 _ (h.lt _ (ok a ha)) (rF a ha) (rj a ha) fun p hp=>h.ne (ok a ha) hp (by simp);have e0:=(at' 0 (by omega)).trans h.box;have e5:=(at' 5 (by omega)).trans h.lists;obtain ⟨m,m1,m2,m3⟩:=h.items;have e6:=(at' 6 (by omega)).trans m1;have kr:=m2.ok;have pl:=fun a ha=>AfP (h.lt a ha) p1;generalize f k=Hk at *;generalize s.lists.getD k []=p at *;have hnm:name++[46]++p=name++46::p:=(by simp)
     rw[hnm] at g4;generalize hρ:outN [] Hk.length=ρ at *;by_cases hit:s.it p=[]
     ·have v2:Hf (.sl 0 true []) m (S p) false=.d (.sl 0 true []):=(by rw[ED,m3,if_pos hit]);rw[hit] at g1 g4;unfold KC at g4;rw[if_pos rfl] at g4;simp(disch:=(try simp only[Ab]);omega)only[Es,e0,e5,e6,g,kr,v2,sl,↓Aa,Ac,↓reduceIte,Qu];refine Ad.newgo g1 (by rfl) g2 (by intro p hp;simp[frz] at hp) (by rfl) ?_;intro t;rw[hρ,GH];simp(disch:=(try simp only[Ab]);omega)only[Af,Es,HL,Be,↓Aa,Ac,Qu];refine Aq.go g4 ⟨.inl rfl,.inl rfl,.inr (.inr ⟨_,rfl,rfl,.inl rfl⟩),trivial⟩ (by simp only[Adj,Afj];exact g3) ?_;cases e:(Dp n s id name TS (k+1)).2 with
      | false =>
       obtain ⟨z1,z2⟩:=M9 fT (by omega:k+1<=s.lists.length) e;simp only[↓Aa,Ac];rw[z1,z2];first
       | exact Or.inr ⟨rfl,Or.inl rfl⟩
      | true =>
       simp(disch:=(try simp only[Ab]);omega)only[Es,↓Aa,Ac];first
       | exact ⟨k+1,⟨hlt,e⟩,by simp only;omega,.inl ⟨rfl,by simp[Dg]⟩⟩
     have v2:Hf (.sl 0 true []) m (S p) false=.lsl (L (.i p)) 5 0 (s.it p).length:=(by rw[ED,m3,if_neg hit]);have pit:=pit hit;unfold KC at g4;rw[if_neg hit] at g4;have el:=BU (s.it p);have lp:=pl (.i p) hit;have cu:cut (BQ (s.it p)) 0 ((s.it p).length*5)=BQ (s.it p):=cut_all (by omega);simp(disch:=(try simp only[Ab]);omega)only[Es,e0,e5,e6,g,kr,v2,sl,pit,cu,↓Aa,Ac,↓reduceIte,Qu];have fz:frz Hk [L (.i p)]=[(L (.i p),.row true (BQ (s.it p)))]:=(by simp[frz,pit])
     refine Ad.newgo g1 (by rfl) g2 (by rw[fz];intro p hp;rw[Afp.1 hp];exact lp) (by rw[fz]) ?_;intro t;rw[hρ,GH];simp(disch:=(try simp only[Ab]);omega)only[Af,Es,HL,Be,↓Aa,Ac,↓reduceIte,Qu];refine Aq.go g4 ⟨.inl rfl,.inl rfl,.inr (.inr ⟨_,rfl,rfl,.inl rfl⟩),trivial⟩ (by simp only[Adj,AeQ,Afj];exact g3) ?_;cases e:(Dp n s id name TS (k+1)).2 with
     | false =>
      obtain ⟨z1,z2⟩:=M9 fT (by omega:k+1<=s.lists.length) e;simp only[↓Aa,Ac];rw[z1,z2];first
      | exact Or.inr ⟨rfl,Or.inl rfl⟩
     | true =>
      simp(disch:=(try simp only[Ab]);omega)only[Es,↓Aa,Ac];first
      | exact ⟨k+1,⟨hlt,e⟩,by simp only;omega,.inl ⟨rfl,by simp[Dg]⟩⟩
    obtain rfl:k=s.lists.length:=by omega
    simp(disch:=(try simp only[Ab]);omega)only[Be,↓Aa,Ac];rw[ha2];first
    | exact Or.inr ⟨rfl,Or.inl rfl⟩
end
end Go.Proofs.YtmidaophnbdcdaaGreatDoor
