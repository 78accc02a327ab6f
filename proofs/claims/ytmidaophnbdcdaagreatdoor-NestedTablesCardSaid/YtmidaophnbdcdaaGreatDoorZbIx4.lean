/-
  Contracts of the functions, one after another.
-/
import Derived.Test.YtmidaophnbdcdaaGreatDoorZbIx3
set_option linter.all false
open Go.Abs renaming Bm->HW,DN->BW,CK->SW,Aw->AW,B5->sA,Ap->kZ
open Go.Proofs.Tryz renaming prog->TP
set_option maxHeartbeats 16000000
set_option maxRecDepth 100000
open Go.Abs renaming Gb->Qa,Cp->Qb,B3->Qc,Cm->Qd,Ed->Qe,AU->Qf,A3->Qg,AL->Qh,BH->Qi,DT->Qj,EQ->Qk,Ga->Ql,Cl->Qm,Co->Qn,B2->Qo,Dj->Qr,unfA->Qs,Hw->QJ,KB->QL,CU->QM,En->QN,GW->QO,Dz->QP,Ce->QQ,N5->QT,N4->QU,ER->QV,OJ->QW,Rv->QX,Rw->QY,Ru->QZ,UE->Q0,BX->Q1,PO->Q2
open Go.Abs.AV renaming one->Qp
open Go.Abs.D renaming one->Qq
open Go.IntKind renaming signed->Qt
open Nat renaming reduceAdd->Qu,reduceSub->Qv,reduceMul->Qw,reducePow->Qx,reduceDiv->Qy,reduceMod->Qz,reduceEqDiff->QI,reduceBEq->QK
open Int renaming reduceAdd->QA,reduceSub->QB,reduceMul->QC,reducePow->QD,reduceNeg->QE,reduceToNat->QF,reduceLT->QG,reduceLE->QH
open Option renaming toList_some->QR,toList_none->QS
open List renaming mem_cons_of_mem->AaZ,mem_append_right->Aa0,length_cons->Ac7,mem_append_left->Ada,getElem?_eq_some_iff->Adf,mem_singleton->Adi,mem_append->Adj,length_append->Adk,length_nil->Adl,nodup_cons->Adn,mem_cons->Ado,length_drop->Adp,nodup_append->Adq,length_set->AeI,set_cons_zero->AeL,map_cons->AeQ,set_cons_succ->AeR,length_eq_zero_iff->AeT,append_assoc->AeU,append_nil->Ae6,map_nil->Ae7,getD_eq_getElem?_getD->Ae8,getElem?_append_right->Afd,drop_of_length_le->Afg,nodup_nil->Afi,take_left->Afl,getElem?_eq_getElem->Afn,getElem_mem->Afq,dropWhile_sublist->Aft,set_append_right->Afw,any_eq_false->Afz,take_length->AfA,not_mem_nil->AfB,length_map->AfC,drop->AfE,mem_map->AfF,take->AfJ
open Nat renaming le_refl->Adm,eq_of_beq_eq_true->Aet,add_sub_cancel_left->AeK,sub_self->Afc,zero_add->Afe,reduceAdd->Aff,beq->Afh,eq_zero_or_pos->Afj,zero_le->Afm,reduceMod->Afo,reduceDiv->Afp,le_add_right->Afr,le_trans->Afs,add_zero->Afu,lt_or_ge->Afx,succ_mul->AfG,mul_comm->AfH,mul_one->AfI
open Bool renaming and_eq_true->AeJ,false_eq_true->Afk,or_eq_true->Afv,not_eq_true'->Afy,true_and->AfD
namespace Go.Proofs.YtmidaophnbdcdaaGreatDoor
section
open Go Go.Proofs Go.Abs
variable {G:Ah}
def J6 (hT:HT G) (hG:Num.HG G) (n:Nd) (hz:szN n):Ctr TP G 19 [.d (NdD n)] [] (.d (.bool (AH n 0))) []:=by have h:=LQ (G:=G) hT hG _ n (Adm _) hz 0 (by omega);generalize AH n 0=z at *;obtain ⟨k,t,ks,l⟩:=n;refine Ctr.pure (M:=M0) Am Tryz.func19 rfl go19 ?_;simp(disch:=(try simp only[Ab]);omega)only[ndC,Tryz.f19,↓Aa,Ac,↓reduceIte,Qu,Qv];refine Ad.of h (by rfl) ?_;simp only[↓Aa,Ac,↓Qe]
def CQ (n:Nd):List Nd:=if n.kind=5 then n.kids else [n]
def BT (n:Nd):List Elm:=(CQ n).map fun k=>(0,k)
def Om (N:Nat) (name:List UInt8) (id:Int) (n:Nd):List Tab × Int :=
 if AH n 0=true/\(CQ n).any Ca=false/\Lib.validD name=true then
  (if (FX N (Av false (BT n)) id name []).2=true then ((FX N (Av false (BT n)) id name []).1,0) else ([],3))
 else ([],1)
abbrev Mm (l:List Tab) (full:Bool):D:=.sl l.length full (AQ l)
abbrev Aac (r:List Tab × Int):D:=.tup [Mm r.1 false,.int .i64 r.2]
def MF:Ci:=fun k=>Afh k 4000031
def YP:MF 4000031=true:=rfl
def Er {k:Nat} (h:¬(k=4000031)):MF k=false:=by
 cases e:MF k with
 | false=>rfl
 | true=>exact absurd (Aet e) h
def Jo (l:List Nd) (k:Nat):List Elm:=(l.take k).map fun k=>((0:Int),k)
def Uw (l:List Nd) (k:Nat) (h:k<=l.length):(Jo l k).length=k:=by simp[Jo];omega
def Re (l:List Nd) (k:Nat) (h:k<l.length):BQ (Jo l (k+1))=BQ (Jo l k)++EG ((0:Int),l.getD k noN):=by unfold Jo;rw[List.take_add_one,Afn h,Ae8,Afn h,List.map_append,Yn];simp[BQ]
def Ux (l:List Nd):Jo l l.length=l.map fun k=>((0:Int),k):=by unfold Jo;rw[AfA]
def Ju (hT:HT G) (hP:HP G) (hG:Num.HG G) (N:Nat) (name:List UInt8) (id:Int) (n:Nd) (hz:szN n) (hn:name.length<=1000000000) (i1:-1000000000000<=id) (i2:id<=1000000000000)
  (hc:AH n 0=true->(∀ e∈BT n,GJ e.2)/\Ct (BT n)<=4000/\RG N (Av false (BT n)) name.length) :
  Ctr TP G 13 [.d (S name),.d (.int .i64 id),.d (NdD n)] [] (.d (Aac (Om N name id n))) []:=by
 obtain ⟨r,hr⟩:∃ r,r=Om N name id n:=⟨_,rfl⟩;rw[<-hr];unfold Om at hr;have hV:=J6 (G:=G) hT hG n hz;have hE:BT n=(CQ n).map fun k=>((0:Int),k):=rfl;generalize hok:AH n 0=okv at *;generalize BT n=E at *;generalize hL:CQ n=L at *;unfold CQ at hL;obtain ⟨k,t,ks,l⟩:=n;obtain ⟨s1,s2,s3,s4,s5⟩:=hz;unfold Nd.kind Nd.kids at hL;simp only at hL;refine Ctr.pure (M:=MF) Am Tryz.func13 rfl go13 ?_;by_cases k5:k=5
 ·subst k5;rw[if_pos rfl] at hL;subst hL;have sl:=Ay l;simp(disch:=(try simp only[Ab]);omega)only[Er,ndC,Tryz.f13,↓Aa,Ac,↓reduceIte,Qu,Qv,Qw,Qz];refine Ak.fr 6291747 (α:=Nat) (fun x=>l.length-x) (fun x=>[(9,.lsl 1 5 0 x),(23,.d (.int .i64 x))]) (fun x=>[.box [.d (.int .i64 5),.d (S t),.d (Ss ks false),.d (.sl l.length false (AA l))],.row false (BQ (Jo l x))]) (fun x=>x<=l.length) 0 (Afm _) ?_ ?_
  ·first
   | exact ⟨[some 0,none],rfl,by simp,by simp[sA,kZ,SW,AW],by simp[HW,BW,SW,AW,Jo,BQ]⟩
  intro i hkk;simp only[Bi,Afo,Afp];rcases Afx i l.length with hlt | hge
  ·have el:=BU (Jo l i);have ck:=Uw l i hkk;have cs:=Re l i hlt;have g:=BM hlt;generalize l.getD i noN=kid at *;obtain ⟨ka,kb,kc,kl⟩:=kid;simp(disch:=(try simp only[Ab]);omega)only[Er,sl,g,ndC,el,ck,↓Aa,Ac,↓reduceIte,Qu,Qw,Qz];first
   | exact ⟨by simp[cut],i+1,hlt,by simp only;omega,⟨[some 0,some 4],rfl,by simp,by simp[SW,AW],by simp[HW,BW,SW,AW,cs,EG,ndC,cut]⟩⟩
  obtain rfl:i=l.length:=by omega
  have cE:Jo l l.length=E:=by rw[hE];exact Ux l
  rw[cE];have eE:=BU E;have eL:E.length=l.length:=by rw[hE];simp
  have cu:cut (BQ E) 0 (l.length*5)=BQ E:=cut_all (by omega);simp(disch:=(try simp only[Ab]);omega)only[Er,↓Aa,Ac,↓reduceIte,Qu];refine Ad.of (FO 29 Ca l false (by omega) fun s _=>Oe s) (by rfl) ?_;cases hnr:l.any Ca
  ·simp(disch:=(try simp only[Ab]);omega)only[Er,↓Aa,Ac,↓reduceIte,Qu];refine Ad.of hV (by rfl) ?_;cases okv
   ·rw[if_neg (by simp)] at hr;subst hr;simp(disch:=(try simp only[Ab]);omega)only[Er,↓Aa,Ac,↓reduceIte,↓Qe,Qu];first
    | done
    | rfl
   simp(disch:=(try simp only[Ab]);omega)only[Er,↓Aa,Ac,↓reduceIte,Qu];refine Ad.pure (ES hT name (by omega)) ?_;cases hv:Lib.validD name
   ·rw[if_neg (by rw[hv];simp)] at hr;subst hr;simp only[↓Aa,Ac,↓reduceIte,↓Qe,Qu];first
    | done
    | rfl
   rw[if_pos ⟨rfl,hnr,hv⟩] at hr;obtain ⟨c1,c2,c3⟩:=hc rfl;obtain ⟨L',H',g1,g2,g3,g4⟩:=JM (G:=G) false E false c1 c2;simp(disch:=(try simp only[Ab]);omega)only[Er,cu,↓Aa,Ac,↓reduceIte,Qu];obtain ⟨ρ,hρ⟩:∃ ρ,ρ=outN [] 3:=⟨_,rfl⟩;have g5:=g2.shift [.box [.d (.int .i64 5),.d (S t),.d (Ss ks false),.d (.sl l.length false (AA l))],.row true (BQ E),.box [.d (.int .i64 id),.d (.sl 0 true [])]];obtain ⟨y,y1,⟨y2,y3,⟨q,y4,y5,y6⟩,y7⟩⟩:=Xi hT hP N (F:=2) (j:=none) (ts:=[]) (id:=id) (name:=name) c3 ⟨g5,(show NoX _ by simp[NoX]).app (g3.ren _),i1,i2,by simp,rfl,rfl,by simp,fun a ha=>⟨by rw[DF];simp;omega,by simp⟩⟩;have hne:H'≠[]:=(by intro c;have:=g2.lt (.n 0) (by show 0<8+_;omega);rw[c] at this;simp at this)
   simp only[g4,Ac7,Adl,Afe,Aff,<-hρ] at y1;have y2':=y2;simp only[Adk,Ac7,Adl,AfC,Afe,Aff] at y2';refine Ad.newgo g1 (by rw[<-eL]) hne (by simp[frz]) (by simp[frz,applyW];rfl) ?_;intro tt;rw[GH];simp only[Ac7,Adl,Afe,Aff,<-hρ];simp(disch:=(try simp only[Ab]);omega)only[Er,YP,↓Aa,Ac,Qu];first
   | (refine Aq.go y1 ⟨.inl rfl,.inl rfl,.inr (.inr ⟨_,rfl,rfl,.inl rfl⟩),trivial⟩ (by simp;omega) ?_)
   cases e:(FX N (Av false E) id name []).2
   ·rw[if_neg (by rw[e];simp)] at hr;subst hr;simp only[↓Aa,Ac,↓Qe];first
    | done
    | rfl
   rw[if_pos e] at hr;subst hr;generalize (FX N (Av false E) id name []).1=ts at *;have tl:=Bq ts;have cu2:cut (AQ ts) 0 (ts.length*3)=AQ ts:=cut_all (by omega);simp(disch:=(try simp only[Ab]);omega)only[Er,y5,y6,cu2,LU,flB,↓Aa,Ac,↓reduceIte,↓Qe,Qu];first
   | done
   | rfl
  rw[if_neg (by rw[hnr];simp)] at hr;subst hr;simp(disch:=(try simp only[Ab]);omega)only[Er,↓Aa,Ac,↓reduceIte,Qu];refine Ad.of hV (by rfl) ?_;cases okv
  ·simp(disch:=(try simp only[Ab]);omega)only[Er,↓Aa,Ac,↓reduceIte,↓Qe,Qu];first
   | done
   | rfl
  simp(disch:=(try simp only[Ab]);omega)only[Er,↓Aa,Ac,↓reduceIte,↓Qe,Qu];first
  | done
  | rfl
 rw[if_neg k5] at hL;subst hL;simp(disch:=(try simp only[Ab]);omega)only[Er,ndC,k5,Tryz.f13,↓Aa,Ac,↓reduceIte,Qu,Qv,Qw,Qz];refine Ak.fr 6291747 (α:=Nat) (fun x=>1-x) (fun x=>[(9,.lsl 2 5 0 x),(23,.d (.int .i64 x))]) (fun x=>[.box [.d (.int .i64 k),.d (S t),.d (Ss ks false),.d (.sl l.length false (AA l))],.row false [.int .i64 k,.str (bs t),.sl ks.length false (strs ks),.sl l.length false (AA l)],.row false (BQ (Jo [Nd.mk k t ks l] x))]) (fun x=>x<=1) 0 (Afm _) ?_ ?_
 ·first
  | exact ⟨[some 0,some 1,none],rfl,by simp,by simp[sA,kZ,SW,AW],by simp[HW,BW,SW,AW,Jo,BQ]⟩
 intro i hkk;simp only[Bi,Afo,Afp];rcases Afx i 1 with hlt | hge
 ·have el:=BU (Jo [Nd.mk k t ks l] i);have ck:=Uw [Nd.mk k t ks l] i hkk;have cs:=Re [Nd.mk k t ks l] i hlt;obtain rfl:i=0:=by simp at hlt;omega
  simp(disch:=(try simp only[Ab]);omega)only[Er,el,ck,↓Aa,Ac,↓reduceIte,Qu,Qw,Qz,QA];first
  | exact ⟨by simp[cut],1,Adm 1,by simp,⟨[some 0,some 1,some 5],rfl,by simp,by simp[SW,AW],by simp[HW,BW,SW,AW,Jo,BQ,EG,ndC,cut]⟩⟩
 obtain rfl:i=1:=by omega
 have cE:Jo [Nd.mk k t ks l] 1=E:=by rw[hE];exact Ux [Nd.mk k t ks l]
 rw[cE];have eE:=BU E;have eL:E.length=1:=by rw[hE];simp
 have cu:cut (BQ E) 0 (1*5)=BQ E:=cut_all (by omega);simp(disch:=(try simp only[Ab]);omega)only[Er,↓Aa,Ac,↓reduceIte,Qu,Qv,Qw];refine Ad.frozenE (FO 29 Ca [Nd.mk k t ks l] false (by simp) fun s _=>Oe s) (by rfl) ?_;cases hnr:[Nd.mk k t ks l].any Ca
 ·simp(disch:=(try simp only[Ab]);omega)only[Er,↓Aa,Ac,↓reduceIte,Qu];refine Ad.of hV (by rfl) ?_;cases okv
  ·rw[if_neg (by simp)] at hr;subst hr;simp(disch:=(try simp only[Ab]);omega)only[Er,↓Aa,Ac,↓reduceIte,↓Qe,Qu];first
   | done
   | rfl
  simp(disch:=(try simp only[Ab]);omega)only[Er,↓Aa,Ac,↓reduceIte,Qu];refine Ad.pure (ES hT name (by omega)) ?_;cases hv:Lib.validD name
  ·rw[if_neg (by rw[hv];simp)] at hr;subst hr;simp only[↓Aa,Ac,↓reduceIte,↓Qe,Qu];first
   | done
   | rfl
  rw[if_pos ⟨rfl,hnr,hv⟩] at hr;obtain ⟨c1,c2,c3⟩:=hc rfl;obtain ⟨L',H',g1,g2,g3,g4⟩:=JM (G:=G) false E false c1 c2;simp(disch:=(try simp only[Ab]);omega)only[Er,cu,↓Aa,Ac,↓reduceIte,Qu,Qw];obtain ⟨ρ,hρ⟩:∃ ρ,ρ=outN [] 4:=⟨_,rfl⟩;have g5:=g2.shift [.box [.d (.int .i64 k),.d (S t),.d (Ss ks false),.d (.sl l.length false (AA l))],.row false [.int .i64 k,.str (bs t),.sl ks.length false (strs ks),.sl l.length false (AA l)],.row true (BQ E),.box [.d (.int .i64 id),.d (.sl 0 true [])]];obtain ⟨y,y1,⟨y2,y3,⟨q,y4,y5,y6⟩,y7⟩⟩:=Xi hT hP N (F:=3) (j:=none) (ts:=[]) (id:=id) (name:=name) c3 ⟨g5,(show NoX _ by simp[NoX]).app (g3.ren _),i1,i2,by simp,rfl,rfl,by simp,fun a ha=>⟨by rw[DF];simp;omega,by simp⟩⟩;have hne:H'≠[]:=by intro c;have:=g2.lt (.n 0) (by show 0<8+_;omega);rw[c] at this;simp at this
  simp only[g4,Ac7,Adl,Afe,Aff,<-hρ] at y1;have y2':=y2;simp only[Adk,Ac7,Adl,AfC,Afe,Aff] at y2';refine Ad.newgo g1 (by rw[<-eL]) hne (by simp[frz]) (by simp[frz,applyW];rfl) ?_;intro tt;rw[GH];simp only[Ac7,Adl,Afe,Aff,<-hρ];simp(disch:=(try simp only[Ab]);omega)only[Er,YP,↓Aa,Ac,Qu];first
  | (refine Aq.go y1 ⟨.inl rfl,.inl rfl,.inr (.inr ⟨_,rfl,rfl,.inl rfl⟩),trivial⟩ (by simp;omega) ?_)
  cases e:(FX N (Av false E) id name []).2
  ·rw[if_neg (by rw[e];simp)] at hr;subst hr;simp only[↓Aa,Ac,↓Qe];first
   | done
   | rfl
  rw[if_pos e] at hr;subst hr;generalize (FX N (Av false E) id name []).1=ts at *;have tl:=Bq ts;have cu2:cut (AQ ts) 0 (ts.length*3)=AQ ts:=cut_all (by omega);simp(disch:=(try simp only[Ab]);omega)only[Er,y5,y6,cu2,LU,flB,↓Aa,Ac,↓reduceIte,↓Qe,Qu];first
  | done
  | rfl
 rw[if_neg (by rw[hnr];simp)] at hr;subst hr;simp(disch:=(try simp only[Ab]);omega)only[Er,↓Aa,Ac,↓reduceIte,Qu];refine Ad.of hV (by rfl) ?_;cases okv
 ·simp(disch:=(try simp only[Ab]);omega)only[Er,↓Aa,Ac,↓reduceIte,↓Qe,Qu];first
  | done
  | rfl
 simp(disch:=(try simp only[Ab]);omega)only[Er,↓Aa,Ac,↓reduceIte,↓Qe,Qu];first
 | done
 | rfl
end
section
open Go Go.Proofs Go.Abs
def Rc (c b:UInt8):∀ s:List UInt8,b∈s->b∈Num.cutL c s\/b=c\/b∈Num.cutR c s
 | [],h=>by cases h
 | x::l,h=>by
   rw[Num.cutL,Num.cutR];by_cases e:x=c
   ·rw[if_pos e,if_pos e];rcases Ado.1 h with rfl | h
    ·exact .inr (.inl e)
    exact .inr (.inr h)
   rw[if_neg e,if_neg e];rcases Ado.1 h with rfl | h
   ·exact .inl (by simp)
   rcases Rc c b l h with h | h | h
   ·exact .inl (AaZ _ h)
   ·exact .inr (.inl h)
   exact .inr (.inr h)
def Rd (c:UInt8):∀ s:List UInt8,s.length<=(Num.cutL c s).length+1+(Num.cutR c s).length
 | []=>by simp
 | x::l=>by
   have ih:=Rd c l;rw[Num.cutL,Num.cutR];by_cases e:x=c;·rw[if_pos e,if_pos e];simp;omega
   rw[if_neg e,if_neg e];simp only[Ac7];omega
def dig_range {c:UInt8} (h:Num.isD c):48<=c.toNat/\c.toNat<=57:=h
def V2 {s:List UInt8} (h:Num.decOk s=true):s.length<=26/\∀ b∈s,43<=b.toNat/\b.toNat<=57:=by
 have hb:(Num.decBody s).length<=25/\∀ b∈Num.decBody s,43<=b.toNat/\b.toNat<=57:=by
  unfold Num.decOk at h;rw[AeJ] at h;obtain ⟨h1,h2⟩:=h;obtain ⟨q1,q2,q3⟩:=Num.digB_iff.1 h1;by_cases e:(46:UInt8)∈Num.decBody s
  ·rw[decide_eq_true e] at h2;obtain ⟨p1,p2,p3⟩:=Num.digB_iff.1 (show Num.digB (Num.decB s) 9=true by simpa using h2);have hl:=Rd 46 (Num.decBody s);refine ⟨by unfold Num.decF at q2;unfold Num.decB at p2;omega,fun b hb=>?_⟩;rcases Rc 46 b _ hb with hb | hb | hb
   ·have:=dig_range (q3 b hb);omega
   ·subst hb;decide
   have:=dig_range (p3 b hb);omega
  have e2:Num.cutL 46 (Num.decBody s)=Num.decBody s:=((Num.cut_index 46 (Num.decBody s)).2 e).2.1;unfold Num.decF at q2 q3;rw[e2] at q2 q3;exact ⟨by omega,fun b hb=>by have:=dig_range (q3 b hb);omega⟩
 have gen:∀ x:UInt8,43<=x.toNat/\x.toNat<=57->Num.hasP s [x]=true->Num.decBody s=s.drop 1->s.length<=26/\∀ b∈s,43<=b.toNat/\b.toNat<=57:=by
  intro x hx hp hd;rw[hd] at hb;cases s with
  | nil=>exact ⟨by simp,fun b hb=>by cases hb⟩
  | cons c r =>
   have e:=of_decide_eq_true hp;simp at e;subst e;simp only[List.drop_succ_cons,List.drop_zero] at hb;refine ⟨by simp;omega,fun b h=>?_⟩;rcases Ado.1 h with rfl | h
   ·exact hx
   exact hb.2 b h
 by_cases c1:Num.hasP s [45]=true;·exact gen 45 (by decide) c1 (by unfold Num.decBody;rw[if_pos c1])
 by_cases c2:Num.hasP s [43]=true;·exact gen 43 (by decide) c2 (by unfold Num.decBody;rw[if_neg c1,if_pos c2])
 have:Num.decBody s=s:=by unfold Num.decBody;rw[if_neg c1,if_neg c2]
 rw[this] at hb;exact ⟨by omega,hb.2⟩
def Oz {s:List UInt8} (h:Num.decOk s=true):AP s=true:=by obtain ⟨h1,h2⟩:=V2 h;unfold AP;rw[decide_eq_true (show s.length<=1024 by omega),D1 s fun b hb=>by have:=h2 b hb;omega,AfD,AfD,Afy];refine Afz.2 fun b hb=>?_;have:=h2 b hb;unfold IC SC;simp;omega
mutual
def WY:∀ n:Nd,nmT n
 | .mk _ _ _ l=>⟨fun _=>Oz,T0 l⟩
def T0:∀ l:List Nd,Abp l
 | []=>trivial
 | n::r=>⟨WY n,T0 r⟩
end
def Iv {s:List UInt8} (h:AP s=true):s.length<=1024:=by unfold AP at h;rw[AeJ] at h;exact of_decide_eq_true h.1
structure OkN (n:Nd) (a:Nat):Prop where
 kind:1<=n.kind/\n.kind<=6
 deep:a<16
 scal:Cw n.kind n.text=true
 text:n.text.length<=1024
 recd:n.kind=6->n.keys.length=n.kids.length/\n.keys.Nodup/\∀ s∈n.keys,AP s=true
 nrecd:n.kind≠6->n.keys=[]
 leaf:n.kind≠5->n.kind≠6->n.kids=[]
 kids:∀ k∈n.kids,AH k (a+1)=true
def PM {a:Nat}:∀ {l:List Nd},BF l a=true->∀ n∈l,AH n a=true
 | [],_,n,h=>by cases h
 | x::r,h,n,hn=>by
   rw[BF,AeJ] at h;rcases Ado.1 hn with rfl | hn
   ·exact h.1
   exact PM h.2 n hn
def Zh {k:Int} {t:List UInt8} (h:Cw k t=true):t.length<=1024:=by
 unfold Cw at h;split at h;·rcases of_decide_eq_true h with rfl | rfl<;>decide
 split at h;·exact Iv (Oz h)
 split at h;·exact Iv h
 rw[of_decide_eq_true h];simp
def EA {n:Nd} {a:Nat} (h:AH n a=true):OkN n a:=by
 obtain ⟨k,t,ks,l⟩:=n;rw[AH] at h;simp only[AeJ,Afv,decide_eq_true_eq] at h;obtain ⟨h1,h2,h3,h4,h5,h6⟩:=h;refine ⟨h1,h2,h3,Zh h3,fun k6=>?_,fun k6=>?_,fun k5 k6=>?_,PM h6⟩;·have k6:k=6:=k6;unfold DJ at h4;rw[if_pos k6] at h4;simp only[AeJ,decide_eq_true_eq,List.all_eq_true] at h4;exact ⟨h4.1,h4.2.1,h4.2.2⟩
 ·have k6:¬k=6:=k6;unfold DJ at h4;rw[if_neg k6] at h4;exact AeT.1 (of_decide_eq_true h4)
 have k5:¬k=5:=k5;have k6:¬k=6:=k6;rcases h5 with h5 | h5
 ·omega
 exact AeT.1 h5
mutual
def I5:∀ (n:Nd) (a:Nat),AH n (a+1)=true->AH n a=true
 | .mk k t ks l,a,h=>by rw[AH] at h ⊢;simp only[AeJ,decide_eq_true_eq] at h ⊢;exact ⟨h.1,by omega,h.2.2.1,h.2.2.2.1,h.2.2.2.2.1,NZ l (a+1) h.2.2.2.2.2⟩
def NZ:∀ (l:List Nd) (a:Nat),BF l (a+1)=true->BF l a=true
 | [],_,_=>rfl
 | n::r,a,h=>by rw[BF] at h ⊢;simp only[AeJ] at h ⊢;exact ⟨I5 n a h.1,NZ r a h.2⟩
end
mutual
def Ks:∀ (n:Nd) (a:Nat),AH n a=true->GJ n
 | .mk k t ks l,a,h=>by
   have o:=EA h;rw[AH] at h;simp only[AeJ] at h;refine ⟨fun k6=>(o.recd k6).1,fun s hs=>?_,PH l (a+1) h.2.2.2.2.2⟩;by_cases k6:k=6;·have:=Iv ((o.recd k6).2.2 s hs);omega
   have:=o.nrecd k6;have e:ks=[]:=this;rw[e] at hs;cases hs
def PH:∀ (l:List Nd) (a:Nat),BF l a=true->NH l
 | [],_,_=>trivial
 | n::r,a,h=>by rw[BF,AeJ] at h;exact ⟨Ks n a h.1,PH r a h.2⟩
end
def Wh (a P:Nat):Pt->Prop
 | .c p x=>p.length<=P/\x.1.length<=1024
 | .l p kids=>p.length<=P/\∀ k∈kids,AH k (a+1)=true
def Rq {n:Nd} {a:Nat} (h:AH n a=true):(AN n).1.length<=1024:=by
 unfold AN;split;·exact (EA h).text
 simp
mutual
def TL:∀ (n:Nd) (a b:Nat) (front:List UInt8),AH n a=true->b<=a->n.kind=6->∀ q∈Dw n front,Wh b (front.length+1025*(16-a)) q
 | .mk k t ks l,a,b,front,h,hb,h6,q,hq=>by
   have o:=EA h;have k6:k=6:=h6;have hd:a<16:=o.deep;obtain ⟨r1,r2,r3⟩:=o.recd h6;have r1:ks.length=l.length:=r1;have r3:∀ s∈ks,AP s=true:=r3;have hk:BF l (a+1)=true:=(by rw[AH] at h;simp only[AeJ] at h;exact h.2.2.2.2.2)
   have:=PK l (a+1) b front ks hk (by omega) (fun s hs=>Iv (r3 s hs)) q hq;have e:1025+1025*(16-(a+1))<=1025*(16-a):=(by omega)
   cases q with
   | c p x=>exact ⟨by have:=this.1;omega,this.2⟩
   | l p x=>exact ⟨by have:=this.1;omega,this.2⟩
def PK:∀ (l:List Nd) (a b:Nat) (front:List UInt8) (ks:List (List UInt8)),BF l a=true->b+1<=a->(∀ s∈ks,s.length<=1024)->∀ q∈Gs l front ks,Wh b (front.length+1025+1025*(16-a)) q
 | [],_,_,_,_,_,_,_,q,hq=>by cases hq
 | n::r,a,b,front,ks,h,hb,hs,q,hq=>by
   rw[BF,AeJ] at h;have o:=EA h.1;have hkey:(ks.headD []).length<=1024:=by
    cases ks with
    | nil=>simp
    | cons k kr=>exact hs k (by simp)
   rw[EY] at hq;rcases Adj.1 hq with hq | hq
   ·split at hq
    ·rename_i k6;have:=TL n a b (front++ks.headD []++[46]) h.1 (by omega) k6 q hq;have e:(front++ks.headD []++[46]).length<=front.length+1025:=(by simp only[Adk,Ac7,Adl];omega)
     cases q with
     | c p x=>exact ⟨by have:=this.1;omega,this.2⟩
     | l p x=>exact ⟨by have:=this.1;omega,this.2⟩
    split at hq
    ·rw[Adi.1 hq];refine ⟨by rw[Adk];omega,fun k hk=>?_⟩;have:=o.kids k hk;have mono:∀ d,AH k (b+1+d)=true->AH k (b+1)=true:=by
      intro d;induction d with
      | zero=>exact id
      | succ d ih=>intro h;exact ih (I5 _ _ h)
     exact mono (a-b) (by rw[show b+1+(a-b)=a+1 by omega];exact this)
    rw[Adi.1 hq];exact ⟨by rw[Adk];omega,Rq h.1⟩
   exact PK r a b front ks.tail h.2 hb (fun s hs'=>hs s (List.mem_of_mem_tail hs')) q hq
end
structure LyV (a P:Nat) (s:Ly):Prop where
 abv:∀ x∈s.above,0<=x/\x<1000000
 ps:∀ p∈s.paths,p.length<=P
 cs:∀ r∈s.rows,∀ p c,r p=some c->c.1.length<=1024
 ls:∀ p∈s.lists,p.length<=P
 sv:∀ p,p∈s.lists↔¬s.sv p=0
 nd:s.lists.Nodup
 it:∀ p,∀ e∈s.it p,AH e.2 (a+1)=true/\0<=e.1/\e.1<1000000
def Wh.mono {a P Q:Nat} {q:Pt} (h:Wh a P q) (hq:P<=Q):Wh a Q q:=by
 cases q with
 | c p x=>exact ⟨Afs h.1 hq,h.2⟩
 | l p x=>exact ⟨Afs h.1 hq,h.2⟩
def LyV.part {a P:Nat} {s:Ly} (h:LyV a P s) (h0:0<s.rows.length) (h1:s.rows.length<=1000000) {q:Pt} (hq:Wh a P q):LyV a P (s.part q):=by
 cases q with
 | c p x =>
  refine ⟨h.abv,fun y hy=>?_,fun r hr y c hc=>?_,h.ls,h.sv,h.nd,h.it⟩
  ·have hy:y∈(if p∈s.paths then s.paths else s.paths++[p]):=hy;split at hy;·exact h.ps y hy
   rcases Adj.1 hy with hy | hy
   ·exact h.ps y hy
   rw[Adi.1 hy];exact hq.1
  have hr:r∈s.rows.modify (s.rows.length-1) fun r=>J1 r p x:=hr;obtain ⟨i,hi,e⟩:=List.getElem_of_mem hr;rw[List.getElem_modify] at e;have hi':i<s.rows.length:=by simpa using hi
  split at e
  ·rw[<-e] at hc;unfold J1 at hc;split at hc
   ·cases hx:s.rows[i] p with
    | none =>rw[hx] at hc;cases hc;exact hq.2
    | some d =>rw[hx] at hc;cases hc;exact h.cs _ (Afq hi') p d hx
   exact h.cs _ (Afq hi') y c hc
  rw[<-e] at hc;exact h.cs _ (Afq hi') y c hc
 | l p kids =>
  show LyV a P (s.list p kids)
  unfold Ly.list;split;·exact h
  rename_i hne;refine ⟨h.abv,h.ps,h.cs,fun y hy=>?_,fun y=>?_,?_,fun y e he=>?_⟩
  ·have hy:y∈(if s.sv p=0 then s.lists++[p] else s.lists):=hy;split at hy
   ·rcases Adj.1 hy with hy | hy
    ·exact h.ls y hy
    rw[Adi.1 hy];exact hq.1
   exact h.ls y hy
  ·show y∈(if s.sv p=0 then s.lists++[p] else s.lists)↔¬CO s.sv p s.rows.length y=0
   by_cases e:y=p
   ·subst e;rw[Dc];split;·exact ⟨fun _=>by omega,fun _=>by simp⟩
    rename_i c;exact ⟨fun _=>by omega,fun _=>(h.sv y).2 c⟩
   rw[CN _ _ e,<-h.sv y];split;·simp[e]
   exact Iff.rfl
  ·show (if s.sv p=0 then s.lists++[p] else s.lists).Nodup
   split;·rename_i c;refine Adq.2 ⟨h.nd,by simp,fun x hx y hy e=>?_⟩;rw[Adi.1 hy] at e;subst e;exact (h.sv x).1 hx c
   exact h.nd
  have he:e∈CO s.it p (s.it p++kids.map fun k=>((s.rows.length:Int)-1,k)) y:=he;by_cases c:y=p
  ·subst c;rw[Dc] at he;rcases Adj.1 he with he | he
   ·exact h.it y e he
   obtain ⟨k,hk,rfl⟩:=AfF.1 he;exact ⟨hq.2 k hk,by simp only;omega,by simp only;omega⟩
  rw[CN _ _ c] at he;exact h.it y e he
def LyV.parts {a P:Nat}:∀ (l:List Pt) {s:Ly},LyV a P s->0<s.rows.length->s.rows.length<=1000000->(∀ q∈l,Wh a P q)->LyV a P (s.parts l)
 | [],s,h,_,_,_=>h
 | q::r,s,h,h0,h1,hq=>by have:=s.part_rows q;exact LyV.parts r (h.part h0 h1 (hq q (by simp))) (by omega) (by omega) fun x hx=>hq x (AaZ _ hx)
def LyV.row {a P:Nat} {s:Ly} (h:LyV a P s) {x:Int} (h0:0<=x) (h1:x<1000000):LyV a P (s.row x):=by
 refine ⟨fun y hy=>?_,h.ps,fun r hr p c hc=>?_,h.ls,h.sv,h.nd,h.it⟩
 ·rcases Adj.1 hy with hy | hy
  ·exact h.abv y hy
  rw[Adi.1 hy];exact ⟨h0,h1⟩
 rcases Adj.1 hr with hr | hr
 ·exact h.cs r hr p c hc
 rw[Adi.1 hr] at hc;cases hc
def LyV.elm {a:Nat} {s:Ly} (h:LyV a 16500 s) (recs:Bool) {e:Elm} (he:AH e.2 a=true) (h0:0<=e.1) (h1:e.1<1000000) (hr:s.rows.length+1<=1000000) (hk:recs=true->e.2.kind=6):LyV a 16500 (s.elm recs e):=by
 unfold Ly.elm;refine LyV.parts _ (h.row h0 h1) (by simp[Ly.row]) (by simpa[Ly.row] using hr) fun q hq=>?_;split at hq;·rename_i hrec;have:=TL e.2 a a [] he (Adm _) (hk hrec) q hq;refine this.mono ?_;rw[Adl];omega
 rw[Adi.1 hq];exact ⟨by simp[CY],Rq he⟩
def Adb (a:Nat) (f:Bool):LyV a 16500 (ly0 f):=⟨(fun x hx=>by cases hx),(fun x hx=>by cases hx),(fun x hx=>by cases hx),(fun x hx=>by cases hx),fun p=>⟨(fun hx=>by cases hx),fun hx=>absurd rfl hx⟩,Afi,fun p e he=>by cases he⟩
def gK_V {a:Nat} (recs f:Bool) (l:List Elm) (hl:l.length<=900000) (ho:∀ e∈l,AH e.2 a=true/\0<=e.1/\e.1<1000000) (hk:recs=true->∀ e∈l,e.2.kind=6):∀ k,k<=l.length->LyV a 16500 (gK recs f l k)
 | 0,_=>Adb a f
 | k+1,h=>by have hm:l.getD k noE∈l:=Cs (by omega);have hr:=Jb recs f l k (by omega);rw[Gg recs f l (by omega)];exact (gK_V recs f l hl ho hk k (by omega)).elm recs (ho _ hm).1 (ho _ hm).2.1 (ho _ hm).2.2 (by omega) fun q=>hk q _ hm
def ptZ:Pt->Nat
 | .c _ _=>0
 | .l _ kids=>Cf kids
def JC:List Pt->Nat
 | []=>0
 | q::r=>ptZ q+JC r
def Zr (a b:List Pt):JC (a++b)=JC a+JC b:=by
 induction a with
 | nil=>simp[JC]
 | cons x r ih=>simp only[List.cons_append,JC,ih];omega
mutual
def NL:∀ (n:Nd) (front:List UInt8),JC (Dw n front)<=Cf n.kids
 | .mk _ _ ks l,front=>L8 l front ks
def L8:∀ (l:List Nd) (front:List UInt8) (ks:List (List UInt8)),JC (Gs l front ks)<=Cf l
 | [],_,_=>Adm _
 | n::r,front,ks=>by
   have h2:=L8 r front ks.tail;have e:=Dx n;rw[EY,Zr,Cf];have h1:JC (if n.kind=6 then Dw n (front++ks.headD []++[46]) else if n.kind=5 then [.l (front++ks.headD []) n.kids] else [.c (front++ks.headD []) (AN n)])<=nsz n:=by
    split;·have:=NL n (front++ks.headD []++[46]);omega
    split;·simp only[JC,ptZ];omega
    simp only[JC,ptZ];omega
   omega
end
def KG (x:Int):∀ l:List Nd,Ct (l.map fun k=>(x,k))=Cf l
 | []=>rfl
 | n::r=>by rw[AeQ,Ct,Cf,KG x r]
def AcF (s:Ly) (q:Pt) (p:List UInt8):Ct ((s.part q).it p)<=Ct (s.it p)+ptZ q:=by
 cases q with
 | c y x=>exact Afr _ _
 | l y kids =>
  show Ct ((s.list y kids).it p)<=_
  unfold Ly.list;split;·exact Afr _ _
  show Ct (CO s.it y (s.it y++kids.map fun k=>((s.rows.length:Int)-1,k)) p)<=_
  by_cases e:p=y;·subst e;rw[Dc,Ov,KG];exact Adm _
  rw[CN _ _ e];exact Afr _ _
def WO:∀ (l:List Pt) (s:Ly) (p:List UInt8),Ct ((s.parts l).it p)<=Ct (s.it p)+JC l
 | [],_,_=>Adm _
 | q::r,s,p=>by have h1:=WO r (s.part q) p;have h2:=AcF s q p;have e:s.parts (q::r)=(s.part q).parts r:=rfl;rw[e,JC];omega
def gK_Z (recs f:Bool) (l:List Elm) (p:List UInt8):∀ k,k<=l.length->Ct ((gK recs f l k).it p)<=Ct (l.take k)
 | 0,_=>Afm _
 | k+1,h=>by
   have ih:=gK_Z recs f l p k (by omega);rw[Gg recs f l (by omega),LD (by omega)];unfold Ly.elm;have h1:=WO (if recs=true then Dw (l.getD k noE).2 [] else [.c CY (AN (l.getD k noE).2)]) ((gK recs f l k).row (l.getD k noE).1) p;have h2:JC (if recs=true then Dw (l.getD k noE).2 [] else [.c CY (AN (l.getD k noE).2)])<=nsz (l.getD k noE).2:=by
    have e:=Dx (l.getD k noE).2;split;·have:=NL (l.getD k noE).2 [];omega
    simp only[JC,ptZ];omega
   have h3:((gK recs f l k).row (l.getD k noE).1).it p=(gK recs f l k).it p:=rfl;rw[h3] at h1;omega
def X4 {l:List Elm} (h:(!l.any A4)=true):∀ e∈l,e.2.kind=6:=fun e he=>by simp only[Afy,Afz] at h;have:=h e he;simpa[A4,Ca] using this
def FI {a:Nat} (f:Bool) (l:List Elm) (hz:Ct l<=4000) (ho:∀ e∈l,AH e.2 a=true/\0<=e.1/\e.1<1000000) :
  LyV a 16500 (Av f l)/\LyB (Av f l) 4000/\(∀ p,Ct ((Av f l).it p)<=Ct l)/\(Av f l).rows.length=l.length/\(Av f l).above.length=l.length:=by
 have hl:=Ei l;have h1:=gK_V (a:=a) (!l.any A4) f l (by omega) ho (fun q=>X4 q) l.length (Adm _);have h2:=Sx (!l.any A4) f l (by omega) l.length (Adm _);have h3:=fun p=>gK_Z (!l.any A4) f l p l.length (Adm _);have h4:=Jb (!l.any A4) f l l.length (Adm _);have h5:=Ol (!l.any A4) f l l.length (Adm _);rw[Sw] at h1 h2 h3 h4 h5;rw[AfA] at h2 h3;exact ⟨h1,h2.mono hz,h3,h4,h5⟩
def Oj {a:Nat} (f:Bool) (l:List Elm) (hz:Ct l<=4000) (ho:∀ e∈l,AH e.2 a=true/\0<=e.1/\e.1<1000000):LyT (Av f l):=by obtain ⟨h1,h2,h3,h4,h5⟩:=FI (a:=a) f l hz ho;have hl:=Ei l;exact ⟨fun x hx=>by have:=h1.abv x hx;omega,by omega,by have:=h2.paths;omega,by omega,fun p hp=>by have:=h1.ps p hp;omega,fun r hr p c hc=>by have:=h1.cs r hr p c hc;omega⟩
def RF:∀ (n a:Nat) (f:Bool) (l:List Elm) (m:Nat),16<=a+n->Ct l<=4000->(∀ e∈l,AH e.2 a=true/\0<=e.1/\e.1<1000000)->m+n*16501<=1000000000->RG (n+1) (Av f l) m
 | 0,a,f,l,m,ha,hz,ho,hm=>by
   have hl:l=[]:=by
    cases l with
    | nil=>rfl
    | cons e r =>have:=(EA (ho e (by simp)).1).deep;omega
   subst hl;exact ⟨Oj (a:=a) f [] hz ho,by omega,Afm _,Afi,fun p hp=>by cases hp⟩
 | n+1,a,f,l,m,ha,hz,ho,hm=>by obtain ⟨h1,h2,h3,h4,h5⟩:=FI (a:=a) f l hz ho;refine ⟨Oj (a:=a) f l hz ho,by omega,by have:=h2.lists;omega,h1.nd,fun p hp=>?_⟩;have hp3:=h3 p;have hpl:=h1.ls p hp;exact ⟨fun e he=>Ks e.2 _ (h1.it p e he).1,by omega,RF n (a+1) true _ _ (by omega) (by omega) (fun e he=>h1.it p e he) (by rw[AfG] at hm;omega)⟩
def W8 {n:Nd} (hz:nsz n<=4000) {m:Nat} (hm:m<=1000000) (h:AH n 0=true):(∀ e∈BT n,GJ e.2)/\Ct (BT n)<=4000/\RG 17 (Av false (BT n)) m:=by
 have o:=EA h;have hk:∀ k∈CQ n,AH k 0=true:=fun k hk=>by
  unfold CQ at hk;split at hk;·exact I5 k 0 (o.kids k hk)
  rw[Adi.1 hk];exact h
 have hz2:Ct (BT n)<=4000:=by
  unfold BT;rw[KG];unfold CQ;split;·have:=Dx n;omega
  simp only[Cf];omega
 have ho:∀ e∈BT n,AH e.2 0=true/\0<=e.1/\e.1<1000000:=fun e he=>by obtain ⟨k,hk2,rfl⟩:=AfF.1 he;exact ⟨hk k hk2,by simp,by simp⟩
 exact ⟨fun e he=>Ks e.2 0 (ho e he).1,hz2,RF 16 0 false _ _ (by omega) hz2 ho (by omega)⟩
end
section
open Go Go.Proofs Go.Abs
def ZE:∀ a:Fin 5,∀ b:Fin 40,∀ e:Fin 6,(Num.decOk (Fb.getD a.val []++C1 b.val) && (Num.decOk (if Gt ((Fb.getD a.val []++C1 b.val).getD 0 0)=true then Fb.getD a.val []++C1 b.val else 48::(Fb.getD a.val []++C1 b.val)) &&
  (Num.decOk ((Fb.getD a.val []++C1 b.val)++(46::Dy.getD e.val [])) && Num.decOk ((if Gt ((Fb.getD a.val []++C1 b.val).getD 0 0)=true then Fb.getD a.val []++C1 b.val else 48::(Fb.getD a.val []++C1 b.val))++(46::Dy.getD e.val [])))))=true:=by decide
def PP (t:List Int) (k:Nat):Num.decOk (JH t k)=true:=by
 have h1:=@pk_range t k 5 (by decide);have h2:=@pk_range t (k+1) 40 (by decide);have h3:=@pk_range t (k+4) 6 (by decide);have:=ZE ⟨(pk t k 5).toNat,by omega⟩ ⟨(pk t (k+1) 40).toNat,by omega⟩ ⟨(pk t (k+4) 6).toNat,by omega⟩;simp only[AeJ] at this;obtain ⟨q1,q2,q3,q4⟩:=this;unfold JH Kv Il;by_cases c1:pk t (k+3) 3=0
 ·rw[if_pos c1];by_cases c2:pk t (k+2) 3=0;·rw[if_pos c2];exact q4
  rw[if_neg c2];exact q3
 rw[if_neg c1];by_cases c2:pk t (k+2) 3=0;·rw[if_pos c2];exact q2
 rw[if_neg c2];exact q1
def Ge:List (List UInt8):=[[97],[98],[97,46,98],[99],[],[114,111,119]]
def KA (t:List Int) (k:Nat):List UInt8:=Ge.getD (pk t k 6).toNat []
def Ef (f:Nat->Nd × Nat):Nat->List Nd->Nat->List Nd × Nat
 | 0,l,k=>(l,k)
 | m+1,l,k=>Ef f m (l++[(f k).1]) (f k).2
def Du (t:List Int) (f:Nat->Nd × Nat):Nat->List (List UInt8)->List Nd->Nat->(List (List UInt8) × List Nd) × Nat
 | 0,ks,l,k=>((ks,l),k)
 | m+1,ks,l,k=>if KA t k∈ks then Du t f m ks l (k+1) else Du t f m (ks++[KA t k]) (l++[(f (k+1)).1]) (f (k+1)).2
def Eb (t:List Int) (f:Nat->Nd × Nat) (k:Nat):Nd × Nat :=
 (.mk 6 [] (Du t f (pk t k 4).toNat [] [] (k+1)).1.1 (Du t f (pk t k 4).toNat [] [] (k+1)).1.2,(Du t f (pk t k 4).toNat [] [] (k+1)).2)
def Cv (t:List Int):Nat->Nat->Nd × Nat
 | 0,k=>(.mk 1 [] [] [],k)
 | d+1,k =>
  if pk t k 8=0 then (.mk 1 [] [] [],k+1)
  else if pk t k 8=1 then (.mk 2 (if pk t (k+1) 2=0 then H8 else Iw) [] [],k+2)
  else if pk t k 8=2 then (.mk 3 (JH t (k+1)) [] [],O9 t (k+1))
  else if pk t k 8<5\/d=0 then (.mk 4 (FK t (k+2) (pk t (k+1) 8).toNat) [] [],fieldK t (k+2) (pk t (k+1) 8).toNat)
  else if pk t k 8=5 then (.mk 5 [] [] (Ef (Cv t d) (pk t (k+1) 4).toNat [] (k+2)).1,(Ef (Cv t d) (pk t (k+1) 4).toNat [] (k+2)).2)
  else Eb t (Cv t d) (k+1)
def Lp {a:Nat}:∀ {l:List Nd},(∀ n∈l,AH n a=true)->BF l a=true
 | [],_=>rfl
 | n::r,h=>by rw[BF,h n (by simp),Lp fun x hx=>h x (AaZ _ hx)];rfl
def Si {z:Nat}:∀ {l:List Nd},(∀ n∈l,nsz n<=z)->Cf l<=z*l.length
 | [],_=>Afm _
 | n::r,h=>by have h1:=h n (by simp);have h2:=Si (l:=r) fun x hx=>h x (AaZ _ hx);rw[Cf,Ac7,Nat.mul_succ];omega
def Aae:∀ s∈Ge,AP s=true:=by decide
def Yh {s:List UInt8} (h:s∈Ge\/s=[]):AP s=true:=by
 rcases h with h | h
 ·exact Aae s h
 subst h;rfl
def VS:∀ s∈wordsL,AP s=true:=by decide
def VV:∀ s∈IE,AP s=true:=by decide
def VT:∀ s∈Im,AP s=true:=by decide
def Yg:∀ s∈Md,AP s=true:=by decide
mutual
def kA:Nd->Prop
 | .mk _ _ ks l=>(∀ s∈ks,B9 s/\s.length<=3)/\kAs l
def kAs:List Nd->Prop
 | []=>True
 | n::r=>kA n/\kAs r
end
def VM:∀ {l:List Nd},(∀ n∈l,kA n)->kAs l
 | [],_=>trivial
 | n::r,h=>⟨h n (by simp),VM fun x hx=>h x (AaZ _ hx)⟩
mutual
def wN:Nd->Nat
 | .mk k _ _ l=>if k=5\/k=6 then wNs l else 1
def wNs:List Nd->Nat
 | []=>0
 | n::r=>wN n+wNs r
end
mutual
def qN:Nd->Nat
 | .mk k _ _ l=>(if k=5 then 1 else 0)+qNs l
def qNs:List Nd->Nat
 | []=>0
 | n::r=>qN n+qNs r
end
def dec_ascii (n:Nat):B9 (Lib.decDigits n):=by
 induction n using Nat.strongRecOn with
 | _ n ih =>
  rcases Afx n 10 with h | h
  ·rw[Lib.decDigits_one h];intro c hc;rw[Adi.1 hc];simp only[UInt8.toNat_ofNat'];omega
  rw[Lib.decDigits,dif_neg (by omega)];refine BV (ih (n / 10) (by omega)) ?_;intro c hc;rw[Adi.1 hc];simp only[UInt8.toNat_ofNat'];omega
end
namespace Num
open Go Go.Proofs Go.Abs
variable {G:Ah}
def trimLeftSet_spec (s l:List UInt8) (hs:s.length<=9223372036854775807) (hl:l.length<2^62) (h2:2<=l.length) (ha:∀ b∈l,b.toNat<128):Ctr TP G 114 [.d (S s),.d (S l)] [] (.d (S (trimL l s))) []:=by
 refine Ctr.pure (M:=M0) Am Tryz.func114 rfl Aev ?_;have q:=@setB_length l;simp(disch:=(try simp only[Ab]);omega)only[Af,Tryz.f114,↓Aa,Ac,↓reduceIte,↓Qe,Qu,Qv];refine ⟨fun h=>⟨fun h3=>?_,fun h3=>?_⟩,fun h=>?_⟩;·subst h3;simp at h2
 ·refine Ad.pure (makeSet_spec l hl ha) ?_;have tk:(setD l).take 256=setD l:=List.take_of_length_le (by rw[setD_length];omega);simp(disch:=(try simp only[Ab]);omega)only[↓ setB_putL',setB_putL',setB_fold,q,setB_refs,setB_pass,setB_sids,↓Aa,Ac,↓reduceIte,Qu];refine ⟨setB_one,?_⟩;refine Ad.by (LS l s hs) (by rfl) (by rfl) (Adm _) ?_;simp(disch:=(try simp only[Ab]);omega)only[setB_ren,↓Aa,Ac,↓reduceIte,↓Qe]
 subst h;rfl
end Num
section
open Go Go.Proofs Go.Abs
def Jy:List UInt8:=[32,9,10,13]
def Cj (s:List UInt8):List UInt8:=Num.trimL Jy s
def Fv (s:List UInt8):(Cj s).length<=s.length:=(Aft _).length_le
def sgn (c:UInt8) (s:List UInt8):List UInt8 × Bool:=match Cj s with
 | []=>([],false)
 | x::r=>if x=c then (r,true) else (x::r,false)
def WG {c:UInt8} {s:List UInt8} (h:Cj s=[]):sgn c s=([],false):=by unfold sgn;rw[h]
def WF {c:UInt8} {s r:List UInt8} (h:Cj s=c::r):sgn c s=(r,true):=by unfold sgn;rw[h];simp
def Zc {c b:UInt8} {s r:List UInt8} (h:Cj s=b::r) (hb:¬b=c):sgn c s=(b::r,false):=by unfold sgn;rw[h];simp[hb]
def Pp (c:UInt8) (s:List UInt8):(sgn c s=(Cj s,false)/\(Cj s).head?≠some c)\/∃ r,Cj s=c::r/\sgn c s=(r,true):=by
 cases h:Cj s with
 | nil=>exact .inl ⟨WG h,by simp⟩
 | cons b r =>
  by_cases e:b=c;·subst e;exact .inr ⟨r,rfl,WF h⟩
  exact .inl ⟨Zc h e,by simpa using e⟩
def Bs (c:UInt8) (s:List UInt8):(sgn c s).1.length<=s.length:=by
 have:=Fv s;rcases Pp c s with ⟨h,_⟩ | ⟨r,h1,h⟩
 ·rw[h];exact this
 rw[h];rw[h1,Ac7] at this;simp only;omega
def FA {c:UInt8} {s:List UInt8} (h:(sgn c s).2=true):(sgn c s).1.length+1<=s.length:=by
 have:=Fv s;rcases Pp c s with ⟨e,_⟩ | ⟨r,h1,e⟩
 ·rw[e] at h;cases h
 rw[e];rw[h1,Ac7] at this;simp only;omega
def Jn (b:UInt8):UInt8:=if b=92 then 92 else if b=34 then 34 else if b=110 then 10 else if b=114 then 13 else if b=116 then 9 else 0
def Ec:List UInt8->List UInt8->List UInt8 × List UInt8 × Bool
 | [],_=>([],[],false)
 | [c],out=>if c=34 then ([],out,true) else ([],[],false)
 | c::e::r,out=>if c=34 then (e::r,out,true) else if c<32 then (e::r,[],false) else if c=92 then (if Jn e=0 then (e::r,[],false) else Ec r (out++[Jn e])) else Ec (e::r) (out++[c])
def NJ (out:List UInt8):Ec [] out=([],[],false):=by rw[Ec]
def TC (r out:List UInt8):Ec (34::r) out=(r,out,true):=by cases r<;>rw[Ec]<;>simp
def TD {c:UInt8} (h:c<32) (h2:¬c=34) (r out:List UInt8):Ec (c::r) out=(r,[],false):=by
 cases r with
 | nil=>rw[Ec,if_neg h2]
 | cons e r=>rw[Ec,if_neg h2,if_pos h]
def PI (out:List UInt8):Ec [92] out=([],[],false):=by rw[Ec,if_neg (by decide)]
def TE {e:UInt8} (h:Jn e=0) (r out:List UInt8):Ec (92::e::r) out=(e::r,[],false):=by rw[Ec,if_neg (by decide),if_neg (by decide),if_pos rfl,if_pos h]
def TB {e:UInt8} (h:¬Jn e=0) (r out:List UInt8):Ec (92::e::r) out=Ec r (out++[Jn e]):=by rw[Ec,if_neg (by decide),if_neg (by decide),if_pos rfl,if_neg h]
def PJ {c:UInt8} (h1:¬c=34) (h2:¬c<32) (h3:¬c=92) (r out:List UInt8):Ec (c::r) out=Ec r (out++[c]):=by
 cases r with
 | nil=>rw[NJ,Ec,if_neg h1]
 | cons e r=>rw[Ec,if_neg h1,if_neg h2,if_neg h3]
def G9 {P:List UInt8->List UInt8->List UInt8 × List UInt8 × Bool->Prop} (p0:∀ out,P [] out ([],[],false)) (p1:∀ r out,P (34::r) out (r,out,true)) (p2:∀ c r out,P (c::r) out (r,[],false))
  (p3:∀ e r out,P r (out++[Jn e]) (Ec r (out++[Jn e]))->P (92::e::r) out (Ec r (out++[Jn e]))) (p4:∀ c r out,P r (out++[c]) (Ec r (out++[c]))->P (c::r) out (Ec r (out++[c]))) :
  ∀ (n:Nat) (s out:List UInt8),s.length<=n->P s out (Ec s out)
 | _,[],out,_=>by rw[NJ];exact p0 out
 | 0,c::r,out,h=>by simp at h
 | n+1,c::r,out,h=>by
   rw[Ac7] at h;by_cases h34:c=34;·subst h34;rw[TC];exact p1 r out
   by_cases h32:c<32;·rw[TD h32 h34];exact p2 c r out
   by_cases h92:c=92
   ·subst h92;cases r with
    | nil=>rw[PI];exact p2 92 [] out
    | cons e r2 =>
     rw[Ac7] at h;by_cases e0:Jn e=0;·rw[TE e0];exact p2 92 (e::r2) out
     rw[TB e0];exact p3 e r2 out (G9 p0 p1 p2 p3 p4 n r2 _ (by omega))
   rw[PJ h34 h32 h92];exact p4 c r out (G9 p0 p1 p2 p3 p4 n r _ (by omega))
def TA (n:Nat) (s out:List UInt8) (h:s.length<=n):(Ec s out).1.length<=s.length:=by
 refine G9 (P:=fun s out r=>r.1.length<=s.length) (fun _=>Adm _) (fun r _=>by simp) (fun c r _=>by simp) (fun e r out ih=>?_) (fun c r out ih=>?_) n s out h;·simp only[Ac7];omega
 simp only[Ac7];omega
def Zq (n:Nat) (s out:List UInt8) (h:s.length<=n):(Ec s out).2.1.length<=s.length+out.length:=by
 refine G9 (P:=fun s out r=>r.2.1.length<=s.length+out.length) (fun out=>by simp) (fun r out=>by simp only[Ac7];omega) (fun c r out=>by simp) (fun e r out ih=>?_) (fun c r out ih=>?_) n s out h;·simp only[Adk,Ac7,Adl] at ih ⊢;omega
 simp only[Adk,Ac7,Adl] at ih ⊢;omega
def quo (s:List UInt8):List UInt8 × List UInt8 × Bool:=if (sgn 34 s).2=true then Ec (sgn 34 s).1 [] else ((sgn 34 s).1,[],false)
def WN (s:List UInt8):(quo s).1.length<=s.length:=by
 have:=Bs 34 s;unfold quo;split;·have:=TA _ (sgn 34 s).1 [] (Adm _);omega
 exact this
def Zp {s:List UInt8} (h:(quo s).2.2=true):(quo s).1.length+1<=s.length:=by
 unfold quo at h ⊢;split at h;·rename_i e;rw[if_pos e];have:=FA e;have:=TA _ (sgn 34 s).1 [] (Adm _);omega
 cases h
def WM (s:List UInt8):(quo s).2.1.length<=s.length:=by
 have:=Bs 34 s;unfold quo;split;·have:=Zq _ (sgn 34 s).1 [] (Adm _);simp only[Adl] at this;omega
 simp
def Ow:List UInt8:=[48,49,50,51,52,53,54,55,56,57]
def Fq (s:List UInt8):Nat:=s.length-(Num.trimL Ow s).length
def Gi (s:List UInt8):Fq s<=s.length:=Nat.sub_le _ _
def Fk (s:List UInt8):Nat:=match s with
 | []=>0
 | c::_=>if c=43\/c=45 then 1 else 0
def Abg (s:List UInt8):Fk s<=s.length:=by
 cases s with
 | nil=>simp[Fk]
 | cons c r=>simp only[Fk,Ac7];split<;>omega
def Sg (s:List UInt8):Nat :=
 if Fq (s.drop (Fk s))=0 then 0
 else if hasP (s.drop (Fk s+Fq (s.drop (Fk s)))) [46]=true/\0<Fq (s.drop (Fk s+Fq (s.drop (Fk s))+1)) then
  Fk s+Fq (s.drop (Fk s))+(1+Fq (s.drop (Fk s+Fq (s.drop (Fk s))+1)))
 else Fk s+Fq (s.drop (Fk s))
def WW (s:List UInt8):Sg s<=s.length:=by
 have h1:=Abg s;have h2:=Gi (s.drop (Fk s));have h3:=Gi (s.drop (Fk s+Fq (s.drop (Fk s))+1));rw[Adp] at h2 h3;unfold Sg;split;·omega
 split;·rename_i h;omega
 omega
def Sh:List UInt8:=[110,117,108,108]
def GE (s:List UInt8):List UInt8 × Nd × Bool :=
 if hasP (Cj s) [34]=true then ((quo (Cj s)).1,.mk 4 (quo (Cj s)).2.1 [] [],(quo (Cj s)).2.2)
 else if hasP (Cj s) Sh=true then ((Cj s).drop 4,.mk 1 [] [] [],true)
 else if hasP (Cj s) H8=true then ((Cj s).drop 4,.mk 2 H8 [] [],true)
 else if hasP (Cj s) Iw=true then ((Cj s).drop 5,.mk 2 Iw [] [],true)
 else ((Cj s).drop (Sg (Cj s)),.mk 3 ((Cj s).take (Sg (Cj s))) [] [],decide (0<Sg (Cj s)))
def WK {s:List UInt8} (h:(GE s).2.2=true):(GE s).1.length+1<=s.length:=by
 have hw:=Fv s;unfold GE at h ⊢;split at h;·rename_i e;rw[if_pos e];have:=Zp (s:=Cj s) h;simp only;omega
 rename_i e;rw[if_neg e];split at h;·rename_i e2;rw[if_pos e2];have:=hasP_le e2;simp only[Adp,Sh,Ac7,Adl] at this ⊢;omega
 rename_i e2;rw[if_neg e2];split at h;·rename_i e3;rw[if_pos e3];have:=hasP_le e3;simp only[Adp,H8,Ac7,Adl] at this ⊢;omega
 rename_i e3;rw[if_neg e3];split at h;·rename_i e4;rw[if_pos e4];have:=hasP_le e4;simp only[Adp,Iw,Ac7,Adl] at this ⊢;omega
 rename_i e4;rw[if_neg e4];have:=of_decide_eq_true h;have:=WW (Cj s);simp only[Adp];omega
inductive PSt where
 | beg (rest:List UInt8) (st:List Nd)
 | got (rest:List UInt8) (st:List Nd) (n:Nd)
 | bad
def FT (t:Nd) (k:List UInt8):Nd:=.mk t.kind t.text (t.keys++[k]) t.kids
def CW (t:Nd) (n:Nd):Nd:=.mk t.kind t.text t.keys (t.kids++[n])
def FW (rest:List UInt8) (t:Nd) (st:List Nd):PSt :=
 if t.kind=5 then .beg rest (t::st)
 else if (quo rest).2.2=true/\(sgn 58 (quo rest).1).2=true then .beg (sgn 58 (quo rest).1).1 (FT t (quo rest).2.1::st) else .bad
def A9 (k:Int):UInt8:=if k=5 then 93 else 125
def Jm (k:Int) (rest:List UInt8) (st:List Nd):PSt :=
 if (sgn (A9 k) rest).2=true then .got (sgn (A9 k) rest).1 st (.mk k [] [] []) else FW (sgn (A9 k) rest).1 (.mk k [] [] []) st
def Fs (rest:List UInt8) (st:List Nd):PSt :=
 if (sgn 91 rest).2=true then Jm 5 (sgn 91 rest).1 st
 else if (sgn 123 (sgn 91 rest).1).2=true then Jm 6 (sgn 123 (sgn 91 rest).1).1 st
 else if (GE (sgn 123 (sgn 91 rest).1).1).2.2=true then .got (GE (sgn 123 (sgn 91 rest).1).1).1 st (GE (sgn 123 (sgn 91 rest).1).1).2.1 else .bad
def MC (rest:List UInt8) (t:Nd) (st:List Nd) (n:Nd):PSt :=
 if (sgn 44 rest).2=true then FW (sgn 44 rest).1 (CW t n) st
 else if (sgn (A9 t.kind) (sgn 44 rest).1).2=true then .got (sgn (A9 t.kind) (sgn 44 rest).1).1 st (CW t n) else .bad
def muP:PSt->Nat
 | .beg r _=>r.length+2
 | .got r _ _=>r.length+2
 | .bad=>1
def W5 (rest:List UInt8) (t:Nd) (st:List Nd):muP (FW rest t st)<=rest.length+2:=by
 unfold FW;split;·exact Adm _
 split
 ·have h1:=Bs 58 (quo rest).1;have h2:=WN rest;show (sgn 58 (quo rest).1).1.length+2<=_
  omega
 show 1<=_;omega
def WR (k:Int) (rest:List UInt8) (st:List Nd):muP (Jm k rest st)<=rest.length+2:=by
 have h1:=Bs (A9 k) rest;unfold Jm;split;·show (sgn (A9 k) rest).1.length+2<=_;omega
 have:=W5 (sgn (A9 k) rest).1 (.mk k [] [] []) st;omega
def SQ (rest:List UInt8) (st:List Nd):muP (Fs rest st)<rest.length+2:=by
 have h1:=Bs 91 rest;have h2:=Bs 123 (sgn 91 rest).1;unfold Fs;split
 ·rename_i e;have:=FA e;have:=WR 5 (sgn 91 rest).1 st;omega
 split;·rename_i e;have:=FA e;have:=WR 6 (sgn 123 (sgn 91 rest).1).1 st;omega
 split
 ·rename_i e;have:=WK e;show (GE (sgn 123 (sgn 91 rest).1).1).1.length+2<_
  omega
 show 1<_;omega
def M6 (rest:List UInt8) (t:Nd) (st:List Nd) (n:Nd):muP (MC rest t st n)<rest.length+2:=by
 have h1:=Bs 44 rest;have h2:=Bs (A9 t.kind) (sgn 44 rest).1;unfold MC;split
 ·rename_i e;have:=FA e;have:=W5 (sgn 44 rest).1 (CW t n) st;omega
 split
 ·rename_i e;have:=FA e;show (sgn (A9 t.kind) (sgn 44 rest).1).1.length+2<_
  omega
 show 1<_;omega
def XL:Nat->PSt->Option (List UInt8 × Nd)
 | 0,_=>none
 | k+1,x=>match x with
   | .bad=>none
   | .beg r st=>XL k (Fs r st)
   | .got r [] n=>some (r,n)
   | .got r (t::st) n=>XL k (MC r t st n)
def IX:∀ (a b:Nat) (x:PSt),muP x<=a->muP x<=b->XL a x=XL b x
 | 0,_,x,h,_=>by cases x<;>simp[muP] at h
 | _,0,x,_,h=>by cases x<;>simp[muP] at h
 | a+1,b+1,x,ha,hb=>by
   cases x with
   | bad=>rfl
   | beg r st =>have:=SQ r st;simp only[muP] at ha hb;exact IX a b (Fs r st) (by omega) (by omega)
   | got r st n =>
    cases st with
    | nil=>rfl
    | cons t st =>have:=M6 r t st n;simp only[muP] at ha hb;exact IX a b (MC r t st n) (by omega) (by omega)
def JA (x:PSt):Option (List UInt8 × Nd):=XL (muP x) x
def Ig:JA .bad=none:=rfl
def Zn (r:List UInt8) (st:List Nd):JA (.beg r st)=JA (Fs r st):=by have:=SQ r st;exact IX (r.length+1) _ (Fs r st) (by omega) (Adm _)
def Tx (r:List UInt8) (t:Nd) (st:List Nd) (n:Nd):JA (.got r (t::st) n)=JA (MC r t st n):=by have:=M6 r t st n;exact IX (r.length+1) _ (MC r t st n) (by omega) (Adm _)
def NP (data:List UInt8):Nd × Int :=
 match JA (.beg data []) with
 | none=>(noN,4)
 | some (r,n)=>if Lib.validD data=true/\Cj r=[] then (if AH n 0=true then (n,0) else (noN,1)) else (noN,4)
def okP (N:Nat):PSt->Prop
 | .beg r st=>st.length+r.length<=N/\∀ t∈st,t.keys.length+r.length<=N/\t.kids.length+r.length<=N
 | .got r st n=>st.length+r.length+1<=N/\∀ t∈st,t.keys.length+r.length+1<=N/\t.kids.length+r.length+1<=N
 | .bad=>True
end
section
open Go Go.Proofs Go.Abs
variable {G:Ah}
abbrev psB (s:List UInt8) (v:Value):Ae:=.box [.d (S s),.d (.val v)]
def Nt (s:List UInt8) (hs:s.length<=9223372036854775807):Ctr TP G 114 [.d (S s),.d (S Jy)] [] (.d (S (Cj s))) [] :=
 Num.trimLeftSet_spec s Jy hs (by decide) (by decide) (by decide)
def Pk {b c:UInt8} (h:¬b=c):¬((b.toNat:Int)=(c.toNat:Int)):=fun e=>h (UInt8.toNat_inj.1 (by omega))
def G4 (c:UInt8) (s:List UInt8) (hs:s.length<=9223372036854775807) (v:Value) :
  Ctr TP G 80 [.ptr 0 0,.d (.int .u8 c.toNat)] [psB s v] (.d (.bool (sgn c s).2)) [psB (sgn c s).1 v]:=by
 have ht:=Nt (G:=G) s hs;have hlen:=Fv s;obtain ⟨r,hr⟩:∃ r,r=sgn c s:=⟨_,rfl⟩;rw[<-hr];refine Ctr.body (M:=M0) Am Tryz.func80 rfl go80 ?_;simp(disch:=(try simp only[Ab]);omega)only[Tryz.f80,↓Aa,Ac,↓reduceIte,Qu,Qv];refine Ad.of ht (by rfl) ?_;rcases hk:Cj s with _ | ⟨b,q⟩
 ·rw[WG hk] at hr;subst hr;simp(disch:=(try simp only[Ab]);omega)only[Af,↓Aa,Ac,↓reduceIte,Qu];first
  | exact ⟨[some 0],rfl,by simp,by simp[HW,BW,SW,AW],.inl (by simp[AW])⟩
 rw[hk] at hlen;have hcn:(b::q=[])=False:=by simp
 by_cases e:b=c
 ·subst e;rw[WF hk] at hr;subst hr;simp(disch:=(try simp only[Ab]);omega)only[Af,hcn,↓Aa,Ac,↓reduceIte,Qu,QF];first
  | exact ⟨[some 0],rfl,by simp,by simp[HW,BW,SW,AW],.inl (by simp[AW])⟩
 rw[Zc hk e] at hr;have e2:=Pk e;subst hr;simp(disch:=(try simp only[Ab]);omega)only[Af,hcn,e2,↓Aa,Ac,↓reduceIte,Qu];first
 | exact ⟨[some 0],rfl,by simp,by simp[HW,BW,SW,AW],.inl (by simp[AW])⟩
def Ym:List (D × D):=[(.int .u8 92,.int .u8 92),(.int .u8 34,.int .u8 34),(.int .u8 110,.int .u8 10),(.int .u8 114,.int .u8 13),(.int .u8 116,.int .u8 9)]
def Gx:Ctr TP G 156 [] [] (.mp 0) [.map Ym]:=by
 refine Ctr.body (M:=M0) Am Tryz.func156 rfl AdY ?_;simp(disch:=(try simp only[Ab]);omega)only[Tryz.f156,↓Aa,Ac,↓reduceIte];refine ⟨by rfl,by rfl,by rfl,by rfl,by rfl,?_⟩;show Jp 0 [.map Ym] (.mp 0) (.mp 0) [.map Ym]
 first
 | exact ⟨[some 0],rfl,by simp,by simp[HW,BW],.inl (by simp[AW])⟩
def Yl (c:UInt8):DI (.int .u8 0) Ym (.int .u8 c.toNat) false=.int .u8 (Jn c).toNat:=by
 have k:∀ n:Nat,n<256->CJ (.int .u8 c.toNat) (.int .u8 n)=decide (c=UInt8.ofNat n):=fun n hn=>by
  unfold CJ;by_cases e:c=UInt8.ofNat n
  ·subst e;have:(UInt8.ofNat n).toNat=n:=by simp;omega
   rw[this];simp
  have:¬((c.toNat:Int)=(n:Int)):=fun q=>e (UInt8.toNat_inj.1 (by
   have:(UInt8.ofNat n).toNat=n:=by simp;omega
   omega))
  simp[e,this]
 unfold DI Ym;simp only[B6];unfold Jn;by_cases e1:c=92;·subst e1;rfl
 by_cases e2:c=34;·subst e2;rfl
 by_cases e3:c=110;·subst e3;rfl
 by_cases e4:c=114;·subst e4;rfl
 by_cases e5:c=116;·subst e5;rfl
 have q1:CJ (.int .u8 c.toNat) (.int .u8 92)=false:=by rw[show (92:Int)=((92:Nat):Int) from rfl,k 92 (by omega)];exact decide_eq_false e1
 have q2:CJ (.int .u8 c.toNat) (.int .u8 34)=false:=by rw[show (34:Int)=((34:Nat):Int) from rfl,k 34 (by omega)];exact decide_eq_false e2
 have q3:CJ (.int .u8 c.toNat) (.int .u8 110)=false:=by rw[show (110:Int)=((110:Nat):Int) from rfl,k 110 (by omega)];exact decide_eq_false e3
 have q4:CJ (.int .u8 c.toNat) (.int .u8 114)=false:=by rw[show (114:Int)=((114:Nat):Int) from rfl,k 114 (by omega)];exact decide_eq_false e4
 have q5:CJ (.int .u8 c.toNat) (.int .u8 116)=false:=by rw[show (116:Int)=((116:Nat):Int) from rfl,k 116 (by omega)];exact decide_eq_false e5
 simp[q1,q2,q3,q4,q5,e1,e2,e3,e4,e5]
def H7 (used:Bool) (l:List UInt8) (c:UInt8) (hl:l.length<=10000000000000) (y:List UInt8) (hy:l++[c]=y) :
  Ctr TP G 70 [.ptr 0 0,.d (.int .u8 c.toNat)] (BL used l) .undef [.bld 79 true y.length (some 2),.dead,.buf 5 y]:=by
 subst hy;exact Ng used l c hl
def MQ7:Ci:=fun k=>Afh k 2000004
def AeY:MQ7 2000004=true:=rfl
def Ff {k:Nat} (h:¬k=2000004):MQ7 k=false:=by
 cases e:MQ7 k with
 | false=>rfl
 | true=>exact absurd (Aet e) h
def Sz:Eg TP 5 Ym=true:=by rfl
def Kt (s:List UInt8) (hs:s.length<=1000000000) (v:Value) :
  Ctr TP G 115 [.ptr 0 0] [psB s v] (.d (.tup [S (quo s).2.1,.bool (quo s).2.2])) [psB (quo s).1 v]:=by
 have hsg:=G4 (G:=G) 34 s (by omega) v;have hsl:=Bs 34 s;obtain ⟨r,hr⟩:∃ r,r=quo s:=⟨_,rfl⟩;rw[<-hr];unfold quo at hr;generalize sgn 34 s=g at *;obtain ⟨g1,g2⟩:=g;simp only at hr hsl hsg;refine Ctr.body (M:=MQ7) Am Tryz.func115 rfl Aeu ?_;simp(disch:=(try simp only[Ab]);omega)only[Ff,Tryz.f115,↓Aa,Ac,↓reduceIte,Qu,Qv];refine Ad.by hsg (by rfl) (by rfl) (by simp) ?_;cases g2
 ·rw[if_neg (by simp)] at hr;subst hr;simp(disch:=(try simp only[Ab]);omega)only[↓Aa,Ac,↓reduceIte];first
  | (refine ⟨[some 0],rfl,by simp,by simp[HW,BW,SW,AW],.inr ⟨_,rfl,?_,rfl⟩⟩;rfl)
  | (refine ⟨by rfl,⟨[some 0],rfl,by simp,by simp[HW,BW,SW,AW],.inr ⟨_,rfl,?_,rfl⟩⟩⟩;rfl)
 rw[if_pos rfl] at hr;simp(disch:=(try simp only[Ab]);omega)only[↓Aa,Ac,↓reduceIte,Qu];refine Ak.fr 17 (α:=List UInt8 × List UInt8 × Bool) (fun x=>x.1.length) (fun x=>[]) (fun x=>[psB x.1 v,.bld 79 x.2.2 x.2.1.length (some 2),.buf 5 x.2.1])
  (fun x=>Ec x.1 x.2.1=r/\x.1.length+x.2.1.length<=g1.length) (g1,[],false) ⟨hr.symm,by simp⟩ ?_ ?_
 ·exact ⟨[some 0,some 1,none],rfl,by simp,by simp[sA,kZ,SW,AW],by simp[HW,BW,SW,AW]⟩
 rintro ⟨rest,out,used⟩ ⟨b1,b2⟩;simp only at b1 b2;simp only[Bi,Afo,Afp];cases rest with
 | nil =>
  rw[NJ] at b1;subst b1;simp(disch:=(try simp only[Ab]);omega)only[Af,Ff,↓Aa,Ac,↓reduceIte,Qu];first
  | (refine ⟨[some 0],rfl,by simp,by simp[HW,BW,SW,AW],.inr ⟨_,rfl,?_,rfl⟩⟩;rfl)
  | (refine ⟨by rfl,⟨[some 0],rfl,by simp,by simp[HW,BW,SW,AW],.inr ⟨_,rfl,?_,rfl⟩⟩⟩;rfl)
 | cons c q =>
  rw[Ac7] at b2;have hcn:(c::q=[])=False:=by simp
  by_cases c34:c=34
  ·have hc:(c.toNat:Int)=34:=(by rw[c34];rfl);rw[c34,TC] at b1;subst b1;simp(disch:=(try simp only[Ab]);omega)only[Af,hcn,hc,Ff,↓Aa,Ac,↓reduceIte,Qu,QF,QK];refine Ad.by (Tn used out) (by rfl) (by rfl) (by simp) ?_;simp(disch:=(try simp only[Ab]);omega)only[↓Aa,Ac,↓reduceIte,Qu];first
   | (refine ⟨[some 0],rfl,by simp,by simp[HW,BW,SW,AW],.inr ⟨_,rfl,?_,rfl⟩⟩;rfl)
   | (refine ⟨by rfl,⟨[some 0],rfl,by simp,by simp[HW,BW,SW,AW],.inr ⟨_,rfl,?_,rfl⟩⟩⟩;rfl)
  have hc:¬(c.toNat:Int)=34:=Pk c34;by_cases c32:c<32
  ·have hc2:(c.toNat:Int)<32:=(by have:=UInt8.lt_iff_toNat_lt.1 c32;have e:(32:UInt8).toNat=32:=rfl;rw[e] at this;omega);rw[TD c32 c34] at b1;subst b1;simp(disch:=(try simp only[Ab]);omega)only[Af,hcn,hc,hc2,Ff,↓Aa,Ac,↓reduceIte,Qu,QF];first
   | (refine ⟨[some 0],rfl,by simp,by simp[HW,BW,SW,AW],.inr ⟨_,rfl,?_,rfl⟩⟩;rfl)
   | (refine ⟨by rfl,⟨[some 0],rfl,by simp,by simp[HW,BW,SW,AW],.inr ⟨_,rfl,?_,rfl⟩⟩⟩;rfl)
  have hc2:¬(c.toNat:Int)<32:=by have:¬c.toNat<32:=fun q=>c32 (UInt8.lt_iff_toNat_lt.2 q);omega
  by_cases c92:c=92
  ·have hc3:(c.toNat:Int)=92:=(by rw[c92];rfl);cases q with
   | nil =>
    rw[c92,PI] at b1;subst b1;simp(disch:=(try simp only[Ab]);omega)only[Af,hcn,hc3,Ff,↓Aa,Ac,↓reduceIte,Qu,QF];first
    | (refine ⟨[some 0],rfl,by simp,by simp[HW,BW,SW,AW],.inr ⟨_,rfl,?_,rfl⟩⟩;rfl)
    | (refine ⟨by rfl,⟨[some 0],rfl,by simp,by simp[HW,BW,SW,AW],.inr ⟨_,rfl,?_,rfl⟩⟩⟩;rfl)
   | cons e q2 =>
    rw[Ac7] at b2;have hen:(e::q2=[])=False:=(by simp)
    have hk:=Yl e;by_cases e0:Jn e=0
    ·have he:((Jn e).toNat:Int)=0:=(by rw[e0];rfl);rw[c92,TE e0] at b1;subst b1;simp(disch:=(try simp only[Ab]);omega)only[Af,hcn,hen,hc3,Ff,↓Aa,Ac,↓reduceIte,Qu,QF];refine Ad.by (L:=[]) Gx (by rfl) (by rfl) (by simp) ?_;simp(disch:=(try simp only[Ab]);omega)only[Af,hk,he,Sz,Ff,↓Aa,Ac,↓reduceIte,Qu];first
     | (refine ⟨[some 0],rfl,by simp,by simp[HW,BW,SW,AW],.inr ⟨_,rfl,?_,rfl⟩⟩;rfl)
     | (refine ⟨by rfl,⟨[some 0],rfl,by simp,by simp[HW,BW,SW,AW],.inr ⟨_,rfl,?_,rfl⟩⟩⟩;rfl)
    have he:¬((Jn e).toNat:Int)=0:=Pk e0;rw[c92,TB e0] at b1;simp(disch:=(try simp only[Ab]);omega)only[Af,hcn,hen,hc3,Ff,↓Aa,Ac,↓reduceIte,Qu,QF];refine Ad.by (L:=[]) Gx (by rfl) (by rfl) (by simp) ?_;simp(disch:=(try simp only[Ab]);omega)only[Af,hk,he,Sz,Ff,↓Aa,Ac,↓reduceIte,Qu];refine ⟨by rfl,?_⟩;refine Ad.by (L:=[]) Gx (by rfl) (by rfl) (by simp) ?_;simp(disch:=(try simp only[Ab]);omega)only[Af,hk,Sz,Ff,↓Aa,Ac,↓reduceIte,Qu,QF,QK];refine ⟨by rfl,?_⟩;generalize hb:out++[Jn e]=out3 at *;have lb:out3.length=out.length+1:=(by rw[<-hb,Adk];rfl)
    refine Ad.by (H7 used out (Jn e) (by omega) out3 hb) (by rfl) (by rfl) (by simp) ?_;simp(disch:=(try simp only[Ab]);omega)only[↓Aa,Ac,↓reduceIte,Qu,Qv];first
    | exact ⟨(q2,out3,true),⟨b1,by simp only;omega⟩,by simp only[];omega,⟨[some 0,some 1,some 5],rfl,by simp,by simp[SW,AW],by simp[HW,BW,SW,AW]⟩⟩
  have hc3:¬(c.toNat:Int)=92:=Pk c92;rw[PJ c34 c32 c92] at b1;simp(disch:=(try simp only[Ab]);omega)only[Af,hcn,hc,hc2,hc3,Ff,↓Aa,Ac,↓reduceIte,Qu,QF,QK];generalize hb:out++[c]=out3 at *;have lb:out3.length=out.length+1:=by rw[<-hb,Adk];rfl
  refine Ad.by (H7 used out c (by omega) out3 hb) (by rfl) (by rfl) (by simp) ?_;simp(disch:=(try simp only[Ab]);omega)only[↓Aa,Ac,↓reduceIte,Qu,Qv];first
  | exact ⟨(q,out3,true),⟨b1,by simp only;omega⟩,by simp only[];omega,⟨[some 0,some 1,some 3],rfl,by simp,by simp[SW,AW],by simp[HW,BW,SW,AW]⟩⟩
def BR (k:Int):Ctr TP G 71 [.d (.int .i64 k)] [] (.d (.int .u8 (A9 k).toNat)) []:=by
 refine Ctr.pure (M:=M0) Am Tryz.func71 rfl go71 ?_;unfold A9;by_cases h:k=5;·rw[if_pos h];simp only[h,Tryz.f71,↓Aa,Ac,↓Qe,Qv];first | done | rfl
 rw[if_neg h];simp only[h,Tryz.f71,↓Aa,Ac,↓Qe,Qv];first | done | rfl
def CV (s:List UInt8) (hs:s.length<=1000000000):Ctr TP G 185 [.d (S s)] [] (.d (.int .i64 (Fq s:Nat))) []:=by
 have ht:Ctr TP G 114 [.d (S s),.d (S Ow)] [] (.d (S (Num.trimL Ow s))) []:=Num.trimLeftSet_spec s Ow (by omega) (by decide) (by decide) (by decide);have hl:(Num.trimL Ow s).length<=s.length:=(Aft _).length_le;have e:((Fq s:Nat):Int)=(s.length:Int)-((Num.trimL Ow s).length:Int):=by unfold Fq;omega
 rw[e];generalize Num.trimL Ow s=q at *;refine Ctr.pure (M:=M0) Am Tryz.func185 rfl AdG ?_;simp only[Af,Tryz.f185,↓Aa,Ac,↓reduceIte,Qv];refine Ad.of ht (by rfl) ?_;simp(disch:=(try simp only[Ab]);omega)only[Af,↓Aa,Ac,↓Qe];first | done | rfl
def Sf (s:List UInt8) (hs:s.length<=1000000000):Ctr TP G 155 [.d (S s)] [] (.d (.int .i64 (Sg s:Nat))) []:=by
 obtain ⟨r,hr⟩:∃ r,r=Sg s:=⟨_,rfl⟩;rw[<-hr];unfold Sg at hr;refine Ctr.pure (M:=M0) Am Tryz.func155 rfl AdZ ?_;rcases s with _ | ⟨c,q⟩
 ·rw[if_pos (show Fq (AfE (Fk []) [])=0 from rfl)] at hr;rw[hr];simp(disch:=(try simp only[Ab]);omega)only[Af,Tryz.f155,↓Aa,Ac,↓reduceIte,Qv];refine Ad.of (CV [] (by simp)) (by rfl) ?_;rw[show Fq []=0 from rfl];simp only[↓Aa,Ac,↓Qe];first | done | rfl
 have hcn:(c::q=[])=False:=by simp
 by_cases c43:c=43
 ·have hc:(c.toNat:Int)=43:=by rw[c43];rfl
  have h0:Fk (c::q)=1:=by simp[Fk,c43]
  rw[h0,show (c::q).drop 1=q from rfl] at hr;have hd:=CV (G:=G) (q) (by simp only[Ac7] at hs ⊢;omega);have hdl:=Gi (q);simp(disch:=(try simp only[Ab]);omega)only[Af,hcn,hc,Tryz.f155,↓Aa,Ac,↓reduceIte,Qv,QF];refine Ad.of hd (by rfl) ?_;by_cases hw:Fq (q)=0
  ·rw[if_pos hw] at hr;rw[hw,hr];simp only[↓Aa,Ac,↓Qe];first | done | rfl
  rw[if_neg hw] at hr;generalize Fq (q)=w at *;have hw2:¬((w:Int)=0):=by omega
  have hp:=DO (G:=G) ((c::q).drop (1+w)) [46];have hd2:=CV (G:=G) (q.drop (1+w)) (by rw[Adp];simp only[Ac7] at hs;omega);have hdl2:=Gi (q.drop (1+w));rw[Adp] at hdl2;have hpl:hasP ((c::q).drop (1+w)) [46]=true->1+w+1<=(c::q).length:=fun q=>by have:=hasP_le q;simp only[Adp,Ac7,Adl] at this ⊢;omega
  rw[show (c::q).drop (1+w+1)=q.drop (1+w) from rfl] at hr;generalize hw3:Fq (q.drop (1+w))=w2 at *;generalize hdr:(c::q).drop (1+w)=dr at *;simp only[Ac7] at hdl hs hpl hdl2;have ht1:((1:Int)+(w:Int)).toNat=1+w:=by omega
  have ht2:((1:Int)+(w:Int)+1).toNat=1+w+1:=by omega
  simp(disch:=(try simp only[Ab]);omega)only[Af,hw2,ht1,hdr,↓Aa,Ac,↓reduceIte];refine Ad.of hp (by rfl) ?_;cases hx:hasP dr [46];·rw[if_neg (by rw[hx];simp)] at hr;rw[hr];simp(disch:=(try simp only[Ab]);omega)only[↓Aa,Ac,↓reduceIte,↓Qe];first | done | rfl
  have hpl:=hpl hx;simp(disch:=(try simp only[Ab]);omega)only[Af,ht2,↓Aa,Ac,↓reduceIte];refine Ad.of hd2 (by rfl) ?_;rcases Afj w2 with w20 | w20
  ·subst w20;rw[if_neg (by simp)] at hr;rw[hr];simp(disch:=(try simp only[Ab]);omega)only[↓Aa,Ac,↓reduceIte,↓Qe];first | done | rfl
  rw[if_pos ⟨hx,w20⟩] at hr;rw[hr];simp(disch:=(try simp only[Ab]);omega)only[Af,ht2,↓Aa,Ac,↓reduceIte];refine Ad.of hd2 (by rfl) ?_;simp(disch:=(try simp only[Ab]);omega)only[↓Aa,Ac,↓Qe];first | done | rfl
 have hc:¬(c.toNat:Int)=43:=Pk c43;by_cases c45:c=45
 ·have hc2:(c.toNat:Int)=45:=by rw[c45];rfl
  have h0:Fk (c::q)=1:=by simp[Fk,c45]
  rw[h0,show (c::q).drop 1=q from rfl] at hr;have hd:=CV (G:=G) (q) (by simp only[Ac7] at hs ⊢;omega);have hdl:=Gi (q);simp(disch:=(try simp only[Ab]);omega)only[Af,hcn,hc2,Tryz.f155,↓Aa,Ac,↓reduceIte,Qv,QF];refine Ad.of hd (by rfl) ?_;by_cases hw:Fq (q)=0
  ·rw[if_pos hw] at hr;rw[hw,hr];simp only[↓Aa,Ac,↓Qe];first | done | rfl
  rw[if_neg hw] at hr;generalize Fq (q)=w at *;have hw2:¬((w:Int)=0):=by omega
  have hp:=DO (G:=G) ((c::q).drop (1+w)) [46];have hd2:=CV (G:=G) (q.drop (1+w)) (by rw[Adp];simp only[Ac7] at hs;omega);have hdl2:=Gi (q.drop (1+w));rw[Adp] at hdl2;have hpl:hasP ((c::q).drop (1+w)) [46]=true->1+w+1<=(c::q).length:=fun q=>by have:=hasP_le q;simp only[Adp,Ac7,Adl] at this ⊢;omega
  rw[show (c::q).drop (1+w+1)=q.drop (1+w) from rfl] at hr;generalize hw3:Fq (q.drop (1+w))=w2 at *;generalize hdr:(c::q).drop (1+w)=dr at *;simp only[Ac7] at hdl hs hpl hdl2;have ht1:((1:Int)+(w:Int)).toNat=1+w:=by omega
  have ht2:((1:Int)+(w:Int)+1).toNat=1+w+1:=by omega
  simp(disch:=(try simp only[Ab]);omega)only[Af,hw2,ht1,hdr,↓Aa,Ac,↓reduceIte];refine Ad.of hp (by rfl) ?_;cases hx:hasP dr [46];·rw[if_neg (by rw[hx];simp)] at hr;rw[hr];simp(disch:=(try simp only[Ab]);omega)only[↓Aa,Ac,↓reduceIte,↓Qe];first | done | rfl
  have hpl:=hpl hx;simp(disch:=(try simp only[Ab]);omega)only[Af,ht2,↓Aa,Ac,↓reduceIte];refine Ad.of hd2 (by rfl) ?_;rcases Afj w2 with w20 | w20
  ·subst w20;rw[if_neg (by simp)] at hr;rw[hr];simp(disch:=(try simp only[Ab]);omega)only[↓Aa,Ac,↓reduceIte,↓Qe];first | done | rfl
  rw[if_pos ⟨hx,w20⟩] at hr;rw[hr];simp(disch:=(try simp only[Ab]);omega)only[Af,ht2,↓Aa,Ac,↓reduceIte];refine Ad.of hd2 (by rfl) ?_;simp(disch:=(try simp only[Ab]);omega)only[↓Aa,Ac,↓Qe];first | done | rfl
 have hc2:¬(c.toNat:Int)=45:=Pk c45;have h0:Fk (c::q)=0:=by simp[Fk,c43,c45]
 rw[h0,show (c::q).drop 0=c::q from rfl] at hr;have hd:=CV (G:=G) (c::q) (by simp only[Ac7] at hs ⊢;omega);have hdl:=Gi (c::q);simp(disch:=(try simp only[Ab]);omega)only[Af,hcn,hc,hc2,Tryz.f155,↓Aa,Ac,↓reduceIte,Qv];refine Ad.of hd (by rfl) ?_;by_cases hw:Fq (c::q)=0
 ·rw[if_pos hw] at hr;rw[hw,hr];simp only[↓Aa,Ac,↓Qe];first | done | rfl
 rw[if_neg hw] at hr;generalize Fq (c::q)=w at *;simp only[Afe] at hr;have hw2:¬((w:Int)=0):=by omega
 have hp:=DO (G:=G) ((c::q).drop (w)) [46];have hd2:=CV (G:=G) (q.drop (w)) (by rw[Adp];simp only[Ac7] at hs;omega);have hdl2:=Gi (q.drop (w));rw[Adp] at hdl2;have hpl:hasP ((c::q).drop (w)) [46]=true->w+1<=(c::q).length:=fun q=>by have:=hasP_le q;simp only[Adp,Ac7,Adl] at this ⊢;omega
 rw[show (c::q).drop (w+1)=q.drop (w) from rfl] at hr;generalize hw3:Fq (q.drop (w))=w2 at *;generalize hdr:(c::q).drop (w)=dr at *;simp only[Ac7] at hdl hs hpl hdl2;have ht1:((0:Int)+(w:Int)).toNat=w:=by omega
 have ht2:((0:Int)+(w:Int)+1).toNat=w+1:=by omega
 simp(disch:=(try simp only[Ab]);omega)only[Af,hw2,ht1,hdr,↓Aa,Ac,↓reduceIte];refine Ad.of hp (by rfl) ?_;cases hx:hasP dr [46];·rw[if_neg (by rw[hx];simp)] at hr;rw[hr];simp(disch:=(try simp only[Ab]);omega)only[↓Aa,Ac,↓reduceIte,↓Qe];first | done | rfl
 have hpl:=hpl hx;simp(disch:=(try simp only[Ab]);omega)only[Af,ht2,↓Aa,Ac,↓reduceIte];refine Ad.of hd2 (by rfl) ?_;rcases Afj w2 with w20 | w20
 ·subst w20;rw[if_neg (by simp)] at hr;rw[hr];simp(disch:=(try simp only[Ab]);omega)only[↓Aa,Ac,↓reduceIte,↓Qe];first | done | rfl
 rw[if_pos ⟨hx,w20⟩] at hr;rw[hr];simp(disch:=(try simp only[Ab]);omega)only[Af,ht2,↓Aa,Ac,↓reduceIte];refine Ad.of hd2 (by rfl) ?_;simp(disch:=(try simp only[Ab]);omega)only[↓Aa,Ac,↓Qe];first | done | rfl
abbrev zN:List AV:=[.d (.int .i64 0),.d (.str ByteArray.empty),.d (.sl 0 true []),.d (.sl 0 true [])]
def S7:List D:=[S Sh,.int .i64 1,S [],.sl 0 false [],.sl 0 false [],S H8,.int .i64 2,S H8,.sl 0 false [],.sl 0 false [],S Iw,.int .i64 2,S Iw,.sl 0 false [],.sl 0 false []]
def ScaR (s:List UInt8) (i:Nat):Prop:=i<=3/\(0<i->hasP s Sh=false)/\(1<i->hasP s H8=false)/\(2<i->hasP s Iw=false)
def R2 (s0:List UInt8) (hs0:s0.length<=1000000000) (v:Value) :
  Ctr TP G 113 [.ptr 0 0] [psB s0 v] (.d (.tup [NdD (GE s0).2.1,.bool (GE s0).2.2])) [psB (GE s0).1 v]:=by
 have ht:=Nt (G:=G) s0 (by omega);have hlen:=Fv s0;obtain ⟨r,hr⟩:∃ r,r=GE s0:=⟨_,rfl⟩;rw[<-hr];unfold GE at hr;generalize Cj s0=s at *;have hs:s.length<=1000000000:=by omega
 have hq:=Kt (G:=G) s hs v;have hn:=Sf (G:=G) s hs;have hnl:=WW s;have p1:=DO (G:=G) s [34];have c1:Ctr TP G 131 [.d (S s),.d (S Sh)] [] (.d (.tup [S (if hasP s Sh then s.drop 4 else s),.bool (hasP s Sh)])) []:=Num.cutPrefix_spec s Sh;have c2:Ctr TP G 131 [.d (S s),.d (S H8)] [] (.d (.tup [S (if hasP s H8 then s.drop 4 else s),.bool (hasP s H8)])) []:=Num.cutPrefix_spec s H8;have c3:Ctr TP G 131 [.d (S s),.d (S Iw)] [] (.d (.tup [S (if hasP s Iw then s.drop 5 else s),.bool (hasP s Iw)])) []:=Num.cutPrefix_spec s Iw;refine Ctr.body (M:=M0) Am Tryz.func113 rfl Aew ?_;simp(disch:=(try simp only[Ab]);omega)only[Tryz.f113,↓Aa,Ac,↓reduceIte,Qu,Qv];refine Ad.of ht (by rfl) ?_;simp(disch:=(try simp only[Ab]);omega)only[↓Aa,Ac,↓reduceIte,Qu];refine Ad.of p1 (by rfl) ?_;cases e1:hasP s [34]
 ·rw[if_neg (by rw[e1];simp)] at hr;simp(disch:=(try simp only[Ab]);omega)only[↓Aa,Ac,↓reduceIte,Qu,Qw,Qz];refine Ak.fr 1649267441669 (α:=Nat) (fun i=>3-i) (fun i=>[(41,.d (.int .i64 i))]) (fun i=>[psB s v,.box zN,.row false S7])
   (fun i=>ScaR s i) 0 ⟨by omega,by omega,by omega,by omega⟩ ?_ ?_
  ·first
   | exact ⟨[some 0,some 1,some 2],rfl,by simp,by simp[sA,kZ,SW,AW],by simp[HW,BW,SW,AW]<;>rfl⟩
  rintro i ⟨b1,b2,b3,b4⟩;simp only[Bi,Afo,Afp];rcases (by omega:i=0\/i=1\/i=2\/i=3) with rfl | rfl | rfl | rfl
  ·simp(disch:=(try simp only[Ab]);omega)only[S7,↓Aa,Ac,↓reduceIte,Qu];refine Ad.of c1 (by rfl) ?_;cases e2:hasP s Sh
   ·simp(disch:=(try simp only[Ab]);omega)only[Afk,↓Aa,Ac,↓reduceIte,Qu,QA];first
    | exact ⟨by rfl,1,⟨by omega,fun h=>e2,fun h=>absurd h (by omega),fun h=>absurd h (by omega)⟩,by simp only;omega,⟨[some 0,some 1,some 2],rfl,by simp,by simp[SW,AW],by simp[HW,BW,SW,AW]<;>rfl⟩⟩
   simp(disch:=(try simp only[Ab]);omega)only[↓Aa,Ac,↓reduceIte,Qu];rw[if_pos e2] at hr;subst hr;first
   | (refine ⟨[some 0],rfl,by simp,by simp[HW,BW,SW,AW],.inr ⟨_,rfl,?_,rfl⟩⟩;rfl)
   | (refine ⟨by rfl,⟨[some 0],rfl,by simp,by simp[HW,BW,SW,AW],.inr ⟨_,rfl,?_,rfl⟩⟩⟩;rfl)
  ·simp(disch:=(try simp only[Ab]);omega)only[S7,↓Aa,Ac,↓reduceIte,Qu,Qv,Qw];refine Ad.of c2 (by rfl) ?_;cases e2:hasP s H8
   ·simp(disch:=(try simp only[Ab]);omega)only[Afk,↓Aa,Ac,↓reduceIte,Qu];first
    | exact ⟨by rfl,2,⟨by omega,fun h=>b2 (by omega),fun h=>e2,fun h=>absurd h (by omega)⟩,by simp only;omega,⟨[some 0,some 1,some 2],rfl,by simp,by simp[SW,AW],by simp[HW,BW,SW,AW]<;>rfl⟩⟩
   simp(disch:=(try simp only[Ab]);omega)only[↓Aa,Ac,↓reduceIte,Qu];rw[if_neg (by rw[b2 (by omega)];simp)] at hr;rw[if_pos e2] at hr;subst hr;first
   | (refine ⟨[some 0],rfl,by simp,by simp[HW,BW,SW,AW],.inr ⟨_,rfl,?_,rfl⟩⟩;rfl)
   | (refine ⟨by rfl,⟨[some 0],rfl,by simp,by simp[HW,BW,SW,AW],.inr ⟨_,rfl,?_,rfl⟩⟩⟩;rfl)
  ·simp(disch:=(try simp only[Ab]);omega)only[S7,↓Aa,Ac,↓reduceIte,Qu,Qv,Qw];refine Ad.of c3 (by rfl) ?_;cases e2:hasP s Iw
   ·simp(disch:=(try simp only[Ab]);omega)only[Afk,↓Aa,Ac,↓reduceIte,Qu];first
    | exact ⟨by rfl,3,⟨by omega,fun h=>b2 (by omega),fun h=>b3 (by omega),fun h=>e2⟩,by simp only;omega,⟨[some 0,some 1,some 2],rfl,by simp,by simp[SW,AW],by simp[HW,BW,SW,AW]<;>rfl⟩⟩
   simp(disch:=(try simp only[Ab]);omega)only[↓Aa,Ac,↓reduceIte,Qu];rw[if_neg (by rw[b2 (by omega)];simp)] at hr;rw[if_neg (by rw[b3 (by omega)];simp)] at hr;rw[if_pos e2] at hr;subst hr;first
   | (refine ⟨[some 0],rfl,by simp,by simp[HW,BW,SW,AW],.inr ⟨_,rfl,?_,rfl⟩⟩;rfl)
   | (refine ⟨by rfl,⟨[some 0],rfl,by simp,by simp[HW,BW,SW,AW],.inr ⟨_,rfl,?_,rfl⟩⟩⟩;rfl)
  rw[if_neg (by rw[b2 (by omega)];simp),if_neg (by rw[b3 (by omega)];simp),if_neg (by rw[b4 (by omega)];simp)] at hr;simp(disch:=(try simp only[Ab]);omega)only[S7,↓Aa,Ac,↓reduceIte,Qu,Qv];refine Ad.of hn (by rfl) ?_;generalize Sg s=n at *;have hd:decide ((0:Int)<(n:Int))=decide (0<n):=by simp
  simp(disch:=(try simp only[Ab]);omega)only[Af,hd,↓Aa,Ac,↓reduceIte,Qu];subst hr;first
  | (refine ⟨[some 0],rfl,by simp,by simp[HW,BW,SW,AW],.inr ⟨_,rfl,?_,rfl⟩⟩;rfl)
  | (refine ⟨by rfl,⟨[some 0],rfl,by simp,by simp[HW,BW,SW,AW],.inr ⟨_,rfl,?_,rfl⟩⟩⟩;rfl)
 rw[if_pos e1] at hr;simp only[↓Aa,Ac,↓reduceIte,Qu];refine Ad.by hq (by rfl) (by rfl) (by simp) ?_;simp(disch:=(try simp only[Ab]);omega)only[↓Aa,Ac,↓reduceIte,Qu];subst hr;first
 | (refine ⟨[some 0],rfl,by simp,by simp[HW,BW,SW,AW],.inr ⟨_,rfl,?_,rfl⟩⟩;rfl)
 | (refine ⟨by rfl,⟨[some 0],rfl,by simp,by simp[HW,BW,SW,AW],.inr ⟨_,rfl,?_,rfl⟩⟩⟩;rfl)
end
section
open Go Go.Proofs Go.Abs
def SZ (n sz:Nat) (ds:List D) (a:AV) (ids:List Nat) (H:List Ae):Prop :=
 (n=0/\a=.d (.sl 0 true [])/\ids=[])\/(0<n/\∃ b,a=.lsl b sz 0 n/\ids=[b]/\H[b]?=some (.row false ds))
def SZ.frame {n sz:Nat} {ds:List D} {a:AV} {ids:List Nat} {H K:List Ae} (h:SZ n sz ds a ids H) (hk:∀ b∈ids,K[b]?=H[b]?):SZ n sz ds a ids K:=by
 rcases h with h | ⟨h0,b,h1,h2,h3⟩
 ·exact .inl h
 exact .inr ⟨h0,b,h1,h2,by rw[hk b (by rw[h2];simp)];exact h3⟩
def SZ.lt {n sz:Nat} {ds:List D} {a:AV} {ids:List Nat} {H:List Ae} (h:SZ n sz ds a ids H):∀ b∈ids,b<H.length:=by
 intro b hb;rcases h with ⟨_,_,h⟩ | ⟨h0,c,h1,h2,h3⟩
 ·rw[h] at hb;cases hb
 rw[h2,Adi] at hb;subst hb;exact (Adf.1 h3).1
abbrev Ac0 (t:Nd):=SZ t.keys.length 1 (strs t.keys)
abbrev AcY (t:Nd):=SZ t.kids.length 4 (AA t.kids)
def VH (ex:List AV) (t:Nd) (ka qa:AV):List AV:=[.d (.int .i64 t.kind),.d (S t.text),ka,qa]++ex
def T8 (ex:List AV) (t:Nd) (ka qa:AV):(VH ex t ka qa).length=4+ex.length:=by simp[VH];omega
def MK (ex:List AV) (H:List Ae):List Nd->List AV->List Nat->Prop
 | [],cells,ids=>cells=[]/\ids=[]
 | t::st,cells,ids=>∃ c i ka ik qa iq,MK ex H st c i/\Ac0 t ka ik H/\AcY t qa iq H/\cells=c++VH ex t ka qa/\ids=i++(ik++iq)
def MK.len {ex:List AV} {H:List Ae}:∀ {st:List Nd} {cells:List AV} {ids:List Nat},MK ex H st cells ids->cells.length=st.length*(4+ex.length)
 | [],cells,ids,h=>by rw[h.1];simp
 | t::st,cells,ids,⟨c,i,ka,ik,qa,iq,h1,_,_,h4,_⟩=>by rw[h4,Adk,h1.len,T8,Ac7,AfG]
def MK.frame {ex:List AV} {H K:List Ae}:∀ {st:List Nd} {cells:List AV} {ids:List Nat},MK ex H st cells ids->(∀ b∈ids,K[b]?=H[b]?)->MK ex K st cells ids
 | [],cells,ids,h,_=>h
 | t::st,cells,ids,⟨c,i,ka,ik,qa,iq,h1,h2,h3,h4,h5⟩,hk=>by subst h5;exact ⟨c,i,ka,ik,qa,iq,h1.frame fun b hb=>hk b (by simp[hb]),h2.frame fun b hb=>hk b (by simp[hb]),h3.frame fun b hb=>hk b (by simp[hb]),h4,rfl⟩
def MK.lt {ex:List AV} {H:List Ae}:∀ {st:List Nd} {cells:List AV} {ids:List Nat},MK ex H st cells ids->∀ b∈ids,b<H.length
 | [],cells,ids,h=>fun b hb=>by rw[h.2] at hb;cases hb
 | t::st,cells,ids,⟨c,i,ka,ik,qa,iq,h1,h2,h3,h4,h5⟩=>fun b hb=>by
   subst h5;rcases Adj.1 hb with hb | hb
   ·exact h1.lt b hb
   rcases Adj.1 hb with hb | hb
   ·exact h2.lt b hb
   exact h3.lt b hb
def Wi (ob:Nat) (cells:List AV) (H:List Ae):Prop:=(∃ junk,H[ob]?=some (.box (cells++junk)))\/(cells=[]/\H[ob]?=some (.row false []))
def Wi.lt {ob:Nat} {cells:List AV} {H:List Ae} (h:Wi ob cells H):ob<H.length:=by
 rcases h with ⟨j,h⟩ | ⟨_,h⟩
 ·exact (Adf.1 h).1
 exact (Adf.1 h).1
def Wi.frame {ob:Nat} {cells:List AV} {H K:List Ae} (h:Wi ob cells H) (hk:K[ob]?=H[ob]?):Wi ob cells K:=by unfold Wi;rw[hk];exact h
structure LN (ex:List AV) (st:List Nd) (ob:Nat) (ids:List Nat) (H:List Ae):Prop where
 stk:∃ cells,Wi ob cells H/\MK ex H st cells ids
 nd:(ob::ids).Nodup
def LN.lt {ex:List AV} {st:List Nd} {ob:Nat} {ids:List Nat} {H:List Ae} (h:LN ex st ob ids H):∀ b∈ob::ids,b<H.length:=by
 obtain ⟨cells,h1,h2⟩:=h.stk;intro b hb;rcases Ado.1 hb with rfl | hb
 ·exact h1.lt
 exact h2.lt b hb
def LN.frame {ex:List AV} {st:List Nd} {ob:Nat} {ids:List Nat} {H K:List Ae} (h:LN ex st ob ids H) (hk:∀ b∈ob::ids,K[b]?=H[b]?):LN ex st ob ids K:=by obtain ⟨cells,h1,h2⟩:=h.stk;exact ⟨⟨cells,h1.frame (hk ob (by simp)),h2.frame fun b hb=>hk b (by simp[hb])⟩,h.nd⟩
structure CM (rest:List UInt8) (st:List Nd) (ob:Nat) (ids:List Nat) (H:List Ae):Prop where
 box:H[0]?=some (.box [.d (S rest),.lsl ob 4 0 st.length])
 stack:LN [] st ob ids H
 pos:∀ b∈ob::ids,0<b
 nox:NoX H
def CM.ne {rest:List UInt8} {st:List Nd} {ob:Nat} {ids:List Nat} {H:List Ae} (h:CM rest st ob ids H) {b:Nat} (hb:b∈ob::ids):¬0=b:=by have:=h.pos b hb;omega
structure CS (F:List Nat) (H:List Ae) (F':List Nat) (H':List Ae):Prop where
 len:H.length<=H'.length
 keep:∀ i,0<i->i<H.length->i∉F->H'[i]?=H[i]?
 old:∀ i∈F',i∈F\/H.length<=i
def CS.refl (F:List Nat) (H:List Ae):CS F H F H:=⟨Adm _,fun _ _ _ _=>rfl,fun i hi=>.inl hi⟩
def CS.trans {F1 F2 F3:List Nat} {H1 H2 H3:List Ae} (a:CS F1 H1 F2 H2) (b:CS F2 H2 F3 H3):CS F1 H1 F3 H3:=by
 refine ⟨Afs a.len b.len,fun i h0 hi hn=>?_,fun i hi=>?_⟩
 ·rw[b.keep i h0 (Nat.lt_of_lt_of_le hi a.len) fun c=>?_,a.keep i h0 hi hn];rcases a.old i c with h | h
  ·exact hn h
  omega
 rcases b.old i hi with h | h
 ·exact a.old i h
 exact .inr (Afs a.len h)
def CM.rest {rest r':List UInt8} {st:List Nd} {ob:Nat} {ids:List Nat} {H:List Ae} (h:CM rest st ob ids H):CM r' st ob ids (H.set 0 (.box [.d (S r'),.lsl ob 4 0 st.length])) /\
  CS (ob::ids) H (ob::ids) (H.set 0 (.box [.d (S r'),.lsl ob 4 0 st.length])):=by
 have h0:0<H.length:=(Adf.1 h.box).1;exact ⟨⟨BS h0,h.stack.frame fun b hb=>As (h.ne hb),h.pos,h.nox.set _ (by simp)⟩,⟨by simp,fun i hi _ _=>As (by omega),fun i hi=>.inl hi⟩⟩
def CM.app {rest:List UInt8} {st:List Nd} {ob:Nat} {ids:List Nat} {H E:List Ae} (h:CM rest st ob ids H) (he:NoX E):CM rest st ob ids (H++E)/\CS (ob::ids) H (ob::ids) (H++E):=by have h0:0<H.length:=(Adf.1 h.box).1;exact ⟨⟨by rw[AJ h0];exact h.box,h.stack.frame fun b hb=>AJ (h.stack.lt b hb),h.pos,h.nox.app he⟩,⟨by simp,fun i _ hi _=>AJ hi,fun i hi=>.inl hi⟩⟩
def CM.lift {G:Ah} {rest r':List UInt8} {st:List Nd} {ob:Nat} {ids:List Nat} {H:List Ae} (h:CM rest st ob ids H) {f:FuncId} {args:List AV} {res:D}
  (spec:∀ v,Ctr TP G f args [.box [.d (S rest),.d (.val v)]] (.d res) [.box [.d (S r'),.d (.val v)]]) (ha:∀ a∈args,a=.ptr 0 0\/∃ d,a=.d d) :
  Ctr TP G f args H (.d res) (H.set 0 (.box [.d (S r'),.lsl ob 4 0 st.length])):=Ctr.lift1 spec ha h.box
end
section
open Go Go.Proofs Go.Abs
variable {G:Ah}
def CM.top {rest:List UInt8} {t:Nd} {st:List Nd} {ob:Nat} {ids:List Nat} {H:List Ae} (h:CM rest (t::st) ob ids H) :
  ∃ c junk i ka ik qa iq,H[ob]?=some (.box (c++(.d (.int .i64 t.kind)::.d (S t.text)::ka::qa::junk)))/\c.length=st.length*4/\MK [] H st c i/\Ac0 t ka ik H/\AcY t qa iq H/\ids=i++(ik++iq):=by
 obtain ⟨cells,h1,c,i,ka,ik,qa,iq,h2,h3,h4,h5,h6⟩:=h.stack.stk;rcases h1 with ⟨junk,h1⟩ | ⟨h1,_⟩
 ·refine ⟨c,junk,i,ka,ik,qa,iq,?_,by have:=h2.len;simpa using this,h2,h3,h4,h6⟩;rw[h1,h5];simp[VH]
 rw[h5] at h1;simp[VH] at h1
def Kg {c:List AV} {m:Nat} (hc:c.length=m*4) (a b k q:AV) (j:List AV):(c++(a::b::k::q::j)).getD (m*4) .undef=a:=by rw[Ae8,Afd (by omega),hc];simp
def Y0 {c:List AV} {m:Nat} (hc:c.length=m*4) (a b k q:AV) (j:List AV):(c++(a::b::k::q::j)).getD (m*4+2) .undef=k:=by rw[Ae8,Afd (by omega),hc];simp
def YZ {c:List AV} {m:Nat} (hc:c.length=m*4) (a b k q:AV) (j:List AV):(c++(a::b::k::q::j)).getD (m*4+3) .undef=q:=by rw[Ae8,Afd (by omega),hc];simp
def YW {c:List AV} {m:Nat} (hc:c.length=m*4) (a b k q:AV) (j:List AV):((c++(a::b::k::q::j)).drop (m*4)).take 4=[a,b,k,q]:=by rw[List.drop_append,hc,Afg (by omega)];simp
def YY {c:List AV} {m:Nat} (hc:c.length=m*4) (a b k q x:AV) (j:List AV):(c++(a::b::k::q::j)).set (m*4+2) x=c++(a::b::x::q::j):=by rw[Afw _ _ (by omega),hc];simp
def YX {c:List AV} {m:Nat} (hc:c.length=m*4) (a b k q x:AV) (j:List AV):(c++(a::b::k::q::j)).set (m*4+3) x=c++(a::b::k::x::j):=by rw[Afw _ _ (by omega),hc];simp
def Kf {c:List AV} {m:Nat} (hc:c.length=m*4) (a b k q:AV) (j:List AV):(c++(a::b::k::q::j)).length=m*4+4+j.length:=by simp[hc];omega
def JZ {H0:List Ae}:∀ (ids:List Nat) (H:List Ae),(∀ b∈ids,b<H.length)->NoX H->wOK H.length (frz H0 ids)=true/\(applyW H (frz H0 ids)).length=H.length/\(∀ i,i∉ids->(applyW H (frz H0 ids))[i]?=H[i]?)/\NoX (applyW H (frz H0 ids))
 | [],H,_,hx=>⟨rfl,rfl,fun _ _=>rfl,hx⟩
 | b::r,H,hb,hx=>by
   have hb0:=hb b (by simp);rw[frz];split;·rename_i cells hc;rw[applyW,if_pos hb0,wOK,if_pos hb0];obtain ⟨h1,h2,h3,h4⟩:=JZ r (H.set b (.row true cells)) (fun x hx=>by rw[AeI];exact hb x (AaZ _ hx)) (hx.set _ (by simp));rw[AeI] at h1 h2;refine ⟨h1,h2,fun i hi=>?_,h4⟩;rw[h3 i fun q=>hi (AaZ _ q),As fun e=>hi (by rw[e];simp)]
   obtain ⟨h1,h2,h3,h4⟩:=JZ (H0:=H0) r H (fun x hx=>hb x (AaZ _ hx)) hx;exact ⟨h1,h2,fun i hi=>h3 i fun q=>hi (AaZ _ q),h4⟩
def SZ.shutR {n sz:Nat} {ds:List D} {a:AV} {ids:List Nat} {H:List Ae} (h:SZ n sz ds a ids H) (hl:ds.length=n*sz):∃ f,sealA H a=some (.sl n f ds)/\A3 a=ids/\AV.one a=true:=by
 rcases h with ⟨h1,h2,h3⟩ | ⟨h0,b,h1,h2,h3⟩
 ·subst h1;subst h2;subst h3;rw[Nat.zero_mul] at hl;rw[AeT.1 hl];exact ⟨true,rfl,rfl,rfl⟩
 subst h1;subst h2;refine ⟨false,?_,rfl,rfl⟩;rw[sealA,h3];simp only;rw[IB hl]
def AaR (p:Nat) (H:List Ae) (v res:AV) (H':List Ae):Prop :=
 (Jp p H v res H'\/∃ d,sealA H v=some d/\wOK H.length (frz H (A3 v))=true/\res=.d (unf d)/\H'=applyW H (frz H (A3 v)))\/(H'=H/\(res=v\/∃ d,sealA H v=some d/\A3 v=[]/\res=.d (unf d)))
def Ai {P:Program} {rs:Array ResultVar} {p:Nat} {res:AV} {H':List Ae} {s:List AV} {H:List Ae} :
  GG P rs p res H' .ret s H=match resVs P s H rs.toList with | some vs=>AaR p H (AU vs) res H' | none=>False:=by
 show UW P rs p s H res H'=_
 unfold UW Wf AaR Jp;cases resVs P s H rs.toList with
 | none=>simp
 | some vs=>rfl
def Ag {P:Program} {rs:Array ResultVar} {p:Nat} {res:AV} {H':List Ae} {s:List AV} {H:List Ae} :
  GG P rs p res H' .normal s H=match resVs P s H rs.toList with | some vs=>AaR p H (AU vs) res H' | none=>False:=Ai
def I2 {rest:List UInt8} {t:Nd} {st:List Nd} {ob:Nat} {ids:List Nat} {H:List Ae} (h:CM rest (t::st) ob ids H) (hst:st.length<=1000000000) :
  ∃ ids' H',Ctr TP G 82 [.ptr 0 0] H (.d (NdD t)) H'/\CM rest st ob ids' H'/\CS (ob::ids) H (ob::ids') H':=by
 obtain ⟨c,junk,i,ka,ik,qa,iq,hb,hc,hs,hk,hq,hids⟩:=h.top;have q0:=h.box;rw[Ac7] at q0;have l0:0<H.length:=(Adf.1 q0).1;have lb:ob<H.length:=h.stack.lt ob (by simp);have n0b:¬0=ob:=h.ne (by simp);have g4:=YW hc (.d (.int .i64 t.kind)) (.d (S t.text)) ka qa junk;have gl:=Kf hc (.d (.int .i64 t.kind)) (.d (S t.text)) ka qa junk;obtain ⟨cs,hcs⟩:∃ cs,cs=c++(.d (.int .i64 t.kind)::.d (S t.text)::ka::qa::junk):=⟨_,rfl⟩;rw[<-hcs] at hb g4 gl;have hk1:=hk.shutR (by rw[strs_length,AfI]);have hq1:=hq.shutR (by rw[Ay,AfH]);obtain ⟨fk,hk1,hk2,hk3⟩:=hk1;obtain ⟨fq,hq1,hq2,hq3⟩:=hq1;obtain ⟨cf,hcf⟩:=DA [0,ob,H.length,H.length+1] (by simp only[Adn,Ado,AfB,or_false,not_or,Afi,and_true,not_false_eq_true];omega);have c0:=hcf 0 _ rfl;have c1:=hcf 1 _ rfl;have c2:=hcf 2 _ rfl;have c3:=hcf 3 _ rfl;obtain ⟨H1,hH1⟩:∃ H1,H1=H.set 0 (.box [.d (S rest),.lsl ob 4 0 st.length])++[.box [.d (.int .i64 t.kind),.d (S t.text),ka,qa],.box [.d (.int .i64 t.kind),.d (S t.text),ka,qa]]:=⟨_,rfl⟩;have hlH:H1.length=H.length+2:=by rw[hH1];simp
 have hno:∀ j,j∉ik++iq->j∉A3 (.agg [.d (.int .i64 t.kind),.d (S t.text),ka,qa]):=fun j hj q=>by have e:A3 (.agg [.d (.int .i64 t.kind),.d (S t.text),ka,qa])=A3 ka++(A3 qa++[]):=rfl;rw[e,Ae6,hk2,hq2] at q;exact hj q
 have hap:=JZ (H0:=H1) (A3 (.agg [.d (.int .i64 t.kind),.d (S t.text),ka,qa])) H1 (fun b hb=>by have e:A3 (.agg [.d (.int .i64 t.kind),.d (S t.text),ka,qa])=A3 ka++(A3 qa++[]):=rfl;rw[e,Ae6,hk2,hq2] at hb;have:=h.stack.lt b (by rw[hids];exact AaZ _ (Aa0 _ hb));omega) (by rw[hH1];exact (h.nox.set _ (by simp)).app (by simp[NoX]));have hkf:∀ b∈ik++iq,H1[b]?=H[b]?:=fun b hb=>by
  have hb':b∈ob::ids:=by rw[hids];exact AaZ _ (Aa0 _ hb)
  rw[hH1,AJ (by have:=h.stack.lt b hb';simpa using this),As (h.ne hb')]
 obtain ⟨fk,hsk,hk2',hk3'⟩:=(hk.frame fun b hb=>hkf b (Ada _ hb)).shutR (by rw[strs_length,AfI]);obtain ⟨fq,hsq,hq2',hq3'⟩:=(hq.frame fun b hb=>hkf b (Aa0 _ hb)).shutR (by rw[Ay,AfH]);refine ⟨i,applyW H1 (frz H1 (A3 (.agg [.d (.int .i64 t.kind),.d (S t.text),ka,qa]))),Ctr.bodyI (M:=M0) Am Tryz.func82 rfl go82 ?h1 ?h2,?h3⟩;case h2 =>
  simp(disch:=(try simp only[Ab]);omega)only[Ai,Tryz.f82,q0,hb,g4,gl,hk3,hq3,Be,↓Aa,Ac,↓reduceIte,Qu,Qv];first
  | refine ⟨by show (AV.one ka && AV.one qa)=true;rw[hk3,hq3];rfl,AR cf (by simp(disch:=omega)only[BC,A8,A7,Bv,Bu,and_self]) (by simp only[AeQ,Ae7,c0,c1,c2,c3];rfl),by rfl,by show (AV.one ka && AV.one qa)=true;rw[hk3,hq3];rfl,?_⟩
  | refine ⟨AR cf (by simp(disch:=omega)only[BC,A8,A7,and_self]) (by simp only[AeQ,Ae7,c0,c1,c3];rfl),by rfl,?_⟩
  | refine ⟨AR cf (by simp(disch:=omega)only[BC,A8,A7,Bv,Bu,and_self]) (by simp only[AeQ,Ae7,c0,c1,c2,c3];rfl),?_⟩
  rw[<-hH1];have hids1:A3 (.agg [.d (.int .i64 t.kind),.d (S t.text),ka,qa])=A3 ka++(A3 qa++[]):=rfl;refine .inl (.inr ⟨.agg [.int .i64 t.kind,S t.text,.sl t.keys.length fk (strs t.keys),.sl t.kids.length fq (AA t.kids)],?_,hap.1,?_,?_⟩);·simp only[sealA,sealL,hsk,hsq]
  ·rw[show NdD t=.agg (ndC t) from rfl,VA];rfl
  first | done | rfl | (rw[hids1,Ae6];done)
 case h1=>exact hap.2.2.2.ok
 case h3 =>
  have hnd:=h.stack.nd;rw[hids] at hnd;refine ⟨⟨?_,?_,fun b hb=>h.pos b ?_,hap.2.2.2⟩,⟨?_,fun j j0 jl jn=>?_,fun j hj=>?_⟩⟩;·rw[hap.2.2.1 0 (hno 0 fun q=>?_),hH1,AJ (by simpa using l0),BS l0];have:=h.pos 0 (by rw[hids];exact AaZ _ (Aa0 _ q));omega
  ·refine ⟨⟨c,.inl ⟨.d (.int .i64 t.kind)::.d (S t.text)::ka::qa::junk,?_⟩,hs.frame fun b hb=>?_⟩,?_⟩
   ·rw[hap.2.2.1 ob (hno ob fun q=>?_),hH1,AJ (by simpa using lb),As n0b];·rw[<-hcs];exact hb
    exact (Adn.1 hnd).1 (Aa0 _ q)
   ·rw[hap.2.2.1 b (hno b fun q=>?_),hH1,AJ (by have:=hs.lt b hb;simpa using this),As (h.ne (by rw[hids];exact AaZ _ (Ada _ hb)))];exact (Adq.1 (Adn.1 hnd).2).2.2 b hb b q rfl
   exact Adn.2 ⟨fun q=>(Adn.1 hnd).1 (Ada _ q),(Adq.1 (Adn.1 hnd).2).1⟩
  ·rw[hids];rcases Ado.1 hb with rfl | hb
   ·simp
   exact AaZ _ (Ada _ hb)
  ·rw[hap.2.1,hH1];simp
  ·rw[hids] at jn;rw[hap.2.2.1 j (hno j fun q=>jn (AaZ _ (Aa0 _ q))),hH1,AJ (by simpa using jl),As (by omega)]
  refine .inl ?_;rw[hids];rcases Ado.1 hj with rfl | hj
  ·simp
  exact AaZ _ (Ada _ hj)
def CM.mk_top {r1:List UInt8} {t:Nd} {st:List Nd} {ob:Nat} {H K:List Ae} {c junk:List AV} {i ik iq:List Nat} {ka qa:AV}
  (k0:K[0]?=some (.box [.d (S r1),.lsl ob 4 0 (st.length+1)])) (kb:K[ob]?=some (.box (c++(.d (.int .i64 t.kind)::.d (S t.text)::ka::qa::junk)))) (hs:MK [] H st c i) (hf:∀ b∈i,K[b]?=H[b]?)
  (hk:Ac0 t ka ik K) (hq:AcY t qa iq K) (hn:(ob::(i++(ik++iq))).Nodup) (hp:∀ b∈ob::(i++(ik++iq)),0<b) (hx:NoX K):CM r1 (t::st) ob (i++(ik++iq)) K :=
 ⟨k0,⟨⟨c++VH [] t ka qa,.inl ⟨junk,by rw[kb];simp[VH]⟩,c,i,ka,ik,qa,iq,hs.frame hf,hk,hq,rfl,rfl⟩,hn⟩,hp,hx⟩
def MK7:Ci:=fun k=>Afh k 4000115 || Afh k 4000080
def Mp:MK7 4000115=true:=rfl
def Mo:MK7 4000080=true:=rfl
def II {k:Nat} (h:¬(k=4000115\/k=4000080)):MK7 k=false:=by
 cases e:MK7 k with
 | false=>rfl
 | true =>
  unfold MK7 at e;simp only[Afv] at e;rcases e with e | e
  ·exact absurd (.inl (Aet e)) h
  exact absurd (.inr (Aet e)) h
def ZX (rest:List UInt8) {t:Nd} (st:List Nd) (h:t.kind=5):FW rest t st=.beg rest (t::st):=by unfold FW;rw[if_pos h]
def Ub {rest:List UInt8} {t:Nd} (st:List Nd) (h:¬t.kind=5) (h1:(quo rest).2.2=true) (h2:(sgn 58 (quo rest).1).2=true):FW rest t st=.beg (sgn 58 (quo rest).1).1 (FT t (quo rest).2.1::st):=by unfold FW;rw[if_neg h,if_pos ⟨h1,h2⟩]
def M3 {rest:List UInt8} {t:Nd} (st:List Nd) (h:¬t.kind=5) (h1:¬((quo rest).2.2=true/\(sgn 58 (quo rest).1).2=true)):FW rest t st=.bad:=by unfold FW;rw[if_neg h,if_neg h1]
def AcZ (x:PSt) (ob:Nat) (b:Bool) (ids:List Nat) (H:List Ae):Prop:=match x with
 | .beg r st=>b=true/\CM r st ob ids H
 | _=>b=false
def I8 {rest:List UInt8} {t:Nd} {st:List Nd} {ob:Nat} {ids:List Nat} {H:List Ae} (h:CM rest (t::st) ob ids H) (hst:st.length<=1000000000) (hr:rest.length<=1000000000) (hkl:t.keys.length<=1000000000) :
  ∃ b ids' H',Ctr TP G 81 [.ptr 0 0] H (.d (.bool b)) H'/\NoX H'/\CS (ob::ids) H (ob::ids') H'/\AcZ (FW rest t st) ob b ids' H':=by
 have hsig:=fun (r:List UInt8) (hr:r.length<=1000000000) v=>G4 (G:=G) 58 r (by omega) v;obtain ⟨c,junk,i,ka,ik,qa,iq,hb,hc,hs,hk,hq,hids⟩:=h.top;have q0:=h.box;rw[Ac7] at q0;have l0:0<H.length:=(Adf.1 q0).1;have lb:ob<H.length:=h.stack.lt ob (by simp);have n0b:¬0=ob:=h.ne (by simp);have nb0:¬ob=0:=fun e=>n0b e.symm;have hnd:=h.stack.nd;have hpos:=h.pos;have hlt:=h.stack.lt;rw[hids] at hnd hpos hlt;have g0:=Kg hc (.d (.int .i64 t.kind)) (.d (S t.text)) ka qa junk;have g2:=Y0 hc (.d (.int .i64 t.kind)) (.d (S t.text)) ka qa junk;have gl:=Kf hc (.d (.int .i64 t.kind)) (.d (S t.text)) ka qa junk;have gs:=fun x=>YY hc (.d (.int .i64 t.kind)) (.d (S t.text)) ka qa x junk;have hqu:=h.lift (G:=G) (r':=(quo rest).1) (fun v=>Kt (G:=G) rest hr v) (by simp);rw[Ac7] at hqu;obtain ⟨cs,hcs⟩:∃ cs,cs=c++(.d (.int .i64 t.kind)::.d (S t.text)::ka::qa::junk):=⟨_,rfl⟩;rw[<-hcs] at hb g0 g2 gl gs;by_cases k5:t.kind=5
 ·refine ⟨true,ids,H,Ctr.bodyI (M:=MK7) Am Tryz.func81 rfl Z4 h.nox.ok ?_,h.nox,CS.refl _ _,?_⟩;·simp(disch:=(try simp only[Ab]);omega)only[Ai,II,Tryz.f81,q0,hb,g0,gl,k5,↓Aa,Ac,↓reduceIte,Qu,Qv];exact ⟨by rfl,.inr ⟨rfl,.inl rfl⟩⟩
  rw[ZX rest st k5];exact ⟨rfl,h⟩
 have hql:=WN rest;generalize hqe:quo rest=qr at *;obtain ⟨q1,q2,q3⟩:=qr;simp only at hql hqu;rcases hk with ⟨kn,ka0,ik0⟩ | ⟨kn,kb,ka0,ik0,hkb⟩
 ·subst ka0;obtain ⟨H2,hH2⟩:∃ H2,H2=(H.set 0 (.box [.d (S q1),.lsl ob 4 0 (st.length+1)])).set ob (.box (c++(.d (.int .i64 t.kind)::.d (S t.text)::.lsl (H.length+1) 1 0 1::qa::junk)))++[.row false [S q2],.row false [S q2]]:=⟨_,rfl⟩;have hl2:H2.length=H.length+2:=by rw[hH2];simp
  have x2:NoX H2:=by rw[hH2];exact ((h.nox.set _ (by simp)).set _ (by simp)).app (by simp[NoX])
  have f2:∀ b,b<H.length->¬b=0->¬b=ob->H2[b]?=H[b]?:=fun b hb1 hb2 hb3=>by rw[hH2,AJ (by simpa using hb1),As (fun e=>hb3 e.symm),As (fun e=>hb2 e.symm)]
  have e20:H2[0]?=some (.box [.d (S q1),.lsl ob 4 0 (st.length+1)]):=by rw[hH2,AJ (by simpa using l0),As nb0,BS l0]
  have e2b:H2[ob]?=some (.box (c++(.d (.int .i64 t.kind)::.d (S t.text)::.lsl (H.length+1) 1 0 (t.keys.length+1)::qa::junk))):=by rw[hH2,AJ (by simpa using lb),BS (by simpa using lb),kn]
  have e2n:H2[H.length+1]?=some (.row false (strs (t.keys++[q2]))):=by rw[hH2,Bc (by simp)];simp[strs,AeT.1 kn]
  have hne:∀ b,b∈ob::(i++(ik++iq))->¬b=H.length+1:=fun b hb=>by have:=hlt b hb;omega
  have hnd2:(ob::(i++([H.length+1]++iq))).Nodup:=by
   have q1:=Adn.1 hnd;have q2:=Adq.1 q1.2;have q3:=Adq.1 q2.2.1;refine Adn.2 ⟨fun q=>?_,Adq.2 ⟨q2.1,Adq.2 ⟨by simp,q3.2.1,fun x hx y hy e=>?_⟩,fun x hx y hy e=>?_⟩⟩
   ·rcases Adj.1 q with q | q
    ·exact q1.1 (Ada _ q)
    rcases Adj.1 q with q | q
    ·exact hne ob (by simp) (Adi.1 q)
    exact q1.1 (Aa0 _ (Aa0 _ q))
   ·rw[Adi.1 hx] at e;exact hne y (AaZ _ (Aa0 _ (Aa0 _ hy))) e.symm
   subst e;rcases Adj.1 hy with hy | hy
   ·exact hne x (AaZ _ (Ada _ hx)) (Adi.1 hy)
   exact q2.2.2 x hx x (Aa0 _ hy) rfl
  have hold:∀ b,b∈i++iq->b<H.length/\¬b=0/\¬b=ob:=fun b hb=>by have hm:b∈i++(ik++iq):=(by rcases Adj.1 hb with hb | hb;exact Ada _ hb;exact Aa0 _ (Aa0 _ hb));refine ⟨hlt b (AaZ _ hm),fun e=>by have:=hpos b (AaZ _ hm);omega,fun e=>(Adn.1 hnd).1 (e▸hm)⟩
  have P2:CM q1 (FT t q2::st) ob (i++([H.length+1]++iq)) H2:=by
   refine CM.mk_top (t:=FT t q2) e20 e2b hs (fun b hb=>f2 b (hold b (Ada _ hb)).1 (hold b (Ada _ hb)).2.1 (hold b (Ada _ hb)).2.2) (.inr ⟨by simp[FT,Nd.keys],_,by simp[FT,Nd.keys],rfl,e2n⟩) (hq.frame fun b hb=>f2 b (hold b (Aa0 _ hb)).1 (hold b (Aa0 _ hb)).2.1 (hold b (Aa0 _ hb)).2.2) hnd2 (fun b hb=>?_) x2;rcases Ado.1 hb with hb | hb
   ·rw[hb];exact hpos ob (by simp)
   rcases Adj.1 hb with hb | hb
   ·exact hpos b (AaZ _ (Ada _ hb))
   rcases Adj.1 hb with hb | hb
   ·rw[Adi.1 hb];omega
   exact hpos b (AaZ _ (Aa0 _ (Aa0 _ hb)))
  have K2:CS (ob::ids) H (ob::(i++([H.length+1]++iq))) H2:=by
   rw[hids];refine ⟨by omega,fun j j0 jl jn=>f2 j jl (by omega) (fun e=>jn (by rw[e];simp)),fun j hj=>?_⟩;rcases Ado.1 hj with hj | hj
   ·rw[hj];simp
   rcases Adj.1 hj with hj | hj
   ·exact .inl (AaZ _ (Ada _ hj))
   rcases Adj.1 hj with hj | hj
   ·rw[Adi.1 hj];exact .inr (by omega)
   exact .inl (AaZ _ (Aa0 _ (Aa0 _ hj)))
  have sl:=@strs_length t.keys;cases q3 with
  | false =>
   refine ⟨false,_,H2,Ctr.bodyI (M:=MK7) Am Tryz.func81 rfl Z4 x2.ok ?_,x2,K2,by rw[M3 st k5 (by rw[hqe];simp)];rfl⟩;simp(disch:=(try simp only[Ab]);omega)only[II,Mp,Tryz.f81,q0,hb,g0,gl,k5,↓Aa,Ac,↓reduceIte,Qu,Qv];refine ⟨by rfl,?_⟩;refine Aq.go hqu ⟨.inl rfl,trivial⟩ (by simp) ?_;simp(disch:=(try simp only[Ab]);omega)only[Ai,II,hb,g2,gl,gs,Be,↓Aa,Ac,↓reduceIte,Qu,Qw];first
   | exact .inr ⟨hH2,.inl rfl⟩
  | true =>
   have hsg:=P2.lift (G:=G) (r':=(sgn 58 q1).1) (fun v=>hsig q1 (by omega) v) (by simp);obtain ⟨P3,K3⟩:=P2.rest (r':=(sgn 58 q1).1);refine ⟨(sgn 58 q1).2,_,_,Ctr.bodyI (M:=MK7) Am Tryz.func81 rfl Z4 P3.nox.ok ?_,P3.nox,K2.trans K3,?_⟩
   ·simp(disch:=(try simp only[Ab]);omega)only[II,Mp,Tryz.f81,q0,hb,g0,gl,k5,↓Aa,Ac,↓reduceIte,Qu,Qv];refine ⟨by rfl,?_⟩;refine Aq.go hqu ⟨.inl rfl,trivial⟩ (by simp) ?_;simp(disch:=(try simp only[Ab]);omega)only[II,Mo,hb,g2,gl,gs,Be,↓Aa,Ac,↓reduceIte,Qu,Qw];rw[<-hH2];refine Aq.go hsg ⟨.inl rfl,.inl rfl,trivial⟩ (by simp) ?_;simp only[Ai,↓Aa,Ac,↓reduceIte];first
    | exact .inr ⟨rfl,.inl rfl⟩
   cases hs2:(sgn 58 q1).2 with
   | false=>rw[M3 st k5 (by rw[hqe];simp[hs2])];rfl
   | true =>rw[Ub st k5 (by rw[hqe]) (by rw[hqe];exact hs2),hqe];exact ⟨rfl,P3⟩
 subst ka0;have hkm:kb∈i++(ik++iq):=Aa0 _ (Ada _ (by rw[ik0];simp));have nkb0:¬kb=0:=fun e=>by have:=hpos kb (AaZ _ hkm);omega
 have n0kb:¬0=kb:=fun e=>nkb0 e.symm;have lkb:kb<H.length:=hlt kb (AaZ _ hkm);have nkbo:¬kb=ob:=fun e=>(Adn.1 hnd).1 (e▸hkm);have nokb:¬ob=kb:=fun e=>nkbo e.symm;obtain ⟨H2,hH2⟩:∃ H2,H2=((H.set 0 (.box [.d (S q1),.lsl ob 4 0 (st.length+1)])).set kb .dead).set ob (.box (c++(.d (.int .i64 t.kind)::.d (S t.text)::.lsl (H.length+1) 1 0 (t.keys.length+1)::qa::junk)))++[.row false [S q2],.row false (strs t.keys++[S q2])]:=⟨_,rfl⟩;have hl2:H2.length=H.length+2:=by rw[hH2];simp
 have x2:NoX H2:=by rw[hH2];exact (((h.nox.set _ (by simp)).set _ (by simp)).set _ (by simp)).app (by simp[NoX])
 have f2:∀ b,b<H.length->¬b=0->¬b=ob->¬b=kb->H2[b]?=H[b]?:=fun b hb1 hb2 hb3 hb4=>by rw[hH2,AJ (by simpa using hb1),As (fun e=>hb3 e.symm),As (fun e=>hb4 e.symm),As (fun e=>hb2 e.symm)]
 have e20:H2[0]?=some (.box [.d (S q1),.lsl ob 4 0 (st.length+1)]):=by rw[hH2,AJ (by simpa using l0),As nb0,As nkb0,BS l0]
 have e2b:H2[ob]?=some (.box (c++(.d (.int .i64 t.kind)::.d (S t.text)::.lsl (H.length+1) 1 0 (t.keys.length+1)::qa::junk))):=by rw[hH2,AJ (by simpa using lb),BS (by simpa using lb)]
 have e2n:H2[H.length+1]?=some (.row false (strs (t.keys++[q2]))):=by rw[hH2,Bc (by simp)];simp[strs]
 have hne:∀ b,b∈ob::(i++(ik++iq))->¬b=H.length+1:=fun b hb=>by have:=hlt b hb;omega
 have hnd2:(ob::(i++([H.length+1]++iq))).Nodup:=by
  have q1:=Adn.1 hnd;have q2:=Adq.1 q1.2;have q3:=Adq.1 q2.2.1;refine Adn.2 ⟨fun q=>?_,Adq.2 ⟨q2.1,Adq.2 ⟨by simp,q3.2.1,fun x hx y hy e=>?_⟩,fun x hx y hy e=>?_⟩⟩
  ·rcases Adj.1 q with q | q
   ·exact q1.1 (Ada _ q)
   rcases Adj.1 q with q | q
   ·exact hne ob (by simp) (Adi.1 q)
   exact q1.1 (Aa0 _ (Aa0 _ q))
  ·rw[Adi.1 hx] at e;exact hne y (AaZ _ (Aa0 _ (Aa0 _ hy))) e.symm
  subst e;rcases Adj.1 hy with hy | hy
  ·exact hne x (AaZ _ (Ada _ hx)) (Adi.1 hy)
  exact q2.2.2 x hx x (Aa0 _ hy) rfl
 have hold:∀ b,b∈i++iq->b<H.length/\¬b=0/\¬b=ob/\¬b=kb:=fun b hb=>by
  have hm:b∈i++(ik++iq):=by rcases Adj.1 hb with hb | hb;exact Ada _ hb;exact Aa0 _ (Aa0 _ hb)
  refine ⟨hlt b (AaZ _ hm),fun e=>by have:=hpos b (AaZ _ hm);omega,fun e=>(Adn.1 hnd).1 (e▸hm),fun e=>?_⟩;subst e;have q2:=Adq.1 (Adn.1 hnd).2;have q3:=Adq.1 q2.2.1;rcases Adj.1 hb with hb | hb
  ·exact q2.2.2 b hb b (Ada _ (by rw[ik0];simp)) rfl
  exact q3.2.2 b (by rw[ik0];simp) b hb rfl
 have P2:CM q1 (FT t q2::st) ob (i++([H.length+1]++iq)) H2:=by
  refine CM.mk_top (t:=FT t q2) e20 e2b hs (fun b hb=>f2 b (hold b (Ada _ hb)).1 (hold b (Ada _ hb)).2.1 (hold b (Ada _ hb)).2.2.1 (hold b (Ada _ hb)).2.2.2) (.inr ⟨by simp[FT,Nd.keys],_,by simp[FT,Nd.keys],rfl,e2n⟩) (hq.frame fun b hb=>f2 b (hold b (Aa0 _ hb)).1 (hold b (Aa0 _ hb)).2.1 (hold b (Aa0 _ hb)).2.2.1 (hold b (Aa0 _ hb)).2.2.2) hnd2 (fun b hb=>?_) x2;rcases Ado.1 hb with hb | hb
  ·rw[hb];exact hpos ob (by simp)
  rcases Adj.1 hb with hb | hb
  ·exact hpos b (AaZ _ (Ada _ hb))
  rcases Adj.1 hb with hb | hb
  ·rw[Adi.1 hb];omega
  exact hpos b (AaZ _ (Aa0 _ (Aa0 _ hb)))
 have K2:CS (ob::ids) H (ob::(i++([H.length+1]++iq))) H2:=by
  rw[hids];refine ⟨by omega,fun j j0 jl jn=>f2 j jl (by omega) (fun e=>jn (by rw[e];simp)) (fun e=>jn (by rw[e,ik0];simp)),fun j hj=>?_⟩;rcases Ado.1 hj with hj | hj
  ·rw[hj];simp
  rcases Adj.1 hj with hj | hj
  ·exact .inl (AaZ _ (Ada _ hj))
  rcases Adj.1 hj with hj | hj
  ·rw[Adi.1 hj];exact .inr (by omega)
  exact .inl (AaZ _ (Aa0 _ (Aa0 _ hj)))
 have sl:=@strs_length t.keys;cases q3 with
 | false =>
  refine ⟨false,_,H2,Ctr.bodyI (M:=MK7) Am Tryz.func81 rfl Z4 x2.ok ?_,x2,K2,by rw[M3 st k5 (by rw[hqe];simp)];rfl⟩;simp(disch:=(try simp only[Ab]);omega)only[II,Mp,Tryz.f81,q0,hb,g0,gl,k5,↓Aa,Ac,↓reduceIte,Qu,Qv];refine ⟨by rfl,?_⟩;refine Aq.go hqu ⟨.inl rfl,trivial⟩ (by simp) ?_;simp(disch:=(try simp only[Ab]);omega)only[Ai,II,hb,g2,gl,gs,sl,hkb,Be,↓Aa,Ac,↓reduceIte,Qu];first
  | exact .inr ⟨hH2,.inl rfl⟩
 | true =>
  have hsg:=P2.lift (G:=G) (r':=(sgn 58 q1).1) (fun v=>hsig q1 (by omega) v) (by simp);obtain ⟨P3,K3⟩:=P2.rest (r':=(sgn 58 q1).1);refine ⟨(sgn 58 q1).2,_,_,Ctr.bodyI (M:=MK7) Am Tryz.func81 rfl Z4 P3.nox.ok ?_,P3.nox,K2.trans K3,?_⟩
  ·simp(disch:=(try simp only[Ab]);omega)only[II,Mp,Tryz.f81,q0,hb,g0,gl,k5,↓Aa,Ac,↓reduceIte,Qu,Qv];refine ⟨by rfl,?_⟩;refine Aq.go hqu ⟨.inl rfl,trivial⟩ (by simp) ?_;simp(disch:=(try simp only[Ab]);omega)only[II,Mo,hb,g2,gl,gs,sl,hkb,Be,↓Aa,Ac,↓reduceIte,Qu];rw[<-hH2];refine Aq.go hsg ⟨.inl rfl,.inl rfl,trivial⟩ (by simp) ?_;simp only[Ai,↓Aa,Ac,↓reduceIte];first
   | exact .inr ⟨rfl,.inl rfl⟩
  cases hs2:(sgn 58 q1).2 with
  | false=>rw[M3 st k5 (by rw[hqe];simp[hs2])];rfl
  | true =>rw[Ub st k5 (by rw[hqe]) (by rw[hqe];exact hs2),hqe];exact ⟨rfl,P3⟩
def MB7:Ci:=fun k=>Afh k 2000027 || (Afh k 2000028 || (Afh k 4000113 || (Afh k 4000080 || (Afh k 4000082 || Afh k 4000081))))
def Ae5:MB7 2000027=true:=rfl
def Ae4:MB7 2000028=true:=rfl
def Ae3:MB7 4000113=true:=rfl
def Ae2:MB7 4000080=true:=rfl
def Ae1:MB7 4000082=true:=rfl
def Ae0:MB7 4000081=true:=rfl
def AeZ {k:Nat} (h:¬(k=2000027\/k=2000028\/k=4000113\/k=4000080\/k=4000082\/k=4000081)):MB7 k=false:=by
 cases e:MB7 k with
 | false=>rfl
 | true =>
  unfold MB7 at e;simp only[Afv] at e;rcases e with e | e | e | e | e | e
  ·exact absurd (.inl (Aet e)) h
  ·exact absurd (.inr (.inl (Aet e))) h
  ·exact absurd (.inr (.inr (.inl (Aet e)))) h
  ·exact absurd (.inr (.inr (.inr (.inl (Aet e))))) h
  ·exact absurd (.inr (.inr (.inr (.inr (.inl (Aet e)))))) h
  exact absurd (.inr (.inr (.inr (.inr (.inr (Aet e)))))) h
set_option linter.defProp false in
def MBX := And.intro @AeZ (And.intro @Ae5 (And.intro @Ae4 (And.intro @Ae3 (And.intro @Ae2 (And.intro @Ae1 (And.intro @Ae0 (And.intro (show Io MB7 (some 27)=true from rfl) ((show Io MB7 (some 28)=true from rfl)))))))))
def Ac1 (x:PSt) (n:Nd) (c b:Bool) (ob:Nat) (ids:List Nat) (H:List Ae):Prop:=match x with
 | .beg r st=>c=false/\b=true/\CM r st ob ids H
 | .got r st m=>n=m/\c=true/\b=true/\CM r st ob ids H
 | .bad=>b=false
def CM.other {r:List UInt8} {st:List Nd} {ob:Nat} {ids:List Nat} {H:List Ae} (h:CM r st ob ids H) {j:Nat} {b:Ae} (j0:¬j=0) (hj:j∉ob::ids) (hb:∀ J t,b≠.ext J t):CM r st ob ids (H.set j b) :=
 ⟨by rw[As j0];exact h.box,h.stack.frame fun x hx=>As fun e=>hj (e▸hx),h.pos,h.nox.set _ hb⟩
def CS.set {F F':List Nat} {H H':List Ae} (h:CS F H F' H') {j:Nat} (hj:H.length<=j) (b:Ae):CS F H F' (H'.set j b) :=
 ⟨by rw[AeI];exact h.len,fun i h0 hi hn=>by rw[As (by omega)];exact h.keep i h0 hi hn,h.old⟩
def KQ {r:List UInt8} {t:Nd} {st:List Nd} {b:Bool} {ob:Nat} {ids:List Nat} {H:List Ae} (h:AcZ (FW r t st) ob b ids H) {j:Nat} {x:AV} {l:List AV} (j0:¬j=0) (hj:j∉ob::ids) :
  Ac1 (FW r t st) noN false b ob ids (H.set j (.box (x::l))):=by
 unfold AcZ at h;have hk:∀ y,FW r t st=y->(∃ a c,y=.beg a c)\/y=.bad:=by
  intro y e;unfold FW at e;split at e;·exact .inl ⟨_,_,e.symm⟩
  split at e;·exact .inl ⟨_,_,e.symm⟩
  exact .inr e.symm
 rcases hk _ rfl with ⟨a,c,e⟩ | e
 ·rw[e] at h ⊢;exact ⟨rfl,h.1,h.2.other j0 hj (by simp)⟩
 rw[e] at h ⊢;exact h
def Hs {rest r:List UInt8} {st:List Nd} {ob:Nat} {ids:List Nat} {H H2:List Ae} {cells:List AV} {k:Int} (h:CM rest st ob ids H) (hs:MK [] H st cells ids) (l2:H2.length=H.length+3)
  (e0:H2[0]?=some (.box [.d (S r),.lsl (H.length+2) 4 0 (st.length+1)])) (ef:∀ j,j≠0->j<H.length->j≠ob->H2[j]?=H[j]?) (e1:H2[H.length]?=some (.box zN))
  (e2:H2[H.length+2]?=some (.box (cells++(.d (.int .i64 k)::.d (.str ByteArray.empty)::.d (.sl 0 true [])::.d (.sl 0 true [])::[])))) (hx:NoX H2) :
  CM r (.mk k [] [] []::st) (H.length+2) ids H2/\CS (ob::ids) H ((H.length+2)::ids) H2/\H2[H.length]?=some (.box zN):=by
 have hnd:=Adn.1 h.stack.nd;have hlt:=h.stack.lt;have h0:0<H.length:=(Adf.1 h.box).1;have P:=CM.mk_top (r1:=r) (t:=.mk k [] [] []) (ik:=[]) (iq:=[]) (ka:=.d (.sl 0 true [])) (qa:=.d (.sl 0 true [])) (junk:=[]) e0 e2 hs (fun b hb=>ef b (fun e=>by have:=h.pos b (AaZ _ hb);omega) (hlt b (AaZ _ hb)) fun e=>hnd.1 (e▸hb)) (.inl ⟨rfl,rfl,rfl⟩) (.inl ⟨rfl,rfl,rfl⟩)
  (by rw[Ae6,Ae6];exact Adn.2 ⟨fun q=>by have:=hlt _ (AaZ _ q);omega,hnd.2⟩) (fun b hb=>by
   rw[Ae6,Ae6] at hb;rcases Ado.1 hb with hb | hb
   ·omega
   exact h.pos b (AaZ _ hb)) hx
 rw[Ae6,Ae6] at P;refine ⟨P,⟨by omega,fun i i0 il hn=>ef i (by omega) il fun e=>hn (by rw[e];simp),fun i hi=>?_⟩,e1⟩;rcases Ado.1 hi with hi | hi
 ·exact .inr (by omega)
 exact .inl (AaZ _ hi)
def CS.not_mem {F F':List Nat} {H H':List Ae} (k:CS F H F' H') {j:Nat} (hj:j∉F) (hl:j<H.length):j∉F':=fun q=>by
 rcases k.old j q with q | q
 ·exact hj q
 omega
def YF {rest:List UInt8} {st:List Nd} {ob:Nat} {ids:List Nat} {H:List Ae} (h:CM rest st ob ids H) (hst:st.length<=900000000) (hr:rest.length<=1000000000) :
  ∃ n c b ob' ids' H',Ctr TP G 79 [.ptr 0 0] H (.d (.tup [NdD n,.bool c,.bool b])) H'/\NoX H'/\CS (ob::ids) H (ob'::ids') H'/\Ac1 (Fs rest st) n c b ob' ids' H':=by
 have hsig:=fun (c:UInt8) (r:List UInt8) (hr:r.length<=1000000000) v=>G4 (G:=G) c r (by omega) v;have q0:=h.box;have l0:0<H.length:=(Adf.1 q0).1;have lb:ob<H.length:=h.stack.lt ob (by simp);have n0b:¬0=ob:=h.ne (by simp);have nb0:¬ob=0:=fun e=>n0b e.symm;obtain ⟨P1,K1⟩:=h.app (E:=[.box zN]) (by simp[NoX]);have s1:=P1.lift (G:=G) (r':=(sgn 91 rest).1) (fun v=>hsig 91 rest hr v) (by simp);obtain ⟨P2,K2⟩:=P1.rest (r':=(sgn 91 rest).1);have hl1:=Bs 91 rest;obtain ⟨cf,hcf⟩:=DA [0,ob,H.length,H.length+1,H.length+2] (by simp only[Adn,Ado,AfB,or_false,not_or,Afi,and_true,not_false_eq_true];omega);have c0:=hcf 0 _ rfl;have c1:=hcf 1 _ rfl;have c2:=hcf 2 _ rfl;have c3:=hcf 3 _ rfl;have c4:=hcf 4 _ rfl;cases h91:(sgn 91 rest).2 with
 | true =>
  obtain ⟨cells,ho,hs⟩:=h.stack.stk;rcases ho with ⟨junk,ho⟩ | ⟨ho1,ho⟩
  ·have hcl:=hs.len;simp only[Adl,Afu] at hcl;have htk:(cells++junk).take (st.length*4)=cells:=(by rw[<-hcl,Afl])
   have htk2:∀ x,AfJ (st.length*4) (cells++x)=cells:=fun x=>by rw[<-hcl,Afl]
   have hdr2:∀ x y z w:AV,AfE (st.length*4+4) (cells++[x,y,z,w])=[]:=fun x y z w=>Afg (by simp[hcl]);obtain ⟨cs,hcs⟩:∃ cs,cs=cells++junk:=⟨_,rfl⟩;rw[<-hcs] at ho htk;obtain ⟨r,hr1⟩:∃ r,r=(sgn 91 rest).1:=⟨_,rfl⟩;have hrl:r.length<=1000000000:=(by rw[hr1];omega)
   obtain ⟨H2,hH2⟩:∃ H2,H2=((H.set 0 (.box [.d (S r),.lsl ob 4 0 st.length])).set ob .dead).set 0 (.box [.d (S r),.lsl (H.length+2) 4 0 (st.length+1)])++[.box zN,.box [.d (.int .i64 0),.d (.str {data:=#[]}),.d (.sl 0 true []),.d (.sl 0 true [])],.box (cells++(.d (.int .i64 5)::.d (.str ByteArray.empty)::.d (.sl 0 true [])::.d (.sl 0 true [])::[]))]:=⟨_,rfl⟩;obtain ⟨P3,K3,e3⟩:CM r (.mk 5 [] [] []::st) (H.length+2) ids H2/\CS (ob::ids) H ((H.length+2)::ids) H2/\H2[H.length]?=some (.box zN):=Hs h hs (by rw[hH2];simp) (by rw[hH2,AJ (by simpa using l0),BS (by simpa using l0)]<;>rfl) (fun j j0 jl jo=>by rw[hH2,AJ (by simpa using jl),As (Ne.symm j0),As (Ne.symm jo),As (Ne.symm j0)]) (by rw[hH2,Bc (by simp)];simp) (by rw[hH2,Bc (by simp)];simp) (by rw[hH2];exact (((h.nox.set _ (by simp)).set _ (by simp)).set _ (by simp)).app (by simp[NoX]));have s3:=P3.lift (G:=G) (r':=(sgn (A9 5) r).1) (fun v=>hsig (A9 5) r hrl v) (by simp);obtain ⟨P4,K4⟩:=P3.rest (r':=(sgn (A9 5) r).1);have hl4:=Bs (A9 5) r;have lH2:H2.length=H.length+3:=(by rw[hH2];simp)
   have hF0:H.length∉(H.length+2)::ids:=fun q=>by rcases Ado.1 q with q | q;omega;have:=h.stack.lt _ (AaZ _ q);omega
   have e4:(H2.set 0 (.box [.d (S (sgn (A9 5) r).1),.lsl (H.length+2) 4 0 (st.length+1)]))[H.length]?=some (.box zN):=(by rw[As (by omega)];exact e3);have hbp:Fs rest st=Jm 5 r st:=(by unfold Fs;rw[if_pos h91];rw[hr1]);rw[hbp];unfold Jm;cases hcl2:(sgn (A9 5) r).2 with
   | true =>
    obtain ⟨ids5,H5,c5,P5,K5⟩:=I2 (G:=G) P4 (by omega);have e5:H5[H.length]?=some (.box zN):=(by rw[K5.keep H.length (by omega) (by simp;omega) hF0];exact e4)
    have l5:H.length<H5.length:=(Adf.1 e5).1;have hF:=(K4.trans K5).not_mem hF0 (by omega);refine ⟨(.mk 5 [] [] []),true,true,H.length+2,ids5,H5.set H.length (.box [.d (.int .i64 5),.d (S []),.d (.sl 0 false []),.d (.sl 0 false [])]),Ctr.bodyI (M:=MB7) Am Tryz.func79 rfl Sv ?h1 ?h2,?h3,((K3.trans K4).trans K5).set (Adm _) _,?h4⟩;case h1=>exact (P5.nox.set _ (by simp)).ok
    case h3=>exact P5.nox.set _ (by simp)
    case h4 =>rw[if_pos rfl];exact ⟨rfl,rfl,rfl,P5.other (by omega) hF (by simp)⟩
    case h2 =>
     simp(disch:=(try simp only[Ab]);omega)only[MBX,Tryz.f79,↓Aa,Ac,↓reduceIte,Qu,Qv];refine Aq.go s1 ⟨.inl rfl,.inl rfl,trivial⟩ (by simp) ?_;rw[h91];simp(disch:=(try simp only[Ab]);omega)only[MBX,ho,htk,htk2,hdr2,hcl,Be,↓Aa,Ac,↓reduceIte,Qu,Qw,Qz];refine ⟨AR cf (by simp(disch:=omega)only[BC,A8,A7,Bu,and_self]) (by simp only[AeQ,Ae7,c0,c1,c3,c4];rfl),?_⟩;refine Ad.of (BR 5) (by rfl) ?_;simp(disch:=(try simp only[Ab]);omega)only[MBX,↓Aa,Ac,Qu];rw[<-hr1,<-hH2];refine Aq.go s3 ⟨.inl rfl,.inl rfl,trivial⟩ (by simp) ?_;rw[hcl2];simp(disch:=(try simp only[Ab]);omega)only[MBX,↓Aa,Ac,Qu];refine Aq.go c5 ⟨.inl rfl,trivial⟩ K5.len ?_;simp(disch:=(try simp only[Ab]);omega)only[Ai,e5,show ndC (.mk 5 [] [] [])=[.int .i64 5,S [],.sl 0 false [],.sl 0 false []] from rfl,BS,AeI,AeL,AeR,↓Aa,awV,awF,Qa,Qb,Qd,↓reduceIte,Qf,Qh,Qp,Qq,Qr,Qu];first
     | exact .inr ⟨rfl,.inr ⟨_,rfl,rfl,rfl⟩⟩
     | exact ⟨by rfl,.inr ⟨rfl,.inr ⟨_,rfl,rfl,rfl⟩⟩⟩
   | false =>
    obtain ⟨b5,ids5,H5,c5,X5,K5,hQ5⟩:=I8 (G:=G) P4 (by omega) (by omega) (by simp[Nd.keys]);have e5:H5[H.length]?=some (.box zN):=(by rw[K5.keep H.length (by omega) (by simp;omega) hF0];exact e4)
    have l5:H.length<H5.length:=(Adf.1 e5).1;have hF:=(K4.trans K5).not_mem hF0 (by omega);refine ⟨noN,false,b5,H.length+2,ids5,H5.set H.length (.box zN),Ctr.bodyI (M:=MB7) Am Tryz.func79 rfl Sv ?h1 ?h2,?h3,((K3.trans K4).trans K5).set (Adm _) _,?h4⟩;case h1=>exact (X5.set _ (by simp)).ok
    case h3=>exact X5.set _ (by simp)
    case h4 =>rw[if_neg (by simp)];exact KQ hQ5 (by omega) hF
    case h2 =>
     simp(disch:=(try simp only[Ab]);omega)only[MBX,Tryz.f79,↓Aa,Ac,↓reduceIte,Qu,Qv];refine Aq.go s1 ⟨.inl rfl,.inl rfl,trivial⟩ (by simp) ?_;rw[h91];simp(disch:=(try simp only[Ab]);omega)only[MBX,ho,htk,htk2,hdr2,hcl,Be,↓Aa,Ac,↓reduceIte,Qu,Qw,Qz];refine ⟨AR cf (by simp(disch:=omega)only[BC,A8,A7,Bu,and_self]) (by simp only[AeQ,Ae7,c0,c1,c3,c4];rfl),?_⟩;refine Ad.of (BR 5) (by rfl) ?_;simp(disch:=(try simp only[Ab]);omega)only[MBX,↓Aa,Ac,Qu];rw[<-hr1,<-hH2];refine Aq.go s3 ⟨.inl rfl,.inl rfl,trivial⟩ (by simp) ?_;rw[hcl2];simp(disch:=(try simp only[Ab]);omega)only[MBX,↓Aa,Ac,Qu];refine Aq.go c5 ⟨.inl rfl,trivial⟩ K5.len ?_;simp(disch:=(try simp only[Ab]);omega)only[Ai,e5,BS,AeI,AeL,AeR,↓Aa,awV,awF,Qa,Qb,Qd,↓reduceIte,Qf,Qh,Qp,Qq,Qr,Qu];first
     | exact .inr ⟨rfl,.inr ⟨_,rfl,rfl,rfl⟩⟩
     | exact ⟨by rfl,.inr ⟨rfl,.inr ⟨_,rfl,rfl,rfl⟩⟩⟩
  have hst0:st=[]:=by have:=hs.len;rw[ho1] at this;simp only[Adl,Afu] at this;exact AeT.1 (by omega)
  subst hst0;subst ho1;obtain ⟨r,hr1⟩:∃ r,r=(sgn 91 rest).1:=⟨_,rfl⟩;have hrl:r.length<=1000000000:=by rw[hr1];omega
  obtain ⟨H2,hH2⟩:∃ H2,H2=((H.set 0 (.box [.d (S r),.lsl ob 4 0 0])).set ob .dead).set 0 (.box [.d (S r),.lsl (H.length+2) 4 0 1])++[.box zN,.box [.d (.int .i64 0),.d (.str {data:=#[]}),.d (.sl 0 true []),.d (.sl 0 true [])],.box ((.d (.int .i64 5)::.d (.str ByteArray.empty)::.d (.sl 0 true [])::.d (.sl 0 true [])::[]))]:=⟨_,rfl⟩;obtain ⟨P3,K3,e3⟩:CM r (.mk 5 [] [] []::[]) (H.length+2) ids H2/\CS (ob::ids) H ((H.length+2)::ids) H2/\H2[H.length]?=some (.box zN):=Hs (cells:=[]) h hs (by rw[hH2];simp) (by rw[hH2,AJ (by simpa using l0),BS (by simpa using l0)]<;>rfl) (fun j j0 jl jo=>by rw[hH2,AJ (by simpa using jl),As (Ne.symm j0),As (Ne.symm jo),As (Ne.symm j0)]) (by rw[hH2,Bc (by simp)];simp) (by rw[hH2,Bc (by simp)];simp) (by rw[hH2];exact (((h.nox.set _ (by simp)).set _ (by simp)).set _ (by simp)).app (by simp[NoX]));have s3:=P3.lift (G:=G) (r':=(sgn (A9 5) r).1) (fun v=>hsig (A9 5) r hrl v) (by simp);obtain ⟨P4,K4⟩:=P3.rest (r':=(sgn (A9 5) r).1);have hl4:=Bs (A9 5) r;have lH2:H2.length=H.length+3:=by rw[hH2];simp
  have hF0:H.length∉(H.length+2)::ids:=fun q=>by rcases Ado.1 q with q | q;omega;have:=h.stack.lt _ (AaZ _ q);omega
  have e4:(H2.set 0 (.box [.d (S (sgn (A9 5) r).1),.lsl (H.length+2) 4 0 1]))[H.length]?=some (.box zN):=by rw[As (by omega)];exact e3
  have hbp:Fs rest []=Jm 5 r []:=by unfold Fs;rw[if_pos h91];rw[hr1]
  rw[hbp];unfold Jm;cases hcl2:(sgn (A9 5) r).2 with
  | true =>
   obtain ⟨ids5,H5,c5,P5,K5⟩:=I2 (G:=G) P4 (by omega);have e5:H5[H.length]?=some (.box zN):=(by rw[K5.keep H.length (by omega) (by simp;omega) hF0];exact e4)
   have l5:H.length<H5.length:=(Adf.1 e5).1;have hF:=(K4.trans K5).not_mem hF0 (by omega);refine ⟨(.mk 5 [] [] []),true,true,H.length+2,ids5,H5.set H.length (.box [.d (.int .i64 5),.d (S []),.d (.sl 0 false []),.d (.sl 0 false [])]),Ctr.bodyI (M:=MB7) Am Tryz.func79 rfl Sv ?h1 ?h2,?h3,((K3.trans K4).trans K5).set (Adm _) _,?h4⟩;case h1=>exact (P5.nox.set _ (by simp)).ok
   case h3=>exact P5.nox.set _ (by simp)
   case h4 =>rw[if_pos rfl];exact ⟨rfl,rfl,rfl,P5.other (by omega) hF (by simp)⟩
   case h2 =>
    simp(disch:=(try simp only[Ab]);omega)only[MBX,Tryz.f79,↓Aa,Ac,↓reduceIte,Qu,Qv];refine Aq.go s1 ⟨.inl rfl,.inl rfl,trivial⟩ (by simp) ?_;rw[h91];simp(disch:=(try simp only[Ab]);omega)only[MBX,ho,Be,↓Aa,Ac,↓reduceIte,Qu,Qw,Qz];refine ⟨AR cf (by simp(disch:=omega)only[BC,A8,A7,Bu,and_self]) (by simp only[AeQ,Ae7,c0,c1,c3,c4];rfl),?_⟩;refine Ad.of (BR 5) (by rfl) ?_;simp(disch:=(try simp only[Ab]);omega)only[MBX,↓Aa,Ac,Qu];rw[<-hr1,<-hH2];refine Aq.go s3 ⟨.inl rfl,.inl rfl,trivial⟩ (by simp) ?_;rw[hcl2];simp(disch:=(try simp only[Ab]);omega)only[MBX,↓Aa,Ac,Qu];refine Aq.go c5 ⟨.inl rfl,trivial⟩ K5.len ?_;simp(disch:=(try simp only[Ab]);omega)only[Ai,e5,show ndC (.mk 5 [] [] [])=[.int .i64 5,S [],.sl 0 false [],.sl 0 false []] from rfl,BS,AeI,AeL,AeR,↓Aa,awV,awF,Qa,Qb,Qd,↓reduceIte,Qf,Qh,Qp,Qq,Qr,Qu];first
    | exact .inr ⟨rfl,.inr ⟨_,rfl,rfl,rfl⟩⟩
    | exact ⟨by rfl,.inr ⟨rfl,.inr ⟨_,rfl,rfl,rfl⟩⟩⟩
  | false =>
   obtain ⟨b5,ids5,H5,c5,X5,K5,hQ5⟩:=I8 (G:=G) P4 (by omega) (by omega) (by simp[Nd.keys]);have e5:H5[H.length]?=some (.box zN):=(by rw[K5.keep H.length (by omega) (by simp;omega) hF0];exact e4)
   have l5:H.length<H5.length:=(Adf.1 e5).1;have hF:=(K4.trans K5).not_mem hF0 (by omega);refine ⟨noN,false,b5,H.length+2,ids5,H5.set H.length (.box zN),Ctr.bodyI (M:=MB7) Am Tryz.func79 rfl Sv ?h1 ?h2,?h3,((K3.trans K4).trans K5).set (Adm _) _,?h4⟩;case h1=>exact (X5.set _ (by simp)).ok
   case h3=>exact X5.set _ (by simp)
   case h4 =>rw[if_neg (by simp)];exact KQ hQ5 (by omega) hF
   case h2 =>
    simp(disch:=(try simp only[Ab]);omega)only[MBX,Tryz.f79,↓Aa,Ac,↓reduceIte,Qu,Qv];refine Aq.go s1 ⟨.inl rfl,.inl rfl,trivial⟩ (by simp) ?_;rw[h91];simp(disch:=(try simp only[Ab]);omega)only[MBX,ho,Be,↓Aa,Ac,↓reduceIte,Qu,Qw,Qz];refine ⟨AR cf (by simp(disch:=omega)only[BC,A8,A7,Bu,and_self]) (by simp only[AeQ,Ae7,c0,c1,c3,c4];rfl),?_⟩;refine Ad.of (BR 5) (by rfl) ?_;simp(disch:=(try simp only[Ab]);omega)only[MBX,↓Aa,Ac,Qu];rw[<-hr1,<-hH2];refine Aq.go s3 ⟨.inl rfl,.inl rfl,trivial⟩ (by simp) ?_;rw[hcl2];simp(disch:=(try simp only[Ab]);omega)only[MBX,↓Aa,Ac,Qu];refine Aq.go c5 ⟨.inl rfl,trivial⟩ K5.len ?_;simp(disch:=(try simp only[Ab]);omega)only[Ai,e5,BS,AeI,AeL,AeR,↓Aa,awV,awF,Qa,Qb,Qd,↓reduceIte,Qf,Qh,Qp,Qq,Qr,Qu];first
    | exact .inr ⟨rfl,.inr ⟨_,rfl,rfl,rfl⟩⟩
    | exact ⟨by rfl,.inr ⟨rfl,.inr ⟨_,rfl,rfl,rfl⟩⟩⟩
 | false =>
  have hl2:=Bs 123 (sgn 91 rest).1;have s2:=P2.lift (G:=G) (r':=(sgn 123 (sgn 91 rest).1).1) (fun v=>hsig 123 (sgn 91 rest).1 (by omega) v) (by simp);simp only[Ch,l0,AeI] at s2;obtain ⟨P3,K3⟩:=P2.rest (r':=(sgn 123 (sgn 91 rest).1).1);cases h123:(sgn 123 (sgn 91 rest).1).2 with
  | true =>
   clear P3 K3;obtain ⟨cells,ho,hs⟩:=h.stack.stk;rcases ho with ⟨junk,ho⟩ | ⟨ho1,ho⟩
   ·have hcl:=hs.len;simp only[Adl,Afu] at hcl;have htk:(cells++junk).take (st.length*4)=cells:=(by rw[<-hcl,Afl])
    have htk2:∀ x,AfJ (st.length*4) (cells++x)=cells:=fun x=>by rw[<-hcl,Afl]
    have hdr2:∀ x y z w:AV,AfE (st.length*4+4) (cells++[x,y,z,w])=[]:=fun x y z w=>Afg (by simp[hcl]);obtain ⟨cs,hcs⟩:∃ cs,cs=cells++junk:=⟨_,rfl⟩;rw[<-hcs] at ho htk;obtain ⟨r,hr1⟩:∃ r,r=(sgn 123 (sgn 91 rest).1).1:=⟨_,rfl⟩;have hrl:r.length<=1000000000:=(by rw[hr1];omega)
    obtain ⟨H2,hH2⟩:∃ H2,H2=(((H.set 0 (.box [.d (S (sgn 91 rest).1),.lsl ob 4 0 st.length])).set 0 (.box [.d (S r),.lsl ob 4 0 st.length])).set ob .dead).set 0 (.box [.d (S r),.lsl (H.length+2) 4 0 (st.length+1)])++[.box zN,.box [.d (.int .i64 0),.d (.str {data:=#[]}),.d (.sl 0 true []),.d (.sl 0 true [])],.box (cells++(.d (.int .i64 6)::.d (.str ByteArray.empty)::.d (.sl 0 true [])::.d (.sl 0 true [])::[]))]:=⟨_,rfl⟩;obtain ⟨P3,K3,e3⟩:CM r (.mk 6 [] [] []::st) (H.length+2) ids H2/\CS (ob::ids) H ((H.length+2)::ids) H2/\H2[H.length]?=some (.box zN):=Hs h hs (by rw[hH2];simp) (by rw[hH2,AJ (by simpa using l0),BS (by simpa using l0)]<;>rfl) (fun j j0 jl jo=>by rw[hH2,AJ (by simpa using jl),As (Ne.symm j0),As (Ne.symm jo),As (Ne.symm j0),As (Ne.symm j0)]) (by rw[hH2,Bc (by simp)];simp) (by rw[hH2,Bc (by simp)];simp) (by rw[hH2];exact ((((h.nox.set _ (by simp)).set _ (by simp)).set _ (by simp)).set _ (by simp)).app (by simp[NoX]));have s3:=P3.lift (G:=G) (r':=(sgn (A9 6) r).1) (fun v=>hsig (A9 6) r hrl v) (by simp);obtain ⟨P4,K4⟩:=P3.rest (r':=(sgn (A9 6) r).1);have hl4:=Bs (A9 6) r;have lH2:H2.length=H.length+3:=(by rw[hH2];simp)
    have hF0:H.length∉(H.length+2)::ids:=fun q=>by rcases Ado.1 q with q | q;omega;have:=h.stack.lt _ (AaZ _ q);omega
    have e4:(H2.set 0 (.box [.d (S (sgn (A9 6) r).1),.lsl (H.length+2) 4 0 (st.length+1)]))[H.length]?=some (.box zN):=(by rw[As (by omega)];exact e3);have hbp:Fs rest st=Jm 6 r st:=(by unfold Fs;rw[if_neg (by rw[h91];simp),if_pos h123];rw[hr1]);rw[hbp];unfold Jm;cases hcl2:(sgn (A9 6) r).2 with
    | true =>
     obtain ⟨ids5,H5,c5,P5,K5⟩:=I2 (G:=G) P4 (by omega);have e5:H5[H.length]?=some (.box zN):=(by rw[K5.keep H.length (by omega) (by simp;omega) hF0];exact e4)
     have l5:H.length<H5.length:=(Adf.1 e5).1;have hF:=(K4.trans K5).not_mem hF0 (by omega);refine ⟨(.mk 6 [] [] []),true,true,H.length+2,ids5,H5.set H.length (.box [.d (.int .i64 6),.d (S []),.d (.sl 0 false []),.d (.sl 0 false [])]),Ctr.bodyI (M:=MB7) Am Tryz.func79 rfl Sv ?h1 ?h2,?h3,((K3.trans K4).trans K5).set (Adm _) _,?h4⟩;case h1=>exact (P5.nox.set _ (by simp)).ok
     case h3=>exact P5.nox.set _ (by simp)
     case h4 =>rw[if_pos rfl];exact ⟨rfl,rfl,rfl,P5.other (by omega) hF (by simp)⟩
     case h2 =>
      simp(disch:=(try simp only[Ab]);omega)only[MBX,Tryz.f79,↓Aa,Ac,↓reduceIte,Qu,Qv];refine Aq.go s1 ⟨.inl rfl,.inl rfl,trivial⟩ (by simp) ?_;rw[h91];simp(disch:=(try simp only[Ab]);omega)only[MBX,Be,↓Aa,Ac,Qu];refine Aq.go s2 ⟨.inl rfl,.inl rfl,trivial⟩ (by simp) ?_;rw[h123];simp(disch:=(try simp only[Ab]);omega)only[MBX,ho,htk,htk2,hdr2,hcl,Be,↓Aa,Ac,↓reduceIte,Qu,Qw,Qz];refine ⟨AR cf (by simp(disch:=omega)only[BC,A8,A7,Bu,and_self]) (by simp only[AeQ,Ae7,c0,c1,c3,c4];rfl),?_⟩;refine Ad.of (BR 6) (by rfl) ?_;simp(disch:=(try simp only[Ab]);omega)only[MBX,↓Aa,Ac,Qu];rw[<-hr1,<-hH2];refine Aq.go s3 ⟨.inl rfl,.inl rfl,trivial⟩ (by simp) ?_;rw[hcl2];simp(disch:=(try simp only[Ab]);omega)only[MBX,↓Aa,Ac,Qu];refine Aq.go c5 ⟨.inl rfl,trivial⟩ K5.len ?_;simp(disch:=(try simp only[Ab]);omega)only[Ai,e5,show ndC (.mk 6 [] [] [])=[.int .i64 6,S [],.sl 0 false [],.sl 0 false []] from rfl,BS,AeI,AeL,AeR,↓Aa,awV,awF,Qa,Qb,Qd,↓reduceIte,Qf,Qh,Qp,Qq,Qr,Qu];first
      | exact .inr ⟨rfl,.inr ⟨_,rfl,rfl,rfl⟩⟩
      | exact ⟨by rfl,.inr ⟨rfl,.inr ⟨_,rfl,rfl,rfl⟩⟩⟩
    | false =>
     obtain ⟨b5,ids5,H5,c5,X5,K5,hQ5⟩:=I8 (G:=G) P4 (by omega) (by omega) (by simp[Nd.keys]);have e5:H5[H.length]?=some (.box zN):=(by rw[K5.keep H.length (by omega) (by simp;omega) hF0];exact e4)
     have l5:H.length<H5.length:=(Adf.1 e5).1;have hF:=(K4.trans K5).not_mem hF0 (by omega);refine ⟨noN,false,b5,H.length+2,ids5,H5.set H.length (.box zN),Ctr.bodyI (M:=MB7) Am Tryz.func79 rfl Sv ?h1 ?h2,?h3,((K3.trans K4).trans K5).set (Adm _) _,?h4⟩;case h1=>exact (X5.set _ (by simp)).ok
     case h3=>exact X5.set _ (by simp)
     case h4 =>rw[if_neg (by simp)];exact KQ hQ5 (by omega) hF
     case h2 =>
      simp(disch:=(try simp only[Ab]);omega)only[MBX,Tryz.f79,↓Aa,Ac,↓reduceIte,Qu,Qv];refine Aq.go s1 ⟨.inl rfl,.inl rfl,trivial⟩ (by simp) ?_;rw[h91];simp(disch:=(try simp only[Ab]);omega)only[MBX,Be,↓Aa,Ac,Qu];refine Aq.go s2 ⟨.inl rfl,.inl rfl,trivial⟩ (by simp) ?_;rw[h123];simp(disch:=(try simp only[Ab]);omega)only[MBX,ho,htk,htk2,hdr2,hcl,Be,↓Aa,Ac,↓reduceIte,Qu,Qw,Qz];refine ⟨AR cf (by simp(disch:=omega)only[BC,A8,A7,Bu,and_self]) (by simp only[AeQ,Ae7,c0,c1,c3,c4];rfl),?_⟩;refine Ad.of (BR 6) (by rfl) ?_;simp(disch:=(try simp only[Ab]);omega)only[MBX,↓Aa,Ac,Qu];rw[<-hr1,<-hH2];refine Aq.go s3 ⟨.inl rfl,.inl rfl,trivial⟩ (by simp) ?_;rw[hcl2];simp(disch:=(try simp only[Ab]);omega)only[MBX,↓Aa,Ac,Qu];refine Aq.go c5 ⟨.inl rfl,trivial⟩ K5.len ?_;simp(disch:=(try simp only[Ab]);omega)only[Ai,e5,BS,AeI,AeL,AeR,↓Aa,awV,awF,Qa,Qb,Qd,↓reduceIte,Qf,Qh,Qp,Qq,Qr,Qu];first
      | exact .inr ⟨rfl,.inr ⟨_,rfl,rfl,rfl⟩⟩
      | exact ⟨by rfl,.inr ⟨rfl,.inr ⟨_,rfl,rfl,rfl⟩⟩⟩
   have hst0:st=[]:=(by have:=hs.len;rw[ho1] at this;simp only[Adl,Afu] at this;exact AeT.1 (by omega));subst hst0;subst ho1;obtain ⟨r,hr1⟩:∃ r,r=(sgn 123 (sgn 91 rest).1).1:=⟨_,rfl⟩;have hrl:r.length<=1000000000:=(by rw[hr1];omega)
   obtain ⟨H2,hH2⟩:∃ H2,H2=(((H.set 0 (.box [.d (S (sgn 91 rest).1),.lsl ob 4 0 0])).set 0 (.box [.d (S r),.lsl ob 4 0 0])).set ob .dead).set 0 (.box [.d (S r),.lsl (H.length+2) 4 0 1])++[.box zN,.box [.d (.int .i64 0),.d (.str {data:=#[]}),.d (.sl 0 true []),.d (.sl 0 true [])],.box ((.d (.int .i64 6)::.d (.str ByteArray.empty)::.d (.sl 0 true [])::.d (.sl 0 true [])::[]))]:=⟨_,rfl⟩;obtain ⟨P3,K3,e3⟩:CM r (.mk 6 [] [] []::[]) (H.length+2) ids H2/\CS (ob::ids) H ((H.length+2)::ids) H2/\H2[H.length]?=some (.box zN):=Hs (cells:=[]) h hs (by rw[hH2];simp) (by rw[hH2,AJ (by simpa using l0),BS (by simpa using l0)]<;>rfl) (fun j j0 jl jo=>by rw[hH2,AJ (by simpa using jl),As (Ne.symm j0),As (Ne.symm jo),As (Ne.symm j0),As (Ne.symm j0)]) (by rw[hH2,Bc (by simp)];simp) (by rw[hH2,Bc (by simp)];simp) (by rw[hH2];exact ((((h.nox.set _ (by simp)).set _ (by simp)).set _ (by simp)).set _ (by simp)).app (by simp[NoX]));have s3:=P3.lift (G:=G) (r':=(sgn (A9 6) r).1) (fun v=>hsig (A9 6) r hrl v) (by simp);obtain ⟨P4,K4⟩:=P3.rest (r':=(sgn (A9 6) r).1);have hl4:=Bs (A9 6) r;have lH2:H2.length=H.length+3:=(by rw[hH2];simp)
   have hF0:H.length∉(H.length+2)::ids:=fun q=>by rcases Ado.1 q with q | q;omega;have:=h.stack.lt _ (AaZ _ q);omega
   have e4:(H2.set 0 (.box [.d (S (sgn (A9 6) r).1),.lsl (H.length+2) 4 0 1]))[H.length]?=some (.box zN):=(by rw[As (by omega)];exact e3);have hbp:Fs rest []=Jm 6 r []:=(by unfold Fs;rw[if_neg (by rw[h91];simp),if_pos h123];rw[hr1]);rw[hbp];unfold Jm;cases hcl2:(sgn (A9 6) r).2 with
   | true =>
    obtain ⟨ids5,H5,c5,P5,K5⟩:=I2 (G:=G) P4 (by omega);have e5:H5[H.length]?=some (.box zN):=(by rw[K5.keep H.length (by omega) (by simp;omega) hF0];exact e4)
    have l5:H.length<H5.length:=(Adf.1 e5).1;have hF:=(K4.trans K5).not_mem hF0 (by omega);refine ⟨(.mk 6 [] [] []),true,true,H.length+2,ids5,H5.set H.length (.box [.d (.int .i64 6),.d (S []),.d (.sl 0 false []),.d (.sl 0 false [])]),Ctr.bodyI (M:=MB7) Am Tryz.func79 rfl Sv ?h1 ?h2,?h3,((K3.trans K4).trans K5).set (Adm _) _,?h4⟩;case h1=>exact (P5.nox.set _ (by simp)).ok
    case h3=>exact P5.nox.set _ (by simp)
    case h4 =>rw[if_pos rfl];exact ⟨rfl,rfl,rfl,P5.other (by omega) hF (by simp)⟩
    case h2 =>
     simp(disch:=(try simp only[Ab]);omega)only[MBX,Tryz.f79,↓Aa,Ac,↓reduceIte,Qu,Qv];refine Aq.go s1 ⟨.inl rfl,.inl rfl,trivial⟩ (by simp) ?_;rw[h91];simp(disch:=(try simp only[Ab]);omega)only[MBX,Be,↓Aa,Ac,Qu];refine Aq.go s2 ⟨.inl rfl,.inl rfl,trivial⟩ (by simp) ?_;rw[h123];simp(disch:=(try simp only[Ab]);omega)only[MBX,ho,Be,↓Aa,Ac,↓reduceIte,Qu,Qw,Qz];refine ⟨AR cf (by simp(disch:=omega)only[BC,A8,A7,Bu,and_self]) (by simp only[AeQ,Ae7,c0,c1,c3,c4];rfl),?_⟩;refine Ad.of (BR 6) (by rfl) ?_;simp(disch:=(try simp only[Ab]);omega)only[MBX,↓Aa,Ac,Qu];rw[<-hr1,<-hH2];refine Aq.go s3 ⟨.inl rfl,.inl rfl,trivial⟩ (by simp) ?_;rw[hcl2];simp(disch:=(try simp only[Ab]);omega)only[MBX,↓Aa,Ac,Qu];refine Aq.go c5 ⟨.inl rfl,trivial⟩ K5.len ?_;simp(disch:=(try simp only[Ab]);omega)only[Ai,e5,show ndC (.mk 6 [] [] [])=[.int .i64 6,S [],.sl 0 false [],.sl 0 false []] from rfl,BS,AeI,AeL,AeR,↓Aa,awV,awF,Qa,Qb,Qd,↓reduceIte,Qf,Qh,Qp,Qq,Qr,Qu];first
     | exact .inr ⟨rfl,.inr ⟨_,rfl,rfl,rfl⟩⟩
     | exact ⟨by rfl,.inr ⟨rfl,.inr ⟨_,rfl,rfl,rfl⟩⟩⟩
   | false =>
    obtain ⟨b5,ids5,H5,c5,X5,K5,hQ5⟩:=I8 (G:=G) P4 (by omega) (by omega) (by simp[Nd.keys]);have e5:H5[H.length]?=some (.box zN):=(by rw[K5.keep H.length (by omega) (by simp;omega) hF0];exact e4)
    have l5:H.length<H5.length:=(Adf.1 e5).1;have hF:=(K4.trans K5).not_mem hF0 (by omega);refine ⟨noN,false,b5,H.length+2,ids5,H5.set H.length (.box zN),Ctr.bodyI (M:=MB7) Am Tryz.func79 rfl Sv ?h1 ?h2,?h3,((K3.trans K4).trans K5).set (Adm _) _,?h4⟩;case h1=>exact (X5.set _ (by simp)).ok
    case h3=>exact X5.set _ (by simp)
    case h4 =>rw[if_neg (by simp)];exact KQ hQ5 (by omega) hF
    case h2 =>
     simp(disch:=(try simp only[Ab]);omega)only[MBX,Tryz.f79,↓Aa,Ac,↓reduceIte,Qu,Qv];refine Aq.go s1 ⟨.inl rfl,.inl rfl,trivial⟩ (by simp) ?_;rw[h91];simp(disch:=(try simp only[Ab]);omega)only[MBX,Be,↓Aa,Ac,Qu];refine Aq.go s2 ⟨.inl rfl,.inl rfl,trivial⟩ (by simp) ?_;rw[h123];simp(disch:=(try simp only[Ab]);omega)only[MBX,ho,Be,↓Aa,Ac,↓reduceIte,Qu,Qw,Qz];refine ⟨AR cf (by simp(disch:=omega)only[BC,A8,A7,Bu,and_self]) (by simp only[AeQ,Ae7,c0,c1,c3,c4];rfl),?_⟩;refine Ad.of (BR 6) (by rfl) ?_;simp(disch:=(try simp only[Ab]);omega)only[MBX,↓Aa,Ac,Qu];rw[<-hr1,<-hH2];refine Aq.go s3 ⟨.inl rfl,.inl rfl,trivial⟩ (by simp) ?_;rw[hcl2];simp(disch:=(try simp only[Ab]);omega)only[MBX,↓Aa,Ac,Qu];refine Aq.go c5 ⟨.inl rfl,trivial⟩ K5.len ?_;simp(disch:=(try simp only[Ab]);omega)only[Ai,e5,BS,AeI,AeL,AeR,↓Aa,awV,awF,Qa,Qb,Qd,↓reduceIte,Qf,Qh,Qp,Qq,Qr,Qu];first
     | exact .inr ⟨rfl,.inr ⟨_,rfl,rfl,rfl⟩⟩
     | exact ⟨by rfl,.inr ⟨rfl,.inr ⟨_,rfl,rfl,rfl⟩⟩⟩
  | false =>
   obtain ⟨r,hr1⟩:∃ r,r=(sgn 123 (sgn 91 rest).1).1:=⟨_,rfl⟩;have hbp:Fs rest st=if (GE r).2.2=true then .got (GE r).1 st (GE r).2.1 else .bad:=(by unfold Fs;rw[if_neg (by rw[h91];simp),if_neg (by rw[h123];simp),hr1])
   rw[hbp];rw[<-hr1] at P3 K3;have s3:=P3.lift (G:=G) (r':=(GE r).1) (fun v=>R2 (G:=G) r (by rw[hr1];omega) v) (by simp);obtain ⟨P4,K4⟩:=P3.rest (r':=(GE r).1);generalize GE r=x at *;obtain ⟨x1,⟨k,tx,ks,l⟩,x3⟩:=x;simp only at s3 P4 K4 ⊢;have hF:H.length∉ob::ids:=fun q=>by have:=h.stack.lt _ q;omega
   have P5:=P4.other (j:=H.length) (b:=.box ((ndC (.mk k tx ks l)).map .d)) (by omega) hF (by simp);have K5:=(((K1.trans K2).trans K3).trans K4).set (j:=H.length) (Adm _) (.box ((ndC (.mk k tx ks l)).map .d))
   have eH:((((H++[Ae.box zN]).set 0 (.box [.d (S (sgn 91 rest).1),.lsl ob 4 0 st.length])).set 0 (.box [.d (S r),.lsl ob 4 0 st.length])).set 0 (.box [.d (S x1),.lsl ob 4 0 st.length])).set H.length (.box ((ndC (.mk k tx ks l)).map .d)) =
     ((H.set 0 (.box [.d (S (sgn 91 rest).1),.lsl ob 4 0 st.length])).set 0 (.box [.d (S r),.lsl ob 4 0 st.length])).set 0 (.box [.d (S x1),.lsl ob 4 0 st.length])++[.box ((ndC (.mk k tx ks l)).map .d)]:=by
    simp only[Ch,CA,l0,AeI,Adm,Afc,AeL]
   simp only[Ch,l0,AeI] at s3;refine ⟨.mk k tx ks l,x3,x3,ob,ids,_,Ctr.bodyI (M:=MB7) Am Tryz.func79 rfl Sv P5.nox.ok ?_,P5.nox,K5,?_⟩
   ·simp(disch:=(try simp only[Ab]);omega)only[MBX,Tryz.f79,Be,↓Aa,Ac,↓reduceIte,Qu,Qv];refine Aq.go s1 ⟨.inl rfl,.inl rfl,trivial⟩ (by simp) ?_;rw[h91];simp(disch:=(try simp only[Ab]);omega)only[MBX,Be,↓Aa,Ac,Qu];refine Aq.go s2 ⟨.inl rfl,.inl rfl,trivial⟩ (by simp) ?_;rw[h123];simp(disch:=(try simp only[Ab]);omega)only[MBX,↓Aa,Ac,Qu];rw[<-hr1];refine Aq.go s3 ⟨.inl rfl,trivial⟩ (by simp) ?_;simp(disch:=(try simp only[Ab]);omega)only[Ai,MBX,ndC,Be,↓Aa,Ac,↓reduceIte,Qu];first
    | exact .inr ⟨rfl,.inr ⟨_,rfl,rfl,rfl⟩⟩
    | exact ⟨by rfl,.inr ⟨rfl,.inr ⟨_,rfl,rfl,rfl⟩⟩⟩
   cases x3 with
   | true=>exact ⟨rfl,rfl,rfl,P5⟩
   | false=>rfl
end
end Go.Proofs.YtmidaophnbdcdaaGreatDoor
