/-
  Contracts of the functions, one after another.
-/
import Derived.Test.YtmidaophnbdcdaaGreatDoorZbKy4
import Derived.ChangeMaps5
set_option linter.all false
open Go.Abs renaming A6->HW,Dz->BW,Cm->SW,Am->AW
open Go.Proofs.Tryz renaming prog->TP
set_option maxHeartbeats 16000000
set_option maxRecDepth 100000
open Go.Abs renaming Ef->Qe
open Nat renaming reduceAdd->Qu,reduceSub->Qv,reduceMul->Qw,reducePow->Qx,reduceDiv->Qy,reduceMod->Qz,reduceEqDiff->QI,reduceBEq->QK
open Int renaming reduceAdd->QA,reduceSub->QB,reduceMul->QC,reducePow->QD,reduceNeg->QE,reduceToNat->QF,reduceLT->QG,reduceLE->QH
open List renaming length_append->AbH,drop_eq_nil_of_le->AbM,getD_eq_getElem?_getD->AbO,drop_eq_getElem_cons->AbP,getElem?_eq_getElem->AbQ,length_cons->AbZ,length_nil->Ac7
open Bool renaming false_and->AbR,true_and->AbT
open Nat renaming le_refl->AbS,lt_or_ge->AbU,reduceMod->AbV,reduceDiv->AbY,zero_le->Ac6
namespace Go.Proofs.YtmidaophnbdcdaaGreatDoor
section
open Go Go.Proofs Go.Abs
variable {G:Ah}
def Lh:List (List UInt8)->List (List UInt8)->Bool
 | [],[]=>true
 | a::r,b::s=>decide (a=b) && Lh r s
 | [],_::_=>false
 | _::_,[]=>false
def PZ:∀ a b:List (List UInt8),Lh a b=decide (a=b)
 | [],[]=>rfl
 | a::r,b::s=>by rw[Lh,PZ r s];by_cases h1:a=b<;>by_cases h2:r=s<;>simp[h1,h2]
 | [],_::_=>by simp[Lh]
 | _::_,[]=>by simp[Lh]
def YF {l m:List (List UInt8)} (h:l.length≠m.length):Lh l m=false:=by rw[PZ];exact decide_eq_false fun e=>h (by rw[e])
def Aae {l m:List (List UInt8)} {i:Nat} (h:i<l.length) (h2:i<m.length):Lh (l.drop i) (m.drop i)=(decide (l.getD i []=m.getD i []) && Lh (l.drop (i+1)) (m.drop (i+1))):=by rw[AbP h,AbP h2,Lh,AbO,AbQ h,AbO,AbQ h2];rfl
def Ui (l m:List (List UInt8)) (fu fv:Bool) (hl:l.length<=1000000000) (hm:m.length<=1000000000) :
  Ctr TP G 44 [.d (Ss l fu),.d (Ss m fv)] [] (.d (.bool (Lh l m))) []:=by
 refine Ctr.pure (M:=M0) Al Tryz.func44 rfl go44 ?_;have sl:=@strs_length l;have sm:=@strs_length m;by_cases hlen:l.length=m.length
 ·simp(disch:=(try simp only[Ad]);omega)only[Ag,sl,sm,hlen,Tryz.f44,↓Ac,Ae,↓reduceIte,↓reduceDIte,↓Qe,Qu,Qv,Qw,Qx,Qy,Qz,QA,QB,QC,QD,QE,QF,QG,QH,QI,QK];refine As.fr 4099 (α:=Nat) (fun i=>l.length-i) (fun i=>[(13,.d (.int .i64 i))]) (fun _=>[]) (fun i=>i<=l.length/\Lh l m=Lh (l.drop i) (m.drop i)) 0 ⟨Ac6 _,rfl⟩ ?_ ?_;·exact ⟨[],rfl,by simp,by simp[Bd,A4,SW,AW],by simp[HW,BW,SW,AW]⟩
  rintro i ⟨h1,h2⟩;simp only[Cr,AbV,AbY,reduceIte];rcases AbU i l.length with h | h
  ·have g1:=strs_getD h;have g2:=strs_getD (l:=m) (i:=i) (by omega);rw[h2,Aae h (by omega)];by_cases e:l.getD i []=m.getD i []
   ·rw[decide_eq_true e,AbT];simp(disch:=(try simp only[Ad]);omega)only[Ag,sl,sm,g1,g2,e,↓Ac,Ae,↓reduceIte,↓reduceDIte,↓Qe,Qu,Qv,Qw,Qx,Qy,Qz,QA,QB,QC,QD,QE,QF,QG,QH,QI,QK];first
    | exact ⟨by rfl,i+1,⟨h,rfl⟩,by simp only;omega,⟨[],rfl,by simp,by simp[Bd,A4,SW,AW],by simp[HW,BW,SW,AW]⟩⟩
   rw[decide_eq_false e,AbR];simp(disch:=(try simp only[Ad]);omega)only[Ag,sl,sm,g1,g2,e,↓Ac,Ae,↓reduceIte,↓reduceDIte,↓Qe,Qu,Qv,Qw,Qx,Qy,Qz,QA,QB,QC,QD,QE,QF,QG,QH,QI,QK];first
   | done
   | rfl
  rw[AbM h,AbM (by omega:m.length<=i)] at h2;rw[h2];simp(disch:=(try simp only[Ad]);omega)only[Ag,sl,sm,↓Ac,Ae,↓reduceIte,↓reduceDIte,↓Qe,Qu,Qv,Qw,Qx,Qy,Qz,QA,QB,QC,QD,QE,QF,QG,QH,QI,QK];first
  | done
  | rfl
 rw[YF hlen];simp(disch:=(try simp only[Ad]);omega)only[Ag,sl,sm,hlen,Tryz.f44,↓Ac,Ae,↓reduceIte,↓reduceDIte,↓Qe,Qu,Qv,Qw,Qx,Qy,Qz,QA,QB,QC,QD,QE,QF,QG,QH,QI,QK];first
 | done
 | rfl
def Sx (l m:List Nd) (fu fv:Bool) (hl:l.length<=1000000000) (hm:m.length<=1000000000) (hp:∀ c∈l,∀ d∈m,Ctr TP G 21 [.d (NdD c),.d (NdD d)] [] (.d (.bool (eqN c d))) []) :
  Ctr TP G 45 [.d (NdS l fu),.d (NdS m fv),.d (.fn (.func 21) [] [])] [] (.d (.bool (Hc l m))) []:=by
 refine Ctr.pure (M:=M0) Al Tryz.func45 rfl go45 ?_;have sl:=Bc l;have sm:=Bc m;by_cases hlen:l.length=m.length
 ·simp(disch:=(try simp only[Ad]);omega)only[sl,sm,hlen,Tryz.f45,↓Ac,Ae,↓reduceIte,↓reduceDIte,↓Qe,Qu,Qv,Qw,Qx,Qy,Qz,QA,QB,QC,QD,QE,QF,QG,QH,QI,QK];refine As.fr 98310 (α:=Nat) (fun i=>l.length-i) (fun i=>[(17,.d (.int .i64 i))]) (fun _=>[]) (fun i=>i<=l.length/\Hc l m=Hc (l.drop i) (m.drop i)) 0 ⟨Ac6 _,rfl⟩ ?_ ?_;·exact ⟨[],rfl,by simp,by simp[Bd,A4,SW,AW],by simp[HW,BW,SW,AW]⟩
  rintro i ⟨h1,h2⟩;simp only[Cr,AbV,AbY,reduceIte];rcases AbU i l.length with h | h
  ·have g1:=Dg h;have g2:=Dg (l:=m) (k:=i) (by omega);have hc:=hp _ (E1 (d:=noN) h) _ (E1 (d:=noN) (i:=i) (by omega));rw[h2,Aaf h (by omega)];generalize l.getD i noN=c at *;generalize m.getD i noN=d at *;obtain ⟨ck,ct,cks,ckl⟩:=c;obtain ⟨dk,dt,dks,dkl⟩:=d;simp(disch:=(try simp only[Ad]);omega)only[Ag,sl,sm,g1,g2,ndC,↓Ac,Ae,↓reduceIte,↓reduceDIte,↓Qe,Qu,Qv,Qw,Qx,Qy,Qz,QA,QB,QC,QD,QE,QF,QG,QH,QI,QK];first
   | (refine Ab.of hc (by rfl) ?_)
   cases hx:eqN (.mk ck ct cks ckl) (.mk dk dt dks dkl)
   ·simp(disch:=(try simp only[Ad]);omega)only[↓Ac,Ae,↓reduceIte,↓reduceDIte,↓Qe,Qu,Qv,Qw,Qx,Qy,Qz,QA,QB,QC,QD,QE,QF,QG,QH,QI,QK];first
    | done
    | rfl
   simp(disch:=(try simp only[Ad]);omega)only[↓Ac,Ae,↓reduceIte,↓reduceDIte,↓Qe,Qu,Qv,Qw,Qx,Qy,Qz,QA,QB,QC,QD,QE,QF,QG,QH,QI,QK];first
   | exact ⟨i+1,⟨h,rfl⟩,by simp only;omega,⟨[],rfl,by simp,by simp[Bd,A4,SW,AW],by simp[HW,BW,SW,AW]⟩⟩
  rw[AbM h,AbM (by omega:m.length<=i)] at h2;rw[h2,show Hc [] []=true by rw[Hc]];simp(disch:=(try simp only[Ad]);omega)only[sl,sm,↓Ac,Ae,↓reduceIte,↓reduceDIte,↓Qe,Qu,Qv,Qw,Qx,Qy,Qz,QA,QB,QC,QD,QE,QF,QG,QH,QI,QK];first
  | done
  | rfl
 rw[Sv hlen];simp(disch:=(try simp only[Ad]);omega)only[sl,sm,hlen,Tryz.f45,↓Ac,Ae,↓reduceIte,↓reduceDIte,↓Qe,Qu,Qv,Qw,Qx,Qy,Qz,QA,QB,QC,QD,QE,QF,QG,QH,QI,QK];first
 | done
 | rfl
def Mb:∀ (N:Nat) (a b:Nd),nsz a<=N->szN a->szN b->Ctr TP G 21 [.d (NdD a),.d (NdD b)] [] (.d (.bool (eqN a b))) []
 | 0,a,b,hN,_,_=>by have:=CY a;omega
 | N+1,a,b,hN,ha,hb=>by
   have hnz:=DF a;obtain ⟨k,t,ks,l⟩:=a;obtain ⟨k2,t2,ks2,l2⟩:=b;obtain ⟨s1,s2,s3,s4,s5⟩:=ha;obtain ⟨q1,q2,q3,q4,q5⟩:=hb;replace hnz:nsz (.mk k t ks l)=1+Ce l:=hnz;have ih:∀ c∈l,∀ d∈l2,Ctr TP G 21 [.d (NdD c),.d (NdD d)] [] (.d (.bool (eqN c d))) []:=fun c hc d hd =>Mb N c d (by have:=DG hc;omega) (I8 s5 c hc) (I8 q5 d hd)
   obtain ⟨r,hr⟩:∃ r,r=eqN (.mk k t ks l) (.mk k2 t2 ks2 l2):=⟨_,rfl⟩;rw[<-hr];rw[eqN] at hr;refine Ctr.pure (M:=M0) Al Tryz.func21 rfl go21 ?_;by_cases e1:k=k2
   ·rw[decide_eq_true e1,AbT] at hr;by_cases e2:t=t2
    ·rw[decide_eq_true e2,AbT] at hr;simp(disch:=(try simp only[Ad]);omega)only[Ag,ndC,e1,e2,Tryz.f21,↓Ac,Ae,↓reduceIte,↓reduceDIte,↓Qe,Qu,Qv,Qw,Qx,Qy,Qz,QA,QB,QC,QD,QE,QF,QG,QH,QI,QK];first
     | (refine Ab.of (Ui ks ks2 false false (by omega) (by omega)) (by rfl) ?_)
     rw[PZ];by_cases e3:ks=ks2
     ·rw[decide_eq_true e3,AbT] at hr;simp(disch:=(try simp only[Ad]);omega)only[Ag,e3,↓Ac,Ae,↓reduceIte,↓reduceDIte,↓Qe,Qu,Qv,Qw,Qx,Qy,Qz,QA,QB,QC,QD,QE,QF,QG,QH,QI,QK];first
      | (refine Ab.of (Sx l l2 false false (by omega) (by omega) ih) (by rfl) ?_)
      rw[<-hr];simp(disch:=(try simp only[Ad]);omega)only[Ag,↓Ac,Ae,↓reduceIte,↓reduceDIte,↓Qe,Qu,Qv,Qw,Qx,Qy,Qz,QA,QB,QC,QD,QE,QF,QG,QH,QI,QK];first
      | done
      | rfl
     rw[decide_eq_false e3,AbR] at hr;subst hr;simp(disch:=(try simp only[Ad]);omega)only[Ag,e3,↓Ac,Ae,↓reduceIte,↓reduceDIte,↓Qe,Qu,Qv,Qw,Qx,Qy,Qz,QA,QB,QC,QD,QE,QF,QG,QH,QI,QK];first
     | done
     | rfl
    rw[decide_eq_false e2,AbR] at hr;subst hr;simp(disch:=(try simp only[Ad]);omega)only[Ag,ndC,e1,e2,Tryz.f21,↓Ac,Ae,↓reduceIte,↓reduceDIte,↓Qe,Qu,Qv,Qw,Qx,Qy,Qz,QA,QB,QC,QD,QE,QF,QG,QH,QI,QK];first
    | done
    | rfl
   rw[decide_eq_false e1,AbR] at hr;subst hr;simp(disch:=(try simp only[Ad]);omega)only[Ag,ndC,e1,Tryz.f21,↓Ac,Ae,↓reduceIte,↓reduceDIte,↓Qe,Qu,Qv,Qw,Qx,Qy,Qz,QA,QB,QC,QD,QE,QF,QG,QH,QI,QK];first
   | done
   | rfl
abbrev BX7 (y:List UInt8):List Aa:=[.bld 79 true y.length (some 2),.dead,.buf 5 y]
def Z8 (rec f:Bool) {ks:List (List UInt8)} {l:List Nd} {i:Nat} (h:i<l.length):DA rec (ks.drop i) (l.drop i) f=(if f=true then [] else [44])++((if rec=true then BZ (ks.getD i [])++[58] else [])++(B9 (l.getD i noN)++DA rec (ks.drop (i+1)) (l.drop (i+1)) false)):=by
 have e1:l.getD i noN=l[i]:=by rw[AbO,AbQ h];rfl
 rw[AbP h,DY,e1,List.tail_drop,List.headD_eq_head?_getD,List.head?_drop,<-AbO]
def Kr:∀ (N:Nat) (n:Nd) (a:Nat),nsz n<=N->Bg n a=true->nsz n<=100000->∀ (used:Bool) (out0:List UInt8),out0.length+(B9 n).length<=1000000000000 ->
  Ctr TP G 38 [.ptr 0 0,.d (NdD n)] (BL used out0) (.d (.tup [])) (BX7 (out0++B9 n))
 | 0,n,_,hN,_,_=>by have:=CY n;omega
 | N+1,n,a,hN,ho,hz=>by
   intro used out0 hb;have o:=Em ho;have hnz:=DF n;obtain ⟨k,t,ks,l⟩:=n;have hl:l.length<=Ce l:=ER l;replace hnz:nsz (.mk k t ks l)=1+Ce l:=hnz;have ok:1<=k/\k<=6:=o.kind;have ot:t.length<=1024:=o.text;have ih:∀ c∈l,∀ (o3 o4:List UInt8),o3++B9 c=o4->o4.length<=1000000000000->Ctr TP G 38 [.ptr 0 0,.d (NdD c)] (BL true o3) (.d (.tup [])) (BX7 o4):=fun c hc o3 o4 e h4=>by subst e;have:=DG hc;exact Kr N c (a+1) (by omega) (o.kids c hc) (by omega) true o3 (by rw[AbH] at h4;exact h4)
   obtain ⟨y,hy⟩:∃ y,out0++B9 (.mk k t ks l)=y:=⟨_,rfl⟩;have ly:y.length<=1000000000000:=(by rw[<-hy,AbH];exact hb)
   have l0:out0.length<=y.length:=(by rw[<-hy,AbH];omega);rw[hy];rw[B9] at hy;refine Ctr.body (M:=M0) Al Tryz.func38 rfl go38 ?_;by_cases h1:k=1
   ·subst h1;rw[if_pos rfl] at hy;simp(disch:=(try simp only[Ad]);omega)only[Ag,ndC,Tryz.f38,↓Ac,Ae,↓reduceIte,↓reduceDIte,↓Qe,Qu,Qv,Qw,Qx,Qy,Qz,QA,QB,QC,QD,QE,QF,QG,QH,QI,QK];first
    | (refine Ab.by (CT used out0 Jj (by omega) (by simp[Jj]) y hy) (by rfl) (by rfl) (by simp) ?_)
    simp(disch:=(try simp only[Ad]);omega)only[Ag,↓Ac,Ae,↓reduceIte,↓reduceDIte,↓Qe,Qu,Qv,Qw,Qx,Qy,Qz,QA,QB,QC,QD,QE,QF,QG,QH,QI,QK];first
    | (refine ⟨[some 0,some 1,some 3],rfl,by simp,by simp[HW,BW,SW,AW],.inr ⟨_,rfl,?_,rfl⟩⟩;rfl)
   by_cases h4:k=4
   ·subst h4;rw[if_neg h1,if_pos rfl] at hy;have ql:=F7 t;simp(disch:=(try simp only[Ad]);omega)only[Ag,ndC,Tryz.f38,↓Ac,Ae,↓reduceIte,↓reduceDIte,↓Qe,Qu,Qv,Qw,Qx,Qy,Qz,QA,QB,QC,QD,QE,QF,QG,QH,QI,QK];refine Ab.of (KF t (by omega)) (by rfl) ?_;generalize BZ t=q at *;simp(disch:=(try simp only[Ad]);omega)only[Ag,↓Ac,Ae,↓reduceIte,↓reduceDIte,↓Qe,Qu,Qv,Qw,Qx,Qy,Qz,QA,QB,QC,QD,QE,QF,QG,QH,QI,QK];first
    | (refine Ab.by (CT used out0 q (by omega) (by omega) y hy) (by rfl) (by rfl) (by simp) ?_)
    simp(disch:=(try simp only[Ad]);omega)only[Ag,↓Ac,Ae,↓reduceIte,↓reduceDIte,↓Qe,Qu,Qv,Qw,Qx,Qy,Qz,QA,QB,QC,QD,QE,QF,QG,QH,QI,QK];first
    | (refine ⟨[some 0,some 1,some 3],rfl,by simp,by simp[HW,BW,SW,AW],.inr ⟨_,rfl,?_,rfl⟩⟩;rfl)
   by_cases h56:k=5\/k=6
   ·obtain ⟨rec,op,cl,K0,hK,hc⟩:∃ (rec:Bool) (op cl:UInt8) (K0:Int),K0=k/\((k=5/\rec=false/\op=91/\cl=93)\/(k=6/\rec=true/\op=123/\cl=125)):=by
     rcases h56 with h | h
     ·exact ⟨_,_,_,_,rfl,.inl ⟨h,rfl,rfl,rfl⟩⟩
     exact ⟨_,_,_,_,rfl,.inr ⟨h,rfl,rfl,rfl⟩⟩
    have hcl:Ctr TP G 71 [.d (.int .i64 K0)] [] (.d (.int .u8 cl.toNat)) []:=by
     rcases hc with ⟨rfl,rfl,rfl,rfl⟩ | ⟨rfl,rfl,rfl,rfl⟩
     ·subst hK;exact JE 5
     subst hK;exact JE 6
    have hks:rec=true->ks.length=l.length/\∀ s∈ks,s.length<=1024:=by
     intro e;rcases hc with ⟨rfl,rfl,rfl,rfl⟩ | ⟨rfl,rfl,rfl,rfl⟩
     ·cases e
     obtain ⟨r1,r2,r3⟩:=o.recd rfl;exact ⟨r1,fun s hs=>FO (r3 s hs)⟩
    have hy2:out0++op::(DA rec ks l true++[cl])=y:=by
     rcases hc with ⟨rfl,rfl,rfl,rfl⟩ | ⟨rfl,rfl,rfl,rfl⟩
     ·exact hy
     exact hy
    have sl:=@strs_length ks;have nl:=Bc l;generalize ho1:out0++[op]=o1;have lo1:o1.length<=y.length:=(by rw[<-ho1,<-hy2];simp)
    have inv0:o1++(DA rec ks l true++[cl])=y:=(by rw[<-hy2,<-ho1];simp);have hw1:=CL (G:=G) used out0 op (by omega) o1 ho1;rcases hc with ⟨rfl,hr,hop,hcc⟩ | ⟨rfl,hr,hop,hcc⟩
    case' inr=>have hkl:=(hks hr).1
    all_goals
     rw[hop] at hw1;simp(disch:=(try simp only[Ad]);omega)only[Ag,ndC,nl,sl,Tryz.f38,↓Ac,Ae,↓reduceIte,↓reduceDIte,↓Qe,Qu,Qv,Qw,Qx,Qy,Qz,QA,QB,QC,QD,QE,QF,QG,QH,QI,QK];first
     | (refine ⟨by rfl,by rfl,by rfl,Ab.by hw1 (by rfl) (by rfl) (by simp) ?_⟩)
     simp(disch:=(try simp only[Ad]);omega)only[Ag,nl,sl,↓Ac,Ae,↓reduceIte,↓reduceDIte,↓Qe,Qu,Qv,Qw,Qx,Qy,Qz,QA,QB,QC,QD,QE,QF,QG,QH,QI,QK];refine As.fr 412316860441 (α:=Nat × List UInt8) (fun x=>l.length-x.1) (fun x=>[(39,.d (.int .i64 x.1))]) (fun x=>[.bld 79 true x.2.length (some 3),.dead,.box [.d (.int .i64 K0),.d (S t),.d (Ss ks false),.d (.sl l.length false (A0 l))],.buf 5 x.2])
      (fun x=>x.1<=l.length/\x.2++(DA rec (ks.drop x.1) (l.drop x.1) (decide (x.1=0))++[cl])=y) (0,o1) ⟨Ac6 _,inv0⟩ ?_ ?_
     ·first
      | exact ⟨[some 0,some 1,some 2,some 4],rfl,by simp,by simp[Bd,A4,SW,AW,hK],by simp[HW,BW,SW,AW,hK]⟩
     rintro ⟨i,out⟩ ⟨b1,b2⟩;simp only at b1 b2;have lo:out.length<=y.length:=(by rw[<-b2,AbH];omega)
     simp only[Cr,AbV,AbY,reduceIte];rcases AbU i l.length with h | h
     ·have gk:=Dg h;have sg:=fun q:i<ks.length=>strs_getD q;rw[Z8 rec _ h] at b2;obtain ⟨o2,h2⟩:∃ o2,out++(if decide (i=0)=true then [] else [44])=o2:=⟨_,rfl⟩;obtain ⟨o3,h3⟩:∃ o3,o2++(if rec=true then BZ (ks.getD i [])++[58] else [])=o3:=⟨_,rfl⟩;obtain ⟨o4,h4⟩:∃ o4,o3++B9 (l.getD i noN)=o4:=⟨_,rfl⟩;have e4:o4++(DA rec (ks.drop (i+1)) (l.drop (i+1)) (decide (i+1=0))++[cl])=y:=by
       rw[<-b2,<-h4,<-h3,<-h2,show decide (i+1=0)=false by simp];simp only[List.append_assoc]
      have l4:o4.length<=y.length:=(by rw[<-e4,AbH];omega);have l3:o3.length<=o4.length:=(by rw[<-h4,AbH];omega);have l2:o2.length<=o3.length:=(by rw[<-h3,AbH];omega);have hk:=ih _ (E1 h) o3 o4 h4 (by omega);have hkey:i<ks.length->(ks.getD i []).length<=1024:=fun q=>(hks (by cases rec with | true=>rfl | false=>first | exact absurd hr (by decide) | (rw[show ks=[] from o.nrecd (by show (5:Int)≠6;decide)] at q;simp at q))).2 _ (E1 q);generalize l.getD i noN=kid at *;obtain ⟨dk,dt,dks,dl⟩:=kid;by_cases i0:i=0;case' pos =>
       obtain rfl:o2=out:=by rw[<-h2];simp[i0]
       simp(disch:=(try simp only[Ad]);omega)only[Ag,nl,gk,sl,sg,ndC,↓Ac,Ae,↓reduceIte,↓reduceDIte,↓Qe,Qu,Qv,Qw,Qx,Qy,Qz,QA,QB,QC,QD,QE,QF,QG,QH,QI,QK]
      case' neg =>
       have e2:out++[44]=o2:=(by rw[<-h2];simp[i0]);simp(disch:=(try simp only[Ad]);omega)only[Ag,nl,gk,sl,sg,ndC,↓Ac,Ae,↓reduceIte,↓reduceDIte,↓Qe,Qu,Qv,Qw,Qx,Qy,Qz,QA,QB,QC,QD,QE,QF,QG,QH,QI,QK];first
       | (refine Ab.by (CL true out 44 (by omega) o2 e2) (by rfl) (by rfl) (by simp) ?_)
       simp(disch:=(try simp only[Ad]);omega)only[Ag,nl,gk,sl,sg,ndC,↓Ac,Ae,↓reduceIte,↓reduceDIte,↓Qe,Qu,Qv,Qw,Qx,Qy,Qz,QA,QB,QC,QD,QE,QF,QG,QH,QI,QK]
      all_goals
       first
       | (have hr0:rec=false:=hr
          have q:o3=o2:=(by rw[<-h3,hr0];simp);subst q)
       | (have hr1:rec=true:=hr
          have e3:o2++(BZ (ks.getD i [])++[58])=o3:=(by rw[<-h3];simp[hr]);have hkey:=hkey (by omega);have ql:=F7 (ks.getD i []);refine Ab.of (KF (ks.getD i []) (by omega)) (by rfl) ?_;generalize BZ (ks.getD i [])=qk at *;simp(disch:=(try simp only[Ad]);omega)only[Ag,nl,gk,sl,sg,ndC,↓Ac,Ae,↓reduceIte,↓reduceDIte,↓Qe,Qu,Qv,Qw,Qx,Qy,Qz,QA,QB,QC,QD,QE,QF,QG,QH,QI,QK];refine Ab.by (CT true o2 (qk++[58]) (by omega) (by simp only[AbH,AbZ,Ac7];omega) o3 e3) (by rfl) (by rfl) (by simp) ?_;simp(disch:=(try simp only[Ad]);omega)only[Ag,nl,gk,sl,sg,ndC,↓Ac,Ae,↓reduceIte,↓reduceDIte,↓Qe,Qu,Qv,Qw,Qx,Qy,Qz,QA,QB,QC,QD,QE,QF,QG,QH,QI,QK])
       first
       | (refine Ab.by hk (by rfl) (by rfl) (by simp) ?_)
       simp(disch:=(try simp only[Ad]);omega)only[Ag,nl,gk,ndC,↓Ac,Ae,↓reduceIte,↓reduceDIte,↓Qe,Qu,Qv,Qw,Qx,Qy,Qz,QA,QB,QC,QD,QE,QF,QG,QH,QI,QK];first
       | (refine ⟨(i+1,o4),⟨h,e4⟩,by simp only;omega,[some 0,some 1,some 2,some 5],rfl,by simp,?_,?_⟩<;>(simp[Bd,A4,HW,BW,SW,AW];done))
       | (refine ⟨(i+1,o4),⟨h,e4⟩,by simp only;omega,[some 0,some 1,some 2,some 6],rfl,by simp,?_,?_⟩<;>(simp[Bd,A4,HW,BW,SW,AW];done))
       | (refine ⟨(i+1,o4),⟨h,e4⟩,by simp only;omega,[some 0,some 1,some 2,some 7],rfl,by simp,?_,?_⟩<;>(simp[Bd,A4,HW,BW,SW,AW];done))
     rw[AbM h,Ha,List.nil_append] at b2;simp(disch:=(try simp only[Ad]);omega)only[Ag,nl,↓Ac,Ae,↓reduceIte,↓reduceDIte,↓Qe,Qu,Qv,Qw,Qx,Qy,Qz,QA,QB,QC,QD,QE,QF,QG,QH,QI,QK];first
     | (refine Ab.of hcl (by rfl) ?_)
     simp(disch:=(try simp only[Ad]);omega)only[Ag,nl,↓Ac,Ae,↓reduceIte,↓reduceDIte,↓Qe,Qu,Qv,Qw,Qx,Qy,Qz,QA,QB,QC,QD,QE,QF,QG,QH,QI,QK];first
     | (refine Ab.by (CL true out cl (by omega) y b2) (by rfl) (by rfl) (by simp) ?_)
     simp(disch:=(try simp only[Ad]);omega)only[Ag,nl,↓Ac,Ae,↓reduceIte,↓reduceDIte,↓Qe,Qu,Qv,Qw,Qx,Qy,Qz,QA,QB,QC,QD,QE,QF,QG,QH,QI,QK];first
     | (refine ⟨[some 0,some 1,some 4],rfl,by simp,by simp[HW,BW,SW,AW],.inr ⟨_,rfl,?_,rfl⟩⟩;rfl)
   have h23:k=2\/k=3:=(by omega);rw[if_neg h1,if_neg h4,if_neg (by omega),if_neg (by omega)] at hy;have h5:¬k=5:=(by omega)
   have h6:¬k=6:=(by omega);simp(disch:=(try simp only[Ad]);omega)only[Ag,ndC,h1,h4,h5,h6,Tryz.f38,↓Ac,Ae,↓reduceIte,↓reduceDIte,↓Qe,Qu,Qv,Qw,Qx,Qy,Qz,QA,QB,QC,QD,QE,QF,QG,QH,QI,QK];first
   | (refine Ab.by (CT used out0 t (by omega) (by omega) y hy) (by rfl) (by rfl) (by simp) ?_)
   simp(disch:=(try simp only[Ad]);omega)only[Ag,↓Ac,Ae,↓reduceIte,↓reduceDIte,↓Qe,Qu,Qv,Qw,Qx,Qy,Qz,QA,QB,QC,QD,QE,QF,QG,QH,QI,QK];first
   | (refine ⟨[some 0,some 1,some 3],rfl,by simp,by simp[HW,BW,SW,AW],.inr ⟨_,rfl,?_,rfl⟩⟩;rfl)
def Yq (n:Nd):List UInt8 × Int:=if Bg n 0=true then (if 1048576<(B9 n).length then ([],3) else (B9 n,0)) else ([],1)
def Abk (x:List UInt8 × Int):D:=.tup [S x.1,.int .i64 x.2]
def Pe (n:Nd) (ho:Bg n 0=true) (hz:nsz n<=100000) (hb:(B9 n).length<=1000000000000):Ctr TP G 38 [.ptr 0 0,.d (NdD n)] (BN false) (.d (.tup [])) (BX7 (B9 n)) :=
 YO (Kr _ n 0 (AbS _) ho hz false [] (by simpa using hb)) (by simp[SW,AW])
def PW (hT:HT G) (hG:Num.HG G) (n:Nd) (hs:szN n) (hz:nsz n<=100000) (hb:(B9 n).length<=1000000000000):Ctr TP G 17 [.d (NdD n)] [] (.d (Abk (Yq n))) []:=by
 have hv:=Ex (G:=G) hT hG n hs;obtain ⟨r,hr⟩:∃ r,r=Yq n:=⟨_,rfl⟩;rw[<-hr];unfold Yq at hr;refine Ctr.pure (M:=MQ7) Al Tryz.func17 rfl go17 ?_;cases ho:Bg n 0;·rw[ho] at hv;rw[if_neg (by rw[ho];simp)] at hr;subst hr;obtain ⟨k,t,ks,l⟩:=n;simp(disch:=(try simp only[Ad]);omega)only[Ag,ndC,CH,Tryz.f17,↓Ac,Ae,↓reduceIte,↓reduceDIte,↓Qe,Qu,Qv,Qw,Qx,Qy,Qz,QA,QB,QC,QD,QE,QF,QG,QH,QI,QK];refine Ab.of hv (by rfl) ?_;simp(disch:=(try simp only[Ad]);omega)only[Ag,ndC,CH,↓Ac,Ae,↓reduceIte,↓reduceDIte,↓Qe,Qu,Qv,Qw,Qx,Qy,Qz,QA,QB,QC,QD,QE,QF,QG,QH,QI,QK];first | done | rfl
 rw[ho] at hv;rw[if_pos ho] at hr;have hw:=Pe (G:=G) n ho hz hb;generalize B9 n=y at *;obtain ⟨k,t,ks,l⟩:=n;simp(disch:=(try simp only[Ad]);omega)only[Ag,ndC,CH,Zd,Tryz.f17,↓Ac,Ae,↓reduceIte,↓reduceDIte,↓Qe,Qu,Qv,Qw,Qx,Qy,Qz,QA,QB,QC,QD,QE,QF,QG,QH,QI,QK];refine Ab.of hv (by rfl) ?_;simp(disch:=(try simp only[Ad]);omega)only[Ag,ndC,CH,Zd,↓Ac,Ae,↓reduceIte,↓reduceDIte,↓Qe,Qu,Qv,Qw,Qx,Qy,Qz,QA,QB,QC,QD,QE,QF,QG,QH,QI,QK];first
 | (refine Ab.by hw (by rfl) (by rfl) (by simp) ?_)
 simp(disch:=(try simp only[Ad]);omega)only[Ag,CH,↓Ac,Ae,↓reduceIte,↓reduceDIte,↓Qe,Qu,Qv,Qw,Qx,Qy,Qz,QA,QB,QC,QD,QE,QF,QG,QH,QI,QK];first
 | (refine Ab.by (Yc true y) (by rfl) (by rfl) (by simp) ?_)
 rcases AbU 1048576 y.length with h4 | h4
 ·rw[if_pos h4] at hr;subst hr;simp(disch:=(try simp only[Ad]);omega)only[Ag,CH,↓Ac,Ae,↓reduceIte,↓reduceDIte,↓Qe,Qu,Qv,Qw,Qx,Qy,Qz,QA,QB,QC,QD,QE,QF,QG,QH,QI,QK];first | done | rfl
 rw[if_neg (by omega)] at hr;subst hr;simp(disch:=(try simp only[Ad]);omega)only[Ag,CH,↓Ac,Ae,↓reduceIte,↓reduceDIte,↓Qe,Qu,Qv,Qw,Qx,Qy,Qz,QA,QB,QC,QD,QE,QF,QG,QH,QI,QK];first
 | (refine Ab.by (Kx true y) (by rfl) (by rfl) (by simp) ?_)
 simp(disch:=(try simp only[Ad]);omega)only[Ag,CH,↓Ac,Ae,↓reduceIte,↓reduceDIte,↓Qe,Qu,Qv,Qw,Qx,Qy,Qz,QA,QB,QC,QD,QE,QF,QG,QH,QI,QK];first | done | rfl
def ZC (s:List UInt8):AN ([32,13,10]++s)=AN s:=by
 show AN (32::13::10::s)=AN s
 rw[FZ,FZ,FZ];rfl
def WK (hT:HT G) (hP:HP G) (hG:Num.HG G) (t0:List Int) (hu:OkS t0) (hl:t0.length<=9223372036854775807) :
  Ctr TP G 6 [.d (.sl t0.length false (Au .u8 t0))] [] (.d (.bool true)) []:=by
 have ht:OkM (t0.take 300):=hu.take;refine Ctr.pure (M:=M0) Al Tryz.func6 rfl go6 ?_;simp(disch:=(try simp only[Ad]);omega)only[Ag,Tryz.f6,↓Ac,Ae,↓reduceIte,↓reduceDIte,↓Qe,Qu,Qv,Qw,Qx,Qy,Qz,QA,QB,QC,QD,QE,QF,QG,QH,QI,QK];refine Ab.pure (TD hT hP hG) ?_;simp(disch:=(try simp only[Ad]);omega)only[Ag,↓Ac,Ae,↓reduceIte,↓reduceDIte,↓Qe,Qu,Qv,Qw,Qx,Qy,Qz,QA,QB,QC,QD,QE,QF,QG,QH,QI,QK];refine Ab.by (L:=[]) (new_spec t0 hl) (by rfl) (by rfl) (by simp) ?_;generalize t0.take 300=t at *;have hn:=Mx (G:=G) t ht 4 (by omega) 0;have g:=PK t 4 0;generalize Dv t (4+1) 0=x at *;change Ctr _ _ _ _ _ (.d (NdD x.1)) [DiceM t x.2] at hn;obtain ⟨n,k1⟩:=x;simp only at g hn;have z5:zM (4+1)=121:=rfl;have sz:=g.sz;rw[z5] at sz;have ho:=g.ok 0 (by omega);have lf:=Sp _ n (AbS _) g.tx;have ns:=Xm _ n 0 (AbS _) ho (by omega);have hv:=Ex (G:=G) hT hG n ns;have hf:=PW (G:=G) hT hG n ns (by omega) (by omega);have ef:Yq n=(B9 n,0):=by unfold Yq;rw[if_pos ho,if_neg (by omega)]
 have hp1:=GV (G:=G) hT hG (B9 n) (by omega);have hp2:=GV (G:=G) hT hG ([32,13,10]++(B9 n++[10])) (by simp only[AbH,AbZ,Ac7];omega);have hsm:=Mb (G:=G) _ n n (AbS _) ns ns;rw[ef] at hf;rw[ho] at hv;rw[V3 ho] at hp1;rw[TO ho ZC (fun b r e=>by cases e;exact .inl (by decide)) (by decide) (by decide) (by decide)] at hp2;rw[Sw] at hsm;generalize B9 n=tx at *;obtain ⟨k,t,ks,l⟩:=n;simp(disch:=(try simp only[Ad]);omega)only[Ag,↓Ac,Ae,↓reduceIte,↓reduceDIte,↓Qe,Qu,Qv,Qw,Qx,Qy,Qz,QA,QB,QC,QD,QE,QF,QG,QH,QI,QK];refine Ab.by hn (by rfl) (by rfl) (AbS _) ?_;simp(disch:=(try simp only[Ad]);omega)only[Ag,ndC,↓Ac,Ae,↓reduceIte,↓reduceDIte,↓Qe,Qu,Qv,Qw,Qx,Qy,Qz,QA,QB,QC,QD,QE,QF,QG,QH,QI,QK];refine Ab.of hv (by rfl) ?_;simp(disch:=(try simp only[Ad]);omega)only[Ag,ndC,↓Ac,Ae,↓reduceIte,↓reduceDIte,↓Qe,Qu,Qv,Qw,Qx,Qy,Qz,QA,QB,QC,QD,QE,QF,QG,QH,QI,QK];refine Ab.of hf (by rfl) ?_;simp(disch:=(try simp only[Ad]);omega)only[Ag,Abk,↓Ac,Ae,↓reduceIte,↓reduceDIte,↓Qe,Qu,Qv,Qw,Qx,Qy,Qz,QA,QB,QC,QD,QE,QF,QG,QH,QI,QK];refine Ab.of hp1 (by rfl) ?_;simp(disch:=(try simp only[Ad]);omega)only[Ag,PF,ndC,↓Ac,Ae,↓reduceIte,↓reduceDIte,↓Qe,Qu,Qv,Qw,Qx,Qy,Qz,QA,QB,QC,QD,QE,QF,QG,QH,QI,QK];first
 | (refine Ab.of hp2 (by rfl) ?_)
 simp(disch:=(try simp only[Ad]);omega)only[Ag,PF,ndC,↓Ac,Ae,↓reduceIte,↓reduceDIte,↓Qe,Qu,Qv,Qw,Qx,Qy,Qz,QA,QB,QC,QD,QE,QF,QG,QH,QI,QK];first
 | (refine Ab.of hf (by rfl) ?_)
 simp(disch:=(try simp only[Ad]);omega)only[Ag,Abk,ndC,↓Ac,Ae,↓reduceIte,↓reduceDIte,↓Qe,Qu,Qv,Qw,Qx,Qy,Qz,QA,QB,QC,QD,QE,QF,QG,QH,QI,QK];first
 | (refine Ab.of hsm (by rfl) ?_)
 simp(disch:=(try simp only[Ad]);omega)only[Ag,ndC,↓Ac,Ae,↓reduceIte,↓reduceDIte,↓Qe,Qu,Qv,Qw,Qx,Qy,Qz,QA,QB,QC,QD,QE,QF,QG,QH,QI,QK];first
 | (refine Ab.of hsm (by rfl) ?_)
 simp(disch:=(try simp only[Ad]);omega)only[Ag,ndC,↓Ac,Ae,↓reduceIte,↓reduceDIte,↓Qe,Qu,Qv,Qw,Qx,Qy,Qz,QA,QB,QC,QD,QE,QF,QG,QH,QI,QK];first | done | rfl
end
section
open Go Go.Proofs Go.Abs Go.RowKit Go.ChangeShapes Go.WideShapes Go.ChangeAt
namespace nestedBack
def contract (H:Type) (enc:TypeId × Value->H) (X:World) (base:Nat) (args:Array Value) (ds gs:List (DataW H)) (before:List MemPlace)
  (hval:∀ (j:Nat) t v,Tryz.f6.params[j]?=some t->args[j]?=some v->Value.okWide TP X .any base t v)
  (hW:DataW.Whole enc TP Tryz.f6.params.toList Rows.nestedBackSpec.vars false X args.toList ds gs before) (hL:laidMetH TP Rows.nestedBackRow.laid X) :
  Calls TP 6 args X fun e X'=>∃ v,e=.returned v/\Rows.nestedBackSpec.post enc TP Tryz.f6 false true false false X args v X':=by
 have hW':=hW;obtain ⟨p,q,hA0,hV,rfl,hfz,hnd⟩:=hW;have hA:DataW.TrodAll enc TP X 0 (fun _=>true) true Tryz.f6.params.toList args.toList ds p:=hA0;rw[Tryz.params6] at hA hval;obtain ⟨v0,vs0,d0,ds0,p0,q0,hargs,rfl,rfl,h0,r0⟩:=trodAll_cons hA;obtain ⟨rfl,rfl,rfl⟩:=trodAll_nil r0;obtain rfl:args=#[v0]:=by cases args;simp_all
 obtain ⟨rfl,rfl⟩:=trodVars_none hV;have lt0:∀ x∈p0,x.block<X.heap.size:=by obtain ⟨m,hm⟩:=h0;exact DataW.trod_lt m _ _ _ hm
 have o0:∃ a n c,v0=.slice a n c:=okWide_slice Tryz.underlying22 (hval 0 22 v0 rfl rfl);have k0:=h0;obtain ⟨fuel0,hf0⟩:=h0;obtain ⟨l0,e0,w0,b0⟩:=V4 Tryz.underlying22 Tryz.underlying5 cU8 o0 hf0;clear hA0;have hgl:=Z7 (Abj (b:=false) (Lib.laidMet.reads hL (.tail _ (.tail _ (.tail _ (.tail _ (.tail _ (.head _))))))) (Lib.laidMet.reads hL (.tail _ (.tail _ (.tail _ (.head _))))) (Lib.laidMet.reads hL (.tail _ (.tail _ (.head _)))) (fun h=>by cases h)) (Lib.laidMet.reads hL (.tail _ (.tail _ (.tail _ (.tail _ (.head _))))));refine ((WK (G:=G2 false) hT2 hP2 hG2 l0 (ZV w0) (by unfold maxLen at b0;omega)).law hgl (RL.one e0)).mono fun e X' ⟨he,bel⟩=>?_;subst he;exact ⟨_,rfl,_,_,_,[],_,[],hW',trodAll_mk1 (shut_bool Tryz.underlying4 _),(trodAll_cons_mk (Below.trod ZZ (by kernel_rfl) (of_decide_eq_true (by kernel_rfl)) k0 bel lt0) trodAll_mk0),rfl,bel.frame _,fun h=>by cases h⟩
def reads (os:Os) {H:Type} (enc:TypeId × Value->H):∃ places,DataW.whole enc TP ((CR os).forCall (fun _ _=>0) ⟨#[],#[.slice none 0 0],[]⟩).memory Tryz.f6.params.toList Rows.nestedBackSpec.vars false (#[.slice none 0 0]:Array Value).toList 8=some ([.nil],[],places) :=
 ⟨[],by kernel_rfl⟩
def lifted (os:Os) (started:os.Started) (H:Type) (enc:TypeId × Value->H) (F:Stop.Interp) :
  ReturnsInHanded {} Tryz.checked os 6 .any ((OpenSpec.ofChange Rows.nestedBackSpec).preRow enc TP Tryz.f6 Rows.nestedBackRow.domain false Rows.nestedBackRow.laid) (((OpenSpec.ofChange Rows.nestedBackSpec).at F).post enc TP Tryz.f6 false true false false):=by
 obtain ⟨places,hx⟩:=reads os enc;refine returnsInHanded_of_row (C:=Tryz.checked) (s:=OpenSpec.ofChange Rows.nestedBackSpec) own started (by kernel_rfl) Tryz.func6
  (witness_row_atRef (enc:=enc) (C:=Tryz.checked) false (CR os) #[.slice none 0 0] rfl (by kernel_rfl) (by kernel_rfl) (by kernel_rfl)
   (OpenSpec.preRow_of_cond 8 hx (by kernel_rfl) (fun k hk=>by cases hk) (by kernel_rfl) (Ib os _))) ?_
 intro X base args ds gs before hval hW _ _ _ hL _ _;exact contract H enc X base args ds gs before hval hW hL
end nestedBack
end
end Go.Proofs.YtmidaophnbdcdaaGreatDoor
