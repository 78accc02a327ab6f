/-
  Contracts of the functions, one after another.
-/
import Derived.Test.YtmidaophnbdcdaaGreatDoorZbNt6
import Derived.ChangeMaps5
set_option linter.all false
open Go.Abs renaming Bc->HW,Dv->BW,Cx->SW,Ap->AW,BP->sA,Bw->kZ
open Go.Proofs.Tryz renaming prog->TP
set_option maxHeartbeats 16000000
set_option maxRecDepth 100000
open Go.Abs renaming DD->Qe
open Nat renaming reduceAdd->Qu,reduceSub->Qv,reduceMul->Qw,reducePow->Qx,reduceDiv->Qy,reduceMod->Qz,reduceEqDiff->QI,reduceBEq->QK
open Int renaming reduceAdd->QA,reduceSub->QB,reduceMul->QC,reducePow->QD,reduceNeg->QE,reduceToNat->QF,reduceLT->QG,reduceLE->QH
open List renaming length_append->AbY,length_nil->Aen,mem_cons->Aeu,not_mem_nil->Aev,length_set->Aew,length_cons->Aex,length_take->AeA,append_nil->AfI
open Nat renaming le_refl->AbZ,lt_or_ge->Aeq,zero_le->Aer,reduceMod->Aes,reduceDiv->Aet,add_comm->AfZ
open Int renaming reduceEq->Aeg,natAbs_tdiv->AeB
namespace Go.Proofs.YtmidaophnbdcdaaGreatDoor
section
open Go Go.Proofs Go.Abs
variable {G:Ah}
def HW7 (n:Nd):Nat->List Ae
 | 0=>[.box [.d (.int .i64 n.kind),.d (S n.text),.d (Ss n.keys false),.d (NdS n.kids false)],.box zN7]
 | j+1=>[.box [.d (.int .i64 5),.d (.str ByteArray.empty),.d (.sl 0 false []),.lsl 2 4 0 1],.box zN7,.row false (ndC (E1 n j))]
def V0 (n:Nd) (w:Int) (w1:-9223372036854775808<=w) (w2:w<=9223372036854775807) (h4:w % 9=4) (hz:szN n) :
  Ctr TP G 10 [.d (NdD n),.d (.int .i64 w)] [] (.d (NdD (E1 n (11+w.tdiv 9 % 7).toNat))) []:=by
 have hta:(w.tdiv 9).natAbs=w.natAbs / 9:=by rw[AeB];rfl
 have hm9:=Dst.mmod_spec (G:=G) w 9 w1 w2 lA lA;have hm7:=Dst.mmod_spec (G:=G) (w.tdiv 9) 7 lA lA lA lA;rw[h4] at hm9;generalize hq:w.tdiv 9=q9 at *;obtain ⟨c,hc⟩:∃ c:Nat,q9 % 7=c:=⟨(q9 % 7).toNat,lA⟩;rw[hc] at hm7 ⊢;have hc7:c<7:=lA
 rw[show ((11:Int)+(c:Int)).toNat=11+c by omega];obtain ⟨r,hr⟩:∃ r,r=E1 n (11+c):=⟨_,rfl⟩;rw[<-hr];have h0:ndC n=[.int .i64 n.kind,S n.text,Ss n.keys false,NdS n.kids false]:=N4 n;refine Ctr.pure (M:=M0) Ak Tryz.func10 rfl go10 ?_;simp only[h0,Tryz.f10,↓Ab,Ad,↓reduceIte,Qu,Qv];refine Aa.of hm9 lD ?_;simp(disch:=try exact aa)only[↓Ab,Ad,Qu];refine Al.fr 22 (α:=Nat) (fun j=>11+c-j) (fun j=>[(5,.d (.int .i64 j))]) (HW7 n) (fun j=>j<=11+c) 0 (Aer _) ?_ ?_
 ·first
  | exact ⟨[some 0,some 1],rfl,by simp[],gV,by simp[HW7,HW,BW,SW,AW]⟩
 intro j hj;simp only[Bm,Aes,Aet];cases j with
 | zero =>
  unfold HW7;have h1:ndC (E1 n 0)=[.int .i64 n.kind,S n.text,Ss n.keys false,NdS n.kids false]:=N4 n;simp(disch:=try exact aa)only[hq,↓Ab,Ad,↓reduceIte,Qu];refine Aa.of hm7 lD ?_;simp(disch:=try exact aa)only[↓Ab,Ad,↓reduceIte,Qu,Qw,Qz,QA];first
  | exact ⟨0+1,lA,iz,⟨[some 0,some 1,some 2],rfl,by simp[],jR,by simp[HW,BW,SW,AW,h1]⟩⟩
 | succ j =>
  unfold HW7;have hx:ndC (E1 n (j+1))=[.int .i64 5,S [],Ss [] false,.sl 1 false (ndC (E1 n j)++[])]:=rfl;rw[AfI] at hx;have hl:=Ev (E1 n j);have cu:cut (ndC (E1 n j)) 0 4=ndC (E1 n j):=cut_all lA;simp(disch:=try exact aa)only[hq,↓Ab,Ad,↓reduceIte,Qu];refine Aa.of hm7 lD ?_;rcases Aeq (j+1) (11+c) with hlt | hge
  ·simp(disch:=try exact aa)only[cu,↓Ab,Ad,↓reduceIte,Qu,Qw,Qz];first
   | exact ⟨j+1+1,lA,iz,⟨[some 0,some 1,some 3],rfl,by simp[],jR,by simp[HW,BW,SW,AW,hx,S,bs];exact ⟨rfl,rfl⟩⟩⟩
   | exact ⟨j+1+1,lA,iz,⟨[some 0,some 1,some 3],rfl,by simp[HW7],gV,by simp[HW7,HW,BW,SW,AW,hx,cu];rfl⟩⟩
  have e:j+1=11+c:=lA
  rw[<-e] at hr;simp(disch:=try exact aa)only[cu,↓Ab,Ad,↓reduceIte,↓Qe,Qu,Qw];subst hr;show _=D.agg (ndC (E1 n (j+1)))
  rw[hx];first | done | rfl
def PO (n:Nd) (w:Int) (w1:-9223372036854775808<=w) (w2:w<=9223372036854775807) (hz:szN n) :
  Ctr TP G 10 [.d (NdD n),.d (.int .i64 w)] [] (.d (NdD (Mq n w))) []:=by
 obtain ⟨r,hr⟩:∃ r,r=Mq n w:=⟨_,rfl⟩;rw[<-hr];unfold Mq at hr;have hta:(w.tdiv 9).natAbs=w.natAbs / 9:=by rw[AeB];rfl
 by_cases h4:w % 9=4;·rw[if_neg lA,if_neg lA,if_neg lA,if_neg lA,if_pos h4] at hr;rw[hr];exact V0 n w w1 w2 h4 hz
 have hm9:=Dst.mmod_spec (G:=G) w 9 w1 w2 lA lA;have hm8:=Dst.mmod_spec (G:=G) (w.tdiv 9) 8 lA lA lA lA;have hm7:=Dst.mmod_spec (G:=G) (w.tdiv 9) 7 lA lA lA lA;have b9:0<=w % 9/\w % 9<9:=lA
 have b7:0<=w.tdiv 9 % 7/\w.tdiv 9 % 7<7:=lA
 generalize w % 9=m9 at *;generalize hq:w.tdiv 9=q9 at *;obtain ⟨na,nb,nc,ne⟩:=n;obtain ⟨s1,s2,s3,s4,s5⟩:=hz;have kl:=@strs_length nc;have nl:=Ax ne;refine Ctr.pure (M:=M0) Ak Tryz.func10 rfl go10 ?_;simp only[ndC,Tryz.f10,↓Ab,Ad,↓reduceIte,Qu,Qv];refine Aa.of hm9 lD ?_;rcases (by omega:m9=0\/m9=1\/m9=2\/m9=3\/m9=4\/m9=5\/m9=6\/m9=7\/m9=8) with rfl | rfl | rfl | rfl | rfl | rfl | rfl | rfl | rfl
 ·simp only[reduceIte] at hr;exact oC
 ·simp only[Aeg,reduceIte] at hr;subst hr;have cu:cut (D.str {data:=#[107]}::strs nc) 0 (1+nc.length)=D.str {data:=#[107]}::strs nc:=cut_all (by simp[kl];omega);simp(disch:=try exact aa)only[kl,cu,↓Ab,Ad,↓reduceIte,↓Qe,Qu];rw[AfZ 1];first | done | rfl
 ·simp only[Aeg,reduceIte] at hr;subst hr;simp(disch:=try exact aa)only[hq,↓Ab,Ad,↓reduceIte,Qu];refine Aa.of hm8 lD ?_;exact oL
 ·simp only[Aeg,reduceIte] at hr;subst hr;have cu:cut (D.int .i64 3::D.str {data:=#[49,101,53]}::D.sl 0 false []::D.sl 0 false []::AH ne) 0 ((1+ne.length)*4)=D.int .i64 3::D.str {data:=#[49,101,53]}::D.sl 0 false []::D.sl 0 false []::AH ne:=cut_all (by simp[nl];omega);simp(disch:=try exact aa)only[nl,cu,↓Ab,Ad,↓reduceIte,↓Qe,Qu,Qw,Qz];rw[AfZ 1];first | done | rfl
 ·exact absurd rfl h4
 ·exact n7
 ·exact n7
 ·simp only[Aeg,reduceIte] at hr;exact oC
 simp only[Aeg,reduceIte] at hr;exact oC
def Kl:∀ (N:Nat) (n:Nd) (a:Nat),nsz n<=N->AM n a=true->nsz n<=100000->(D3 n).length<=1000000000000 ->
  Ctr TP G 41 [.d (NdD n)] [] (.d (S (D3 n))) []
 | 0,n,_,hN,_,_,_=>ic
 | N+1,n,a,hN,ho,hz,hb=>by
   have o:=FB ho;have hnz:=CK n;obtain ⟨k,t,ks,l⟩:=n;have hl:l.length<=BG l:=CP l;replace hnz:nsz (.mk k t ks l)=1+BG l:=hnz;have ok:1<=k/\k<=6:=o.kind;have ot:t.length<=1024:=o.text;have ih:∀ c∈l,(D3 c).length<=1000000000000->Ctr TP G 41 [.d (NdD c)] [] (.d (S (D3 c))) []:=fun c hc h4=>by have:=Df hc;exact Kl N c (a+1) lA (o.kids c hc) lA h4
   obtain ⟨y,hy⟩:∃ y,D3 (.mk k t ks l)=y:=⟨_,rfl⟩;rw[hy] at hb ⊢;rw[D3] at hy;refine Ctr.pure (M:=M0) Ak Tryz.func41 rfl go41 ?_;by_cases h1:k=1;·subst h1;rw[if_pos rfl] at hy;subst hy;simp(disch:=try exact aa)only[ndC,Tryz.f41,↓Ab,Ad,↓reduceIte,↓Qe,Qu,Qv];first | done | rfl
   by_cases h4:k=4;·subst h4;rw[if_neg h1,if_pos rfl] at hy;subst hy;simp(disch:=try exact aa)only[ndC,Tryz.f41,↓Ab,Ad,↓reduceIte,Qu,Qv];refine Aa.of (Ki t lA) lD ?_;simp only[↓Ab,Ad,↓Qe];first | done | rfl
   by_cases h56:k=5\/k=6
   ·obtain ⟨rec,op,cl,K0,hK,hc⟩:∃ (rec:Bool) (op cl:UInt8) (K0:Int),K0=k/\((k=5/\rec=false/\op=91/\cl=93)\/(k=6/\rec=true/\op=123/\cl=125)):=by
     rcases h56 with h | h
     ·exact mK
     exact mL
    have hks:rec=true->ks.length=l.length/\∀ s∈ks,s.length<=1024:=by
     intro e;rcases hc with ⟨rfl,rfl,rfl,rfl⟩ | ⟨rfl,rfl,rfl,rfl⟩
     ·cases e
     obtain ⟨r1,r2,r3⟩:=o.recd rfl;exact ⟨r1,fun s hs=>FE (r3 s hs)⟩
    have hy2:op::(Gg rec ks l true++[cl])=y:=by
     rcases hc with ⟨rfl,rfl,rfl,rfl⟩ | ⟨rfl,rfl,rfl,rfl⟩
     ·exact hy
     exact hy
    have sl:=@strs_length ks;have nl:=Ax l;have ly:(Gg rec ks l true).length+2=y.length:=(by rw[<-hy2];simp)
    rcases hc with ⟨rfl,hr,hop,hcc⟩ | ⟨rfl,hr,hop,hcc⟩
    case' inr=>have hkl:=(hks hr).1
    all_goals
     simp(disch:=try exact aa)only[ndC,Tryz.f41,↓Ab,Ad,↓reduceIte,Qu,Qv];refine Al.fr 6291458 (α:=Nat × List UInt8) (fun x=>l.length-x.1) (fun x=>[(3,.d (S x.2)),(23,.d (.int .i64 x.1))]) (fun x=>[.box [.d (.int .i64 K0),.d (S t),.d (Ss ks false),.d (.sl l.length false (AH l))]])
      (fun x=>x.1<=l.length/\x.2++Gg rec (ks.drop x.1) (l.drop x.1) (decide (x.1=0))=Gg rec ks l true) (0,[]) ⟨Aer _,rfl⟩ ?_ ?_
     ·first
      | exact ⟨[some 0],rfl,lC,gV,by simp[HW,BW,SW,AW,hK]⟩
     rintro ⟨i,out⟩ ⟨b1,b2⟩;simp only at b1 b2;have lo:out.length<=y.length:=(by rw[<-b2,AbY] at ly;omega)
     simp only[Bm,Aes,Aet];rcases Aeq i l.length with h | h
     ·have gk:=Ca h;have sg:=fun q:i<ks.length=>strs_getD q;rw[XK rec _ h] at b2;obtain ⟨o2,h2⟩:∃ o2,out++(if decide (i=0)=true then [] else [44])=o2:=⟨_,rfl⟩;obtain ⟨o3,h3⟩:∃ o3,o2++(if rec=true then Dx (ks.getD i [])++[58] else [])=o3:=⟨_,rfl⟩;obtain ⟨o4,h4⟩:∃ o4,o3++D3 (l.getD i noN)=o4:=⟨_,rfl⟩;have e4:o4++Gg rec (ks.drop (i+1)) (l.drop (i+1)) (decide (i+1=0))=Gg rec ks l true:=by
       rw[<-b2,<-h4,<-h3,<-h2,show decide (i+1=0)=false by simp];simp only[List.append_assoc]
      have l4:o4.length<=y.length:=(by rw[<-e4,AbY] at ly;omega);have lf:(D3 (l.getD i noN)).length<=o4.length:=(by rw[<-h4,AbY];omega);have l3:o3.length<=o4.length:=(by rw[<-h4,AbY];omega);have l2:o2.length<=o3.length:=(by rw[<-h3,AbY];omega);have hk:=ih _ (Ds (d:=noN) h) lA;have hkey:i<ks.length->(ks.getD i []).length<=1024:=fun q=>(hks ah).2 _ (Ds q);generalize l.getD i noN=kid at *;obtain ⟨dk,dt,dks,dl⟩:=kid;generalize D3 (.mk dk dt dks dl)=ft at *;by_cases i0:i=0;case' pos =>
       obtain rfl:o2=out:=hO
       simp(disch:=try exact aa)only[nl,gk,sl,sg,ndC,hK,↓Ab,Ad,↓reduceIte,Qu]
      case' neg =>have e2:out++[44]=o2:=hO;simp(disch:=try exact aa)only[Af,nl,gk,sl,sg,ndC,hK,e2,↓Ab,Ad,↓reduceIte,Qu]
      all_goals
       first
       | (have hr0:rec=false:=hr
          have q:o3=o2:=(by rw[<-h3,hr0];simp);subst q)
       | (have hr1:rec=true:=hr
          have e3:o2++(Dx (ks.getD i [])++[58])=o3:=(by rw[<-h3];simp[hr]);have hkey:=hkey lA;have ql:=Fy (ks.getD i []);refine Aa.of (Ki (ks.getD i []) lA) lD ?_;generalize Dx (ks.getD i [])=qk at *;simp(disch:=try exact aa)only[Af,e3,↓Ab,Ad,↓reduceIte,Qu])
       first
       | (refine Aa.of hk lD ?_)
       simp(disch:=try exact aa)only[Af,h4,↓Ab,Ad,Qu];first
       | (refine ⟨(i+1,o4),⟨h,e4⟩,iz,[some 0],rfl,lC,?_,?_⟩<;>(simp[HW,BW,SW,AW];done))
     rw[List.drop_eq_nil_of_le h,Ol,AfI] at b2;simp(disch:=try exact aa)only[Af,hK,↓Ab,Ad,↓reduceIte,↓Qe,Qu];rw[<-hy2,b2,hop,hcc];first | done | rfl
   rw[if_neg h1,if_neg h4,if_neg lA,if_neg lA] at hy;subst hy;rcases (by omega:k=2\/k=3) with rfl | rfl
   all_goals
    simp(disch:=try exact aa)only[ndC,Tryz.f41,↓Ab,Ad,↓reduceIte,↓Qe,Qu,Qv];first | done | rfl
def O7 (n:Nd) (hv:Ctr TP G 20 [.d (NdD n)] [] (.d (.bool (AM n 0))) []) (hz:nsz n<=100000) (hb:(D3 n).length<=1000000000000):Ctr TP G 18 [.d (NdD n)] [] (.d (YX (Ok n))) []:=by
 obtain ⟨r,hr⟩:∃ r,r=Ok n:=⟨_,rfl⟩;rw[<-hr];unfold Ok at hr;refine Ctr.pure (M:=M0) Ak Tryz.func18 rfl go18 ?_;cases ho:AM n 0;·rw[ho] at hv;rw[if_neg jP] at hr;subst hr;obtain ⟨k,t,ks,l⟩:=n;simp(disch:=try exact aa)only[ndC,Tryz.f18,↓Ab,Ad,↓reduceIte,Qu,Qv];refine Aa.of hv lD ?_;simp only[↓Ab,Ad,↓Qe];first | done | rfl
 rw[ho] at hv;rw[if_pos ho] at hr;have hw:=Kl (G:=G) _ n 0 (AbZ _) ho hz hb;generalize D3 n=y at *;obtain ⟨k,t,ks,l⟩:=n;simp(disch:=try exact aa)only[ndC,Tryz.f18,↓Ab,Ad,↓reduceIte,Qu,Qv];refine Aa.of hv lD ?_;simp(disch:=try exact aa)only[↓Ab,Ad,↓reduceIte,Qu];first
 | (refine Aa.of hw lD ?_)
 rcases Aeq 1048576 y.length with h4 | h4
 ·rw[if_pos h4] at hr;exact oR
 rw[if_neg lA] at hr;exact oR
structure TQ (n:Nd):Prop where
 zn:ZN 200 n
 tx:txN n
def WV {n:Nd} (h:txN n):∀ k,txN (E1 n k)
 | 0=>h
 | k+1=>⟨lC,(fun s hs=>kX),⟨WV h k,trivial⟩⟩
def X4 (n:Nd) (h:n.keys.length<=1000):∀ k,(E1 n k).keys.length<=1000
 | 0=>h
 | k+1=>Aer _
def AdR {n:Nd} (h:ZN 20 n) (tx:txN n) (hk:n.keys.length<=20) (w:Int):TQ (Mq n w):=by
 have hs:=(AaA (z:=20) lA h w).1;have hn:=h.nz;have hm:(11+w.tdiv 9 % 7).toNat<=20:=lA
 have hw:=(RJ h (11+w.tdiv 9 % 7).toNat).nz;have hx:=WV tx (11+w.tdiv 9 % 7).toNat;have hy:=X4 n lA (11+w.tdiv 9 % 7).toNat;refine ⟨⟨hs,?_,?_⟩,?_⟩;all_goals
  unfold Mq;clear hs;generalize (11+w.tdiv 9 % 7).toNat=k at *;obtain ⟨na,nb,nc,ne⟩:=n;obtain ⟨x1,x2,x3⟩:=tx;have hnz:nsz (.mk na nb nc ne)=1+BG ne:=rfl;replace hk:nc.length<=20:=hk;have hx0:txN (.mk na nb nc ne):=⟨x1,x2,x3⟩;repeat' split
 ·show 1+BG ne<=_;omega
 ·show 1+BG ne<=_;omega
 ·show 1+BG ne<=_;omega
 ·show 1+(1+0+BG ne)<=_;omega
 ·omega
 ·show 1+(nsz _+(nsz _+0))<=_;omega
 ·show 1+(1+0+(nsz _+0))<=_;omega
 ·omega
 ·exact qz
 ·show nc.length+1<=_;omega
 ·exact qz
 ·exact qz
 ·exact hy
 ·simp[Nd.keys]
 ·simp[Nd.keys]
 ·exact qz
 ·exact ⟨lC,x2,x3⟩
 ·exact ⟨x1,(fun s hs=>by
   rcases Aeu.1 hs with rfl | hs
   ·simp
   exact x2 s hs),x3⟩
 ·exact ⟨x1,x2,x3⟩
 ·exact ⟨x1,x2,⟨⟨lC,(fun s hs=>kX),trivial⟩,x3⟩⟩
 ·exact hx
 ·exact ⟨lC,(fun s hs=>by simp at hs;rw[hs];simp),⟨hx0,hx0,trivial⟩⟩
 ·exact ⟨lC,(fun s hs=>kX),⟨⟨lC,(fun s hs=>kX),trivial⟩,hx0,trivial⟩⟩
 exact hx0
def GN.tq {d:Nat} {n:Nd} (h:GN d n) (hd:d<=5):TQ n:=⟨⟨(h.zn hd).sz,by have:=(h.zn hd).nz;omega,(h.zn hd).ky⟩,h.tx⟩
def TQ.len {n:Nd} (h:TQ n):(D3 n).length<=40000:=by have:=UD _ n (AbZ _) h.tx;have:=h.zn.nz;omega
def Aa7 {n:Nd} (h:TQ n):(Ok n).1.length<=40000:=by
 have:=h.len;unfold Ok;split
 ·split;·simp
  exact this
 simp
def UC (hT:HT G) (hG:Num.HG G) {n:Nd} (h:TQ n):Ctr TP G 17 [.d (NdD n)] [] (.d (YX (Ok n))) []/\Ctr TP G 18 [.d (NdD n)] [] (.d (YX (Ok n))) []:=by have hl:=h.len;have hz:=h.zn.nz;exact ⟨SG hT hG n h.zn.sz lA lA,O7 n (Nz hT n h.zn.sz) lA lA⟩
def YD {data:List UInt8} (hd:data.length<=100000):szN (FA data).1:=by
 have z0:szN noN:=mQ;unfold FA;cases hx:Es (.beg data []) with
 | none=>exact z0
 | some x =>
  obtain ⟨q,n⟩:=x;have h:=(VS (r:=q) (n:=n) hd hx).1;simp only;split
  ·split;·exact h
   exact z0
  exact z0
def Vv (hT:HT G) (hP:HP G) (hG:Num.HG G) (t0:List Int) (hu:OkS t0) (hl:t0.length<=9223372036854775807) (raw:List UInt8) (hraw:raw.length<=9223372036854775807)
  (p:Int) (p1:-9223372036854775808<=p) (p2:p<=9223372036854775807) (w:Int) (w1:-9223372036854775808<=w) (w2:w<=9223372036854775807) (c:UInt8) :
  Ctr TP G 5 [.d (.sl t0.length false (Ar .u8 t0)),.d (S raw),.d (.int .i64 p),.d (.int .i64 w),.d (.int .u8 c.toNat)] [] (.d (.bool true)) []:=by
 have ht:OkM (t0.take 300):=hu.take;refine Ctr.pure (M:=M0) Ak Tryz.func5 rfl go5 ?_;simp only[Tryz.f5,↓Ab,Ad,↓reduceIte,Qu,Qv];refine Aa.pure (VK hT hP hG) ?_;simp(disch:=try exact aa)only[Af,↓Ab,Ad,↓reduceIte,↓Qe];by_cases hn:300<raw.length
 ·have e1:((raw.length:Int) > 300):=by omega
  simp only[e1,Ad];first | done | rfl
 simp(disch:=try exact aa)only[Ad];refine Aa.by (L:=[]) (new_spec t0 hl) lD lD lC ?_;generalize t0.take 300=t at *;have hn4:=Jx (G:=G) t ht 3 lA 0;have g4:=MW t 3 0;generalize DF t (3+1) 0=y at *;obtain ⟨x0,k1⟩:=y;simp only at hn4 g4;have hn3:=Jx (G:=G) t ht 2 lA k1;have g3:=MW t 2 k1;generalize DF t (2+1) k1=y at *;obtain ⟨x1,k2⟩:=y;simp only at hn3 g3;have z1:ZN 20 x1:=⟨(g3.zn lA).sz,by have:=g3.sz;rw[show zM (2+1)=13 from rfl] at this;omega,(g3.zn lA).ky⟩;have kl1:x1.keys.length<=20:=by
  have o:=FB (g3.ok 0 lA);have s:=g3.sz;rw[show zM (2+1)=13 from rfl,CK] at s;have:=CP x1.kids;by_cases k6:x1.kind=6;·have:=(o.recd k6).1;omega
  rw[o.nrecd k6];simp
 have ho:=PO (G:=G) x1 w w1 w2 z1.sz;have q1:=AdR z1 g3.tx kl1 w;have q0:=g4.tq lA;obtain ⟨x2,hx2⟩:∃ x2,x2=Mq x1 w:=⟨_,rfl⟩;rw[<-hx2] at ho q1;clear hx2;have hL:∀ x∈[x0,x2],TQ x:=fun x hx=>by
  simp only[Aeu,Aev,or_false] at hx;rcases hx with rfl | rfl
  ·exact q0
  exact q1
 have hLd:AH [x0,x2]=ndC x0++(ndC x2++[]):=rfl;obtain ⟨a0,a1,a2,a3⟩:=x0;obtain ⟨b0,b1,b2,b3⟩:=x1;obtain ⟨c0,c1,c2,c3⟩:=x2;simp(disch:=try exact aa)only[↓Ab,Ad,↓reduceIte];refine Aa.by hn4 lD lD (AbZ _) ?_;simp(disch:=try exact aa)only[ndC,↓Ab,Ad,↓reduceIte];refine Aa.by hn3 lD lD (AbZ _) ?_;simp(disch:=try exact aa)only[ndC,↓Ab,Ad,↓reduceIte];refine Aa.of ho lD ?_;simp(disch:=try exact aa)only[ndC,↓Ab,Ad,↓reduceIte,Qu,Qw,Qz];obtain ⟨l,hl2⟩:∃ l:List Nd,l=[.mk a0 a1 a2 a3,.mk c0 c1 c2 c3]:=⟨_,rfl⟩;rw[<-hl2] at hL;have ll:l.length=2:=by rw[hl2];rfl
 have nl:=Ax l;refine Al.fr 824633720862 (α:=Nat) (fun i=>2-i) (fun i=>[(40,.d (.int .i64 i))]) (fun _=>[.dead,.row false (AH l)]) (fun i=>i<=2) 0 (Aer _) ?_ ?_
 ·first
  | exact ⟨[some 0,some 1],rfl,lC,gV,by simp[HW,BW,hl2,AH,ndC]⟩
 rintro i hi;simp only[Bm,Aes,Aet];rcases Aeq i 2 with h | h
 ·have gk:=Ca (l:=l) (k:=i) lA;have hT2:=hL _ (Ds (d:=noN) (show i<l.length by omega));obtain ⟨n,hnn⟩:∃ n,n=l.getD i noN:=⟨_,rfl⟩;rw[<-hnn] at gk hT2;obtain ⟨hf1,hf2⟩:=UC (G:=G) hT hG hT2;have hfl:=Aa7 hT2;have hv1:=E6 (G:=G) hT hG n hT2.zn.sz;have hv2:=Nz (G:=G) hT n hT2.zn.sz;have hod:=PO (G:=G) n w w1 w2 hT2.zn.sz;have hos:=(AaA (z:=200) lA hT2.zn w).1;have hsa:=Ny (G:=G) _ n (Mq n w) (AbZ _) hT2.zn.sz hos;have hsb:=H7 (G:=G) _ n (Mq n w) (AbZ _) hT2.zn.sz hos;obtain ⟨x,hx⟩:∃ x,x=Mq n w:=⟨_,rfl⟩;rw[<-hx] at hod hsa hsb;obtain ⟨fr,hfr⟩:∃ fr,fr=Ok n:=⟨_,rfl⟩;rw[<-hfr] at hf1 hf2 hfl;obtain ⟨b,eb⟩:=fr;obtain ⟨vb,hvb⟩:∃ vb,vb=AM n 0:=⟨_,rfl⟩;rw[<-hvb] at hv1 hv2;obtain ⟨sb,hsb'⟩:∃ sb,sb=eqN n x:=⟨_,rfl⟩;rw[<-hsb'] at hsa hsb;simp only at hfl;clear hnn hx hfr hvb hsb' hos hT2;obtain ⟨nk,nt,nks,nl'⟩:=n;obtain ⟨xk,xt,xks,xl⟩:=x;simp(disch:=try exact aa)only[nl,ll,gk,ndC,↓Ab,Ad,↓reduceIte,Qu,Qw];refine Aa.of hf1 lD ?_;simp(disch:=try exact aa)only[YX,↓Ab,Ad,↓reduceIte,Qu];refine Aa.of hf2 lD ?_;simp(disch:=try exact aa)only[Af,YX,↓Ab,Ad,↓reduceIte,Qu];refine Aa.of hv1 lD ?_;simp(disch:=try exact aa)only[↓Ab,Ad,↓reduceIte,Qu];refine Aa.of hv2 lD ?_;simp(disch:=try exact aa)only[↓Ab,Ad,↓reduceIte,Qu];first
  | (refine Aa.of hod lD ?_)
  simp only[ndC,↓Ab,Ad,↓reduceIte,Qu];first
  | (refine Aa.of hsa lD ?_)
  simp(disch:=try exact aa)only[↓Ab,Ad,↓reduceIte,Qu];first
  | (refine Aa.of hod lD ?_)
  simp only[ndC,↓Ab,Ad,↓reduceIte,Qu];first
  | (refine Aa.of hsb lD ?_)
  simp(disch:=try exact aa)only[Af,↓Ab,Ad,↓reduceIte,Qu,Qz];have bc:(b.map fun x=>D.int .u8 (x.toNat:Int))=Ar .u8 (AB b):=jQ
  have bl:=Gz b;have btd:(b.length:Int).tdiv 2=((b.length / 2:Nat):Int):=by rw[Int.tdiv_eq_ediv_of_nonneg lA];omega
  have bwr:IntKind.i64.wrap (((b.length / 2:Nat):Int))=((b.length / 2:Nat):Int):=wr_i64 lA lA;have bcut:cut (Ar .u8 (AB b)) 0 b.length=Ar .u8 (AB b):=GJ (by rw[Gz]);have hm:=Dst.mmod_spec (G:=G) p b.length p1 p2;refine ⟨lD,?_⟩;rcases Nat.eq_zero_or_pos b.length with hb0 | hb0
  case' inl =>
   have hbe:b=[]:=List.length_eq_zero_iff.1 hb0;subst hbe;have n0:AB []=[]:=rfl;have i0:Ar .u8 []=[]:=rfl;have c00:cut ([]:List D) 0 0=[]:=rfl;have n00:Bl []=some []:=rfl;rw[Aen] at btd bwr bcut;have z02:IntKind.i64.wrap (Int.tdiv 0 2)=0:=rfl;simp(disch:=try exact aa)only[bc,z02,n0,i0,c00,n00,Aen,Ad];refine ⟨lD,?_⟩;obtain ⟨L,hL12⟩:∃ L:List (List UInt8),L=[[],raw,[],[32,10,9],raw,[123,34,97,34,32,58,32,49,32,44,32,34,98,34,58,91,32,93,125],[49,50,46],[49,50,51,52,53,54,55,56,57,48,49,50,51,52,53,54],[91,49,44,93],[123,34,97,34,58,49,44,34,97,34,58,50,125],[34,92,120,34],[]]:=⟨_,rfl⟩;have lL:L.length=12:=(by rw[hL12];rfl)
   have hLx:∀ y∈L,y.length<=100000:=fun y hy=>by rw[hL12] at hy;simp only[Aeu,Aev,or_false] at hy;rcases hy with rfl | rfl | rfl | rfl | rfl | rfl | rfl | rfl | rfl | rfl | rfl | rfl<;>first | omega | (simp only[Aex,Aen];omega)
  case' inr =>
   obtain ⟨m,hmm,hml⟩:∃ m:Nat,p % (b.length:Int)=(m:Int)/\m<b.length:=by have z1:=Int.emod_nonneg p (show (b.length:Int)≠0 by omega);have z2:=Int.emod_lt_of_pos p (show (0:Int)<b.length by omega);exact ⟨(p % (b.length:Int)).toNat,lA,lA⟩
   have hm':=hm lA lA;rw[hmm] at hm';simp(disch:=try exact aa)only[Af,bc,Ad];first
   | (refine Aa.of hm' lD ?_)
   have btk:List.take b.length ((AB b).set m (c.toNat:Int))=AB (b.set m c):=(by rw[Dst.nums_set];exact List.take_of_length_le (by rw[Bh,Aew];exact AbZ _));simp(disch:=try exact aa)only[Af,bl,btd,bwr,ints_set,↓Ab,Ad,↓reduceIte,Qu,Qz];rw[btk,Cl];simp only[BK];refine ⟨lD,?_⟩;obtain ⟨L,hL12⟩:∃ L:List (List UInt8),L=[b,raw,b.set m c,32::10::(b++[9]),b++raw,[123,34,97,34,32,58,32,49,32,44,32,34,98,34,58,91,32,93,125],[49,50,46],[49,50,51,52,53,54,55,56,57,48,49,50,51,52,53,54],[91,49,44,93],[123,34,97,34,58,49,44,34,97,34,58,50,125],[34,92,120,34],b.take (b.length / 2)]:=⟨_,rfl⟩;have lL:L.length=12:=(by rw[hL12];rfl)
   have hLx:∀ y∈L,y.length<=100000:=fun y hy=>by rw[hL12] at hy;simp only[Aeu,Aev,or_false] at hy;rcases hy with rfl | rfl | rfl | rfl | rfl | rfl | rfl | rfl | rfl | rfl | rfl | rfl<;>first | omega | (simp only[Aex,AbY,Aen,Aew,AeA];omega)
  all_goals
   have sL:=@strs_length L;refine Al.fr 1947111321950560360700860268806174 (α:=Nat) (fun y=>12-y) (fun y=>[(111,.d (.int .i64 y))]) (fun _=>[.dead,.row false (AH l),.dead,.dead,.row false (strs L)]) (fun y=>y<=12) 0 (Aer _) ?_ ?_
   ·first
    | (refine ⟨[some 0,some 1,some 2,some 3,some 4],rfl,lC,gV,?_⟩;simp[HW,BW];rw[hL12];rfl)
   rintro y hy;clear hL12;simp only[Bm,Aes,Aet];rcases Aeq y 12 with h12 | h12
   ·have sg:=strs_getD (l:=L) (i:=y) lA;have ly:=hLx _ (Ds (d:=[]) (show y<L.length by omega));generalize L.getD y []=tx at *;have hp1:=L4 (G:=G) hT hG tx ly;have hp2:=Sj (G:=G) hT tx ly;have hps:=YD ly;obtain ⟨pr,hpr⟩:∃ pr,pr=FA tx:=⟨_,rfl⟩;rw[<-hpr] at hp1 hp2 hps;obtain ⟨pn,pe⟩:=pr;simp only at hps;have hss:=H7 (G:=G) _ pn pn (AbZ _) hps hps;rw[UJ] at hss;clear hpr;obtain ⟨pk,pt,pks,pl⟩:=pn;simp(disch:=try exact aa)only[sL,lL,sg,↓Ab,Ad,↓reduceIte,Qu];first
    | (refine Aa.of hp1 lD ?_)
    simp(disch:=try exact aa)only[NM,ndC,↓Ab,Ad,↓reduceIte,Qu];first
    | (refine Aa.of hp2 lD ?_)
    simp(disch:=try exact aa)only[NM,ndC,↓Ab,Ad,↓reduceIte,Qu];first
    | (refine Aa.of hss lD ?_)
    simp(disch:=try exact aa)only[↓Ab,Ad,↓reduceIte,Qu];first
    | exact ⟨y+1,h12,iz,⟨[some 0,some 1,some 2,some 3,some 4],rfl,lC,jR,jT⟩⟩
   obtain rfl:y=12:=lA
   simp(disch:=try exact aa)only[↓Ab,Ad,Qu,Qv];first
   | exact ⟨i+1,h,iz,mT⟩
 obtain rfl:i=2:=lA
 simp(disch:=try exact aa)only[↓Ab,Ad,↓Qe,Qu,Qv];first | done | rfl
end
section
open Go Go.Proofs Go.Abs Go.RowKit Go.ChangeShapes Go.WideShapes Go.ChangeAt
namespace nestedSteps
def contract (H:Type) (enc:TypeId × Value->H) (X:World) (base:Nat) (args:Array Value) (ds gs:List (DataW H)) (before:List MemPlace)
  (hval:∀ (j:Nat) t v,Tryz.f5.params[j]?=some t->args[j]?=some v->Value.okWide TP X .any base t v)
  (hW:DataW.Whole enc TP Tryz.f5.params.toList Rows.nestedStepsSpec.vars false X args.toList ds gs before) (hL:laidMetH TP Rows.nestedStepsRow.laid X) :
  Calls TP 5 args X fun e X'=>∃ v,e=.returned v/\Rows.nestedStepsSpec.post enc TP Tryz.f5 false true false false X args v X':=by
 have hW':=hW;obtain ⟨p,q,hA0,hV,rfl,hfz,hnd⟩:=hW;have hA:DataW.TrodAll enc TP X 0 (fun _=>true) true Tryz.f5.params.toList args.toList ds p:=hA0;rw[Tryz.params5] at hA hval;obtain ⟨v0,vs0,d0,ds0,p0,q0,hargs,rfl,rfl,h0,r0⟩:=trodAll_cons hA;obtain ⟨v1,vs1,d1,ds1,p1,q1,rfl,rfl,rfl,h1,r1⟩:=trodAll_cons r0;obtain ⟨v2,vs2,d2,ds2,p2,q2,rfl,rfl,rfl,h2,r2⟩:=trodAll_cons r1;obtain ⟨v3,vs3,d3,ds3,p3,q3,rfl,rfl,rfl,h3,r3⟩:=trodAll_cons r2;obtain ⟨v4,vs4,d4,ds4,p4,q4,rfl,rfl,rfl,h4,r4⟩:=trodAll_cons r3;obtain ⟨rfl,rfl,rfl⟩:=trodAll_nil r4;obtain rfl:args=#[v0,v1,v2,v3,v4]:=by cases args;simp_all
 obtain ⟨rfl,rfl⟩:=trodVars_none hV;have lt0:∀ x∈p0,x.block<X.heap.size:=by obtain ⟨m,hm⟩:=h0;exact DataW.trod_lt m _ _ _ hm
 have o0:∃ a n c,v0=.slice a n c:=okWide_slice Tryz.underlying22 (hval 0 22 v0 rfl rfl);have k0:=h0;obtain ⟨fuel0,hf0⟩:=h0;obtain ⟨l0,e0,w0,b0⟩:=YF Tryz.underlying22 Tryz.underlying5 cU8 o0 hf0;obtain ⟨s1,rfl,rfl,rfl,wf1⟩:=Go.ChangeMaps.open_string Tryz.underlying9 (hval 1 9 v1 rfl rfl) h1;obtain ⟨x1,rfl⟩:∃ x,s1=bs x:=⟨_,Af5 s1⟩;have b11:x1.length<=maxLen:=by rw[<-DQ (l:=x1)];exact wf1
 obtain ⟨n2,rfl,rfl,rfl,wf2⟩:=open_int Tryz.underlying3 (hval 2 3 v2 rfl rfl) h2;have b12:-9223372036854775808<=n2/\n2<=9223372036854775807:=by simp[Lit.wf,IntKind.min,IntKind.max,IntKind.bits,IntKind.signed] at wf2;omega
 obtain ⟨n3,rfl,rfl,rfl,wf3⟩:=open_int Tryz.underlying3 (hval 3 3 v3 rfl rfl) h3;have b13:-9223372036854775808<=n3/\n3<=9223372036854775807:=by simp[Lit.wf,IntKind.min,IntKind.max,IntKind.bits,IntKind.signed] at wf3;omega
 obtain ⟨n4,rfl,rfl,rfl,wf4⟩:=open_int Tryz.underlying5 (hval 4 5 v4 rfl rfl) h4;have b14:0<=n4/\n4<=255:=by simp[Lit.wf,IntKind.min,IntKind.max,IntKind.bits,IntKind.signed] at wf4;omega
 obtain ⟨c4,rfl⟩:∃ c:UInt8,n4=(c.toNat:Int):=⟨UInt8.ofNat n4.toNat,by rw[UInt8.toNat_ofNat_of_lt' (by show n4.toNat<256;omega)];omega⟩;clear hA0;have hgl:=AcK (AdU (b:=false) (Lib.laidMet.reads hL (.tail _ (.tail _ (.tail _ (.tail _ (.tail _ (.head _))))))) (Lib.laidMet.reads hL (.tail _ (.tail _ (.tail _ (.head _))))) (Lib.laidMet.reads hL (.tail _ (.tail _ (.head _)))) (fun h=>lx)) (Lib.laidMet.reads hL (.tail _ (.tail _ (.tail _ (.tail _ (.head _))))));refine ((Vv (G:=G2 false) hT2 hP2 hG2 l0 (Acy w0) (by unfold maxLen at b0;omega) x1 (by unfold maxLen at b11;omega) n2 b12.1 b12.2 n3 b13.1 b13.2 c4).law hgl (RL.five e0 (.d _ _ (.str _)) (.d _ _ (.int _ _)) (.d _ _ (.int _ _)) (.d _ _ (.int _ _)))).mono fun e X' ⟨he,bel⟩=>?_;subst he;exact ⟨_,rfl,_,_,_,[],_,[],hW',trodAll_mk1 (shut_bool Tryz.underlying4 _),(trodAll_cons_mk (Below.trod AcD (by kernel_rfl) (of_decide_eq_true (by kernel_rfl)) k0 bel lt0) (trodAll_cons_mk (Go.ChangeMaps.shut_string Tryz.underlying9 wf1) (trodAll_cons_mk (shut_int Tryz.underlying3 wf2) (trodAll_cons_mk (shut_int Tryz.underlying3 wf3) (trodAll_cons_mk (shut_int Tryz.underlying5 wf4) trodAll_mk0))))),rfl,bel.frame _,fun h=>lx⟩
def reads (os:Os) {H:Type} (enc:TypeId × Value->H):∃ places,DataW.whole enc TP ((C4 os).forCall (fun _ _=>0) ⟨#[],#[.slice none 0 0,.string .empty,.int .i64 0,.int .i64 0,.int .u8 0],[]⟩).memory Tryz.f5.params.toList Rows.nestedStepsSpec.vars false (#[.slice none 0 0,.string .empty,.int .i64 0,.int .i64 0,.int .u8 0]:Array Value).toList 8=some ([.nil,.lit (.string []),.lit (.int .i64 0),.lit (.int .i64 0),.lit (.int .u8 0)],[],places) :=
 ⟨[],by kernel_rfl⟩
def lifted (os:Os) (started:os.Started) (H:Type) (enc:TypeId × Value->H) (F:Stop.Interp) :
  ReturnsInHanded {} Tryz.checked os 5 .any ((OpenSpec.ofChange Rows.nestedStepsSpec).preRow enc TP Tryz.f5 Rows.nestedStepsRow.domain false Rows.nestedStepsRow.laid) (((OpenSpec.ofChange Rows.nestedStepsSpec).at F).post enc TP Tryz.f5 false true false false):=by
 obtain ⟨places,hx⟩:=reads os enc;refine returnsInHanded_of_row (C:=Tryz.checked) (s:=OpenSpec.ofChange Rows.nestedStepsSpec) own started (by kernel_rfl) Tryz.func5
  (witness_row_atRef (enc:=enc) (C:=Tryz.checked) false (C4 os) #[.slice none 0 0,.string .empty,.int .i64 0,.int .i64 0,.int .u8 0] rfl (by kernel_rfl) (by kernel_rfl) (by kernel_rfl)
   (OpenSpec.preRow_of_cond 8 hx (by kernel_rfl) (fun k hk=>by cases hk) (by kernel_rfl) (Ik os _))) ?_
 intro X base args ds gs before hval hW _ _ _ hL _ _;exact contract H enc X base args ds gs before hval hW hL
end nestedSteps
end
end Go.Proofs.YtmidaophnbdcdaaGreatDoor
