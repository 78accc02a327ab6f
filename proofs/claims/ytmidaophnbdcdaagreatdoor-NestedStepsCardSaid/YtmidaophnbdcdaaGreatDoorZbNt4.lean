/-
  Contracts of the functions, one after another.
-/
import Derived.Test.YtmidaophnbdcdaaGreatDoorZbNt3
set_option linter.all false
open Go.Abs renaming Bc->HW,Dv->BW,Cx->SW,Ap->AW,BP->sA,Bw->kZ
open Go.Proofs.Tryz renaming prog->TP
set_option maxHeartbeats 16000000
set_option maxRecDepth 100000
open Go.Abs renaming DD->Qe
open Nat renaming reduceAdd->Qu,reduceSub->Qv,reduceMul->Qw,reducePow->Qx,reduceDiv->Qy,reduceMod->Qz,reduceEqDiff->QI,reduceBEq->QK
open Int renaming reduceAdd->QA,reduceSub->QB,reduceMul->QC,reducePow->QD,reduceNeg->QE,reduceToNat->QF,reduceLT->QG,reduceLE->QH
open List renaming mem_append_right->AbY,mem_cons_of_mem->AbZ,length_cons->Aeg,mem_append_left->Aen,mem_singleton->Aeq,mem_append->Aer,nodup_append->Aes,length_nil->Aet,length_drop->Aeu,getD_eq_getElem?_getD->Aev,nodup_cons->Aex,getElem?_eq_getElem->AeB,getElem?_eq_some_iff->AfI,length_append->AfZ,mem_cons->Af0,length_eq_zero_iff->Af1,getElem?_append_right->Af7,drop_eq_getElem_cons->Agy,take_add_one->Agz,map_cons->AgB,getElem_mem->AgC,dropWhile_sublist->AgF,append_nil->AgH,set_append_right->AgI,nodup_nil->AgK,any_eq_false->AgM,map_nil->AgN,take_length->AgO,cons_append->AgP,all_eq_true->AgR,length_map->AgS,length_set->AgU,mem_map->AgX
open Bool renaming and_eq_true->Aew,true_and->Agu,false_eq_true->Agx,false_or->AgA,false_and->AgJ,not_eq_true'->AgL,or_eq_true->AgT,and_false->AgV
open Nat renaming le_refl->AeA,eq_of_beq_eq_true->Af2,zero_add->Aga,reduceAdd->Agb,reduceMod->Agp,reduceDiv->Agq,zero_le->Agv,eq_zero_or_pos->Agw,le_add_right->AgD,lt_or_ge->AgE,le_trans->AgG,beq->AgW,succ_mul->AgY,mul_comm->AgZ,mul_one->Ag0
open Option renaming getD_some->AgQ
namespace Go.Proofs.YtmidaophnbdcdaaGreatDoor
section
open Go Go.Proofs Go.Abs
variable {G:Ah}
def E6 (hT:HT G) (hG:Num.HG G) (n:Nd) (hz:szN n):Ctr TP G 19 [.d (NdD n)] [] (.d (.bool (AM n 0))) []:=by have h:=LL (G:=G) hT hG _ n (AeA _) hz 0 lA;generalize AM n 0=z at *;obtain ⟨k,t,ks,l⟩:=n;refine Ctr.pure (M:=M0) Ak Tryz.func19 rfl go19 ?_;simp(disch:=try exact aa)only[ndC,Tryz.f19,↓Ab,Ad,↓reduceIte,Qu,Qv];exact p7
def Mb (n:Nd):List Nd:=if n.kind=5 then n.kids else [n]
def EN (n:Nd):List Elm:=(Mb n).map fun k=>(0,k)
def UF (N:Nat) (name:List UInt8) (id:Int) (n:Nd):List Tab × Int :=
 if AM n 0=true/\(Mb n).any Ij=false/\Lib.validD name=true then
  (if (GL N (A1 false (EN n)) id name []).2=true then ((GL N (A1 false (EN n)) id name []).1,0) else ([],3))
 else ([],1)
abbrev Af8 (l:List Tab) (full:Bool):D:=.sl l.length full (DB l)
abbrev Adv (r:List Tab × Int):D:=.tup [Af8 r.1 false,.int .i64 r.2]
def MF:B8:=fun k=>AgW k 4000031
def Zy:MF 4000031=true:=rfl
def Ef {k:Nat} (h:¬(k=4000031)):MF k=false:=by
 cases e:MF k with
 | false=>rfl
 | true=>exact absurd (Af2 e) h
def Jf (l:List Nd) (k:Nat):List Elm:=(l.take k).map fun k=>((0:Int),k)
def UR (l:List Nd) (k:Nat) (h:k<=l.length):(Jf l k).length=k:=by simp[Jf];omega
def Rh (l:List Nd) (k:Nat) (h:k<l.length):BI (Jf l (k+1))=BI (Jf l k)++Ex ((0:Int),l.getD k noN):=by unfold Jf;rw[Agz,AeB h,Aev,AeB h,List.map_append,Y7];simp[BI]
def US (l:List Nd):Jf l l.length=l.map fun k=>((0:Int),k):=by unfold Jf;rw[AgO]
def Pe (hT:HT G) (hP:HP G) (hG:Num.HG G) (N:Nat) (name:List UInt8) (id:Int) (n:Nd) (hz:szN n) (hn:name.length<=1000000000) (i1:-1000000000000<=id) (i2:id<=1000000000000)
  (hc:AM n 0=true->(∀ e∈EN n,Hp e.2)/\C8 (EN n)<=4000/\RE N (A1 false (EN n)) name.length) :
  Ctr TP G 13 [.d (S name),.d (.int .i64 id),.d (NdD n)] [] (.d (Adv (UF N name id n))) []:=by
 obtain ⟨r,hr⟩:∃ r,r=UF N name id n:=⟨_,rfl⟩;rw[<-hr];unfold UF at hr;have hV:=E6 (G:=G) hT hG n hz;have hE:EN n=(Mb n).map fun k=>((0:Int),k):=rfl;generalize hok:AM n 0=okv at *;generalize EN n=E at *;generalize hL:Mb n=L at *;unfold Mb at hL;obtain ⟨k,t,ks,l⟩:=n;obtain ⟨s1,s2,s3,s4,s5⟩:=hz;unfold Nd.kind Nd.kids at hL;simp only at hL;refine Ctr.pure (M:=MF) Ak Tryz.func13 rfl go13 ?_;by_cases k5:k=5
 ·subst k5;rw[if_pos rfl] at hL;subst hL;have sl:=Ax l;simp(disch:=try exact aa)only[Ef,ndC,Tryz.f13,↓Ab,Ad,↓reduceIte,Qu,Qv,Qw,Qz];refine Al.fr 6291747 (α:=Nat) (fun x=>l.length-x) (fun x=>[(9,.lsl 1 5 0 x),(23,.d (.int .i64 x))]) (fun x=>[.box [.d (.int .i64 5),.d (S t),.d (Ss ks false),.d (.sl l.length false (AH l))],.row false (BI (Jf l x))]) (fun x=>x<=l.length) 0 (Agv _) ?_ ?_
  ·first
   | exact ⟨[some 0,none],rfl,lC,gV,by simp[HW,BW,SW,AW,Jf,BI]⟩
  intro i hkk;simp only[Bm,Agp,Agq];rcases AgE i l.length with hlt | hge
  ·have el:=BM (Jf l i);have ck:=UR l i hkk;have cs:=Rh l i hlt;have g:=Ca hlt;generalize l.getD i noN=kid at *;obtain ⟨ka,kb,kc,kl⟩:=kid;simp(disch:=try exact aa)only[Ef,sl,g,ndC,el,ck,↓Ab,Ad,↓reduceIte,Qu,Qw,Qz];first
   | exact ⟨ko,i+1,hlt,iz,⟨[some 0,some 4],rfl,lC,jR,by simp[HW,BW,SW,AW,cs,Ex,ndC,cut]⟩⟩
  obtain rfl:i=l.length:=lA
  have cE:Jf l l.length=E:=by rw[hE];exact US l
  rw[cE];have eE:=BM E;have eL:E.length=l.length:=by rw[hE];simp
  have cu:cut (BI E) 0 (l.length*5)=BI E:=cut_all lA;simp(disch:=try exact aa)only[Ef,↓Ab,Ad,↓reduceIte,Qu];refine Aa.of (FJ 29 Ij l false lA fun s _=>Oe s) lD ?_;cases hnr:l.any Ij
  ·simp(disch:=try exact aa)only[Ef,↓Ab,Ad,↓reduceIte,Qu];refine Aa.of hV lD ?_;cases okv
   ·rw[if_neg lC] at hr;subst hr;simp(disch:=try exact aa)only[Ef,↓Ab,Ad,↓reduceIte,↓Qe,Qu];first
    | done
    | rfl
   simp(disch:=try exact aa)only[Ef,↓Ab,Ad,↓reduceIte,Qu];refine Aa.pure (EJ hT name lA) ?_;cases hv:Lib.validD name
   ·rw[if_neg (by rw[hv];simp)] at hr;subst hr;simp only[↓Ab,Ad,↓reduceIte,↓Qe,Qu];first
    | done
    | rfl
   rw[if_pos ⟨rfl,hnr,hv⟩] at hr;obtain ⟨c1,c2,c3⟩:=hc rfl;obtain ⟨L',H',g1,g2,g3,g4⟩:=JA (G:=G) false E false c1 c2;simp(disch:=try exact aa)only[Ef,cu,↓Ab,Ad,↓reduceIte,Qu];obtain ⟨ρ,hρ⟩:∃ ρ,ρ=outN [] 3:=⟨_,rfl⟩;have g5:=g2.shift [.box [.d (.int .i64 5),.d (S t),.d (Ss ks false),.d (.sl l.length false (AH l))],.row true (BI E),.box [.d (.int .i64 id),.d (.sl 0 true [])]];obtain ⟨y,y1,⟨y2,y3,⟨q,y4,y5,y6⟩,y7⟩⟩:=XV hT hP N (F:=2) (j:=none) (ts:=[]) (id:=id) (name:=name) c3 ⟨g5,(show NoX _ by simp[NoX]).app (g3.ren _),i1,i2,lC,rfl,rfl,lC,fun a ha=>⟨g9,lC⟩⟩;have hne:H'≠[]:=aF
   simp only[g4,Aeg,Aet,Aga,Agb,<-hρ] at y1;have y2':=y2;simp only[AfZ,Aeg,Aet,AgS,Aga,Agb] at y2';refine Aa.newgo g1 (by rw[<-eL]) hne (by simp[frz]) (by simp[frz,applyW];rfl) ?_;intro tt;rw[Gx];simp only[Aeg,Aet,Aga,Agb,<-hρ];simp(disch:=try exact aa)only[Ef,Zy,↓Ab,Ad,Qu];first
   | (refine Au.go y1 lT jW ?_)
   cases e:(GL N (A1 false E) id name []).2
   ·rw[if_neg ki] at hr;subst hr;simp only[↓Ab,Ad,↓Qe];first
    | done
    | rfl
   rw[if_pos e] at hr;subst hr;generalize (GL N (A1 false E) id name []).1=ts at *;have tl:=Fa ts;have cu2:cut (DB ts) 0 (ts.length*3)=DB ts:=cut_all lA;simp(disch:=try exact aa)only[Ef,y5,y6,cu2,LO,flB,↓Ab,Ad,↓reduceIte,↓Qe,Qu];first
   | done
   | rfl
  rw[if_neg (by rw[hnr];simp)] at hr;subst hr;simp(disch:=try exact aa)only[Ef,↓Ab,Ad,↓reduceIte,Qu];refine Aa.of hV lD ?_;cases okv
  ·simp(disch:=try exact aa)only[Ef,↓Ab,Ad,↓reduceIte,↓Qe,Qu];first
   | done
   | rfl
  simp(disch:=try exact aa)only[Ef,↓Ab,Ad,↓reduceIte,↓Qe,Qu];first
  | done
  | rfl
 rw[if_neg k5] at hL;subst hL;simp(disch:=try exact aa)only[Ef,ndC,k5,Tryz.f13,↓Ab,Ad,↓reduceIte,Qu,Qv,Qw,Qz];refine Al.fr 6291747 (α:=Nat) (fun x=>1-x) (fun x=>[(9,.lsl 2 5 0 x),(23,.d (.int .i64 x))]) (fun x=>[.box [.d (.int .i64 k),.d (S t),.d (Ss ks false),.d (.sl l.length false (AH l))],.row false [.int .i64 k,.str (bs t),.sl ks.length false (strs ks),.sl l.length false (AH l)],.row false (BI (Jf [Nd.mk k t ks l] x))]) (fun x=>x<=1) 0 (Agv _) ?_ ?_
 ·first
  | exact ⟨[some 0,some 1,none],rfl,lC,gV,by simp[HW,BW,SW,AW,Jf,BI]⟩
 intro i hkk;simp only[Bm,Agp,Agq];rcases AgE i 1 with hlt | hge
 ·have el:=BM (Jf [Nd.mk k t ks l] i);have ck:=UR [Nd.mk k t ks l] i hkk;have cs:=Rh [Nd.mk k t ks l] i hlt;obtain rfl:i=0:=by simp at hlt;omega
  simp(disch:=try exact aa)only[Ef,el,ck,↓Ab,Ad,↓reduceIte,Qu,Qw,Qz,QA];first
  | exact ⟨ko,1,AeA 1,lC,⟨[some 0,some 1,some 5],rfl,lC,jR,by simp[HW,BW,SW,AW,Jf,BI,Ex,ndC,cut]⟩⟩
 obtain rfl:i=1:=lA
 have cE:Jf [Nd.mk k t ks l] 1=E:=by rw[hE];exact US [Nd.mk k t ks l]
 rw[cE];have eE:=BM E;have eL:E.length=1:=by rw[hE];simp
 have cu:cut (BI E) 0 (1*5)=BI E:=cut_all lA;simp(disch:=try exact aa)only[Ef,↓Ab,Ad,↓reduceIte,Qu,Qv,Qw];refine Aa.frozenE (FJ 29 Ij [Nd.mk k t ks l] false lC fun s _=>Oe s) lD ?_;cases hnr:[Nd.mk k t ks l].any Ij
 ·simp(disch:=try exact aa)only[Ef,↓Ab,Ad,↓reduceIte,Qu];refine Aa.of hV lD ?_;cases okv
  ·rw[if_neg lC] at hr;subst hr;simp(disch:=try exact aa)only[Ef,↓Ab,Ad,↓reduceIte,↓Qe,Qu];first
   | done
   | rfl
  simp(disch:=try exact aa)only[Ef,↓Ab,Ad,↓reduceIte,Qu];refine Aa.pure (EJ hT name lA) ?_;cases hv:Lib.validD name
  ·rw[if_neg (by rw[hv];simp)] at hr;subst hr;simp only[↓Ab,Ad,↓reduceIte,↓Qe,Qu];first
   | done
   | rfl
  rw[if_pos ⟨rfl,hnr,hv⟩] at hr;obtain ⟨c1,c2,c3⟩:=hc rfl;obtain ⟨L',H',g1,g2,g3,g4⟩:=JA (G:=G) false E false c1 c2;simp(disch:=try exact aa)only[Ef,cu,↓Ab,Ad,↓reduceIte,Qu,Qw];obtain ⟨ρ,hρ⟩:∃ ρ,ρ=outN [] 4:=⟨_,rfl⟩;have g5:=g2.shift [.box [.d (.int .i64 k),.d (S t),.d (Ss ks false),.d (.sl l.length false (AH l))],.row false [.int .i64 k,.str (bs t),.sl ks.length false (strs ks),.sl l.length false (AH l)],.row true (BI E),.box [.d (.int .i64 id),.d (.sl 0 true [])]];obtain ⟨y,y1,⟨y2,y3,⟨q,y4,y5,y6⟩,y7⟩⟩:=XV hT hP N (F:=3) (j:=none) (ts:=[]) (id:=id) (name:=name) c3 ⟨g5,(show NoX _ by simp[NoX]).app (g3.ren _),i1,i2,lC,rfl,rfl,lC,fun a ha=>⟨g9,lC⟩⟩;have hne:H'≠[]:=aF
  simp only[g4,Aeg,Aet,Aga,Agb,<-hρ] at y1;have y2':=y2;simp only[AfZ,Aeg,Aet,AgS,Aga,Agb] at y2';refine Aa.newgo g1 (by rw[<-eL]) hne (by simp[frz]) (by simp[frz,applyW];rfl) ?_;intro tt;rw[Gx];simp only[Aeg,Aet,Aga,Agb,<-hρ];simp(disch:=try exact aa)only[Ef,Zy,↓Ab,Ad,Qu];first
  | (refine Au.go y1 lT jW ?_)
  cases e:(GL N (A1 false E) id name []).2
  ·rw[if_neg ki] at hr;subst hr;simp only[↓Ab,Ad,↓Qe];first
   | done
   | rfl
  rw[if_pos e] at hr;subst hr;generalize (GL N (A1 false E) id name []).1=ts at *;have tl:=Fa ts;have cu2:cut (DB ts) 0 (ts.length*3)=DB ts:=cut_all lA;simp(disch:=try exact aa)only[Ef,y5,y6,cu2,LO,flB,↓Ab,Ad,↓reduceIte,↓Qe,Qu];first
  | done
  | rfl
 rw[if_neg (by rw[hnr];simp)] at hr;subst hr;simp(disch:=try exact aa)only[Ef,↓Ab,Ad,↓reduceIte,Qu];refine Aa.of hV lD ?_;cases okv
 ·simp(disch:=try exact aa)only[Ef,↓Ab,Ad,↓reduceIte,↓Qe,Qu];first
  | done
  | rfl
 simp(disch:=try exact aa)only[Ef,↓Ab,Ad,↓reduceIte,↓Qe,Qu];first
 | done
 | rfl
end
namespace Num
open Go Go.Proofs Go.Abs
variable {G:Ah}
def trimLeftSet_spec (s l:List UInt8) (hs:s.length<=9223372036854775807) (hl:l.length<2^62) (h2:2<=l.length) (ha:∀ b∈l,b.toNat<128):Ctr TP G 114 [.d (S s),.d (S l)] [] (.d (S (trimL l s))) []:=by
 refine Ctr.pure (M:=M0) Ak Tryz.func114 rfl AfK ?_;have q:=@setB_length l;simp(disch:=try exact aa)only[Af,Tryz.f114,↓Ab,Ad,↓reduceIte,↓Qe,Qu,Qv];refine ⟨fun h=>⟨fun h3=>?_,fun h3=>?_⟩,fun h=>?_⟩;·subst h3;simp at h2
 ·refine Aa.pure (makeSet_spec l hl ha) ?_;have tk:(setD l).take 256=setD l:=List.take_of_length_le gA;simp(disch:=try exact aa)only[↓ setB_putL',setB_putL',setB_fold,q,setB_refs,setB_pass,setB_sids,↓Ab,Ad,↓reduceIte,Qu];refine ⟨setB_one,?_⟩;refine Aa.by (LN l s hs) lD lD (AeA _) ?_;exact o9
 subst h;rfl
end Num
section
open Go Go.Proofs Go.Abs
def Fc:List UInt8:=[32,9,10,13]
def Av (s:List UInt8):List UInt8:=Num.trimL Fc s
def Yl:Av []=[]:=rfl
def GS (b:UInt8) (s:List UInt8):Av (b::s)=if Fc.contains b=true then Av s else b::s:=by unfold Av Num.trimL;rw[List.dropWhile_cons]
def Em (s:List UInt8):(Av s).length<=s.length:=(AgF _).length_le
def VE {s:List UInt8} {b:UInt8} {r:List UInt8}:Av s=b::r->Fc.contains b=false:=by
 induction s with
 | nil=>intro h;cases h
 | cons x s ih =>
  rw[GS];split;·exact ih
  rename_i h;intro e;cases e;exact eq_false_of_ne_true h
def VD (s:List UInt8):Av (Av s)=Av s:=by
 cases h:Av s with
 | nil=>rfl
 | cons b r=>rw[GS,VE h];rfl
def sgn (c:UInt8) (s:List UInt8):List UInt8 × Bool:=match Av s with
 | []=>([],false)
 | x::r=>if x=c then (r,true) else (x::r,false)
def R2 {c:UInt8} {s:List UInt8} (h:Av s=[]):sgn c s=([],false):=by unfold sgn;rw[h]
def GU {c:UInt8} {s r:List UInt8} (h:Av s=c::r):sgn c s=(r,true):=by unfold sgn;rw[h];simp
def R1 {c b:UInt8} {s r:List UInt8} (h:Av s=b::r) (hb:¬b=c):sgn c s=(b::r,false):=by unfold sgn;rw[h];simp[hb]
def En (c:UInt8) (s:List UInt8):(sgn c s=(Av s,false)/\(Av s).head?≠some c)\/∃ r,Av s=c::r/\sgn c s=(r,true):=by
 cases h:Av s with
 | nil=>exact .inl ⟨R2 h,lC⟩
 | cons b r =>
  by_cases e:b=c;·subst e;exact .inr ⟨r,rfl,GU h⟩
  exact .inl ⟨R1 h e,jw⟩
def Bi (c:UInt8) (s:List UInt8):(sgn c s).1.length<=s.length:=by
 have:=Em s;rcases En c s with ⟨h,_⟩ | ⟨r,h1,h⟩
 ·rw[h];exact this
 rw[h];rw[h1,Aeg] at this;simp only;omega
def Fu {c:UInt8} {s:List UInt8} (h:(sgn c s).2=true):(sgn c s).1.length+1<=s.length:=by
 have:=Em s;rcases En c s with ⟨e,_⟩ | ⟨r,h1,e⟩
 ·rw[e] at h;cases h
 rw[e];rw[h1,Aeg] at this;simp only;omega
def FG (b:UInt8):UInt8:=if b=92 then 92 else if b=34 then 34 else if b=110 then 10 else if b=114 then 13 else if b=116 then 9 else 0
def CF:List UInt8->List UInt8->List UInt8 × List UInt8 × Bool
 | [],_=>([],[],false)
 | [c],out=>if c=34 then ([],out,true) else ([],[],false)
 | c::e::r,out=>if c=34 then (e::r,out,true) else if c<32 then (e::r,[],false) else if c=92 then (if FG e=0 then (e::r,[],false) else CF r (out++[FG e])) else CF (e::r) (out++[c])
def H8 (out:List UInt8):CF [] out=([],[],false):=by rw[CF]
def T0 (r out:List UInt8):CF (34::r) out=(r,out,true):=by cases r<;>rw[CF]<;>simp
def T1 {c:UInt8} (h:c<32) (h2:¬c=34) (r out:List UInt8):CF (c::r) out=(r,[],false):=by
 cases r with
 | nil=>rw[CF,if_neg h2]
 | cons e r=>rw[CF,if_neg h2,if_pos h]
def PH (out:List UInt8):CF [92] out=([],[],false):=by rw[CF,if_neg lz]
def T2 {e:UInt8} (h:FG e=0) (r out:List UInt8):CF (92::e::r) out=(e::r,[],false):=by rw[CF,if_neg lz,if_neg lz,if_pos rfl,if_pos h]
def TZ {e:UInt8} (h:¬FG e=0) (r out:List UInt8):CF (92::e::r) out=CF r (out++[FG e]):=by rw[CF,if_neg lz,if_neg lz,if_pos rfl,if_neg h]
def PI {c:UInt8} (h1:¬c=34) (h2:¬c<32) (h3:¬c=92) (r out:List UInt8):CF (c::r) out=CF r (out++[c]):=by
 cases r with
 | nil=>rw[H8,CF,if_neg h1]
 | cons e r=>rw[CF,if_neg h1,if_neg h2,if_neg h3]
def GY {P:List UInt8->List UInt8->List UInt8 × List UInt8 × Bool->Prop} (p0:∀ out,P [] out ([],[],false)) (p1:∀ r out,P (34::r) out (r,out,true)) (p2:∀ c r out,P (c::r) out (r,[],false))
  (p3:∀ e r out,P r (out++[FG e]) (CF r (out++[FG e]))->P (92::e::r) out (CF r (out++[FG e]))) (p4:∀ c r out,P r (out++[c]) (CF r (out++[c]))->P (c::r) out (CF r (out++[c]))) :
  ∀ (n:Nat) (s out:List UInt8),s.length<=n->P s out (CF s out)
 | _,[],out,_=>by rw[H8];exact p0 out
 | 0,c::r,out,h=>kx
 | n+1,c::r,out,h=>by
   rw[Aeg] at h;by_cases h34:c=34;·subst h34;rw[T0];exact p1 r out
   by_cases h32:c<32;·rw[T1 h32 h34];exact p2 c r out
   by_cases h92:c=92
   ·subst h92;cases r with
    | nil=>rw[PH];exact p2 92 [] out
    | cons e r2 =>
     rw[Aeg] at h;by_cases e0:FG e=0;·rw[T2 e0];exact p2 92 (e::r2) out
     rw[TZ e0];exact p3 e r2 out (GY p0 p1 p2 p3 p4 n r2 _ lA)
   rw[PI h34 h32 h92];exact p4 c r out (GY p0 p1 p2 p3 p4 n r _ lA)
def TY (n:Nat) (s out:List UInt8) (h:s.length<=n):(CF s out).1.length<=s.length:=by
 refine GY (P:=fun s out r=>r.1.length<=s.length) (fun _=>AeA _) (fun r _=>lC) (fun c r _=>lC) (fun e r out ih=>?_) (fun c r out ih=>?_) n s out h;·simp only[Aeg];omega
 simp only[Aeg];omega
def Aal (n:Nat) (s out:List UInt8) (h:s.length<=n):(CF s out).2.1.length<=s.length+out.length:=by
 refine GY (P:=fun s out r=>r.2.1.length<=s.length+out.length) (fun out=>lC) (fun r out=>by simp only[Aeg];omega) (fun c r out=>lC) (fun e r out ih=>?_) (fun c r out ih=>?_) n s out h;·simp only[AfZ,Aeg,Aet] at ih ⊢;omega
 simp only[AfZ,Aeg,Aet] at ih ⊢;omega
def quo (s:List UInt8):List UInt8 × List UInt8 × Bool:=if (sgn 34 s).2=true then CF (sgn 34 s).1 [] else ((sgn 34 s).1,[],false)
def Xp (s:List UInt8):(quo s).1.length<=s.length:=by
 have:=Bi 34 s;unfold quo;split;·have:=TY _ (sgn 34 s).1 [] (AeA _);omega
 exact this
def Aak {s:List UInt8} (h:(quo s).2.2=true):(quo s).1.length+1<=s.length:=by
 unfold quo at h ⊢;split at h;·rename_i e;rw[if_pos e];have:=Fu e;have:=TY _ (sgn 34 s).1 [] (AeA _);omega
 cases h
def Xo (s:List UInt8):(quo s).2.1.length<=s.length:=by
 have:=Bi 34 s;unfold quo;split;·have:=Aal _ (sgn 34 s).1 [] (AeA _);simp only[Aet] at this;omega
 simp
def E3:List UInt8:=[48,49,50,51,52,53,54,55,56,57]
def CM (s:List UInt8):Nat:=s.length-(Num.trimL E3 s).length
def EH (s:List UInt8):CM s<=s.length:=Nat.sub_le _ _
def B3 (s:List UInt8):Nat:=match s with
 | []=>0
 | c::_=>if c=43\/c=45 then 1 else 0
def Xe (s:List UInt8):B3 s<=s.length:=by
 cases s with
 | nil=>simp[B3]
 | cons c r=>simp only[B3,Aeg];split<;>omega
def O9 (s:List UInt8):Nat :=
 if CM (s.drop (B3 s))=0 then 0
 else if hasP (s.drop (B3 s+CM (s.drop (B3 s)))) [46]=true/\0<CM (s.drop (B3 s+CM (s.drop (B3 s))+1)) then
  B3 s+CM (s.drop (B3 s))+(1+CM (s.drop (B3 s+CM (s.drop (B3 s))+1)))
 else B3 s+CM (s.drop (B3 s))
def Xx (s:List UInt8):O9 s<=s.length:=by
 have h1:=Xe s;have h2:=EH (s.drop (B3 s));have h3:=EH (s.drop (B3 s+CM (s.drop (B3 s))+1));rw[Aeu] at h2 h3;unfold O9;split;·omega
 split;·rename_i h;omega
 omega
def Eu:List UInt8:=[110,117,108,108]
def Gc (s:List UInt8):List UInt8 × Nd × Bool :=
 if hasP (Av s) [34]=true then ((quo (Av s)).1,.mk 4 (quo (Av s)).2.1 [] [],(quo (Av s)).2.2)
 else if hasP (Av s) Eu=true then ((Av s).drop 4,.mk 1 [] [] [],true)
 else if hasP (Av s) D2=true then ((Av s).drop 4,.mk 2 D2 [] [],true)
 else if hasP (Av s) Ee=true then ((Av s).drop 5,.mk 2 Ee [] [],true)
 else ((Av s).drop (O9 (Av s)),.mk 3 ((Av s).take (O9 (Av s))) [] [],decide (0<O9 (Av s)))
def Xk {s:List UInt8} (h:(Gc s).2.2=true):(Gc s).1.length+1<=s.length:=by
 have hw:=Em s;unfold Gc at h ⊢;split at h;·rename_i e;rw[if_pos e];have:=Aak (s:=Av s) h;simp only;omega
 rename_i e;rw[if_neg e];split at h;·rename_i e2;rw[if_pos e2];have:=hasP_le e2;simp only[Aeu,Eu,Aeg,Aet] at this ⊢;omega
 rename_i e2;rw[if_neg e2];split at h;·rename_i e3;rw[if_pos e3];have:=hasP_le e3;simp only[Aeu,D2,Aeg,Aet] at this ⊢;omega
 rename_i e3;rw[if_neg e3];split at h;·rename_i e4;rw[if_pos e4];have:=hasP_le e4;simp only[Aeu,Ee,Aeg,Aet] at this ⊢;omega
 rename_i e4;rw[if_neg e4];have:=of_decide_eq_true h;have:=Xx (Av s);simp only[Aeu];omega
inductive PSt where
 | beg (rest:List UInt8) (st:List Nd)
 | got (rest:List UInt8) (st:List Nd) (n:Nd)
 | bad
def BH (t:Nd) (k:List UInt8):Nd:=.mk t.kind t.text (t.keys++[k]) t.kids
def AE (t:Nd) (n:Nd):Nd:=.mk t.kind t.text t.keys (t.kids++[n])
def EW (rest:List UInt8) (t:Nd) (st:List Nd):PSt :=
 if t.kind=5 then .beg rest (t::st)
 else if (quo rest).2.2=true/\(sgn 58 (quo rest).1).2=true then .beg (sgn 58 (quo rest).1).1 (BH t (quo rest).2.1::st) else .bad
def AC (k:Int):UInt8:=if k=5 then 93 else 125
def Ht (k:Int) (rest:List UInt8) (st:List Nd):PSt :=
 if (sgn (AC k) rest).2=true then .got (sgn (AC k) rest).1 st (.mk k [] [] []) else EW (sgn (AC k) rest).1 (.mk k [] [] []) st
def Ez (rest:List UInt8) (st:List Nd):PSt :=
 if (sgn 91 rest).2=true then Ht 5 (sgn 91 rest).1 st
 else if (sgn 123 (sgn 91 rest).1).2=true then Ht 6 (sgn 123 (sgn 91 rest).1).1 st
 else if (Gc (sgn 123 (sgn 91 rest).1).1).2.2=true then .got (Gc (sgn 123 (sgn 91 rest).1).1).1 st (Gc (sgn 123 (sgn 91 rest).1).1).2.1 else .bad
def Je (rest:List UInt8) (t:Nd) (st:List Nd) (n:Nd):PSt :=
 if (sgn 44 rest).2=true then EW (sgn 44 rest).1 (AE t n) st
 else if (sgn (AC t.kind) (sgn 44 rest).1).2=true then .got (sgn (AC t.kind) (sgn 44 rest).1).1 st (AE t n) else .bad
def muP:PSt->Nat
 | .beg r _=>r.length+2
 | .got r _ _=>r.length+2
 | .bad=>1
def XG (rest:List UInt8) (t:Nd) (st:List Nd):muP (EW rest t st)<=rest.length+2:=by
 unfold EW;split;·exact AeA _
 split
 ·have h1:=Bi 58 (quo rest).1;have h2:=Xp rest;show (sgn 58 (quo rest).1).1.length+2<=_
  omega
 show 1<=_;omega
def Xt (k:Int) (rest:List UInt8) (st:List Nd):muP (Ht k rest st)<=rest.length+2:=by
 have h1:=Bi (AC k) rest;unfold Ht;split;·show (sgn (AC k) rest).1.length+2<=_;omega
 have:=XG (sgn (AC k) rest).1 (.mk k [] [] []) st;omega
def M8 (rest:List UInt8) (st:List Nd):muP (Ez rest st)<rest.length+2:=by
 have h1:=Bi 91 rest;have h2:=Bi 123 (sgn 91 rest).1;unfold Ez;split
 ·rename_i e;have:=Fu e;have:=Xt 5 (sgn 91 rest).1 st;omega
 split;·rename_i e;have:=Fu e;have:=Xt 6 (sgn 123 (sgn 91 rest).1).1 st;omega
 split
 ·rename_i e;have:=Xk e;show (Gc (sgn 123 (sgn 91 rest).1).1).1.length+2<_
  omega
 show 1<_;omega
def Kx (rest:List UInt8) (t:Nd) (st:List Nd) (n:Nd):muP (Je rest t st n)<rest.length+2:=by
 have h1:=Bi 44 rest;have h2:=Bi (AC t.kind) (sgn 44 rest).1;unfold Je;split
 ·rename_i e;have:=Fu e;have:=XG (sgn 44 rest).1 (AE t n) st;omega
 split
 ·rename_i e;have:=Fu e;show (sgn (AC t.kind) (sgn 44 rest).1).1.length+2<_
  omega
 show 1<_;omega
def Yq:Nat->PSt->Option (List UInt8 × Nd)
 | 0,_=>none
 | k+1,x=>match x with
   | .bad=>none
   | .beg r st=>Yq k (Ez r st)
   | .got r [] n=>some (r,n)
   | .got r (t::st) n=>Yq k (Je r t st n)
def IU:∀ (a b:Nat) (x:PSt),muP x<=a->muP x<=b->Yq a x=Yq b x
 | 0,_,x,h,_=>by cases x<;>simp[muP] at h
 | _,0,x,_,h=>by cases x<;>simp[muP] at h
 | a+1,b+1,x,ha,hb=>by
   cases x with
   | bad=>rfl
   | beg r st =>have:=M8 r st;simp only[muP] at ha hb;exact IU a b (Ez r st) lA lA
   | got r st n =>
    cases st with
    | nil=>rfl
    | cons t st =>have:=Kx r t st n;simp only[muP] at ha hb;exact IU a b (Je r t st n) lA lA
def Es (x:PSt):Option (List UInt8 × Nd):=Yq (muP x) x
def Gw:Es .bad=none:=rfl
def Aaj (r:List UInt8) (n:Nd):Es (.got r [] n)=some (r,n):=rfl
def TU (r:List UInt8) (st:List Nd):Es (.beg r st)=Es (Ez r st):=by have:=M8 r st;exact IU (r.length+1) _ (Ez r st) lA (AeA _)
def Km (r:List UInt8) (t:Nd) (st:List Nd) (n:Nd):Es (.got r (t::st) n)=Es (Je r t st n):=by have:=Kx r t st n;exact IU (r.length+1) _ (Je r t st n) lA (AeA _)
def FA (data:List UInt8):Nd × Int :=
 match Es (.beg data []) with
 | none=>(noN,4)
 | some (r,n)=>if Lib.validD data=true/\Av r=[] then (if AM n 0=true then (n,0) else (noN,1)) else (noN,4)
def okP (N:Nat):PSt->Prop
 | .beg r st=>st.length+r.length<=N/\∀ t∈st,t.keys.length+r.length<=N/\t.kids.length+r.length<=N
 | .got r st n=>st.length+r.length+1<=N/\∀ t∈st,t.keys.length+r.length+1<=N/\t.kids.length+r.length+1<=N
 | .bad=>True
end
section
open Go Go.Proofs Go.Abs
variable {G:Ah}
def Sl (s:List UInt8):Bool:=!s.any Iw && (Lib.validD s && decide (s.length<=1024))
def Yz (s:List UInt8):Sl s=AN s:=by unfold Sl AN;cases s.any Iw<;>cases Lib.validD s<;>cases decide (s.length<=1024)<;>rfl
def De (hT:HT G) (s:List UInt8) (hs:s.length<=1000000000):Ctr TP G 76 [.d (S s)] [] (.d (.bool (AN s))) []:=by
 rw[<-Yz];obtain ⟨r,hr⟩:∃ r,r=Sl s:=⟨_,rfl⟩;rw[<-hr];unfold Sl at hr;refine Ctr.pure (M:=M0) Ak Tryz.func76 rfl go76 ?_;simp only[Tryz.f76,↓Ab,Ad,Qv];refine Al.fr 1 (α:=Nat) (fun i=>s.length-i) (fun i=>[(3,.d (.int .i64 i))]) (fun _=>[]) (fun i=>i<=s.length/\s.any Iw=(s.drop i).any Iw) 0 ⟨Agv _,rfl⟩ ?_ ?_;·exact nD
 rintro i ⟨h1,h2⟩;simp only[Bm,Agp,Agq];rcases AgE i s.length with h | h
 ·have ed:s.drop i=s.getD i 0::s.drop (i+1):=by rw[Agy h,Aev,AeB h];rfl
  rw[ed,List.any_cons] at h2;generalize hx:s.getD i 0=x at *;have hcb:Iw x=decide (x.toNat<32/\x.toNat≠9/\x.toNat≠10/\x.toNat≠13):=rfl;rcases (by omega:32<=x.toNat\/x.toNat=9\/x.toNat=10\/x.toNat=13\/(x.toNat<32/\x.toNat≠9/\x.toNat≠10/\x.toNat≠13)) with k | k | k | k | ⟨k1,k2,k3,k4⟩
  ·exact om
  ·exact om
  ·exact om
  ·exact om
  rw[hcb,decide_eq_true ⟨k1,k2,k3,k4⟩,Bool.true_or] at h2;rw[h2,Bool.not_true,AgJ] at hr;subst hr;simp(disch:=try exact aa)only[Af,hx,↓Ab,Ad,↓reduceIte,↓Qe];first
  | done
  | rfl
 rw[List.drop_eq_nil_of_le h] at h2;rw[h2] at hr;replace hr:r=(Lib.validD s && decide (s.length<=1024)):=hr;simp(disch:=try exact aa)only[Af,↓Ab,Ad,↓reduceIte];refine Aa.pure (Kf hT s lA) ?_;cases hv:Lib.validD s
 ·rw[hv,AgJ] at hr;subst hr;simp only[↓Ab,Ad,↓reduceIte,↓Qe];first
  | done
  | rfl
 rw[hv,Agu] at hr;subst hr;simp only[Af,↓Ab,Ad,↓reduceIte,↓Qe];first
 | done
 | rfl
 | exact decide_eq_decide.2 lA
def Kd (k:Int):Bool:=decide (2<=k/\k<=4)
def CY (k:Int):Ctr TP G 77 [.d (.int .i64 k)] [] (.d (.bool (Kd k))) []:=by
 obtain ⟨r,hr⟩:∃ r,r=Kd k:=⟨_,rfl⟩;rw[<-hr];unfold Kd at hr;refine Ctr.pure (M:=M0) Ak Tryz.func77 rfl go77 ?_;rcases (by omega:k<2\/4<k\/(2<=k/\k<=4)) with h | h | h
 ·exact oh
 ·exact oh
 rw[decide_eq_true h] at hr;subst hr;simp(disch:=try exact aa)only[Tryz.f77,↓Ab,Ad,↓reduceIte,↓Qe,Qv]
mutual
def nmT:Nd->Prop
 | .mk k t _ l=>(k=3->Num.decOk t=true->AN t=true)/\Acv l
def Acv:List Nd->Prop
 | []=>True
 | n::r=>nmT n/\Acv r
end
def Ug:∀ {l:List Nd},Acv l->∀ n∈l,nmT n
 | [],_,n,h=>lx
 | x::r,h,n,hn=>by
   rcases Af0.1 hn with rfl | hn
   ·exact h.1
   exact Ug h.2 n hn
def Fm {k:Int} {t:List UInt8} (h3:k=3->Num.decOk t=true->AN t=true) (h:AN t=false):Cq k t=false:=by
 cases e:Cq k t with
 | false=>rfl
 | true =>
  unfold Cq at e;split at e
  ·rcases of_decide_eq_true e with rfl | rfl
   ·exact absurd h lz
   exact absurd h lz
  split at e;·rename_i k3;rw[h3 k3 e] at h;cases h
  split at e;·rw[e] at h;cases h
  have:=of_decide_eq_true e;subst this;exact absurd h lz
def NV {l:List Nd} {i a:Nat} (h:i<l.length) (h1:Bv (l.take i) a=true):Bv (l.take (i+1)) a=AM (l.getD i noN) a:=by
 have app:∀ x y:List Nd,Bv (x++y) a=(Bv x a && Bv y a):=by
  intro x y;induction x with
  | nil=>rfl
  | cons z w ih=>rw[AgP,Bv,Bv,ih,Bool.and_assoc]
 rw[Agz,AeB h,app,h1,Agu,Aev,AeB h];simp[Bv]
def Ll:∀ {l:List Nd} {i a:Nat},i<l.length->AM (l.getD i noN) a=false->Bv l a=false
 | [],_,_,h,_=>absurd h (Nat.not_lt_zero _)
 | n::r,0,a,_,h=>by rw[Bv];rw[show AM n a=false from h];rfl
 | n::r,i+1,a,h,h2=>by rw[Bv,Ll (l:=r) (i:=i) ji h2,AgV]
def Et (ks:List (List UInt8)):Bool:=decide ks.Nodup && ks.all AN
def YJ {l:List (List UInt8)} {i:Nat} (h:i<l.length) (h1:Et (l.take i)=true) (h3:AN (l.getD i [])=true) (h4:l.getD i []∉l.take i):Et (l.take (i+1))=true:=by unfold Et at h1 ⊢;rw[Aew] at h1;rw[Agz,AeB h];rw[Aev,AeB h] at h3 h4;simp only[AgQ] at h3 h4;rw[Option.toList_some,List.all_append,h1.2,Agu];rw[show ([l[i]].all AN)=true by simp[h3],Bool.and_true];refine decide_eq_true (Aes.2 ⟨of_decide_eq_true h1.1,lC,fun a ha b hb=>?_⟩);rw[Aeq.1 hb];exact fun e=>h4 (e▸ha)
def Aax {l:List (List UInt8)} {i:Nat} (h:i<l.length) (h3:AN (l.getD i [])=false):Et l=false:=by
 unfold Et;cases e:l.all AN with
 | false=>rw[AgV]
 | true=>rw[AgR.1 e _ (Ds h)] at h3;cases h3
def Aaw {l:List (List UInt8)} {i:Nat} (h:i<l.length) (h4:l.getD i []∈l.take i):Et l=false:=by
 unfold Et;rw[decide_eq_false,AgJ];intro hn;have e:l=l.take i++l.drop i:=(List.take_append_drop i l).symm;rw[e] at hn;have:=(Aes.1 hn).2.2 _ h4 (l.getD i []) (by rw[Aev,AeB h,AgQ,Agy h];exact List.mem_cons_self)
 exact this rfl
end
section
open Go Go.Proofs Go.Abs
def Rf (c b:UInt8):∀ s:List UInt8,b∈s->b∈Num.cutL c s\/b=c\/b∈Num.cutR c s
 | [],h=>lx
 | x::l,h=>by
   rw[Num.cutL,Num.cutR];by_cases e:x=c
   ·rw[if_pos e,if_pos e];rcases Af0.1 h with rfl | h
    ·exact .inr (.inl e)
    exact .inr (.inr h)
   rw[if_neg e,if_neg e];rcases Af0.1 h with rfl | h
   ·exact .inl lC
   rcases Rf c b l h with h | h | h
   ·exact .inl (AbZ _ h)
   ·exact .inr (.inl h)
   exact .inr (.inr h)
def Rg (c:UInt8):∀ s:List UInt8,s.length<=(Num.cutL c s).length+1+(Num.cutR c s).length
 | []=>lC
 | x::l=>by
   have ih:=Rg c l;rw[Num.cutL,Num.cutR];by_cases e:x=c;·rw[if_pos e,if_pos e];simp;omega
   rw[if_neg e,if_neg e];simp only[Aeg];omega
def dig_range {c:UInt8} (h:Num.isD c):48<=c.toNat/\c.toNat<=57:=h
def Wx {s:List UInt8} (h:Num.decOk s=true):s.length<=26/\∀ b∈s,43<=b.toNat/\b.toNat<=57:=by
 have hb:(Num.decBody s).length<=25/\∀ b∈Num.decBody s,43<=b.toNat/\b.toNat<=57:=by
  unfold Num.decOk at h;rw[Aew] at h;obtain ⟨h1,h2⟩:=h;obtain ⟨q1,q2,q3⟩:=Num.digB_iff.1 h1;by_cases e:(46:UInt8)∈Num.decBody s
  ·rw[decide_eq_true e] at h2;obtain ⟨p1,p2,p3⟩:=Num.digB_iff.1 (show Num.digB (Num.decB s) 9=true by simpa using h2);have hl:=Rg 46 (Num.decBody s);refine ⟨by unfold Num.decF at q2;unfold Num.decB at p2;omega,fun b hb=>?_⟩;rcases Rf 46 b _ hb with hb | hb | hb
   ·have:=dig_range (q3 b hb);omega
   ·subst hb;decide
   have:=dig_range (p3 b hb);omega
  have e2:Num.cutL 46 (Num.decBody s)=Num.decBody s:=((Num.cut_index 46 (Num.decBody s)).2 e).2.1;unfold Num.decF at q2 q3;rw[e2] at q2 q3;exact ⟨lA,fun b hb=>by have:=dig_range (q3 b hb);omega⟩
 have gen:∀ x:UInt8,43<=x.toNat/\x.toNat<=57->Num.hasP s [x]=true->Num.decBody s=s.drop 1->s.length<=26/\∀ b∈s,43<=b.toNat/\b.toNat<=57:=by
  intro x hx hp hd;rw[hd] at hb;cases s with
  | nil=>exact ⟨lC,fun b hb=>kU⟩
  | cons c r =>
   have e:=of_decide_eq_true hp;simp at e;subst e;simp only[List.drop_succ_cons,List.drop_zero] at hb;refine ⟨jW,fun b h=>?_⟩;rcases Af0.1 h with rfl | h
   ·exact hx
   exact hb.2 b h
 by_cases c1:Num.hasP s [45]=true;·exact gen 45 lz c1 (by unfold Num.decBody;rw[if_pos c1])
 by_cases c2:Num.hasP s [43]=true;·exact gen 43 lz c2 (by unfold Num.decBody;rw[if_neg c1,if_pos c2])
 have:Num.decBody s=s:=by unfold Num.decBody;rw[if_neg c1,if_neg c2]
 rw[this] at hb;exact ⟨lA,hb.2⟩
def Oz {s:List UInt8} (h:Num.decOk s=true):AN s=true:=by obtain ⟨h1,h2⟩:=Wx h;unfold AN;rw[decide_eq_true (show s.length<=1024 by omega),DX s fun b hb=>by have:=h2 b hb;omega,Agu,Agu,AgL];refine AgM.2 fun b hb=>?_;have:=h2 b hb;unfold Iw SM;simp;omega
mutual
def Xz:∀ n:Nd,nmT n
 | .mk _ _ _ l=>⟨fun _=>Oz,Uh l⟩
def Uh:∀ l:List Nd,Acv l
 | []=>trivial
 | n::r=>⟨Xz n,Uh r⟩
end
def FE {s:List UInt8} (h:AN s=true):s.length<=1024:=by unfold AN at h;rw[Aew] at h;exact of_decide_eq_true h.1
structure OkN (n:Nd) (a:Nat):Prop where
 kind:1<=n.kind/\n.kind<=6
 deep:a<16
 scal:Cq n.kind n.text=true
 text:n.text.length<=1024
 recd:n.kind=6->n.keys.length=n.kids.length/\n.keys.Nodup/\∀ s∈n.keys,AN s=true
 nrecd:n.kind≠6->n.keys=[]
 leaf:n.kind≠5->n.kind≠6->n.kids=[]
 kids:∀ k∈n.kids,AM k (a+1)=true
def PM {a:Nat}:∀ {l:List Nd},Bv l a=true->∀ n∈l,AM n a=true
 | [],_,n,h=>lx
 | x::r,h,n,hn=>by
   rw[Bv,Aew] at h;rcases Af0.1 hn with rfl | hn
   ·exact h.1
   exact PM h.2 n hn
def Z9 {k:Int} {t:List UInt8} (h:Cq k t=true):t.length<=1024:=by
 unfold Cq at h;split at h;·rcases of_decide_eq_true h with rfl | rfl<;>decide
 split at h;·exact FE (Oz h)
 split at h;·exact FE h
 rw[of_decide_eq_true h];simp
def FB {n:Nd} {a:Nat} (h:AM n a=true):OkN n a:=by
 obtain ⟨k,t,ks,l⟩:=n;rw[AM] at h;simp only[Aew,AgT,decide_eq_true_eq] at h;obtain ⟨h1,h2,h3,h4,h5,h6⟩:=h;refine ⟨h1,h2,h3,Z9 h3,fun k6=>?_,fun k6=>?_,fun k5 k6=>?_,PM h6⟩;·have k6:k=6:=k6;unfold DJ at h4;rw[if_pos k6] at h4;simp only[Aew,decide_eq_true_eq,AgR] at h4;exact ⟨h4.1,h4.2.1,h4.2.2⟩
 ·have k6:¬k=6:=k6;unfold DJ at h4;rw[if_neg k6] at h4;exact Af1.1 (of_decide_eq_true h4)
 have k5:¬k=5:=k5;have k6:¬k=6:=k6;rcases h5 with h5 | h5
 ·omega
 exact Af1.1 h5
mutual
def Ln:∀ (n:Nd) (a:Nat),AM n (a+1)=true->AM n a=true
 | .mk k t ks l,a,h=>by rw[AM] at h ⊢;simp only[Aew,decide_eq_true_eq] at h ⊢;exact ⟨h.1,lA,h.2.2.1,h.2.2.2.1,h.2.2.2.2.1,NW l (a+1) h.2.2.2.2.2⟩
def NW:∀ (l:List Nd) (a:Nat),Bv l (a+1)=true->Bv l a=true
 | [],_,_=>rfl
 | n::r,a,h=>by rw[Bv] at h ⊢;simp only[Aew] at h ⊢;exact ⟨Ln n a h.1,NW r a h.2⟩
end
mutual
def NG:∀ (n:Nd) (a:Nat),AM n a=true->Hp n
 | .mk k t ks l,a,h=>by
   have o:=FB h;rw[AM] at h;simp only[Aew] at h;refine ⟨fun k6=>(o.recd k6).1,fun s hs=>?_,PG l (a+1) h.2.2.2.2.2⟩;by_cases k6:k=6;·have:=FE ((o.recd k6).2.2 s hs);omega
   have:=o.nrecd k6;have e:ks=[]:=this;rw[e] at hs;cases hs
def PG:∀ (l:List Nd) (a:Nat),Bv l a=true->NF l
 | [],_,_=>trivial
 | n::r,a,h=>by rw[Bv,Aew] at h;exact ⟨NG n a h.1,PG r a h.2⟩
end
def WQ (a P:Nat):Pt->Prop
 | .c p x=>p.length<=P/\x.1.length<=1024
 | .l p kids=>p.length<=P/\∀ k∈kids,AM k (a+1)=true
def Rr {n:Nd} {a:Nat} (h:AM n a=true):(Cf n).1.length<=1024:=by
 unfold Cf;split;·exact (FB h).text
 simp
mutual
def T6:∀ (n:Nd) (a b:Nat) (front:List UInt8),AM n a=true->b<=a->n.kind=6->∀ q∈DT n front,WQ b (front.length+1025*(16-a)) q
 | .mk k t ks l,a,b,front,h,hb,h6,q,hq=>by
   have o:=FB h;have k6:k=6:=h6;have hd:a<16:=o.deep;obtain ⟨r1,r2,r3⟩:=o.recd h6;have r1:ks.length=l.length:=r1;have r3:∀ s∈ks,AN s=true:=r3;have hk:Bv l (a+1)=true:=(by rw[AM] at h;simp only[Aew] at h;exact h.2.2.2.2.2)
   have:=PJ l (a+1) b front ks hk lA (fun s hs=>FE (r3 s hs)) q hq;have e:1025+1025*(16-(a+1))<=1025*(16-a):=lA
   cases q with
   | c p x=>exact ⟨gS,this.2⟩
   | l p x=>exact ⟨gS,this.2⟩
def PJ:∀ (l:List Nd) (a b:Nat) (front:List UInt8) (ks:List (List UInt8)),Bv l a=true->b+1<=a->(∀ s∈ks,s.length<=1024)->∀ q∈G4 l front ks,WQ b (front.length+1025+1025*(16-a)) q
 | [],_,_,_,_,_,_,_,q,hq=>by cases hq
 | n::r,a,b,front,ks,h,hb,hs,q,hq=>by
   rw[Bv,Aew] at h;have o:=FB h.1;have hkey:(ks.headD []).length<=1024:=by
    cases ks with
    | nil=>simp
    | cons k kr=>exact hs k lC
   rw[FU] at hq;rcases Aer.1 hq with hq | hq
   ·split at hq
    ·rename_i k6;have:=T6 n a b (front++ks.headD []++[46]) h.1 lA k6 q hq;have e:(front++ks.headD []++[46]).length<=front.length+1025:=(by simp only[AfZ,Aeg,Aet];omega)
     cases q with
     | c p x=>exact ⟨gS,this.2⟩
     | l p x=>exact ⟨gS,this.2⟩
    split at hq
    ·rw[Aeq.1 hq];refine ⟨by rw[AfZ];omega,fun k hk=>?_⟩;have:=o.kids k hk;have mono:∀ d,AM k (b+1+d)=true->AM k (b+1)=true:=by
      intro d;induction d with
      | zero=>exact id
      | succ d ih=>intro h;exact ih (Ln _ _ h)
     exact mono (a-b) (by rw[show b+1+(a-b)=a+1 by omega];exact this)
    rw[Aeq.1 hq];exact ⟨by rw[AfZ];omega,Rr h.1⟩
   exact PJ r a b front ks.tail h.2 hb (fun s hs'=>hs s (List.mem_of_mem_tail hs')) q hq
end
structure LyV (a P:Nat) (s:Ly):Prop where
 abv:∀ x∈s.above,0<=x/\x<1000000
 ps:∀ p∈s.paths,p.length<=P
 cs:∀ r∈s.rows,∀ p c,r p=some c->c.1.length<=1024
 ls:∀ p∈s.lists,p.length<=P
 sv:∀ p,p∈s.lists↔¬s.sv p=0
 nd:s.lists.Nodup
 it:∀ p,∀ e∈s.it p,AM e.2 (a+1)=true/\0<=e.1/\e.1<1000000
def WQ.mono {a P Q:Nat} {q:Pt} (h:WQ a P q) (hq:P<=Q):WQ a Q q:=by
 cases q with
 | c p x=>exact ⟨AgG h.1 hq,h.2⟩
 | l p x=>exact ⟨AgG h.1 hq,h.2⟩
def LyV.part {a P:Nat} {s:Ly} (h:LyV a P s) (h0:0<s.rows.length) (h1:s.rows.length<=1000000) {q:Pt} (hq:WQ a P q):LyV a P (s.part q):=by
 cases q with
 | c p x =>
  refine ⟨h.abv,fun y hy=>?_,fun r hr y c hc=>?_,h.ls,h.sv,h.nd,h.it⟩
  ·have hy:y∈(if p∈s.paths then s.paths else s.paths++[p]):=hy;split at hy;·exact h.ps y hy
   rcases Aer.1 hy with hy | hy
   ·exact h.ps y hy
   rw[Aeq.1 hy];exact hq.1
  have hr:r∈s.rows.modify (s.rows.length-1) fun r=>ME r p x:=hr;obtain ⟨i,hi,e⟩:=List.getElem_of_mem hr;rw[List.getElem_modify] at e;have hi':i<s.rows.length:=iQ
  split at e
  ·rw[<-e] at hc;unfold ME at hc;split at hc
   ·cases hx:s.rows[i] p with
    | none =>rw[hx] at hc;cases hc;exact hq.2
    | some d =>rw[hx] at hc;cases hc;exact h.cs _ (AgC hi') p d hx
   exact h.cs _ (AgC hi') y c hc
  rw[<-e] at hc;exact h.cs _ (AgC hi') y c hc
 | l p kids =>
  show LyV a P (s.list p kids)
  unfold Ly.list;split;·exact h
  rename_i hne;refine ⟨h.abv,h.ps,h.cs,fun y hy=>?_,fun y=>?_,?_,fun y e he=>?_⟩
  ·have hy:y∈(if s.sv p=0 then s.lists++[p] else s.lists):=hy;split at hy
   ·rcases Aer.1 hy with hy | hy
    ·exact h.ls y hy
    rw[Aeq.1 hy];exact hq.1
   exact h.ls y hy
  ·show y∈(if s.sv p=0 then s.lists++[p] else s.lists)↔¬Do s.sv p s.rows.length y=0
   by_cases e:y=p
   ·subst e;rw[DO];split;·exact ⟨fun _=>lA,fun _=>lC⟩
    rename_i c;exact ⟨fun _=>lA,fun _=>(h.sv y).2 c⟩
   rw[Dn _ _ e,<-h.sv y];split;·simp[e]
   exact Iff.rfl
  ·show (if s.sv p=0 then s.lists++[p] else s.lists).Nodup
   split;·rename_i c;refine Aes.2 ⟨h.nd,lC,fun x hx y hy e=>?_⟩;rw[Aeq.1 hy] at e;subst e;exact (h.sv x).1 hx c
   exact h.nd
  have he:e∈Do s.it p (s.it p++kids.map fun k=>((s.rows.length:Int)-1,k)) y:=he;by_cases c:y=p
  ·subst c;rw[DO] at he;rcases Aer.1 he with he | he
   ·exact h.it y e he
   obtain ⟨k,hk,rfl⟩:=AgX.1 he;exact ⟨hq.2 k hk,iz,iz⟩
  rw[Dn _ _ c] at he;exact h.it y e he
def LyV.parts {a P:Nat}:∀ (l:List Pt) {s:Ly},LyV a P s->0<s.rows.length->s.rows.length<=1000000->(∀ q∈l,WQ a P q)->LyV a P (s.parts l)
 | [],s,h,_,_,_=>h
 | q::r,s,h,h0,h1,hq=>by have:=s.part_rows q;exact LyV.parts r (h.part h0 h1 (hq q lC)) lA lA fun x hx=>hq x (AbZ _ hx)
def LyV.row {a P:Nat} {s:Ly} (h:LyV a P s) {x:Int} (h0:0<=x) (h1:x<1000000):LyV a P (s.row x):=by
 refine ⟨fun y hy=>?_,h.ps,fun r hr p c hc=>?_,h.ls,h.sv,h.nd,h.it⟩
 ·rcases Aer.1 hy with hy | hy
  ·exact h.abv y hy
  rw[Aeq.1 hy];exact ⟨h0,h1⟩
 rcases Aer.1 hr with hr | hr
 ·exact h.cs r hr p c hc
 rw[Aeq.1 hr] at hc;cases hc
def LyV.elm {a:Nat} {s:Ly} (h:LyV a 16500 s) (recs:Bool) {e:Elm} (he:AM e.2 a=true) (h0:0<=e.1) (h1:e.1<1000000) (hr:s.rows.length+1<=1000000) (hk:recs=true->e.2.kind=6):LyV a 16500 (s.elm recs e):=by
 unfold Ly.elm;refine LyV.parts _ (h.row h0 h1) jG (by simpa[Ly.row] using hr) fun q hq=>?_;split at hq;·rename_i hrec;have:=T6 e.2 a a [] he (AeA _) (hk hrec) q hq;refine this.mono ?_;rw[Aet];omega
 rw[Aeq.1 hq];exact ⟨by simp[Ji],Rr he⟩
def Aek (a:Nat) (f:Bool):LyV a 16500 (ly0 f):=⟨(fun x hx=>kT),(fun x hx=>kT),(fun x hx=>kT),(fun x hx=>kT),fun p=>⟨(fun hx=>kT),fun hx=>absurd rfl hx⟩,AgK,fun p e he=>by cases he⟩
def gK_V {a:Nat} (recs f:Bool) (l:List Elm) (hl:l.length<=900000) (ho:∀ e∈l,AM e.2 a=true/\0<=e.1/\e.1<1000000) (hk:recs=true->∀ e∈l,e.2.kind=6):∀ k,k<=l.length->LyV a 16500 (gK recs f l k)
 | 0,_=>Aek a f
 | k+1,h=>by have hm:l.getD k noE∈l:=Ds lA;have hr:=I6 recs f l k lA;rw[I5 recs f l lA];exact (gK_V recs f l hl ho hk k lA).elm recs (ho _ hm).1 (ho _ hm).2.1 (ho _ hm).2.2 lA fun q=>hk q _ hm
def ptZ:Pt->Nat
 | .c _ _=>0
 | .l _ kids=>BG kids
def Jv:List Pt->Nat
 | []=>0
 | q::r=>ptZ q+Jv r
def Aam (a b:List Pt):Jv (a++b)=Jv a+Jv b:=by
 induction a with
 | nil=>simp[Jv]
 | cons x r ih=>simp only[AgP,Jv,ih];omega
mutual
def NJ:∀ (n:Nd) (front:List UInt8),Jv (DT n front)<=BG n.kids
 | .mk _ _ ks l,front=>LZ l front ks
def LZ:∀ (l:List Nd) (front:List UInt8) (ks:List (List UInt8)),Jv (G4 l front ks)<=BG l
 | [],_,_=>AeA _
 | n::r,front,ks=>by
   have h2:=LZ r front ks.tail;have e:=CK n;rw[FU,Aam,BG];have h1:Jv (if n.kind=6 then DT n (front++ks.headD []++[46]) else if n.kind=5 then [.l (front++ks.headD []) n.kids] else [.c (front++ks.headD []) (Cf n)])<=nsz n:=by
    split;·have:=NJ n (front++ks.headD []++[46]);omega
    split;·simp only[Jv,ptZ];omega
    simp only[Jv,ptZ];omega
   omega
end
def Ou (x:Int):∀ l:List Nd,C8 (l.map fun k=>(x,k))=BG l
 | []=>rfl
 | n::r=>by rw[AgB,C8,BG,Ou x r]
def AdO (s:Ly) (q:Pt) (p:List UInt8):C8 ((s.part q).it p)<=C8 (s.it p)+ptZ q:=by
 cases q with
 | c y x=>exact AgD _ _
 | l y kids =>
  show C8 ((s.list y kids).it p)<=_
  unfold Ly.list;split;·exact AgD _ _
  show C8 (Do s.it y (s.it y++kids.map fun k=>((s.rows.length:Int)-1,k)) p)<=_
  by_cases e:p=y;·subst e;rw[DO,Ov,Ou];exact AeA _
  rw[Dn _ _ e];exact AgD _ _
def Xq:∀ (l:List Pt) (s:Ly) (p:List UInt8),C8 ((s.parts l).it p)<=C8 (s.it p)+Jv l
 | [],_,_=>AeA _
 | q::r,s,p=>by have h1:=Xq r (s.part q) p;have h2:=AdO s q p;have e:s.parts (q::r)=(s.part q).parts r:=rfl;rw[e,Jv];omega
def gK_Z (recs f:Bool) (l:List Elm) (p:List UInt8):∀ k,k<=l.length->C8 ((gK recs f l k).it p)<=C8 (l.take k)
 | 0,_=>Agv _
 | k+1,h=>by
   have ih:=gK_Z recs f l p k lA;rw[I5 recs f l lA,Lz lA];unfold Ly.elm;have h1:=Xq (if recs=true then DT (l.getD k noE).2 [] else [.c Ji (Cf (l.getD k noE).2)]) ((gK recs f l k).row (l.getD k noE).1) p;have h2:Jv (if recs=true then DT (l.getD k noE).2 [] else [.c Ji (Cf (l.getD k noE).2)])<=nsz (l.getD k noE).2:=by
    have e:=CK (l.getD k noE).2;split;·have:=NJ (l.getD k noE).2 [];omega
    simp only[Jv,ptZ];omega
   have h3:((gK recs f l k).row (l.getD k noE).1).it p=(gK recs f l k).it p:=rfl;rw[h3] at h1;omega
def YK {l:List Elm} (h:(!l.any C3)=true):∀ e∈l,e.2.kind=6:=fun e he=>by simp only[AgL,AgM] at h;have:=h e he;simpa[C3,Ij] using this
def UA {a:Nat} (f:Bool) (l:List Elm) (hz:C8 l<=4000) (ho:∀ e∈l,AM e.2 a=true/\0<=e.1/\e.1<1000000) :
  LyV a 16500 (A1 f l)/\LyB (A1 f l) 4000/\(∀ p,C8 ((A1 f l).it p)<=C8 l)/\(A1 f l).rows.length=l.length/\(A1 f l).above.length=l.length:=by
 have hl:=Ir l;have h1:=gK_V (a:=a) (!l.any C3) f l lA ho (fun q=>YK q) l.length (AeA _);have h2:=SF (!l.any C3) f l lA l.length (AeA _);have h3:=fun p=>gK_Z (!l.any C3) f l p l.length (AeA _);have h4:=I6 (!l.any C3) f l l.length (AeA _);have h5:=Oj (!l.any C3) f l l.length (AeA _);rw[Aa5] at h1 h2 h3 h4 h5;rw[AgO] at h2 h3;exact ⟨h1,h2.mono hz,h3,h4,h5⟩
def UB {a:Nat} (f:Bool) (l:List Elm) (hz:C8 l<=4000) (ho:∀ e∈l,AM e.2 a=true/\0<=e.1/\e.1<1000000):LyT (A1 f l):=by obtain ⟨h1,h2,h3,h4,h5⟩:=UA (a:=a) f l hz ho;have hl:=Ir l;exact ⟨fun x hx=>by have:=h1.abv x hx;omega,lA,by have:=h2.paths;omega,lA,fun p hp=>by have:=h1.ps p hp;omega,fun r hr p c hc=>by have:=h1.cs r hr p c hc;omega⟩
def RC:∀ (n a:Nat) (f:Bool) (l:List Elm) (m:Nat),16<=a+n->C8 l<=4000->(∀ e∈l,AM e.2 a=true/\0<=e.1/\e.1<1000000)->m+n*16501<=1000000000->RE (n+1) (A1 f l) m
 | 0,a,f,l,m,ha,hz,ho,hm=>by
   have hl:l=[]:=by
    cases l with
    | nil=>rfl
    | cons e r =>have:=(FB (ho e lC).1).deep;omega
   subst hl;exact ⟨UB (a:=a) f [] hz ho,lA,Agv _,AgK,fun p hp=>by cases hp⟩
 | n+1,a,f,l,m,ha,hz,ho,hm=>by obtain ⟨h1,h2,h3,h4,h5⟩:=UA (a:=a) f l hz ho;refine ⟨UB (a:=a) f l hz ho,lA,by have:=h2.lists;omega,h1.nd,fun p hp=>?_⟩;have hp3:=h3 p;have hpl:=h1.ls p hp;exact ⟨fun e he=>NG e.2 _ (h1.it p e he).1,lA,RC n (a+1) true _ _ lA lA (fun e he=>h1.it p e he) (by rw[AgY] at hm;omega)⟩
def AcM {n:Nd} (hz:nsz n<=4000) {m:Nat} (hm:m<=1000000) (h:AM n 0=true):(∀ e∈EN n,Hp e.2)/\C8 (EN n)<=4000/\RE 17 (A1 false (EN n)) m:=by
 have o:=FB h;have hk:∀ k∈Mb n,AM k 0=true:=fun k hk=>by
  unfold Mb at hk;split at hk;·exact Ln k 0 (o.kids k hk)
  rw[Aeq.1 hk];exact h
 have hz2:C8 (EN n)<=4000:=by
  unfold EN;rw[Ou];unfold Mb;split;·have:=CK n;omega
  simp only[BG];omega
 have ho:∀ e∈EN n,AM e.2 0=true/\0<=e.1/\e.1<1000000:=fun e he=>by obtain ⟨k,hk2,rfl⟩:=AgX.1 he;exact ⟨hk k hk2,lC,lC⟩
 exact ⟨fun e he=>NG e.2 0 (ho e he).1,hz2,RC 16 0 false _ _ lA hz2 ho lA⟩
end
section
open Go Go.Proofs Go.Abs
def Pg (b:UInt8):List UInt8:=if b=92 then [92,92] else if b=34 then [92,34] else if b=10 then [92,110] else if b=13 then [92,114] else if b=9 then [92,116] else [b]
def Oq (s:List UInt8):List UInt8:=s.flatMap Pg
def Dx (s:List UInt8):List UInt8:=34::(Oq s++[34])
mutual
def D3:Nd->List UInt8
 | .mk k t ks l=>if k=1 then Eu else if k=4 then Dx t else if k=5 then 91::(Gg false ks l true++[93]) else if k=6 then 123::(Gg true ks l true++[125]) else t
def Gg (rec:Bool) (ks:List (List UInt8)):List Nd->Bool->List UInt8
 | [],_=>[]
 | n::r,first=>(if first=true then [] else [44])++((if rec=true then Dx (ks.headD [])++[58] else [])++(D3 n++Gg rec ks.tail r false))
end
def Ol (rec:Bool) (ks:List (List UInt8)) (f:Bool):Gg rec ks [] f=[]:=by rw[Gg]
def Q4 (rec:Bool) (ks:List (List UInt8)) (n:Nd) (r:List Nd) (f:Bool):Gg rec ks (n::r) f=(if f=true then [] else [44])++((if rec=true then Dx (ks.headD [])++[58] else [])++(D3 n++Gg rec ks.tail r false)):=by rw[Gg]
def Wq (b:UInt8):(∃ c,Pg b=[92,c]/\(b=92\/b=34\/b=10\/b=13\/b=9)/\c.toNat<128)\/(Pg b=[b]/\b≠92/\b≠34/\b≠10/\b≠13/\b≠9):=by
 unfold Pg;split;·rename_i e;exact .inl ⟨_,rfl,.inl e,lz⟩
 split;·rename_i e;exact .inl ⟨_,rfl,.inr (.inl e),lz⟩
 split;·rename_i e;exact .inl ⟨_,rfl,.inr (.inr (.inl e)),lz⟩
 split;·rename_i e;exact .inl ⟨_,rfl,.inr (.inr (.inr (.inl e))),lz⟩
 split;·rename_i e;exact .inl ⟨_,rfl,.inr (.inr (.inr (.inr e))),lz⟩
 rename_i e1 e2 e3 e4 e5;exact .inr ⟨rfl,e1,e2,e3,e4,e5⟩
def Xd {b:UInt8} (h:Fc.contains b=false) (s:List UInt8):Av (b::s)=b::s:=by rw[GS,h];rfl
end
section
open Go Go.Proofs Go.Abs
def AaB:∀ a:Fin 5,∀ b:Fin 40,∀ e:Fin 6,(Num.decOk (E2.getD a.val []++CQ b.val) && (Num.decOk (if Ge ((E2.getD a.val []++CQ b.val).getD 0 0)=true then E2.getD a.val []++CQ b.val else 48::(E2.getD a.val []++CQ b.val)) &&
  (Num.decOk ((E2.getD a.val []++CQ b.val)++(46::Dz.getD e.val [])) && Num.decOk ((if Ge ((E2.getD a.val []++CQ b.val).getD 0 0)=true then E2.getD a.val []++CQ b.val else 48::(E2.getD a.val []++CQ b.val))++(46::Dz.getD e.val [])))))=true:=lz
def PQ (t:List Int) (k:Nat):Num.decOk (Jw t k)=true:=by
 have h1:=@pk_range t k 5 lz;have h2:=@pk_range t (k+1) 40 lz;have h3:=@pk_range t (k+4) 6 lz;have:=AaB ⟨(pk t k 5).toNat,lA⟩ ⟨(pk t (k+1) 40).toNat,lA⟩ ⟨(pk t (k+4) 6).toNat,lA⟩;simp only[Aew] at this;obtain ⟨q1,q2,q3,q4⟩:=this;unfold Jw Kp Ih;by_cases c1:pk t (k+3) 3=0
 ·rw[if_pos c1];by_cases c2:pk t (k+2) 3=0;·rw[if_pos c2];exact q4
  rw[if_neg c2];exact q3
 rw[if_neg c1];by_cases c2:pk t (k+2) 3=0;·rw[if_pos c2];exact q2
 rw[if_neg c2];exact q1
def FY:List (List UInt8):=[[97],[98],[97,46,98],[99],[],[114,111,119]]
def Ku (t:List Int) (k:Nat):List UInt8:=FY.getD (pk t k 6).toNat []
def Hs (f:Nat->Nd × Nat):Nat->List Nd->Nat->List Nd × Nat
 | 0,l,k=>(l,k)
 | m+1,l,k=>Hs f m (l++[(f k).1]) (f k).2
def Du (t:List Int) (f:Nat->Nd × Nat):Nat->List (List UInt8)->List Nd->Nat->(List (List UInt8) × List Nd) × Nat
 | 0,ks,l,k=>((ks,l),k)
 | m+1,ks,l,k=>if Ku t k∈ks then Du t f m ks l (k+1) else Du t f m (ks++[Ku t k]) (l++[(f (k+1)).1]) (f (k+1)).2
def Kn (t:List Int) (f:Nat->Nd × Nat) (k:Nat):Nd × Nat :=
 (.mk 6 [] (Du t f (pk t k 4).toNat [] [] (k+1)).1.1 (Du t f (pk t k 4).toNat [] [] (k+1)).1.2,(Du t f (pk t k 4).toNat [] [] (k+1)).2)
def DF (t:List Int):Nat->Nat->Nd × Nat
 | 0,k=>(.mk 1 [] [] [],k)
 | d+1,k =>
  if pk t k 8=0 then (.mk 1 [] [] [],k+1)
  else if pk t k 8=1 then (.mk 2 (if pk t (k+1) 2=0 then D2 else Ee) [] [],k+2)
  else if pk t k 8=2 then (.mk 3 (Jw t (k+1)) [] [],Pa t (k+1))
  else if pk t k 8<5\/d=0 then (.mk 4 (FF t (k+2) (pk t (k+1) 8).toNat) [] [],fieldK t (k+2) (pk t (k+1) 8).toNat)
  else if pk t k 8=5 then (.mk 5 [] [] (Hs (DF t d) (pk t (k+1) 4).toNat [] (k+2)).1,(Hs (DF t d) (pk t (k+1) 4).toNat [] (k+2)).2)
  else Kn t (DF t d) (k+1)
def Lm {a:Nat}:∀ {l:List Nd},(∀ n∈l,AM n a=true)->Bv l a=true
 | [],_=>rfl
 | n::r,h=>by rw[Bv,h n lC,Lm fun x hx=>h x (AbZ _ hx)];rfl
def Sq {z:Nat}:∀ {l:List Nd},(∀ n∈l,nsz n<=z)->BG l<=z*l.length
 | [],_=>Agv _
 | n::r,h=>by have h1:=h n lC;have h2:=Sq (l:=r) fun x hx=>h x (AbZ _ hx);rw[BG,Aeg,Nat.mul_succ];omega
def Aba:∀ s∈FY,AN s=true:=lz
def Y0 {s:List UInt8} (h:s∈FY\/s=[]):AN s=true:=by
 rcases h with h | h
 ·exact Aba s h
 subst h;rfl
def Wk:∀ s∈wordsL,AN s=true:=lz
def Wn:∀ s∈IA,AN s=true:=lz
def Wl:∀ s∈Ii,AN s=true:=lz
def YZ:∀ s∈L8,AN s=true:=lz
mutual
def kA:Nd->Prop
 | .mk _ _ ks l=>(∀ s∈ks,B1 s/\s.length<=3)/\kAs l
def kAs:List Nd->Prop
 | []=>True
 | n::r=>kA n/\kAs r
end
def We:∀ {l:List Nd},(∀ n∈l,kA n)->kAs l
 | [],_=>trivial
 | n::r,h=>⟨h n lC,We fun x hx=>h x (AbZ _ hx)⟩
mutual
def wN:Nd->Nat
 | .mk k _ _ l=>if k=5\/k=6 then wNs l else 1
def wNs:List Nd->Nat
 | []=>0
 | n::r=>wN n+wNs r
end
mutual
def qN:Nd->Nat
 | .mk k _ _ l=>(if k=5 then 1 else 0)+qNs l
def qNs:List Nd->Nat
 | []=>0
 | n::r=>qN n+qNs r
end
end
section
open Go Go.Proofs Go.Abs
variable {G:Ah}
abbrev psB (s:List UInt8) (v:Value):Ae:=.box [.d (S s),.d (.val v)]
def Nr (s:List UInt8) (hs:s.length<=9223372036854775807):Ctr TP G 114 [.d (S s),.d (S Fc)] [] (.d (S (Av s))) [] :=
 Num.trimLeftSet_spec s Fc hs lz lz lz
def Pq {b c:UInt8} (h:¬b=c):¬((b.toNat:Int)=(c.toNat:Int)):=fun e=>h (UInt8.toNat_inj.1 lA)
def GT (c:UInt8) (s:List UInt8) (hs:s.length<=9223372036854775807) (v:Value) :
  Ctr TP G 80 [.ptr 0 0,.d (.int .u8 c.toNat)] [psB s v] (.d (.bool (sgn c s).2)) [psB (sgn c s).1 v]:=by
 have ht:=Nr (G:=G) s hs;have hlen:=Em s;obtain ⟨r,hr⟩:∃ r,r=sgn c s:=⟨_,rfl⟩;rw[<-hr];refine Ctr.body (M:=M0) Ak Tryz.func80 rfl go80 ?_;simp(disch:=try exact aa)only[Tryz.f80,↓Ab,Ad,↓reduceIte,Qu,Qv];refine Aa.of ht lD ?_;rcases hk:Av s with _ | ⟨b,q⟩
 ·rw[R2 hk] at hr;subst hr;simp(disch:=try exact aa)only[Af,↓Ab,Ad,↓reduceIte,Qu];first
  | exact mY
 rw[hk] at hlen;have hcn:(b::q=[])=False:=lC
 by_cases e:b=c
 ·subst e;rw[GU hk] at hr;subst hr;simp(disch:=try exact aa)only[Af,hcn,↓Ab,Ad,↓reduceIte,Qu,QF];first
  | exact mY
 rw[R1 hk e] at hr;have e2:=Pq e;subst hr;simp(disch:=try exact aa)only[Af,hcn,e2,↓Ab,Ad,↓reduceIte,Qu];first
 | exact mY
def Y5:List (D × D):=[(.int .u8 92,.int .u8 92),(.int .u8 34,.int .u8 34),(.int .u8 110,.int .u8 10),(.int .u8 114,.int .u8 13),(.int .u8 116,.int .u8 9)]
def Gi:Ctr TP G 156 [] [] (.mp 0) [.map Y5]:=by
 refine Ctr.body (M:=M0) Ak Tryz.func156 rfl Afa ?_;simp(disch:=try exact aa)only[Tryz.f156,↓Ab,Ad,↓reduceIte];refine ⟨lD,lD,lD,lD,lD,?_⟩;show Jg 0 [.map Y5] (.mp 0) (.mp 0) [.map Y5]
 first
 | exact m4
def Y4 (c:UInt8):DI (.int .u8 0) Y5 (.int .u8 c.toNat) false=.int .u8 (FG c).toNat:=by
 have k:∀ n:Nat,n<256->CC (.int .u8 c.toNat) (.int .u8 n)=decide (c=UInt8.ofNat n):=fun n hn=>by
  unfold CC;by_cases e:c=UInt8.ofNat n
  ·subst e;have:(UInt8.ofNat n).toNat=n:=by simp;omega
   rw[this];simp
  have:¬((c.toNat:Int)=(n:Int)):=fun q=>e (UInt8.toNat_inj.1 (by
   have:(UInt8.ofNat n).toNat=n:=jW
   omega))
  simp[e,this]
 unfold DI Y5;simp only[BX];unfold FG;by_cases e1:c=92;·subst e1;rfl
 by_cases e2:c=34;·subst e2;rfl
 by_cases e3:c=110;·subst e3;rfl
 by_cases e4:c=114;·subst e4;rfl
 by_cases e5:c=116;·subst e5;rfl
 have q1:CC (.int .u8 c.toNat) (.int .u8 92)=false:=by rw[show (92:Int)=((92:Nat):Int) from rfl,k 92 lA];exact decide_eq_false e1
 have q2:CC (.int .u8 c.toNat) (.int .u8 34)=false:=by rw[show (34:Int)=((34:Nat):Int) from rfl,k 34 lA];exact decide_eq_false e2
 have q3:CC (.int .u8 c.toNat) (.int .u8 110)=false:=by rw[show (110:Int)=((110:Nat):Int) from rfl,k 110 lA];exact decide_eq_false e3
 have q4:CC (.int .u8 c.toNat) (.int .u8 114)=false:=by rw[show (114:Int)=((114:Nat):Int) from rfl,k 114 lA];exact decide_eq_false e4
 have q5:CC (.int .u8 c.toNat) (.int .u8 116)=false:=by rw[show (116:Int)=((116:Nat):Int) from rfl,k 116 lA];exact decide_eq_false e5
 simp[q1,q2,q3,q4,q5,e1,e2,e3,e4,e5]
def Da (used:Bool) (l:List UInt8) (c:UInt8) (hl:l.length<=10000000000000) (y:List UInt8) (hy:l++[c]=y) :
  Ctr TP G 70 [.ptr 0 0,.d (.int .u8 c.toNat)] (BL used l) .undef [.bld 79 true y.length (some 2),.dead,.buf 5 y]:=by
 subst hy;exact Nf used l c hl
def MQ7:B8:=fun k=>AgW k 2000004
def AbS:MQ7 2000004=true:=rfl
def C6 {k:Nat} (h:¬k=2000004):MQ7 k=false:=by
 cases e:MQ7 k with
 | false=>rfl
 | true=>exact absurd (Af2 e) h
def SI:D8 TP 5 Y5=true:=lD
def Ko (s:List UInt8) (hs:s.length<=1000000000) (v:Value) :
  Ctr TP G 115 [.ptr 0 0] [psB s v] (.d (.tup [S (quo s).2.1,.bool (quo s).2.2])) [psB (quo s).1 v]:=by
 have hsg:=GT (G:=G) 34 s lA v;have hsl:=Bi 34 s;obtain ⟨r,hr⟩:∃ r,r=quo s:=⟨_,rfl⟩;rw[<-hr];unfold quo at hr;generalize sgn 34 s=g at *;obtain ⟨g1,g2⟩:=g;simp only at hr hsl hsg;refine Ctr.body (M:=MQ7) Ak Tryz.func115 rfl AfJ ?_;simp(disch:=try exact aa)only[C6,Tryz.f115,↓Ab,Ad,↓reduceIte,Qu,Qv];refine Aa.by hsg lD lD lC ?_;cases g2
 ·rw[if_neg lC] at hr;subst hr;simp(disch:=try exact aa)only[↓Ab,Ad,↓reduceIte];first
  | (refine ⟨[some 0],rfl,lC,gU,.inr ⟨_,rfl,?_,rfl⟩⟩;rfl)
  | (refine ⟨lD,⟨[some 0],rfl,lC,gU,.inr ⟨_,rfl,?_,rfl⟩⟩⟩;rfl)
 rw[if_pos rfl] at hr;simp(disch:=try exact aa)only[↓Ab,Ad,↓reduceIte,Qu];refine Al.fr 17 (α:=List UInt8 × List UInt8 × Bool) (fun x=>x.1.length) (fun x=>[]) (fun x=>[psB x.1 v,.bld 79 x.2.2 x.2.1.length (some 2),.buf 5 x.2.1])
  (fun x=>CF x.1 x.2.1=r/\x.1.length+x.2.1.length<=g1.length) (g1,[],false) ⟨hr.symm,lC⟩ ?_ ?_
 ·exact mG
 rintro ⟨rest,out,used⟩ ⟨b1,b2⟩;simp only at b1 b2;simp only[Bm,Agp,Agq];cases rest with
 | nil =>
  rw[H8] at b1;subst b1;simp(disch:=try exact aa)only[Af,C6,↓Ab,Ad,↓reduceIte,Qu];first
  | (refine ⟨[some 0],rfl,lC,gU,.inr ⟨_,rfl,?_,rfl⟩⟩;rfl)
  | (refine ⟨lD,⟨[some 0],rfl,lC,gU,.inr ⟨_,rfl,?_,rfl⟩⟩⟩;rfl)
 | cons c q =>
  rw[Aeg] at b2;have hcn:(c::q=[])=False:=lC
  by_cases c34:c=34
  ·have hc:(c.toNat:Int)=34:=(by rw[c34];rfl);rw[c34,T0] at b1;subst b1;simp(disch:=try exact aa)only[Af,hcn,hc,C6,↓Ab,Ad,↓reduceIte,Qu,QF,QK];refine Aa.by (LP used out) lD lD lC ?_;simp(disch:=try exact aa)only[↓Ab,Ad,↓reduceIte,Qu];first
   | (refine ⟨[some 0],rfl,lC,gU,.inr ⟨_,rfl,?_,rfl⟩⟩;rfl)
   | (refine ⟨lD,⟨[some 0],rfl,lC,gU,.inr ⟨_,rfl,?_,rfl⟩⟩⟩;rfl)
  have hc:¬(c.toNat:Int)=34:=Pq c34;by_cases c32:c<32
  ·have hc2:(c.toNat:Int)<32:=(by have:=UInt8.lt_iff_toNat_lt.1 c32;have e:(32:UInt8).toNat=32:=rfl;rw[e] at this;omega);rw[T1 c32 c34] at b1;subst b1;simp(disch:=try exact aa)only[Af,hcn,hc,hc2,C6,↓Ab,Ad,↓reduceIte,Qu,QF];first
   | (refine ⟨[some 0],rfl,lC,gU,.inr ⟨_,rfl,?_,rfl⟩⟩;rfl)
   | (refine ⟨lD,⟨[some 0],rfl,lC,gU,.inr ⟨_,rfl,?_,rfl⟩⟩⟩;rfl)
  have hc2:¬(c.toNat:Int)<32:=by have:¬c.toNat<32:=fun q=>c32 (UInt8.lt_iff_toNat_lt.2 q);omega
  by_cases c92:c=92
  ·have hc3:(c.toNat:Int)=92:=(by rw[c92];rfl);cases q with
   | nil =>
    rw[c92,PH] at b1;subst b1;simp(disch:=try exact aa)only[Af,hcn,hc3,C6,↓Ab,Ad,↓reduceIte,Qu,QF];first
    | (refine ⟨[some 0],rfl,lC,gU,.inr ⟨_,rfl,?_,rfl⟩⟩;rfl)
    | (refine ⟨lD,⟨[some 0],rfl,lC,gU,.inr ⟨_,rfl,?_,rfl⟩⟩⟩;rfl)
   | cons e q2 =>
    rw[Aeg] at b2;have hen:(e::q2=[])=False:=lC
    have hk:=Y4 e;by_cases e0:FG e=0
    ·have he:((FG e).toNat:Int)=0:=(by rw[e0];rfl);rw[c92,T2 e0] at b1;subst b1;simp(disch:=try exact aa)only[Af,hcn,hen,hc3,C6,↓Ab,Ad,↓reduceIte,Qu,QF];refine Aa.by (L:=[]) Gi lD lD lC ?_;simp(disch:=try exact aa)only[Af,hk,he,SI,C6,↓Ab,Ad,↓reduceIte,Qu];first
     | (refine ⟨[some 0],rfl,lC,gU,.inr ⟨_,rfl,?_,rfl⟩⟩;rfl)
     | (refine ⟨lD,⟨[some 0],rfl,lC,gU,.inr ⟨_,rfl,?_,rfl⟩⟩⟩;rfl)
    have he:¬((FG e).toNat:Int)=0:=Pq e0;rw[c92,TZ e0] at b1;simp(disch:=try exact aa)only[Af,hcn,hen,hc3,C6,↓Ab,Ad,↓reduceIte,Qu,QF];refine Aa.by (L:=[]) Gi lD lD lC ?_;simp(disch:=try exact aa)only[Af,hk,he,SI,C6,↓Ab,Ad,↓reduceIte,Qu];refine ⟨lD,?_⟩;refine Aa.by (L:=[]) Gi lD lD lC ?_;simp(disch:=try exact aa)only[Af,hk,SI,C6,↓Ab,Ad,↓reduceIte,Qu,QF,QK];refine ⟨lD,?_⟩;generalize hb:out++[FG e]=out3 at *;have lb:out3.length=out.length+1:=(by rw[<-hb,AfZ];rfl)
    refine Aa.by (Da used out (FG e) lA out3 hb) lD lD lC ?_;simp(disch:=try exact aa)only[↓Ab,Ad,↓reduceIte,Qu,Qv];first
    | exact ⟨(q2,out3,true),⟨b1,iz⟩,by simp only[];omega,⟨[some 0,some 1,some 5],rfl,lC,jR,gU⟩⟩
  have hc3:¬(c.toNat:Int)=92:=Pq c92;rw[PI c34 c32 c92] at b1;simp(disch:=try exact aa)only[Af,hcn,hc,hc2,hc3,C6,↓Ab,Ad,↓reduceIte,Qu,QF,QK];generalize hb:out++[c]=out3 at *;have lb:out3.length=out.length+1:=by rw[<-hb,AfZ];rfl
  refine Aa.by (Da used out c lA out3 hb) lD lD lC ?_;simp(disch:=try exact aa)only[↓Ab,Ad,↓reduceIte,Qu,Qv];first
  | exact ⟨(q,out3,true),⟨b1,iz⟩,by simp only[];omega,⟨[some 0,some 1,some 3],rfl,lC,jR,gU⟩⟩
def BJ (k:Int):Ctr TP G 71 [.d (.int .i64 k)] [] (.d (.int .u8 (AC k).toNat)) []:=by
 refine Ctr.pure (M:=M0) Ak Tryz.func71 rfl go71 ?_;unfold AC;by_cases h:k=5;·rw[if_pos h];simp only[h,Tryz.f71,↓Ab,Ad,↓Qe,Qv];first | done | rfl
 rw[if_neg h];simp only[h,Tryz.f71,↓Ab,Ad,↓Qe,Qv];first | done | rfl
def CL (s:List UInt8) (hs:s.length<=1000000000):Ctr TP G 185 [.d (S s)] [] (.d (.int .i64 (CM s:Nat))) []:=by
 have ht:Ctr TP G 114 [.d (S s),.d (S E3)] [] (.d (S (Num.trimL E3 s))) []:=Num.trimLeftSet_spec s E3 lA lz lz lz;have hl:(Num.trimL E3 s).length<=s.length:=(AgF _).length_le;have e:((CM s:Nat):Int)=(s.length:Int)-((Num.trimL E3 s).length:Int):=by unfold CM;omega
 rw[e];generalize Num.trimL E3 s=q at *;refine Ctr.pure (M:=M0) Ak Tryz.func185 rfl AeR ?_;simp only[Af,Tryz.f185,↓Ab,Ad,↓reduceIte,Qv];refine Aa.of ht lD ?_;simp(disch:=try exact aa)only[Af,↓Ab,Ad,↓Qe];first | done | rfl
def Sp (s:List UInt8) (hs:s.length<=1000000000):Ctr TP G 155 [.d (S s)] [] (.d (.int .i64 (O9 s:Nat))) []:=by
 obtain ⟨r,hr⟩:∃ r,r=O9 s:=⟨_,rfl⟩;rw[<-hr];unfold O9 at hr;refine Ctr.pure (M:=M0) Ak Tryz.func155 rfl Afb ?_;rcases s with _ | ⟨c,q⟩
 ·rw[if_pos (show CM (List.drop (B3 []) [])=0 from rfl)] at hr;rw[hr];simp(disch:=try exact aa)only[Af,Tryz.f155,↓Ab,Ad,↓reduceIte,Qv];refine Aa.of (CL [] lC) lD ?_;rw[show CM []=0 from rfl];exact qg
 have hcn:(c::q=[])=False:=lC
 by_cases c43:c=43
 ·have hc:(c.toNat:Int)=43:=by rw[c43];rfl
  have h0:B3 (c::q)=1:=by simp[B3,c43]
  rw[h0,show (c::q).drop 1=q from rfl] at hr;have hd:=CL (G:=G) (q) eV;have hdl:=EH (q);simp(disch:=try exact aa)only[Af,hcn,hc,Tryz.f155,↓Ab,Ad,↓reduceIte,Qv,QF];refine Aa.of hd lD ?_;by_cases hw:CM (q)=0
  ·exact pc
  rw[if_neg hw] at hr;generalize CM (q)=w at *;have hw2:¬((w:Int)=0):=lA
  have hp:=DP (G:=G) ((c::q).drop (1+w)) [46];have hd2:=CL (G:=G) (q.drop (1+w)) di;have hdl2:=EH (q.drop (1+w));rw[Aeu] at hdl2;have hpl:hasP ((c::q).drop (1+w)) [46]=true->1+w+1<=(c::q).length:=fun q=>bp
  rw[show (c::q).drop (1+w+1)=q.drop (1+w) from rfl] at hr;generalize hw3:CM (q.drop (1+w))=w2 at *;generalize hdr:(c::q).drop (1+w)=dr at *;simp only[Aeg] at hdl hs hpl hdl2;have ht1:((1:Int)+(w:Int)).toNat=1+w:=lA
  have ht2:((1:Int)+(w:Int)+1).toNat=1+w+1:=lA
  simp(disch:=try exact aa)only[Af,hw2,ht1,hdr,↓Ab,Ad,↓reduceIte];refine Aa.of hp lD ?_;cases hx:hasP dr [46];·rw[if_neg (by rw[hx];simp)] at hr;rw[hr];simp(disch:=try exact aa)only[↓Ab,Ad,↓reduceIte,↓Qe];first | done | rfl
  have hpl:=hpl hx;simp(disch:=try exact aa)only[Af,ht2,↓Ab,Ad,↓reduceIte];refine Aa.of hd2 lD ?_;rcases Agw w2 with w20 | w20
  ·exact od
  rw[if_pos ⟨hx,w20⟩] at hr;exact nS
 have hc:¬(c.toNat:Int)=43:=Pq c43;by_cases c45:c=45
 ·have hc2:(c.toNat:Int)=45:=by rw[c45];rfl
  have h0:B3 (c::q)=1:=by simp[B3,c45]
  rw[h0,show (c::q).drop 1=q from rfl] at hr;have hd:=CL (G:=G) (q) eV;have hdl:=EH (q);simp(disch:=try exact aa)only[Af,hcn,hc2,Tryz.f155,↓Ab,Ad,↓reduceIte,Qv,QF];refine Aa.of hd lD ?_;by_cases hw:CM (q)=0
  ·exact pc
  rw[if_neg hw] at hr;generalize CM (q)=w at *;have hw2:¬((w:Int)=0):=lA
  have hp:=DP (G:=G) ((c::q).drop (1+w)) [46];have hd2:=CL (G:=G) (q.drop (1+w)) di;have hdl2:=EH (q.drop (1+w));rw[Aeu] at hdl2;have hpl:hasP ((c::q).drop (1+w)) [46]=true->1+w+1<=(c::q).length:=fun q=>bp
  rw[show (c::q).drop (1+w+1)=q.drop (1+w) from rfl] at hr;generalize hw3:CM (q.drop (1+w))=w2 at *;generalize hdr:(c::q).drop (1+w)=dr at *;simp only[Aeg] at hdl hs hpl hdl2;have ht1:((1:Int)+(w:Int)).toNat=1+w:=lA
  have ht2:((1:Int)+(w:Int)+1).toNat=1+w+1:=lA
  simp(disch:=try exact aa)only[Af,hw2,ht1,hdr,↓Ab,Ad,↓reduceIte];refine Aa.of hp lD ?_;cases hx:hasP dr [46];·rw[if_neg (by rw[hx];simp)] at hr;rw[hr];simp(disch:=try exact aa)only[↓Ab,Ad,↓reduceIte,↓Qe];first | done | rfl
  have hpl:=hpl hx;simp(disch:=try exact aa)only[Af,ht2,↓Ab,Ad,↓reduceIte];refine Aa.of hd2 lD ?_;rcases Agw w2 with w20 | w20
  ·exact od
  rw[if_pos ⟨hx,w20⟩] at hr;exact nS
 have hc2:¬(c.toNat:Int)=45:=Pq c45;have h0:B3 (c::q)=0:=by simp[B3,c43,c45]
 rw[h0,show (c::q).drop 0=c::q from rfl] at hr;have hd:=CL (G:=G) (c::q) eV;have hdl:=EH (c::q);simp(disch:=try exact aa)only[Af,hcn,hc,hc2,Tryz.f155,↓Ab,Ad,↓reduceIte,Qv];refine Aa.of hd lD ?_;by_cases hw:CM (c::q)=0
 ·exact pc
 rw[if_neg hw] at hr;generalize CM (c::q)=w at *;simp only[Aga] at hr;have hw2:¬((w:Int)=0):=lA
 have hp:=DP (G:=G) ((c::q).drop (w)) [46];have hd2:=CL (G:=G) (q.drop (w)) di;have hdl2:=EH (q.drop (w));rw[Aeu] at hdl2;have hpl:hasP ((c::q).drop (w)) [46]=true->w+1<=(c::q).length:=fun q=>bp
 rw[show (c::q).drop (w+1)=q.drop (w) from rfl] at hr;generalize hw3:CM (q.drop (w))=w2 at *;generalize hdr:(c::q).drop (w)=dr at *;simp only[Aeg] at hdl hs hpl hdl2;have ht1:((0:Int)+(w:Int)).toNat=w:=lA
 have ht2:((0:Int)+(w:Int)+1).toNat=w+1:=lA
 simp(disch:=try exact aa)only[Af,hw2,ht1,hdr,↓Ab,Ad,↓reduceIte];refine Aa.of hp lD ?_;cases hx:hasP dr [46];·rw[if_neg (by rw[hx];simp)] at hr;rw[hr];simp(disch:=try exact aa)only[↓Ab,Ad,↓reduceIte,↓Qe];first | done | rfl
 have hpl:=hpl hx;simp(disch:=try exact aa)only[Af,ht2,↓Ab,Ad,↓reduceIte];refine Aa.of hd2 lD ?_;rcases Agw w2 with w20 | w20
 ·exact od
 rw[if_pos ⟨hx,w20⟩] at hr;exact nS
abbrev zN:List AV:=[.d (.int .i64 0),.d (.str ByteArray.empty),.d (.sl 0 true []),.d (.sl 0 true [])]
def Tj:List D:=[S Eu,.int .i64 1,S [],.sl 0 false [],.sl 0 false [],S D2,.int .i64 2,S D2,.sl 0 false [],.sl 0 false [],S Ee,.int .i64 2,S Ee,.sl 0 false [],.sl 0 false []]
def ScaR (s:List UInt8) (i:Nat):Prop:=i<=3/\(0<i->hasP s Eu=false)/\(1<i->hasP s D2=false)/\(2<i->hasP s Ee=false)
def R5 (s0:List UInt8) (hs0:s0.length<=1000000000) (v:Value) :
  Ctr TP G 113 [.ptr 0 0] [psB s0 v] (.d (.tup [NdD (Gc s0).2.1,.bool (Gc s0).2.2])) [psB (Gc s0).1 v]:=by
 have ht:=Nr (G:=G) s0 lA;have hlen:=Em s0;obtain ⟨r,hr⟩:∃ r,r=Gc s0:=⟨_,rfl⟩;rw[<-hr];unfold Gc at hr;generalize Av s0=s at *;have hs:s.length<=1000000000:=lA
 have hq:=Ko (G:=G) s hs v;have hn:=Sp (G:=G) s hs;have hnl:=Xx s;have p1:=DP (G:=G) s [34];have c1:Ctr TP G 131 [.d (S s),.d (S Eu)] [] (.d (.tup [S (if hasP s Eu then s.drop 4 else s),.bool (hasP s Eu)])) []:=Num.cutPrefix_spec s Eu;have c2:Ctr TP G 131 [.d (S s),.d (S D2)] [] (.d (.tup [S (if hasP s D2 then s.drop 4 else s),.bool (hasP s D2)])) []:=Num.cutPrefix_spec s D2;have c3:Ctr TP G 131 [.d (S s),.d (S Ee)] [] (.d (.tup [S (if hasP s Ee then s.drop 5 else s),.bool (hasP s Ee)])) []:=Num.cutPrefix_spec s Ee;refine Ctr.body (M:=M0) Ak Tryz.func113 rfl AfL ?_;simp(disch:=try exact aa)only[Tryz.f113,↓Ab,Ad,↓reduceIte,Qu,Qv];refine Aa.of ht lD ?_;simp(disch:=try exact aa)only[↓Ab,Ad,↓reduceIte,Qu];refine Aa.of p1 lD ?_;cases e1:hasP s [34]
 ·rw[if_neg (by rw[e1];simp)] at hr;simp(disch:=try exact aa)only[↓Ab,Ad,↓reduceIte,Qu,Qw,Qz];refine Al.fr 1649267441669 (α:=Nat) (fun i=>3-i) (fun i=>[(41,.d (.int .i64 i))]) (fun i=>[psB s v,.box zN,.row false Tj])
   (fun i=>ScaR s i) 0 ⟨lA,lA,lA,lA⟩ ?_ ?_
  ·first
   | exact ⟨[some 0,some 1,some 2],rfl,lC,gV,gn⟩
  rintro i ⟨b1,b2,b3,b4⟩;simp only[Bm,Agp,Agq];rcases (by omega:i=0\/i=1\/i=2\/i=3) with rfl | rfl | rfl | rfl
  ·simp(disch:=try exact aa)only[Tj,↓Ab,Ad,↓reduceIte,Qu];refine Aa.of c1 lD ?_;cases e2:hasP s Eu
   ·simp(disch:=try exact aa)only[Agx,↓Ab,Ad,↓reduceIte,Qu,QA];first
    | exact ⟨lD,1,⟨lA,fun h=>e2,fun h=>absurd h lA,fun h=>absurd h lA⟩,iz,mA⟩
   simp(disch:=try exact aa)only[↓Ab,Ad,↓reduceIte,Qu];rw[if_pos e2] at hr;subst hr;first
   | (refine ⟨[some 0],rfl,lC,gU,.inr ⟨_,rfl,?_,rfl⟩⟩;rfl)
   | (refine ⟨lD,⟨[some 0],rfl,lC,gU,.inr ⟨_,rfl,?_,rfl⟩⟩⟩;rfl)
  ·simp(disch:=try exact aa)only[Tj,↓Ab,Ad,↓reduceIte,Qu,Qv,Qw];refine Aa.of c2 lD ?_;cases e2:hasP s D2
   ·simp(disch:=try exact aa)only[Agx,↓Ab,Ad,↓reduceIte,Qu];first
    | exact ⟨lD,2,⟨lA,fun h=>b2 lA,fun h=>e2,fun h=>absurd h lA⟩,iz,mA⟩
   simp(disch:=try exact aa)only[↓Ab,Ad,↓reduceIte,Qu];rw[if_neg gu] at hr;rw[if_pos e2] at hr;subst hr;first
   | (refine ⟨[some 0],rfl,lC,gU,.inr ⟨_,rfl,?_,rfl⟩⟩;rfl)
   | (refine ⟨lD,⟨[some 0],rfl,lC,gU,.inr ⟨_,rfl,?_,rfl⟩⟩⟩;rfl)
  ·simp(disch:=try exact aa)only[Tj,↓Ab,Ad,↓reduceIte,Qu,Qv,Qw];refine Aa.of c3 lD ?_;cases e2:hasP s Ee
   ·simp(disch:=try exact aa)only[Agx,↓Ab,Ad,↓reduceIte,Qu];first
    | exact ⟨lD,3,⟨lA,fun h=>b2 lA,fun h=>b3 lA,fun h=>e2⟩,iz,mA⟩
   simp(disch:=try exact aa)only[↓Ab,Ad,↓reduceIte,Qu];rw[if_neg gu] at hr;rw[if_neg (by rw[b3 lA];simp)] at hr;rw[if_pos e2] at hr;subst hr;first
   | (refine ⟨[some 0],rfl,lC,gU,.inr ⟨_,rfl,?_,rfl⟩⟩;rfl)
   | (refine ⟨lD,⟨[some 0],rfl,lC,gU,.inr ⟨_,rfl,?_,rfl⟩⟩⟩;rfl)
  rw[if_neg gu,if_neg (by rw[b3 lA];simp),if_neg (by rw[b4 lA];simp)] at hr;simp(disch:=try exact aa)only[Tj,↓Ab,Ad,↓reduceIte,Qu,Qv];refine Aa.of hn lD ?_;generalize O9 s=n at *;have hd:decide ((0:Int)<(n:Int))=decide (0<n):=lC
  simp(disch:=try exact aa)only[Af,hd,↓Ab,Ad,↓reduceIte,Qu];subst hr;first
  | (refine ⟨[some 0],rfl,lC,gU,.inr ⟨_,rfl,?_,rfl⟩⟩;rfl)
  | (refine ⟨lD,⟨[some 0],rfl,lC,gU,.inr ⟨_,rfl,?_,rfl⟩⟩⟩;rfl)
 rw[if_pos e1] at hr;simp only[↓Ab,Ad,↓reduceIte,Qu];refine Aa.by hq lD lD lC ?_;simp(disch:=try exact aa)only[↓Ab,Ad,↓reduceIte,Qu];subst hr;first
 | (refine ⟨[some 0],rfl,lC,gU,.inr ⟨_,rfl,?_,rfl⟩⟩;rfl)
 | (refine ⟨lD,⟨[some 0],rfl,lC,gU,.inr ⟨_,rfl,?_,rfl⟩⟩⟩;rfl)
end
section
open Go Go.Proofs Go.Abs
def Tf (n sz:Nat) (ds:List D) (a:AV) (ids:List Nat) (H:List Ae):Prop :=
 (n=0/\a=.d (.sl 0 true [])/\ids=[])\/(0<n/\∃ b,a=.lsl b sz 0 n/\ids=[b]/\H[b]?=some (.row false ds))
def Tf.frame {n sz:Nat} {ds:List D} {a:AV} {ids:List Nat} {H K:List Ae} (h:Tf n sz ds a ids H) (hk:∀ b∈ids,K[b]?=H[b]?):Tf n sz ds a ids K:=by
 rcases h with h | ⟨h0,b,h1,h2,h3⟩
 ·exact .inl h
 exact .inr ⟨h0,b,h1,h2,by rw[hk b (by rw[h2];simp)];exact h3⟩
def Tf.lt {n sz:Nat} {ds:List D} {a:AV} {ids:List Nat} {H:List Ae} (h:Tf n sz ds a ids H):∀ b∈ids,b<H.length:=by
 intro b hb;rcases h with ⟨_,_,h⟩ | ⟨h0,c,h1,h2,h3⟩
 ·rw[h] at hb;cases hb
 rw[h2,Aeq] at hb;subst hb;exact (AfI.1 h3).1
abbrev Pl (t:Nd):=Tf t.keys.length 1 (strs t.keys)
abbrev OU (t:Nd):=Tf t.kids.length 4 (AH t.kids)
def N8 (ex:List AV) (t:Nd) (ka qa:AV):List AV:=[.d (.int .i64 t.kind),.d (S t.text),ka,qa]++ex
def Un (ex:List AV) (t:Nd) (ka qa:AV):(N8 ex t ka qa).length=4+ex.length:=by simp[N8];omega
def Gk (ex:List AV) (H:List Ae):List Nd->List AV->List Nat->Prop
 | [],cells,ids=>cells=[]/\ids=[]
 | t::st,cells,ids=>∃ c i ka ik qa iq,Gk ex H st c i/\Pl t ka ik H/\OU t qa iq H/\cells=c++N8 ex t ka qa/\ids=i++(ik++iq)
def Gk.len {ex:List AV} {H:List Ae}:∀ {st:List Nd} {cells:List AV} {ids:List Nat},Gk ex H st cells ids->cells.length=st.length*(4+ex.length)
 | [],cells,ids,h=>by rw[h.1];simp
 | t::st,cells,ids,⟨c,i,ka,ik,qa,iq,h1,_,_,h4,_⟩=>by rw[h4,AfZ,h1.len,Un,Aeg,AgY]
def Gk.frame {ex:List AV} {H K:List Ae}:∀ {st:List Nd} {cells:List AV} {ids:List Nat},Gk ex H st cells ids->(∀ b∈ids,K[b]?=H[b]?)->Gk ex K st cells ids
 | [],cells,ids,h,_=>h
 | t::st,cells,ids,⟨c,i,ka,ik,qa,iq,h1,h2,h3,h4,h5⟩,hk=>by subst h5;exact ⟨c,i,ka,ik,qa,iq,h1.frame fun b hb=>hk b kK,h2.frame fun b hb=>hk b kK,h3.frame fun b hb=>hk b kK,h4,rfl⟩
def Gk.lt {ex:List AV} {H:List Ae}:∀ {st:List Nd} {cells:List AV} {ids:List Nat},Gk ex H st cells ids->∀ b∈ids,b<H.length
 | [],cells,ids,h=>fun b hb=>by rw[h.2] at hb;cases hb
 | t::st,cells,ids,⟨c,i,ka,ik,qa,iq,h1,h2,h3,h4,h5⟩=>fun b hb=>by
   subst h5;rcases Aer.1 hb with hb | hb
   ·exact h1.lt b hb
   rcases Aer.1 hb with hb | hb
   ·exact h2.lt b hb
   exact h3.lt b hb
def WR (ob:Nat) (cells:List AV) (H:List Ae):Prop:=(∃ junk,H[ob]?=some (.box (cells++junk)))\/(cells=[]/\H[ob]?=some (.row false []))
def WR.lt {ob:Nat} {cells:List AV} {H:List Ae} (h:WR ob cells H):ob<H.length:=by
 rcases h with ⟨j,h⟩ | ⟨_,h⟩
 ·exact (AfI.1 h).1
 exact (AfI.1 h).1
def WR.frame {ob:Nat} {cells:List AV} {H K:List Ae} (h:WR ob cells H) (hk:K[ob]?=H[ob]?):WR ob cells K:=by unfold WR;rw[hk];exact h
structure JM (ex:List AV) (st:List Nd) (ob:Nat) (ids:List Nat) (H:List Ae):Prop where
 stk:∃ cells,WR ob cells H/\Gk ex H st cells ids
 nd:(ob::ids).Nodup
def JM.lt {ex:List AV} {st:List Nd} {ob:Nat} {ids:List Nat} {H:List Ae} (h:JM ex st ob ids H):∀ b∈ob::ids,b<H.length:=by
 obtain ⟨cells,h1,h2⟩:=h.stk;intro b hb;rcases Af0.1 hb with rfl | hb
 ·exact h1.lt
 exact h2.lt b hb
def JM.frame {ex:List AV} {st:List Nd} {ob:Nat} {ids:List Nat} {H K:List Ae} (h:JM ex st ob ids H) (hk:∀ b∈ob::ids,K[b]?=H[b]?):JM ex st ob ids K:=by obtain ⟨cells,h1,h2⟩:=h.stk;exact ⟨⟨cells,h1.frame (hk ob lC),h2.frame fun b hb=>hk b kK⟩,h.nd⟩
structure CD (rest:List UInt8) (st:List Nd) (ob:Nat) (ids:List Nat) (H:List Ae):Prop where
 box:H[0]?=some (.box [.d (S rest),.lsl ob 4 0 st.length])
 stack:JM [] st ob ids H
 pos:∀ b∈ob::ids,0<b
 nox:NoX H
def CD.ne {rest:List UInt8} {st:List Nd} {ob:Nat} {ids:List Nat} {H:List Ae} (h:CD rest st ob ids H) {b:Nat} (hb:b∈ob::ids):¬0=b:=by have:=h.pos b hb;omega
structure CI (F:List Nat) (H:List Ae) (F':List Nat) (H':List Ae):Prop where
 len:H.length<=H'.length
 keep:∀ i,0<i->i<H.length->i∉F->H'[i]?=H[i]?
 old:∀ i∈F',i∈F\/H.length<=i
def CI.refl (F:List Nat) (H:List Ae):CI F H F H:=⟨AeA _,fun _ _ _ _=>rfl,fun i hi=>.inl hi⟩
def CI.trans {F1 F2 F3:List Nat} {H1 H2 H3:List Ae} (a:CI F1 H1 F2 H2) (b:CI F2 H2 F3 H3):CI F1 H1 F3 H3:=by
 refine ⟨AgG a.len b.len,fun i h0 hi hn=>?_,fun i hi=>?_⟩
 ·rw[b.keep i h0 (Nat.lt_of_lt_of_le hi a.len) fun c=>?_,a.keep i h0 hi hn];rcases a.old i c with h | h
  ·exact hn h
  omega
 rcases b.old i hi with h | h
 ·exact a.old i h
 exact .inr (AgG a.len h)
def CD.rest {rest r':List UInt8} {st:List Nd} {ob:Nat} {ids:List Nat} {H:List Ae} (h:CD rest st ob ids H):CD r' st ob ids (H.set 0 (.box [.d (S r'),.lsl ob 4 0 st.length])) /\
  CI (ob::ids) H (ob::ids) (H.set 0 (.box [.d (S r'),.lsl ob 4 0 st.length])):=by
 have h0:0<H.length:=(AfI.1 h.box).1;exact ⟨⟨A8 h0,h.stack.frame fun b hb=>Ao (h.ne hb),h.pos,h.nox.set _ lC⟩,⟨lC,fun i hi _ _=>Ao lA,fun i hi=>.inl hi⟩⟩
def CD.app {rest:List UInt8} {st:List Nd} {ob:Nat} {ids:List Nat} {H E:List Ae} (h:CD rest st ob ids H) (he:NoX E):CD rest st ob ids (H++E)/\CI (ob::ids) H (ob::ids) (H++E):=by have h0:0<H.length:=(AfI.1 h.box).1;exact ⟨⟨by rw[Ay h0];exact h.box,h.stack.frame fun b hb=>Ay (h.stack.lt b hb),h.pos,h.nox.app he⟩,⟨lC,fun i _ hi _=>Ay hi,fun i hi=>.inl hi⟩⟩
def CD.lift {G:Ah} {rest r':List UInt8} {st:List Nd} {ob:Nat} {ids:List Nat} {H:List Ae} (h:CD rest st ob ids H) {f:FuncId} {args:List AV} {res:D}
  (spec:∀ v,Ctr TP G f args [.box [.d (S rest),.d (.val v)]] (.d res) [.box [.d (S r'),.d (.val v)]]) (ha:∀ a∈args,a=.ptr 0 0\/∃ d,a=.d d) :
  Ctr TP G f args H (.d res) (H.set 0 (.box [.d (S r'),.lsl ob 4 0 st.length])):=Ctr.lift1 spec ha h.box
end
section
open Go Go.Proofs Go.Abs
variable {G:Ah}
def CD.top {rest:List UInt8} {t:Nd} {st:List Nd} {ob:Nat} {ids:List Nat} {H:List Ae} (h:CD rest (t::st) ob ids H) :
  ∃ c junk i ka ik qa iq,H[ob]?=some (.box (c++(.d (.int .i64 t.kind)::.d (S t.text)::ka::qa::junk)))/\c.length=st.length*4/\Gk [] H st c i/\Pl t ka ik H/\OU t qa iq H/\ids=i++(ik++iq):=by
 obtain ⟨cells,h1,c,i,ka,ik,qa,iq,h2,h3,h4,h5,h6⟩:=h.stack.stk;rcases h1 with ⟨junk,h1⟩ | ⟨h1,_⟩
 ·refine ⟨c,junk,i,ka,ik,qa,iq,?_,eN,h2,h3,h4,h6⟩;rw[h1,h5];simp[N8]
 rw[h5] at h1;simp[N8] at h1
def J1 {c:List AV} {m:Nat} (hc:c.length=m*4) (a b k q:AV) (j:List AV):(c++(a::b::k::q::j)).getD (m*4) .undef=a:=dY
def ZM {c:List AV} {m:Nat} (hc:c.length=m*4) (a b k q:AV) (j:List AV):(c++(a::b::k::q::j)).getD (m*4+2) .undef=k:=dY
def ZL {c:List AV} {m:Nat} (hc:c.length=m*4) (a b k q:AV) (j:List AV):(c++(a::b::k::q::j)).getD (m*4+3) .undef=q:=dY
def ZI {c:List AV} {m:Nat} (hc:c.length=m*4) (a b k q:AV) (j:List AV):((c++(a::b::k::q::j)).drop (m*4)).take 4=[a,b,k,q]:=by rw[List.drop_append,hc,List.drop_of_length_le lA];simp
def ZK {c:List AV} {m:Nat} (hc:c.length=m*4) (a b k q x:AV) (j:List AV):(c++(a::b::k::q::j)).set (m*4+2) x=c++(a::b::x::q::j):=dZ
def ZJ {c:List AV} {m:Nat} (hc:c.length=m*4) (a b k q x:AV) (j:List AV):(c++(a::b::k::q::j)).set (m*4+3) x=c++(a::b::k::x::j):=dZ
def JZ {c:List AV} {m:Nat} (hc:c.length=m*4) (a b k q:AV) (j:List AV):(c++(a::b::k::q::j)).length=m*4+4+j.length:=jd
def Hh {H0:List Ae}:∀ (ids:List Nat) (H:List Ae),(∀ b∈ids,b<H.length)->NoX H->wOK H.length (frz H0 ids)=true/\(applyW H (frz H0 ids)).length=H.length/\(∀ i,i∉ids->(applyW H (frz H0 ids))[i]?=H[i]?)/\NoX (applyW H (frz H0 ids))
 | [],H,_,hx=>⟨rfl,rfl,fun _ _=>rfl,hx⟩
 | b::r,H,hb,hx=>by
   have hb0:=hb b lC;rw[frz];split;·rename_i cells hc;rw[applyW,if_pos hb0,wOK,if_pos hb0];obtain ⟨h1,h2,h3,h4⟩:=Hh r (H.set b (.row true cells)) (fun x hx=>by rw[AgU];exact hb x (AbZ _ hx)) (hx.set _ lC);rw[AgU] at h1 h2;refine ⟨h1,h2,fun i hi=>?_,h4⟩;rw[h3 i fun q=>hi (AbZ _ q),Ao fun e=>hi ki]
   obtain ⟨h1,h2,h3,h4⟩:=Hh (H0:=H0) r H (fun x hx=>hb x (AbZ _ hx)) hx;exact ⟨h1,h2,fun i hi=>h3 i fun q=>hi (AbZ _ q),h4⟩
def Tf.shutR {n sz:Nat} {ds:List D} {a:AV} {ids:List Nat} {H:List Ae} (h:Tf n sz ds a ids H) (hl:ds.length=n*sz):∃ f,sealA H a=some (.sl n f ds)/\AY a=ids/\AV.one a=true:=by
 rcases h with ⟨h1,h2,h3⟩ | ⟨h0,b,h1,h2,h3⟩
 ·subst h1;subst h2;subst h3;rw[Nat.zero_mul] at hl;rw[Af1.1 hl];exact ⟨true,rfl,rfl,rfl⟩
 subst h1;subst h2;refine ⟨false,?_,rfl,rfl⟩;rw[sealA,h3];simp only;rw[GJ hl]
def AbQ (p:Nat) (H:List Ae) (v res:AV) (H':List Ae):Prop :=
 (Jg p H v res H'\/∃ d,sealA H v=some d/\wOK H.length (frz H (AY v))=true/\res=.d (unf d)/\H'=applyW H (frz H (AY v)))\/(H'=H/\(res=v\/∃ d,sealA H v=some d/\AY v=[]/\res=.d (unf d)))
def Ai {P:Program} {rs:Array ResultVar} {p:Nat} {res:AV} {H':List Ae} {s:List AV} {H:List Ae} :
  Gu P rs p res H' .ret s H=match resVs P s H rs.toList with | some vs=>AbQ p H (AP vs) res H' | none=>False:=by
 show Vg P rs p s H res H'=_
 unfold Vg WO AbQ Jg;cases resVs P s H rs.toList with
 | none=>simp
 | some vs=>rfl
def Ag {P:Program} {rs:Array ResultVar} {p:Nat} {res:AV} {H':List Ae} {s:List AV} {H:List Ae} :
  Gu P rs p res H' .normal s H=match resVs P s H rs.toList with | some vs=>AbQ p H (AP vs) res H' | none=>False:=Ai
def IX {rest:List UInt8} {t:Nd} {st:List Nd} {ob:Nat} {ids:List Nat} {H:List Ae} (h:CD rest (t::st) ob ids H) (hst:st.length<=1000000000) :
  ∃ ids' H',Ctr TP G 82 [.ptr 0 0] H (.d (NdD t)) H'/\CD rest st ob ids' H'/\CI (ob::ids) H (ob::ids') H':=by
 obtain ⟨c,junk,i,ka,ik,qa,iq,hb,hc,hs,hk,hq,hids⟩:=h.top;have q0:=h.box;rw[Aeg] at q0;have l0:0<H.length:=(AfI.1 q0).1;have lb:ob<H.length:=h.stack.lt ob lC;have n0b:¬0=ob:=h.ne lC;have g4:=ZI hc (.d (.int .i64 t.kind)) (.d (S t.text)) ka qa junk;have gl:=JZ hc (.d (.int .i64 t.kind)) (.d (S t.text)) ka qa junk;obtain ⟨cs,hcs⟩:∃ cs,cs=c++(.d (.int .i64 t.kind)::.d (S t.text)::ka::qa::junk):=⟨_,rfl⟩;rw[<-hcs] at hb g4 gl;have hk1:=hk.shutR (by rw[strs_length,Ag0]);have hq1:=hq.shutR (by rw[Ax,AgZ]);obtain ⟨fk,hk1,hk2,hk3⟩:=hk1;obtain ⟨fq,hq1,hq2,hq3⟩:=hq1;obtain ⟨cf,hcf⟩:=CB [0,ob,H.length,H.length+1] (by simp only[Aex,Af0,List.not_mem_nil,or_false,not_or,AgK,and_true,not_false_eq_true];omega);have c0:=hcf 0 _ rfl;have c1:=hcf 1 _ rfl;have c2:=hcf 2 _ rfl;have c3:=hcf 3 _ rfl;obtain ⟨H1,hH1⟩:∃ H1,H1=H.set 0 (.box [.d (S rest),.lsl ob 4 0 st.length])++[.box [.d (.int .i64 t.kind),.d (S t.text),ka,qa],.box [.d (.int .i64 t.kind),.d (S t.text),ka,qa]]:=⟨_,rfl⟩;have hlH:H1.length=H.length+2:=by rw[hH1];simp
 have hno:∀ j,j∉ik++iq->j∉AY (.agg [.d (.int .i64 t.kind),.d (S t.text),ka,qa]):=fun j hj q=>by have e:AY (.agg [.d (.int .i64 t.kind),.d (S t.text),ka,qa])=AY ka++(AY qa++[]):=rfl;rw[e,AgH,hk2,hq2] at q;exact hj q
 have hap:=Hh (H0:=H1) (AY (.agg [.d (.int .i64 t.kind),.d (S t.text),ka,qa])) H1 (fun b hb=>by have e:AY (.agg [.d (.int .i64 t.kind),.d (S t.text),ka,qa])=AY ka++(AY qa++[]):=rfl;rw[e,AgH,hk2,hq2] at hb;have:=h.stack.lt b dO;omega) (by rw[hH1];exact (h.nox.set _ lC).app kE);have hkf:∀ b∈ik++iq,H1[b]?=H[b]?:=fun b hb=>by
  have hb':b∈ob::ids:=dO
  rw[hH1,Ay (by have:=h.stack.lt b hb';simpa using this),Ao (h.ne hb')]
 obtain ⟨fk,hsk,hk2',hk3'⟩:=(hk.frame fun b hb=>hkf b (Aen _ hb)).shutR (by rw[strs_length,Ag0]);obtain ⟨fq,hsq,hq2',hq3'⟩:=(hq.frame fun b hb=>hkf b (AbY _ hb)).shutR (by rw[Ax,AgZ]);refine ⟨i,applyW H1 (frz H1 (AY (.agg [.d (.int .i64 t.kind),.d (S t.text),ka,qa]))),Ctr.bodyI (M:=M0) Ak Tryz.func82 rfl go82 ?h1 ?h2,?h3⟩;case h2 =>
  simp(disch:=try exact aa)only[Ai,Tryz.f82,q0,hb,g4,gl,hk3,hq3,AA,↓Ab,Ad,↓reduceIte,Qu,Qv];first
  | refine ⟨bB,AF cf bN dm,lD,bB,?_⟩
  | refine ⟨AF cf cv (by simp only[AgB,AgN,c0,c1,c3];rfl),lD,?_⟩
  | refine ⟨AF cf bN dm,?_⟩
  rw[<-hH1];have hids1:AY (.agg [.d (.int .i64 t.kind),.d (S t.text),ka,qa])=AY ka++(AY qa++[]):=rfl;refine .inl (.inr ⟨.agg [.int .i64 t.kind,S t.text,.sl t.keys.length fk (strs t.keys),.sl t.kids.length fq (AH t.kids)],?_,hap.1,?_,?_⟩);·simp only[sealA,sealL,hsk,hsq]
  ·rw[show NdD t=.agg (ndC t) from rfl,N4];rfl
  first | done | rfl | (rw[hids1,AgH];done)
 case h1=>exact hap.2.2.2.ok
 case h3 =>
  have hnd:=h.stack.nd;rw[hids] at hnd;refine ⟨⟨?_,?_,fun b hb=>h.pos b ?_,hap.2.2.2⟩,⟨?_,fun j j0 jl jn=>?_,fun j hj=>?_⟩⟩;·rw[hap.2.2.1 0 (hno 0 fun q=>?_),hH1,Ay iZ,A8 l0];have:=h.pos 0 (by rw[hids];exact AbZ _ (AbY _ q));omega
  ·refine ⟨⟨c,.inl ⟨.d (.int .i64 t.kind)::.d (S t.text)::ka::qa::junk,?_⟩,hs.frame fun b hb=>?_⟩,?_⟩
   ·rw[hap.2.2.1 ob (hno ob fun q=>?_),hH1,Ay je,Ao n0b];·rw[<-hcs];exact hb
    exact (Aex.1 hnd).1 (AbY _ q)
   ·rw[hap.2.2.1 b (hno b fun q=>?_),hH1,Ay (by have:=hs.lt b hb;simpa using this),Ao (h.ne (by rw[hids];exact AbZ _ (Aen _ hb)))];exact (Aes.1 (Aex.1 hnd).2).2.2 b hb b q rfl
   exact Aex.2 ⟨fun q=>(Aex.1 hnd).1 (Aen _ q),(Aes.1 (Aex.1 hnd).2).1⟩
  ·rw[hids];rcases Af0.1 hb with rfl | hb
   ·simp
   exact AbZ _ (Aen _ hb)
  ·rw[hap.2.1,hH1];simp
  ·rw[hids] at jn;rw[hap.2.2.1 j (hno j fun q=>jn (AbZ _ (AbY _ q))),hH1,Ay jf,Ao lA]
  refine .inl ?_;rw[hids];rcases Af0.1 hj with rfl | hj
  ·simp
  exact AbZ _ (Aen _ hj)
def CD.mk_top {r1:List UInt8} {t:Nd} {st:List Nd} {ob:Nat} {H K:List Ae} {c junk:List AV} {i ik iq:List Nat} {ka qa:AV}
  (k0:K[0]?=some (.box [.d (S r1),.lsl ob 4 0 (st.length+1)])) (kb:K[ob]?=some (.box (c++(.d (.int .i64 t.kind)::.d (S t.text)::ka::qa::junk)))) (hs:Gk [] H st c i) (hf:∀ b∈i,K[b]?=H[b]?)
  (hk:Pl t ka ik K) (hq:OU t qa iq K) (hn:(ob::(i++(ik++iq))).Nodup) (hp:∀ b∈ob::(i++(ik++iq)),0<b) (hx:NoX K):CD r1 (t::st) ob (i++(ik++iq)) K :=
 ⟨k0,⟨⟨c++N8 [] t ka qa,.inl ⟨junk,by rw[kb];simp[N8]⟩,c,i,ka,ik,qa,iq,hs.frame hf,hk,hq,rfl,rfl⟩,hn⟩,hp,hx⟩
def MK7:B8:=fun k=>AgW k 4000115 || AgW k 4000080
def Mj:MK7 4000115=true:=rfl
def Mi:MK7 4000080=true:=rfl
def IE {k:Nat} (h:¬(k=4000115\/k=4000080)):MK7 k=false:=by
 cases e:MK7 k with
 | false=>rfl
 | true =>
  unfold MK7 at e;simp only[AgT] at e;rcases e with e | e
  ·exact absurd (.inl (Af2 e)) h
  exact absurd (.inr (Af2 e)) h
def AaU (rest:List UInt8) {t:Nd} (st:List Nd) (h:t.kind=5):EW rest t st=.beg rest (t::st):=by unfold EW;rw[if_pos h]
def Uq {rest:List UInt8} {t:Nd} (st:List Nd) (h:¬t.kind=5) (h1:(quo rest).2.2=true) (h2:(sgn 58 (quo rest).1).2=true):EW rest t st=.beg (sgn 58 (quo rest).1).1 (BH t (quo rest).2.1::st):=by unfold EW;rw[if_neg h,if_pos ⟨h1,h2⟩]
def M2 {rest:List UInt8} {t:Nd} (st:List Nd) (h:¬t.kind=5) (h1:¬((quo rest).2.2=true/\(sgn 58 (quo rest).1).2=true)):EW rest t st=.bad:=by unfold EW;rw[if_neg h,if_neg h1]
def Ad8 (x:PSt) (ob:Nat) (b:Bool) (ids:List Nat) (H:List Ae):Prop:=match x with
 | .beg r st=>b=true/\CD r st ob ids H
 | _=>b=false
def I2 {rest:List UInt8} {t:Nd} {st:List Nd} {ob:Nat} {ids:List Nat} {H:List Ae} (h:CD rest (t::st) ob ids H) (hst:st.length<=1000000000) (hr:rest.length<=1000000000) (hkl:t.keys.length<=1000000000) :
  ∃ b ids' H',Ctr TP G 81 [.ptr 0 0] H (.d (.bool b)) H'/\NoX H'/\CI (ob::ids) H (ob::ids') H'/\Ad8 (EW rest t st) ob b ids' H':=by
 have hsig:=fun (r:List UInt8) (hr:r.length<=1000000000) v=>GT (G:=G) 58 r lA v;obtain ⟨c,junk,i,ka,ik,qa,iq,hb,hc,hs,hk,hq,hids⟩:=h.top;have q0:=h.box;rw[Aeg] at q0;have l0:0<H.length:=(AfI.1 q0).1;have lb:ob<H.length:=h.stack.lt ob lC;have n0b:¬0=ob:=h.ne lC;have nb0:¬ob=0:=fun e=>n0b e.symm;have hnd:=h.stack.nd;have hpos:=h.pos;have hlt:=h.stack.lt;rw[hids] at hnd hpos hlt;have g0:=J1 hc (.d (.int .i64 t.kind)) (.d (S t.text)) ka qa junk;have g2:=ZM hc (.d (.int .i64 t.kind)) (.d (S t.text)) ka qa junk;have gl:=JZ hc (.d (.int .i64 t.kind)) (.d (S t.text)) ka qa junk;have gs:=fun x=>ZK hc (.d (.int .i64 t.kind)) (.d (S t.text)) ka qa x junk;have hqu:=h.lift (G:=G) (r':=(quo rest).1) (fun v=>Ko (G:=G) rest hr v) lC;rw[Aeg] at hqu;obtain ⟨cs,hcs⟩:∃ cs,cs=c++(.d (.int .i64 t.kind)::.d (S t.text)::ka::qa::junk):=⟨_,rfl⟩;rw[<-hcs] at hb g0 g2 gl gs;by_cases k5:t.kind=5
 ·refine ⟨true,ids,H,Ctr.bodyI (M:=MK7) Ak Tryz.func81 rfl Aa2 h.nox.ok ?_,h.nox,CI.refl _ _,?_⟩;·simp(disch:=try exact aa)only[Ai,IE,Tryz.f81,q0,hb,g0,gl,k5,↓Ab,Ad,↓reduceIte,Qu,Qv];exact ⟨lD,.inr ⟨rfl,.inl rfl⟩⟩
  rw[AaU rest st k5];exact ⟨rfl,h⟩
 have hql:=Xp rest;generalize hqe:quo rest=qr at *;obtain ⟨q1,q2,q3⟩:=qr;simp only at hql hqu;rcases hk with ⟨kn,ka0,ik0⟩ | ⟨kn,kb,ka0,ik0,hkb⟩
 ·subst ka0;obtain ⟨H2,hH2⟩:∃ H2,H2=(H.set 0 (.box [.d (S q1),.lsl ob 4 0 (st.length+1)])).set ob (.box (c++(.d (.int .i64 t.kind)::.d (S t.text)::.lsl (H.length+1) 1 0 1::qa::junk)))++[.row false [S q2],.row false [S q2]]:=⟨_,rfl⟩;have hl2:H2.length=H.length+2:=by rw[hH2];simp
  have x2:NoX H2:=by rw[hH2];exact ((h.nox.set _ lC).set _ lC).app kE
  have f2:∀ b,b<H.length->¬b=0->¬b=ob->H2[b]?=H[b]?:=fun b hb1 hb2 hb3=>by rw[hH2,Ay iD,Ao (fun e=>hb3 e.symm),Ao (fun e=>hb2 e.symm)]
  have e20:H2[0]?=some (.box [.d (S q1),.lsl ob 4 0 (st.length+1)]):=by rw[hH2,Ay iZ,Ao nb0,A8 l0]
  have e2b:H2[ob]?=some (.box (c++(.d (.int .i64 t.kind)::.d (S t.text)::.lsl (H.length+1) 1 0 (t.keys.length+1)::qa::junk))):=by rw[hH2,Ay je,A8 je,kn]
  have e2n:H2[H.length+1]?=some (.row false (strs (t.keys++[q2]))):=by rw[hH2,A0 lC];simp[strs,Af1.1 kn]
  have hne:∀ b,b∈ob::(i++(ik++iq))->¬b=H.length+1:=fun b hb=>by have:=hlt b hb;omega
  have hnd2:(ob::(i++([H.length+1]++iq))).Nodup:=by
   have q1:=Aex.1 hnd;have q2:=Aes.1 q1.2;have q3:=Aes.1 q2.2.1;refine Aex.2 ⟨fun q=>?_,Aes.2 ⟨q2.1,Aes.2 ⟨lC,q3.2.1,fun x hx y hy e=>?_⟩,fun x hx y hy e=>?_⟩⟩
   ·rcases Aer.1 q with q | q
    ·exact q1.1 (Aen _ q)
    rcases Aer.1 q with q | q
    ·exact hne ob lC (Aeq.1 q)
    exact q1.1 (AbY _ (AbY _ q))
   ·exact py
   subst e;rcases Aer.1 hy with hy | hy
   ·exact hne x (AbZ _ (Aen _ hx)) (Aeq.1 hy)
   exact q2.2.2 x hx x (AbY _ hy) rfl
  have hold:∀ b,b∈i++iq->b<H.length/\¬b=0/\¬b=ob:=fun b hb=>by have hm:b∈i++(ik++iq):=aM;refine ⟨hlt b (AbZ _ hm),fun e=>eO,fun e=>(Aex.1 hnd).1 (e▸hm)⟩
  have P2:CD q1 (BH t q2::st) ob (i++([H.length+1]++iq)) H2:=by
   refine CD.mk_top (t:=BH t q2) e20 e2b hs (fun b hb=>f2 b (hold b (Aen _ hb)).1 (hold b (Aen _ hb)).2.1 (hold b (Aen _ hb)).2.2) (.inr ⟨ii,_,ii,rfl,e2n⟩) (hq.frame fun b hb=>f2 b (hold b (AbY _ hb)).1 (hold b (AbY _ hb)).2.1 (hold b (AbY _ hb)).2.2) hnd2 (fun b hb=>?_) x2;rcases Af0.1 hb with hb | hb
   ·rw[hb];exact hpos ob lC
   rcases Aer.1 hb with hb | hb
   ·exact hpos b (AbZ _ (Aen _ hb))
   rcases Aer.1 hb with hb | hb
   ·rw[Aeq.1 hb];omega
   exact hpos b (AbZ _ (AbY _ (AbY _ hb)))
  have K2:CI (ob::ids) H (ob::(i++([H.length+1]++iq))) H2:=by
   rw[hids];refine ⟨lA,fun j j0 jl jn=>f2 j jl lA (fun e=>jn ki),fun j hj=>?_⟩;rcases Af0.1 hj with hj | hj
   ·rw[hj];simp
   rcases Aer.1 hj with hj | hj
   ·exact .inl (AbZ _ (Aen _ hj))
   rcases Aer.1 hj with hj | hj
   ·rw[Aeq.1 hj];exact .inr lA
   exact .inl (AbZ _ (AbY _ (AbY _ hj)))
  have sl:=@strs_length t.keys;cases q3 with
  | false =>
   refine ⟨false,_,H2,Ctr.bodyI (M:=MK7) Ak Tryz.func81 rfl Aa2 x2.ok ?_,x2,K2,dq⟩;simp(disch:=try exact aa)only[IE,Mj,Tryz.f81,q0,hb,g0,gl,k5,↓Ab,Ad,↓reduceIte,Qu,Qv];refine ⟨lD,?_⟩;refine Au.go hqu nC lC ?_;simp(disch:=try exact aa)only[Ai,IE,hb,g2,gl,gs,AA,↓Ab,Ad,↓reduceIte,Qu,Qw];first
   | exact .inr ⟨hH2,.inl rfl⟩
  | true =>
   have hsg:=P2.lift (G:=G) (r':=(sgn 58 q1).1) (fun v=>hsig q1 lA v) lC;obtain ⟨P3,K3⟩:=P2.rest (r':=(sgn 58 q1).1);refine ⟨(sgn 58 q1).2,_,_,Ctr.bodyI (M:=MK7) Ak Tryz.func81 rfl Aa2 P3.nox.ok ?_,P3.nox,K2.trans K3,?_⟩
   ·simp(disch:=try exact aa)only[IE,Mj,Tryz.f81,q0,hb,g0,gl,k5,↓Ab,Ad,↓reduceIte,Qu,Qv];refine ⟨lD,?_⟩;refine Au.go hqu nC lC ?_;simp(disch:=try exact aa)only[IE,Mi,hb,g2,gl,gs,AA,↓Ab,Ad,↓reduceIte,Qu,Qw];rw[<-hH2];refine Au.go hsg m8 lC ?_;simp only[Ai,↓Ab,Ad,↓reduceIte];first
    | exact .inr ⟨rfl,.inl rfl⟩
   cases hs2:(sgn 58 q1).2 with
   | false=>rw[M2 st k5 (by rw[hqe];simp[hs2])];rfl
   | true =>rw[Uq st k5 (by rw[hqe]) (by rw[hqe];exact hs2),hqe];exact ⟨rfl,P3⟩
 subst ka0;have hkm:kb∈i++(ik++iq):=AbY _ (Aen _ jJ);have nkb0:¬kb=0:=fun e=>by have:=hpos kb (AbZ _ hkm);omega
 have n0kb:¬0=kb:=fun e=>nkb0 e.symm;have lkb:kb<H.length:=hlt kb (AbZ _ hkm);have nkbo:¬kb=ob:=fun e=>(Aex.1 hnd).1 (e▸hkm);have nokb:¬ob=kb:=fun e=>nkbo e.symm;obtain ⟨H2,hH2⟩:∃ H2,H2=((H.set 0 (.box [.d (S q1),.lsl ob 4 0 (st.length+1)])).set kb .dead).set ob (.box (c++(.d (.int .i64 t.kind)::.d (S t.text)::.lsl (H.length+1) 1 0 (t.keys.length+1)::qa::junk)))++[.row false [S q2],.row false (strs t.keys++[S q2])]:=⟨_,rfl⟩;have hl2:H2.length=H.length+2:=jK
 have x2:NoX H2:=ax
 have f2:∀ b,b<H.length->¬b=0->¬b=ob->¬b=kb->H2[b]?=H[b]?:=fun b hb1 hb2 hb3 hb4=>by rw[hH2,Ay iD,Ao (fun e=>hb3 e.symm),Ao (fun e=>hb4 e.symm),Ao (fun e=>hb2 e.symm)]
 have e20:H2[0]?=some (.box [.d (S q1),.lsl ob 4 0 (st.length+1)]):=by rw[hH2,Ay iZ,Ao nb0,Ao nkb0,A8 l0]
 have e2b:H2[ob]?=some (.box (c++(.d (.int .i64 t.kind)::.d (S t.text)::.lsl (H.length+1) 1 0 (t.keys.length+1)::qa::junk))):=by rw[hH2,Ay je,A8 je]
 have e2n:H2[H.length+1]?=some (.row false (strs (t.keys++[q2]))):=by rw[hH2,A0 lC];simp[strs]
 have hne:∀ b,b∈ob::(i++(ik++iq))->¬b=H.length+1:=fun b hb=>by have:=hlt b hb;omega
 have hnd2:(ob::(i++([H.length+1]++iq))).Nodup:=by
  have q1:=Aex.1 hnd;have q2:=Aes.1 q1.2;have q3:=Aes.1 q2.2.1;refine Aex.2 ⟨fun q=>?_,Aes.2 ⟨q2.1,Aes.2 ⟨lC,q3.2.1,fun x hx y hy e=>?_⟩,fun x hx y hy e=>?_⟩⟩
  ·rcases Aer.1 q with q | q
   ·exact q1.1 (Aen _ q)
   rcases Aer.1 q with q | q
   ·exact hne ob lC (Aeq.1 q)
   exact q1.1 (AbY _ (AbY _ q))
  ·exact py
  subst e;rcases Aer.1 hy with hy | hy
  ·exact hne x (AbZ _ (Aen _ hx)) (Aeq.1 hy)
  exact q2.2.2 x hx x (AbY _ hy) rfl
 have hold:∀ b,b∈i++iq->b<H.length/\¬b=0/\¬b=ob/\¬b=kb:=fun b hb=>by
  have hm:b∈i++(ik++iq):=aM
  refine ⟨hlt b (AbZ _ hm),fun e=>eO,fun e=>(Aex.1 hnd).1 (e▸hm),fun e=>?_⟩;subst e;have q2:=Aes.1 (Aex.1 hnd).2;have q3:=Aes.1 q2.2.1;rcases Aer.1 hb with hb | hb
  ·exact q2.2.2 b hb b (Aen _ jJ) rfl
  exact q3.2.2 b jJ b hb rfl
 have P2:CD q1 (BH t q2::st) ob (i++([H.length+1]++iq)) H2:=by
  refine CD.mk_top (t:=BH t q2) e20 e2b hs (fun b hb=>f2 b (hold b (Aen _ hb)).1 (hold b (Aen _ hb)).2.1 (hold b (Aen _ hb)).2.2.1 (hold b (Aen _ hb)).2.2.2) (.inr ⟨ii,_,ii,rfl,e2n⟩) (hq.frame fun b hb=>f2 b (hold b (AbY _ hb)).1 (hold b (AbY _ hb)).2.1 (hold b (AbY _ hb)).2.2.1 (hold b (AbY _ hb)).2.2.2) hnd2 (fun b hb=>?_) x2;rcases Af0.1 hb with hb | hb
  ·rw[hb];exact hpos ob lC
  rcases Aer.1 hb with hb | hb
  ·exact hpos b (AbZ _ (Aen _ hb))
  rcases Aer.1 hb with hb | hb
  ·rw[Aeq.1 hb];omega
  exact hpos b (AbZ _ (AbY _ (AbY _ hb)))
 have K2:CI (ob::ids) H (ob::(i++([H.length+1]++iq))) H2:=by
  rw[hids];refine ⟨lA,fun j j0 jl jn=>f2 j jl lA (fun e=>jn ki) (fun e=>jn (by rw[e,ik0];simp)),fun j hj=>?_⟩;rcases Af0.1 hj with hj | hj
  ·rw[hj];simp
  rcases Aer.1 hj with hj | hj
  ·exact .inl (AbZ _ (Aen _ hj))
  rcases Aer.1 hj with hj | hj
  ·rw[Aeq.1 hj];exact .inr lA
  exact .inl (AbZ _ (AbY _ (AbY _ hj)))
 have sl:=@strs_length t.keys;cases q3 with
 | false =>
  refine ⟨false,_,H2,Ctr.bodyI (M:=MK7) Ak Tryz.func81 rfl Aa2 x2.ok ?_,x2,K2,dq⟩;simp(disch:=try exact aa)only[IE,Mj,Tryz.f81,q0,hb,g0,gl,k5,↓Ab,Ad,↓reduceIte,Qu,Qv];refine ⟨lD,?_⟩;refine Au.go hqu nC lC ?_;simp(disch:=try exact aa)only[Ai,IE,hb,g2,gl,gs,sl,hkb,AA,↓Ab,Ad,↓reduceIte,Qu];first
  | exact .inr ⟨hH2,.inl rfl⟩
 | true =>
  have hsg:=P2.lift (G:=G) (r':=(sgn 58 q1).1) (fun v=>hsig q1 lA v) lC;obtain ⟨P3,K3⟩:=P2.rest (r':=(sgn 58 q1).1);refine ⟨(sgn 58 q1).2,_,_,Ctr.bodyI (M:=MK7) Ak Tryz.func81 rfl Aa2 P3.nox.ok ?_,P3.nox,K2.trans K3,?_⟩
  ·simp(disch:=try exact aa)only[IE,Mj,Tryz.f81,q0,hb,g0,gl,k5,↓Ab,Ad,↓reduceIte,Qu,Qv];refine ⟨lD,?_⟩;refine Au.go hqu nC lC ?_;simp(disch:=try exact aa)only[IE,Mi,hb,g2,gl,gs,sl,hkb,AA,↓Ab,Ad,↓reduceIte,Qu];rw[<-hH2];refine Au.go hsg m8 lC ?_;simp only[Ai,↓Ab,Ad,↓reduceIte];first
   | exact .inr ⟨rfl,.inl rfl⟩
  cases hs2:(sgn 58 q1).2 with
  | false=>rw[M2 st k5 (by rw[hqe];simp[hs2])];rfl
  | true =>rw[Uq st k5 (by rw[hqe]) (by rw[hqe];exact hs2),hqe];exact ⟨rfl,P3⟩
end
end Go.Proofs.YtmidaophnbdcdaaGreatDoor
