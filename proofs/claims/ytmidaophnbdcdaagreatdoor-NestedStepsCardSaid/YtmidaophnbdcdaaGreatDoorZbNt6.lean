/-
  Contracts of the functions, one after another.
-/
import Derived.Test.YtmidaophnbdcdaaGreatDoorZbNt5
set_option linter.all false
open Go.Abs renaming Bc->HW,Dv->BW,Cx->SW,Ap->AW,BP->sA,Bw->kZ
open Go.Proofs.Tryz renaming prog->TP
set_option maxHeartbeats 16000000
set_option maxRecDepth 100000
open Go.Abs renaming DD->Qe
open Nat renaming reduceAdd->Qu,reduceSub->Qv,reduceMul->Qw,reducePow->Qx,reduceDiv->Qy,reduceMod->Qz,reduceEqDiff->QI,reduceBEq->QK
open Int renaming reduceAdd->QA,reduceSub->QB,reduceMul->QC,reducePow->QD,reduceNeg->QE,reduceToNat->QF,reduceLT->QG,reduceLE->QH
open List renaming mem_append_right->AbY,mem_cons_of_mem->AbZ,mem_append_left->Aeg,mem_append->Aen,nodup_cons->Aer,set_set->Aes,nodup_append->Aet,length_cons->Aev,drop_suffix->Aew,mem_cons->Aex,length_drop->AeA,length_set->AeB,length_append->AfI,mem_singleton->AfZ,take_of_length_le->Af7,replicate->Aga,length_eq_zero_iff->Agp,drop_eq_nil_of_le->Agq,drop_of_length_le->Agu,getD_eq_getElem?_getD->Agv,getElem?_eq_some_iff->Agw,suffix_cons->Agy,nodup_nil->AgA,length_nil->AgB,map_cons->AgC,drop_drop->AgD,getElem?_append_right->AgE,not_mem_nil->AgF,drop_length->AgH,suffix_refl->AgI,append_nil->AgJ,map_nil->AgK,take_left->AgL,nil_suffix->AgN,dropWhile_suffix->AgO,set_append_right->AgP,tail_cons->AgR,take->AgS,dropWhile_cons->AgT,length_take->AgU,cons_append->AgV,drop->AgW,drop_one->AgZ
open Bool renaming true_and->Aeq,false_and->Aeu,false_eq_true->AgG,false_or->AgM,and_false->AgX,true_or->Ag0
open Nat renaming lt_or_ge->Af0,reduceMod->Af1,reduceDiv->Af2,zero_le->Agb,le_refl->Agx,add_sub_cancel_left->Agz,eq_of_beq_eq_true->AgQ
open Or renaming inl->AgY
namespace Go.Proofs.YtmidaophnbdcdaaGreatDoor
section
open Go Go.Proofs Go.Abs
variable {G:Ah}
def O3 (hT:HT G) (t:List UInt8) (ks:List (List UInt8)) (l:List Nd) (s1:t.length<=1000000000) (s2:ks.length<=100000) (s3:∀ s∈ks,s.length<=1000000000) (s4:l.length<=100000) (u1:(4:Int)=3->Num.decOk t=true->AN t=true) (d:Nat) (hd:d<=16) (d0:¬d=0)
  (ih:∀ c∈l,∀ b:Nat,b<=16->Ctr TP G 43 [.d (NdD c),.d (.int .i64 b)] [] (.d (.bool (AM c (16-b)))) []) :
  Ctr TP G 43 [.d (NdD (.mk 4 t ks l)),.d (.int .i64 d)] [] (.d (.bool (AM (.mk 4 t ks l) (16-d)))) []:=by
 obtain ⟨r,hr⟩:∃ r,r=AM (.mk 4 t ks l) (16-d):=⟨_,rfl⟩;rw[<-hr];rw[AM] at hr;have kl:=@strs_length ks;have ll:=Ax l;have hsf:=Fm (k:=4) (t:=t) u1;rw[decide_eq_true (show (1:Int)<=4/\(4:Int)<=6 by omega),Aeq,decide_eq_true (show 16-d<16 by omega),Aeq,show 16-d+1=16-(d-1) by omega] at hr;refine Ctr.pure (M:=M0) Ak Tryz.func43 rfl Ux ?_;simp(disch:=try exact aa)only[ndC,Tryz.f43,↓Ab,Ad,↓reduceIte,Qu,Qv];refine Aa.of (De hT t s1) lD ?_;cases ef:AN t
 ·exact oW
 simp(disch:=try exact aa)only[↓Ab,Ad,↓reduceIte,Qu];refine Aa.of (CY 4) lD ?_;rw[show Kd 4=true from rfl];have hs4:Cq 4 t=AN t:=rfl;rw[hs4,ef,Aeq] at hr;simp(disch:=try exact aa)only[↓Ab,Ad,↓reduceIte,Qu];refine Aa.of (Num.rdecimal_spec t lA) lD ?_;generalize Num.decOk t=dk at *;have hdk:∃ (w1 w3:Bool) (n2 n4:Nat) (w2 w4:List D),(if dk=true then Num.Frac (Num.decVal t) else Num.Zf)=.agg [.bool w1,.sl n2 false w2,.bool w3,.sl n4 false w4]:=dx
 obtain ⟨w1,w3,n2,n4,w2,w4,hw⟩:=hdk;rw[hw];rw[DJ,if_neg (show ¬(4:Int)=6 by omega)] at hr;rw[decide_eq_false (show ¬((4:Int)=5\/(4:Int)=6) by omega),AgM] at hr;by_cases l0:l.length=0
 rotate_left
 ·rw[decide_eq_false l0,Aeu,AgX] at hr;exact oC
 rw[decide_eq_true l0,Aeq] at hr;by_cases k0:ks.length=0
 rotate_left
 ·exact n9
 have ke:ks=[]:=Agp.1 k0;have hk1:Et ks=true:=kj
 rw[decide_eq_true k0,Aeq] at hr;replace hr:r=(Et ks && Bv l (16-(d-1))):=gL
 clear ke hk1;simp(disch:=try exact aa)only[↓Ab,Ad,↓reduceIte,Qu];refine Al.fr 7605903601369376408980219232262 (α:=Nat) (fun i=>ks.length-i) (fun i=>[(103,.d (.int .i64 i))]) (fun _=>[.box [.d (.int .i64 4),.d (S t),.d (Ss ks false),.d (.sl l.length false (AH l))]]) (fun i=>i<=ks.length/\Et (ks.take i)=true) 0 ⟨Agb _,rfl⟩ ?_ ?_
 ·first
  | exact nr
 rintro i ⟨h1,h2⟩;simp only[Bm,Af1,Af2];rcases Af0 i ks.length with h | h
 ·exact qF
 rw[Af7 h] at h2;rw[h2,Aeq] at hr;simp(disch:=try exact aa)only[↓Ab,Ad,↓reduceIte,Qu];refine Al.fr 7975367974709495237422842361682067458 (α:=Nat) (fun i=>l.length-i) (fun i=>[(123,.d (.int .i64 i))]) (fun _=>[]) (fun i=>i<=l.length/\Bv (l.take i) (16-(d-1))=true) 0 ⟨Agb _,rfl⟩ ?_ ?_
 ·first
  | exact nD
 rintro i ⟨h1,h2⟩;simp only[Bm,Af1,Af2];rcases Af0 i l.length with h | h
 ·exact qF
 rw[Af7 h] at h2;exact oD
def O2 (hT:HT G) (t:List UInt8) (ks:List (List UInt8)) (l:List Nd) (s1:t.length<=1000000000) (s2:ks.length<=100000) (s3:∀ s∈ks,s.length<=1000000000) (s4:l.length<=100000) (u1:(5:Int)=3->Num.decOk t=true->AN t=true) (d:Nat) (hd:d<=16) (d0:¬d=0)
  (ih:∀ c∈l,∀ b:Nat,b<=16->Ctr TP G 43 [.d (NdD c),.d (.int .i64 b)] [] (.d (.bool (AM c (16-b)))) []) :
  Ctr TP G 43 [.d (NdD (.mk 5 t ks l)),.d (.int .i64 d)] [] (.d (.bool (AM (.mk 5 t ks l) (16-d)))) []:=by
 obtain ⟨r,hr⟩:∃ r,r=AM (.mk 5 t ks l) (16-d):=⟨_,rfl⟩;rw[<-hr];rw[AM] at hr;have kl:=@strs_length ks;have ll:=Ax l;have hsf:=Fm (k:=5) (t:=t) u1;rw[decide_eq_true (show (1:Int)<=5/\(5:Int)<=6 by omega),Aeq,decide_eq_true (show 16-d<16 by omega),Aeq,show 16-d+1=16-(d-1) by omega] at hr;refine Ctr.pure (M:=M0) Ak Tryz.func43 rfl Ux ?_;simp(disch:=try exact aa)only[ndC,Tryz.f43,↓Ab,Ad,↓reduceIte,Qu,Qv];refine Aa.of (De hT t s1) lD ?_;cases ef:AN t
 ·exact oW
 simp(disch:=try exact aa)only[↓Ab,Ad,↓reduceIte,Qu];refine Aa.of (CY 5) lD ?_;rw[show Kd 5=false from rfl];by_cases tz:t=[]
 rotate_left
 ·have tz':(t=[])=False:=eq_false tz;rw[show Cq 5 t=false from decide_eq_false tz,Aeu] at hr;exact ox
 have tz':(t=[])=True:=eq_true tz;rw[show Cq 5 t=true from decide_eq_true tz,Aeq] at hr;simp(disch:=try exact aa)only[Af,tz',↓Ab,Ad,↓reduceIte,Qu];refine Aa.of (Num.rdecimal_spec t lA) lD ?_;generalize Num.decOk t=dk at *;have hdk:∃ (w1 w3:Bool) (n2 n4:Nat) (w2 w4:List D),(if dk=true then Num.Frac (Num.decVal t) else Num.Zf)=.agg [.bool w1,.sl n2 false w2,.bool w3,.sl n4 false w4]:=dx
 obtain ⟨w1,w3,n2,n4,w2,w4,hw⟩:=hdk;rw[hw];rw[DJ,if_neg (show ¬(5:Int)=6 by omega)] at hr;rw[decide_eq_true (show ((5:Int)=5\/(5:Int)=6) by omega),Ag0,Aeq] at hr;by_cases k0:ks.length=0
 rotate_left
 ·exact n9
 have ke:ks=[]:=Agp.1 k0;have hk1:Et ks=true:=kj
 rw[decide_eq_true k0,Aeq] at hr;replace hr:r=(Et ks && Bv l (16-(d-1))):=gL
 clear ke hk1;simp(disch:=try exact aa)only[↓Ab,Ad,↓reduceIte,Qu];refine Al.fr 7605903601369376408980219232262 (α:=Nat) (fun i=>ks.length-i) (fun i=>[(103,.d (.int .i64 i))]) (fun _=>[.box [.d (.int .i64 5),.d (S t),.d (Ss ks false),.d (.sl l.length false (AH l))]]) (fun i=>i<=ks.length/\Et (ks.take i)=true) 0 ⟨Agb _,rfl⟩ ?_ ?_
 ·first
  | exact nr
 rintro i ⟨h1,h2⟩;simp only[Bm,Af1,Af2];rcases Af0 i ks.length with h | h
 ·exact qF
 rw[Af7 h] at h2;rw[h2,Aeq] at hr;simp(disch:=try exact aa)only[↓Ab,Ad,↓reduceIte,Qu];refine Al.fr 7975367974709495237422842361682067458 (α:=Nat) (fun i=>l.length-i) (fun i=>[(123,.d (.int .i64 i))]) (fun _=>[]) (fun i=>i<=l.length/\Bv (l.take i) (16-(d-1))=true) 0 ⟨Agb _,rfl⟩ ?_ ?_
 ·first
  | exact nD
 rintro i ⟨h1,h2⟩;simp only[Bm,Af1,Af2];rcases Af0 i l.length with h | h
 ·have g:=Ca h;have hmem:=Ds (d:=noN) h;have h3:=@NV l i (16-(d-1)) h h2;have h4:=@Ll l i (16-(d-1)) h;have ihc:=ih _ hmem (d-1) lA;generalize AM (l.getD i noN) (16-(d-1))=z at *;generalize l.getD i noN=kid at *;obtain ⟨ka,kb,kc,kd⟩:=kid;simp(disch:=try exact aa)only[ndC,ll,g,↓Ab,Ad,↓reduceIte,Qu];first
  | (refine Aa.of ihc bR ?_)
  cases z;·rw[h4 rfl] at hr;subst hr;simp only[↓Ab,Ad,↓Qe];first | done | rfl
  simp(disch:=try exact aa)only[↓Ab,Ad];first
  | exact mP
 rw[Af7 h] at h2;exact oD
def O1 (hT:HT G) (t:List UInt8) (ks:List (List UInt8)) (l:List Nd) (s1:t.length<=1000000000) (s2:ks.length<=100000) (s3:∀ s∈ks,s.length<=1000000000) (s4:l.length<=100000) (u1:(6:Int)=3->Num.decOk t=true->AN t=true) (d:Nat) (hd:d<=16) (d0:¬d=0)
  (ih:∀ c∈l,∀ b:Nat,b<=16->Ctr TP G 43 [.d (NdD c),.d (.int .i64 b)] [] (.d (.bool (AM c (16-b)))) []) :
  Ctr TP G 43 [.d (NdD (.mk 6 t ks l)),.d (.int .i64 d)] [] (.d (.bool (AM (.mk 6 t ks l) (16-d)))) []:=by
 obtain ⟨r,hr⟩:∃ r,r=AM (.mk 6 t ks l) (16-d):=⟨_,rfl⟩;rw[<-hr];rw[AM] at hr;have kl:=@strs_length ks;have ll:=Ax l;have hsf:=Fm (k:=6) (t:=t) u1;rw[decide_eq_true (show (1:Int)<=6/\(6:Int)<=6 by omega),Aeq,decide_eq_true (show 16-d<16 by omega),Aeq,show 16-d+1=16-(d-1) by omega] at hr;refine Ctr.pure (M:=M0) Ak Tryz.func43 rfl Ux ?_;simp(disch:=try exact aa)only[ndC,Tryz.f43,↓Ab,Ad,↓reduceIte,Qu,Qv];refine Aa.of (De hT t s1) lD ?_;cases ef:AN t
 ·exact oW
 simp(disch:=try exact aa)only[↓Ab,Ad,↓reduceIte,Qu];refine Aa.of (CY 6) lD ?_;rw[show Kd 6=false from rfl];by_cases tz:t=[]
 rotate_left
 ·have tz':(t=[])=False:=eq_false tz;rw[show Cq 6 t=false from decide_eq_false tz,Aeu] at hr;exact ox
 have tz':(t=[])=True:=eq_true tz;rw[show Cq 6 t=true from decide_eq_true tz,Aeq] at hr;simp(disch:=try exact aa)only[Af,tz',↓Ab,Ad,↓reduceIte,Qu];refine Aa.of (Num.rdecimal_spec t lA) lD ?_;generalize Num.decOk t=dk at *;have hdk:∃ (w1 w3:Bool) (n2 n4:Nat) (w2 w4:List D),(if dk=true then Num.Frac (Num.decVal t) else Num.Zf)=.agg [.bool w1,.sl n2 false w2,.bool w3,.sl n4 false w4]:=dx
 obtain ⟨w1,w3,n2,n4,w2,w4,hw⟩:=hdk;rw[hw];rw[decide_eq_true (show (6:Int)=5\/(6:Int)=6 by omega),Ag0,Aeq,DJ,if_pos rfl] at hr;by_cases e1:ks.length=l.length
 rotate_left
 ·have e1':((ks.length:Int)=(l.length:Int))=False:=eq_false lA;rw[decide_eq_false e1,Aeu,Aeu] at hr;subst hr;simp(disch:=try exact aa)only[e1',↓Ab,Ad,↓reduceIte,↓Qe,Qu];first | done | rfl
 have e1':((ks.length:Int)=(l.length:Int))=True:=eq_true lA;rw[decide_eq_true e1,Aeq] at hr;replace hr:r=(Et ks && Bv l (16-(d-1))):=hr;simp(disch:=try exact aa)only[e1',↓Ab,Ad,↓reduceIte,Qu];refine Al.fr 7605903601369376408980219232262 (α:=Nat) (fun i=>ks.length-i) (fun i=>[(103,.d (.int .i64 i))]) (fun _=>[.box [.d (.int .i64 6),.d (S t),.d (Ss ks false),.d (.sl l.length false (AH l))]]) (fun i=>i<=ks.length/\Et (ks.take i)=true) 0 ⟨Agb _,rfl⟩ ?_ ?_
 ·first
  | exact nr
 rintro i ⟨h1,h2⟩;simp only[Bm,Af1,Af2];rcases Af0 i ks.length with h | h
 ·have g:=strs_getD h;have hmem:=Ds (d:=([]:List UInt8)) h;have h3:=@YJ ks i h h2;have h4:=@Aax ks i h;have h5:=@Aaw ks i h;have hlen:=s3 _ hmem;generalize ks.getD i []=key at *;simp(disch:=try exact aa)only[kl,g,↓Ab,Ad,↓reduceIte];refine Aa.of (De hT key hlen) lD ?_;cases e1:AN key
  ·rw[h4 e1,Aeu] at hr;subst hr;simp only[↓Ab,Ad,↓reduceIte,↓Qe];first | done | rfl
  simp(disch:=try exact aa)only[↓Ab,Ad,↓reduceIte,Qu];have tk:(ks.take i).length=i:=by rw[AgU];omega
  have cu:cut (strs ks) 0 i=Dst.strs (ks.take i):=by unfold cut strs Dst.strs;rw[List.drop_zero,List.map_take]
  (refine Aa.of (Dst.has_spec (ks.take i) false key lA) (by rw[cu,show (Dst.Ss (ks.take i) false)=.sl i false (Dst.strs (ks.take i)) by show D.sl (ks.take i).length _ _=_;rw[tk]]) ?_)
  by_cases e2:key∈ks.take i;·rw[decide_eq_true e2];rw[h5 e2,Aeu] at hr;subst hr;simp only[↓Ab,Ad,↓reduceIte,↓Qe];first | done | rfl
  rw[decide_eq_false e2];simp(disch:=try exact aa)only[↓Ab,Ad,↓reduceIte];first
  | exact ⟨i+1,⟨h,h3 e1 e2⟩,iz,nu⟩
 rw[Af7 h] at h2;rw[h2,Aeq] at hr;simp(disch:=try exact aa)only[↓Ab,Ad,↓reduceIte,Qu];refine Al.fr 7975367974709495237422842361682067458 (α:=Nat) (fun i=>l.length-i) (fun i=>[(123,.d (.int .i64 i))]) (fun _=>[]) (fun i=>i<=l.length/\Bv (l.take i) (16-(d-1))=true) 0 ⟨Agb _,rfl⟩ ?_ ?_
 ·first
  | exact nD
 rintro i ⟨h1,h2⟩;simp only[Bm,Af1,Af2];rcases Af0 i l.length with h | h
 ·have g:=Ca h;have hmem:=Ds (d:=noN) h;have h3:=@NV l i (16-(d-1)) h h2;have h4:=@Ll l i (16-(d-1)) h;have ihc:=ih _ hmem (d-1) lA;generalize AM (l.getD i noN) (16-(d-1))=z at *;generalize l.getD i noN=kid at *;obtain ⟨ka,kb,kc,kd⟩:=kid;simp(disch:=try exact aa)only[ndC,ll,g,↓Ab,Ad,↓reduceIte,Qu];first
  | (refine Aa.of ihc bR ?_)
  cases z;·rw[h4 rfl] at hr;subst hr;simp only[↓Ab,Ad,↓Qe];first | done | rfl
  simp(disch:=try exact aa)only[↓Ab,Ad];first
  | exact mP
 rw[Af7 h] at h2;exact oD
def Ke (hT:HT G):∀ (N:Nat) (n:Nd),nsz n<=N->szN n->nmT n->∀ d:Nat,d<=16->Ctr TP G 43 [.d (NdD n),.d (.int .i64 d)] [] (.d (.bool (AM n (16-d)))) []
 | 0,n,hN,_,_,_,_=>ic
 | N+1,n,hN,hz,hnt,d,hd=>by
   have hnz:=CK n;obtain ⟨k,t,ks,l⟩:=n;obtain ⟨s1,s2,s3,s4,s5⟩:=hz;obtain ⟨u1,u2⟩:=hnt;replace hnz:nsz (.mk k t ks l)=1+BG l:=hnz;have ih:∀ c∈l,∀ b:Nat,b<=16->Ctr TP G 43 [.d (NdD c),.d (.int .i64 b)] [] (.d (.bool (AM c (16-b)))) []:=fun c hc b hb =>Ke hT N c g8 (Ft s5 c hc) (Ug u2 c hc) b hb
   by_cases d0:d=0
   ·subst d0;have hr:AM (.mk k t ks l) (16-0)=false:=by
     rw[AM,decide_eq_false (show ¬16-0<16 by omega),Aeu,AgX]
    rw[hr];refine Ctr.pure (M:=M0) Ak Tryz.func43 rfl Ux ?_;exact oS
   by_cases kr:1<=k/\k<=6
   ·rcases (by omega:k=1\/k=2\/k=3\/k=4\/k=5\/k=6) with rfl | rfl | rfl | rfl | rfl | rfl
    ·exact O6 hT t ks l s1 s2 s3 s4 u1 d hd d0 ih
    ·exact O5 hT t ks l s1 s2 s3 s4 u1 d hd d0 ih
    ·exact O4 hT t ks l s1 s2 s3 s4 u1 d hd d0 ih
    ·exact O3 hT t ks l s1 s2 s3 s4 u1 d hd d0 ih
    ·exact O2 hT t ks l s1 s2 s3 s4 u1 d hd d0 ih
    exact O1 hT t ks l s1 s2 s3 s4 u1 d hd d0 ih
   have hr:AM (.mk k t ks l) (16-d)=false:=(by rw[AM,decide_eq_false kr,Aeu]);rw[hr];refine Ctr.pure (M:=M0) Ak Tryz.func43 rfl Ux ?_;rcases (by omega:k<1\/6<k) with h | h
   ·exact oS
   simp(disch:=try exact aa)only[ndC,Tryz.f43,↓Ab,Ad,↓reduceIte,↓Qe,Qu,Qv]
def O0 (hT:HT G) (n:Nd) (hz:szN n) (hn:nmT n):Ctr TP G 20 [.d (NdD n)] [] (.d (.bool (AM n 0))) []:=by have h:=Ke (G:=G) hT _ n (Agx _) hz hn 16 (Agx _);rw[show 16-16=0 from rfl] at h;generalize AM n 0=z at *;obtain ⟨k,t,ks,l⟩:=n;refine Ctr.pure (M:=M0) Ak Tryz.func20 rfl go20 ?_;simp(disch:=try exact aa)only[ndC,Tryz.f20,↓Ab,Ad,↓reduceIte,Qu,Qv];exact p7
def Y6 {s:List UInt8} {i:Nat} (h:i<s.length):Oq (s.take (i+1))=Oq (s.take i)++Pg (s.getD i 0):=by have:=TM h;rw[Sb,Sb,Xm] at this;exact this
def Gz (a:List UInt8):(Ar .u8 (AB a)).length=a.length:=jQ
def Ki (s:List UInt8) (hs:s.length<=1000000000):Ctr TP G 72 [.d (S s)] [] (.d (S (Dx s))) []:=by
 refine Ctr.pure (M:=M0) Ak Tryz.func72 rfl go72 ?_;simp(disch:=try exact aa)only[Tryz.f72,↓Ab,Ad,↓reduceIte,Qv];refine Al.fr 1 (α:=Nat × List UInt8) (fun x=>s.length-x.1) (fun x=>[(3,.lsl 0 1 0 x.2.length),(4,.d (.int .i64 x.1))]) (fun x=>[.row false (Ar .u8 (AB x.2))]) (fun x=>x.1<=s.length/\x.2=34::Oq (s.take x.1)) (0,[34]) ⟨Agb _,rfl⟩ ?_ ?_
 ·first
  | exact ⟨[some 0],rfl,lC,gV,by simp[HW,BW,Ar,AB]⟩
 rintro ⟨i,out⟩ ⟨b1,b2⟩;simp only at b1 b2;have lo:out.length<=1+2*i:=by have:=Oo (s.take i);rw[b2,Aev,AgU] at *;omega
 have ol:=Gz out;simp only[Bm,Af1,Af2];rcases Af0 i s.length with h | h
 ·have tk:=Y6 h;have ne:∀ c:UInt8,¬s.getD i 0=c->¬(s.getD i 0).toNat=c.toNat:=fun c e q=>e (UInt8.toNat_inj.1 q);have nx:∀ o,Pg (s.getD i 0)=o->out++o=34::Oq (s.take (i+1)):=fun o e=>by rw[tk,e,b2];rfl
  unfold Pg at nx;by_cases h92:s.getD i 0=92
  ·have en:(s.getD i 0).toNat=92:=congrArg UInt8.toNat h92;simp(disch:=try exact aa)only[Af,ol,en,↓Ab,Ad,↓reduceIte,Qu,Qz];first
   | (refine ⟨lD,(i+1,out++[92,92]),⟨h,nx [92,92] (by rw[if_pos h92])⟩,iz,[some 2],rfl,lC,jR,?_⟩;simp[HW,BW,cut,Ar,AB];done)
  have e92:¬(s.getD i 0).toNat=92:=ne 92 h92;by_cases h34:s.getD i 0=34
  ·have en:(s.getD i 0).toNat=34:=congrArg UInt8.toNat h34;simp(disch:=try exact aa)only[Af,ol,en,↓Ab,Ad,↓reduceIte,Qu,Qz];first
   | (refine ⟨lD,(i+1,out++[92,34]),⟨h,nx [92,34] (by rw[if_neg h92,if_pos h34])⟩,iz,[some 2],rfl,lC,jR,?_⟩;simp[HW,BW,cut,Ar,AB];done)
  have e34:¬(s.getD i 0).toNat=34:=ne 34 h34;by_cases h10:s.getD i 0=10
  ·have en:(s.getD i 0).toNat=10:=congrArg UInt8.toNat h10;simp(disch:=try exact aa)only[Af,ol,en,↓Ab,Ad,↓reduceIte,Qu,Qz];first
   | (refine ⟨lD,(i+1,out++[92,110]),⟨h,nx [92,110] (by rw[if_neg h92,if_neg h34,if_pos h10])⟩,iz,[some 2],rfl,lC,jR,?_⟩;simp[HW,BW,cut,Ar,AB];done)
  have e10:¬(s.getD i 0).toNat=10:=ne 10 h10;by_cases h13:s.getD i 0=13
  ·have en:(s.getD i 0).toNat=13:=congrArg UInt8.toNat h13;simp(disch:=try exact aa)only[Af,ol,en,↓Ab,Ad,↓reduceIte,Qu,Qz];first
   | (refine ⟨lD,(i+1,out++[92,114]),⟨h,nx [92,114] (by rw[if_neg h92,if_neg h34,if_neg h10,if_pos h13])⟩,iz,[some 2],rfl,lC,jR,?_⟩;simp[HW,BW,cut,Ar,AB];done)
  have e13:¬(s.getD i 0).toNat=13:=ne 13 h13;by_cases h9:s.getD i 0=9
  ·have en:(s.getD i 0).toNat=9:=congrArg UInt8.toNat h9;simp(disch:=try exact aa)only[Af,ol,en,↓Ab,Ad,↓reduceIte,Qu,Qz];first
   | (refine ⟨lD,(i+1,out++[92,116]),⟨h,nx [92,116] (by rw[if_neg h92,if_neg h34,if_neg h10,if_neg h13,if_pos h9])⟩,iz,[some 2],rfl,lC,jR,?_⟩;simp[HW,BW,cut,Ar,AB];done)
  have e9:¬(s.getD i 0).toNat=9:=ne 9 h9;simp(disch:=try exact aa)only[Af,ol,↓Ab,Ad,↓reduceIte,Qu];first
  | (refine ⟨(i+1,out++[s.getD i 0]),⟨h,nx _ bm⟩,iz,[some 2],rfl,lC,jR,?_⟩;simp[HW,BW,Ar,AB];done)
  | (refine ⟨lD,(i+1,out++[s.getD i 0]),⟨h,nx _ bm⟩,iz,[some 2],rfl,lC,gV,?_⟩;simp[HW,BW,cut,Ar,AB];done)
 obtain rfl:i=s.length:=lA
 rw[List.take_length] at b2;simp(disch:=try exact aa)only[Af,ol,AA,↓Ab,Ad,↓reduceIte,↓Qe,Qu];have e:Ar .u8 (AB out)++[D.int .u8 34]=Ar .u8 (AB (out++[34])):=jQ
 have cl:cut (Ar .u8 (AB out)++[D.int .u8 34]) 0 (out.length+1)=Ar .u8 (AB (out++[34])):=by rw[e];exact GJ (by rw[Gz,AfI];rfl)
 rw[cl,Cl];refine ⟨by rw[Gz,AfI];rfl,?_⟩;simp only[BK];rw[b2];rfl
def H7:∀ (N:Nat) (a b:Nd),nsz a<=N->szN a->szN b->Ctr TP G 22 [.d (NdD a),.d (NdD b)] [] (.d (.bool (eqN a b))) []
 | 0,a,b,hN,_,_=>by have:=Cv a;omega
 | N+1,a,b,hN,ha,hb=>by
   have hnz:=CK a;obtain ⟨k,t,ks,l⟩:=a;obtain ⟨k2,t2,ks2,l2⟩:=b;obtain ⟨s1,s2,s3,s4,s5⟩:=ha;obtain ⟨q1,q2,q3,q4,q5⟩:=hb;replace hnz:nsz (.mk k t ks l)=1+BG l:=hnz;have ih:∀ c∈l,∀ d∈l2,Ctr TP G 22 [.d (NdD c),.d (NdD d)] [] (.d (.bool (eqN c d))) []:=fun c hc d hd =>H7 N c d g8 (Ft s5 c hc) (Ft q5 d hd)
   obtain ⟨r,hr⟩:∃ r,r=eqN (.mk k t ks l) (.mk k2 t2 ks2 l2):=⟨_,rfl⟩;rw[<-hr];rw[eqN] at hr;refine Ctr.pure (M:=M0) Ak Tryz.func22 rfl go22 ?_;by_cases e1:k=k2
   ·rw[decide_eq_true e1,Aeq] at hr;by_cases e2:t=t2
    ·rw[decide_eq_true e2,Aeq] at hr;simp(disch:=try exact aa)only[Af,ndC,e1,e2,Tryz.f22,↓Ab,Ad,↓reduceIte,Qu,Qv];first
     | (refine Aa.of (VL ks ks2 false false lA lA) lD ?_)
     by_cases e3:ks=ks2
     ·rw[decide_eq_true e3,Aeq] at hr;have nl:=Ax l;have nl2:=Ax l2;by_cases hl:l.length=l2.length
      ·simp(disch:=try exact aa)only[e3,hl,↓Ab,Ad,↓reduceIte,Qu];refine Al.fr 137438953484 (α:=Nat) (fun i=>l.length-i) (fun i=>[(38,.d (.int .i64 i))]) (fun _=>[.box [.d (.int .i64 k2),.d (S t2),.d (Ss ks2 false),.d (.sl l2.length false (AH l))],.box [.d (.int .i64 k2),.d (S t2),.d (Ss ks2 false),.d (.sl l2.length false (AH l2))]]) (fun i=>i<=l.length/\r=GG (l.drop i) (l2.drop i)) 0 ⟨Agb _,hr⟩ ?_ ?_
       ·first
        | exact mV
       rintro i ⟨h1,h2⟩;simp only[Bm,Af1,Af2];rcases Af0 i l.length with h | h
       ·have g1:=Ca h;have g2:=Ca (l:=l2) (k:=i) lA;have hc:=ih _ (Ds (d:=noN) h) _ (Ds (d:=noN) (i:=i) lA);rw[XL h lA] at h2;generalize l.getD i noN=c at *;generalize l2.getD i noN=d at *;obtain ⟨ck,ct,cks,ckl⟩:=c;obtain ⟨dk,dt,dks,dkl⟩:=d;simp(disch:=try exact aa)only[nl,nl2,g1,g2,ndC,↓Ab,Ad,↓reduceIte,Qu];first
        | (refine Aa.of hc lD ?_)
        cases hx:eqN (.mk ck ct cks ckl) (.mk dk dt dks dkl)
        ·rw[hx,Aeu] at h2;simp only[↓Ab,Ad,↓Qe,Qu];first
         | exact h2.symm▸rfl
         | (rw[h2];done)
         | (refine ⟨lD,?_⟩;rw[h2];done)
         | (refine ⟨lD,?_⟩;rw[h2];rfl)
        rw[hx,Aeq] at h2;simp(disch:=try exact aa)only[↓Ab,Ad,Qu];first
        | exact ⟨i+1,⟨h,h2⟩,iz,mV⟩
        | exact ⟨lD,i+1,⟨h,h2⟩,iz,⟨[some 0,some 1],rfl,lC,jR,gU⟩⟩
       rw[Agq h,Agq (by omega:l2.length<=i),show GG [] []=true by rw[GG]] at h2;rw[h2];simp(disch:=try exact aa)only[↓Ab,Ad,↓Qe,Qu];first
       | done
       | rfl
      rw[Ot hl] at hr;subst hr;simp(disch:=try exact aa)only[e3,↓Ab,Ad,↓reduceIte,↓Qe,Qu];first
      | done
      | rfl
     rw[decide_eq_false e3,Aeu] at hr;subst hr;simp only[e3,↓Ab,Ad,↓reduceIte,↓Qe,Qu];first
     | done
     | rfl
    rw[decide_eq_false e2,Aeu] at hr;subst hr;simp(disch:=try exact aa)only[Af,ndC,e1,e2,Tryz.f22,↓Ab,Ad,↓reduceIte,↓Qe,Qu,Qv];first
    | done
    | rfl
   rw[decide_eq_false e1,Aeu] at hr;subst hr;simp(disch:=try exact aa)only[ndC,e1,Tryz.f22,↓Ab,Ad,↓reduceIte,↓Qe,Qu,Qv];first
   | done
   | rfl
abbrev RB7 (s:List UInt8) (i:Nat) (bad:Bool):Ae:=.box [.d (S s),.d (.int .i64 i),.d (.bool bad)]
def Di:List UInt8->Nat
 | []=>0
 | b::_=>b.toNat
def Cn (s r:List UInt8):Nat:=s.length-r.length
def EG {s:List UInt8} {i:Nat} (h:i<s.length):s.drop i=s.getD i 0::s.drop (i+1):=by rw[List.drop_eq_getElem_cons h,Agv,List.getElem?_eq_getElem h];rfl
def CJ {s r:List UInt8} (h:r <:+ s):s.drop (Cn s r)=r/\Cn s r<=s.length:=by obtain ⟨a,rfl⟩:=h;unfold Cn;rw[AfI,Nat.add_sub_cancel];exact ⟨List.drop_left ..,lA⟩
def J5 {s:List UInt8} {i:Nat} (h:i<=s.length):Cn s (s.drop i)=i:=by unfold Cn;rw[AeA];omega
def CX (s:List UInt8):Av s <:+ s:=AgO _
def J8 {b:UInt8}:Fc.contains b=true↔b=32\/b=9\/b=10\/b=13:=by simp[Fc]
def D6 (c:UInt8) (s:List UInt8):(sgn c s).1 <:+ s:=by
 have h:=CX s;rcases En c s with ⟨e,_⟩ | ⟨r,e1,e⟩
 ·rw[e];exact h
 rw[e];rw[e1] at h;exact (Agy c r).trans h
def FQ (s:List UInt8) (i:Nat) (bad:Bool) (hs:s.length<=1000000000) (hi:i<=s.length) :
  Ctr TP G 50 [.ptr 0 0] [RB7 s i bad] (.d (.int .u8 (Di (Av (s.drop i))))) [RB7 s (Cn s (Av (s.drop i))) bad]:=by
 obtain ⟨r,hr⟩:∃ r,r=Av (s.drop i):=⟨_,rfl⟩;rw[<-hr];refine Ctr.body (M:=M0) Ak Tryz.func50 rfl go50 ?_;simp only[Tryz.f50,↓Ab,Ad,Qv];refine Al.fr 1 (α:=Nat) (fun x=>s.length-x) (fun x=>[]) (fun x=>[RB7 s x bad]) (fun x=>x<=s.length/\Av (s.drop x)=r) i ⟨hi,hr.symm⟩ ?_ ?_;·exact nr
 rintro x ⟨b1,b2⟩;simp only[Bm,Af1,Af2];rcases Af0 x s.length with h | h
 ·rw[EG h,GS] at b2;have hne:∀ c:UInt8,¬s.getD x 0=c->¬((s.getD x 0).toNat=c.toNat):=fun c e q=>e (UInt8.toNat_inj.1 q);by_cases hc:Fc.contains (s.getD x 0)=true
  ·rw[if_pos hc] at b2;obtain ⟨c,en,hcc⟩:∃ c:Nat,(s.getD x 0).toNat=c/\(c=32\/c=9\/c=10\/c=13):=by
    rcases J8.1 hc with e | e | e | e
    ·exact ⟨_,congrArg UInt8.toNat e,.inl rfl⟩
    ·exact ⟨_,congrArg UInt8.toNat e,.inr (.inl rfl)⟩
    ·exact ⟨_,congrArg UInt8.toNat e,.inr (.inr (.inl rfl))⟩
    exact ⟨_,congrArg UInt8.toNat e,.inr (.inr (.inr rfl))⟩
   rcases hcc with rfl | rfl | rfl | rfl
   all_goals
    simp(disch:=try exact aa)only[Af,en,↓Ab,Ad,↓reduceIte,Qu];repeat (refine ab ?_ ?_;· rfl)
    first
    | exact ⟨x+1,⟨h,b2⟩,iz,nu⟩
  rw[if_neg hc] at b2;have h32:=hne 32 fun e=>hc (J8.2 (.inl e));have h9:=hne 9 fun e=>hc (J8.2 (.inr (.inl e)));have h10:=hne 10 fun e=>hc (J8.2 (.inr (.inr (.inl e))));have h13:=hne 13 fun e=>hc (J8.2 (.inr (.inr (.inr e))));replace h32:¬(s.getD x 0).toNat=32:=h32;replace h9:¬(s.getD x 0).toNat=9:=h9;replace h10:¬(s.getD x 0).toNat=10:=h10;replace h13:¬(s.getD x 0).toNat=13:=h13;have ep:Cn s r=x:=by rw[<-b2,<-EG h];exact J5 lA
  have eh:Di r=(s.getD x 0).toNat:=by rw[<-b2];rfl
  rw[ep,eh];simp(disch:=try exact aa)only[Af,↓Ab,Ad,↓reduceIte,Qu];repeat (refine ab ?_ ?_;· rfl)
  first
  | exact mY
 obtain rfl:x=s.length:=lA
 rw[AgH] at b2;subst b2;have ep:Cn s (Av [])=s.length:=by unfold Cn;simp[Yl]
 rw[ep];rw[show (Di (Av []):Nat)=0 from rfl];simp(disch:=try exact aa)only[Af,↓Ab,Ad,↓reduceIte,Qu];repeat (refine ab ?_ ?_;· rfl)
 first
 | exact mY
def GV (c:UInt8) (s:List UInt8) (i:Nat) (bad:Bool) (hc0:c≠0) (hs:s.length<=1000000000) (hi:i<=s.length) :
  Ctr TP G 91 [.ptr 0 0,.d (.int .u8 c.toNat)] [RB7 s i bad] (.d (.tup [])) [RB7 s (Cn s (sgn c (s.drop i)).1) (bad || !(sgn c (s.drop i)).2)]:=by
 have sp:=FQ (G:=G) s i bad hs hi;have suf:=CX (s.drop i);have suf2:=CJ (suf.trans (Aew i s));refine Ctr.body (M:=M0) Ak Tryz.func91 rfl go91 ?_;simp only[Tryz.f91,↓Ab,Ad,↓reduceIte,Qu,Qv];refine Aa.by sp lD lD lC ?_;cases hk:Av (s.drop i) with
 | nil =>
  rw[R2 hk];have c0:¬(0:Nat)=c.toNat:=fun e=>hc0 (UInt8.toNat_inj.1 e.symm);have eh:Di []=0:=rfl;simp(disch:=try exact aa)only[eh,↓Ab,Ad,↓reduceIte,Qu];first
  | (refine ⟨[some 0],rfl,lC,gU,.inr ⟨_,rfl,?_,rfl⟩⟩;rfl)
 | cons b r =>
  rw[hk] at suf2;have eh:Di (b::r)=b.toNat:=rfl;by_cases e:b=c
  ·subst e;rw[GU hk];have ep:Cn s r=Cn s (b::r)+1:=by
    have:=suf2.1;have l:=congrArg List.length this;rw[AeA,Aev] at l;unfold Cn at *;rw[Aev] at *;omega
   rw[ep];simp(disch:=try exact aa)only[eh,↓Ab,Ad,↓reduceIte,Qu];first
   | (refine ⟨[some 0],rfl,lC,gU,.inr ⟨_,rfl,?_,rfl⟩⟩;rfl)
  rw[R1 hk e];have en:¬b.toNat=c.toNat:=fun q=>e (UInt8.toNat_inj.1 q);simp(disch:=try exact aa)only[eh,↓Ab,Ad,↓reduceIte,Qu];first
  | (refine ⟨[some 0],rfl,lC,gU,.inr ⟨_,rfl,?_,rfl⟩⟩;rfl)
def To (s:List UInt8):Num.trimL E3 s <:+ s:=AgO _
def ZH {b:UInt8} {r:List UInt8} (h:Num.isD b):Num.trimL E3 (b::r)=Num.trimL E3 r:=by unfold Num.trimL;rw[AgT,show E3.contains b=true from Num.isD_iff.2 h];rfl
def ZG {b:UInt8} {r:List UInt8} (h:¬Num.isD b):Num.trimL E3 (b::r)=b::r:=by
 unfold Num.trimL;rw[AgT,show E3.contains b=false from by
  cases e:E3.contains b with
  | false=>rfl
  | true=>exact absurd (Num.isD_iff.1 e) h]
 rfl
def XI {b:UInt8}:Num.isD b↔48<=b.toNat/\b.toNat<=57:=by unfold Num.isD;exact Iff.rfl
def Sh (s:List UInt8) (i:Nat) (bad:Bool) (hs:s.length<=1000000000) (hi:i<=s.length) :
  Ctr TP G 120 [.ptr 0 0] [RB7 s i bad] (.d (.tup [])) [RB7 s (i+CM (s.drop i)) (bad || decide (CM (s.drop i)=0))]:=by
 obtain ⟨r,hr⟩:∃ r,r=Num.trimL E3 (s.drop i):=⟨_,rfl⟩;have sf:=CJ ((hr▸To (s.drop i)).trans (Aew i s));have rl:r.length<=(s.drop i).length:=by rw[hr];exact (To _).length_le
 have dg:CM (s.drop i)=(s.length-i)-r.length:=by unfold CM;rw[<-hr,AeA]
 rw[AeA] at rl;refine Ctr.body (M:=M0) Ak Tryz.func120 rfl AfH ?_;simp(disch:=try exact aa)only[Tryz.f120,↓Ab,Ad,↓reduceIte,Qu,Qv];refine Al.fr 5 (α:=Nat) (fun x=>s.length-x) (fun x=>[]) (fun x=>[RB7 s x bad]) (fun x=>i<=x/\x<=s.length/\Num.trimL E3 (s.drop x)=r) i ⟨Agx _,hi,hr.symm⟩ ?_ ?_;·exact nr
 rintro x ⟨b0,b1,b2⟩;simp only[Bm,Af1,Af2];have fin:x=Cn s r->i+CM (s.drop i)=x:=fun e=>by unfold Cn at e;omega
 rcases Af0 x s.length with h | h
 ·rw[EG h] at b2;by_cases hd:Num.isD (s.getD x 0)
  ·rw[ZH hd] at b2;obtain ⟨h1,h2⟩:=XI.1 hd;simp(disch:=try exact aa)only[Af,↓Ab,Ad,↓reduceIte,Qu];repeat (refine ab ?_ ?_;· rfl)
   first
   | exact ⟨x+1,⟨lA,h,b2⟩,iz,nu⟩
  rw[ZG hd,<-EG h] at b2;have hd2:=fun q=>hd (XI.2 q);have ex:=fin (by rw[<-b2];exact (J5 lA).symm);rw[ex];have en:∀ q:Prop,[Decidable q]->True:=fun _ _=>trivial;by_cases h48:48<=(s.getD x 0).toNat
  ·have h57:¬(s.getD x 0).toNat<=57:=fun q=>hd2 ⟨h48,q⟩;by_cases hx:x=i
   ·have dz:CM (s.drop i)=0:=lA;rw[decide_eq_true dz];subst hx;cases bad;all_goals
     simp(disch:=try exact aa)only[Af,↓Ab,Ad,↓reduceIte,Qu];repeat (refine ab ?_ ?_;· rfl)
     first
     | (refine ⟨[some 0],rfl,lC,gU,.inr ⟨_,rfl,?_,rfl⟩⟩;rfl)
   have dz:¬CM (s.drop i)=0:=lA;rw[decide_eq_false dz];cases bad;all_goals
    simp(disch:=try exact aa)only[Af,↓Ab,Ad,↓reduceIte,Qu];repeat (refine ab ?_ ?_;· rfl)
    first
    | (refine ⟨[some 0],rfl,lC,gU,.inr ⟨_,rfl,?_,rfl⟩⟩;rfl)
  by_cases hx:x=i
  ·have dz:CM (s.drop i)=0:=lA;rw[decide_eq_true dz];subst hx;cases bad;all_goals
    simp(disch:=try exact aa)only[Af,↓Ab,Ad,↓reduceIte,Qu];repeat (refine ab ?_ ?_;· rfl)
    first
    | (refine ⟨[some 0],rfl,lC,gU,.inr ⟨_,rfl,?_,rfl⟩⟩;rfl)
  have dz:¬CM (s.drop i)=0:=lA
  rw[decide_eq_false dz];cases bad;all_goals
   simp(disch:=try exact aa)only[Af,↓Ab,Ad,↓reduceIte,Qu];repeat (refine ab ?_ ?_;· rfl)
   first
   | (refine ⟨[some 0],rfl,lC,gU,.inr ⟨_,rfl,?_,rfl⟩⟩;rfl)
 obtain rfl:x=s.length:=lA
 have er:r=[]:=by rw[<-b2,AgH];rfl
 have ex:=fin (by rw[er];unfold Cn;simp);rw[ex];by_cases hx:s.length=i
 ·have dz:CM (s.drop i)=0:=by omega
  rw[decide_eq_true dz];cases bad;all_goals
   simp(disch:=try exact aa)only[Af,hx,↓Ab,Ad,↓reduceIte,Qu];repeat (refine ab ?_ ?_;· rfl)
   first
   | (refine ⟨[some 0],rfl,lC,gU,.inr ⟨_,rfl,?_,rfl⟩⟩;rfl)
 have dz:¬CM (s.drop i)=0:=lA
 rw[decide_eq_false dz];cases bad;all_goals
  simp(disch:=try exact aa)only[Af,↓Ab,Ad,↓reduceIte,Qu];repeat (refine ab ?_ ?_;· rfl)
  first
  | (refine ⟨[some 0],rfl,lC,gU,.inr ⟨_,rfl,?_,rfl⟩⟩;rfl)
def quR:List UInt8->List UInt8
 | []=>[]
 | [c]=>if c=34 then [] else if c<32 then [c] else []
 | c::e::r=>if c=34 then e::r else if c<32 then c::e::r else if c=92 then (if FG e=0 then e::r else quR r) else quR (e::r)
def Sk:∀ s:List UInt8,quR s <:+ s
 | []=>by rw[quR];exact AgI _
 | [c]=>by
   rw[quR];split;·exact AgN
   split;·exact AgI _
   exact AgN
 | c::e::r=>by
   have h1:=Sk r;have h2:=Sk (e::r);rw[quR];split;·exact Agy _ _
   split;·exact AgI _
   split
   ·split;·exact Agy _ _
    exact h1.trans ((Agy e r).trans (Agy c _))
   exact h2.trans (Agy c _)
def VV:∀ (s out:List UInt8),(CF s out).2.2=true->(CF s out).1=quR s
 | [],out=>by rw[H8];intro h;cases h
 | [c],out=>by
   rw[CF,quR];split;·intro _;rfl
   intro h;cases h
 | c::e::r,out=>by
   have h1:=fun o=>VV r o;have h2:=fun o=>VV (e::r) o;rw[CF,quR];split;·intro _;rfl
   split;·intro h;cases h
   split
   ·split;·intro h;cases h
    exact h1 _
   exact h2 _
end
section
open Go Go.Proofs Go.Abs
inductive RSt where
 | beg (rest:List UInt8) (st:List Nd)
 | got (rest:List UInt8) (st:List Nd) (n:Nd)
 | bad (rest:List UInt8)
def txR (r:List UInt8):List UInt8:=if (sgn 34 r).2=true then quR (sgn 34 r).1 else (sgn 34 r).1
def Pc (r:List UInt8) (t:Nd) (st:List Nd):RSt :=
 if ((quo r).2.2 && (sgn 58 (txR r)).2)=true then .beg (sgn 58 (txR r)).1 (BH t (quo r).2.1::st) else .bad (sgn 58 (txR r)).1
def d1R (r:List UInt8):Nat:=CM (r.drop (B3 r))
def d2R (r:List UInt8):Nat:=CM (r.drop (B3 r+d1R r+1))
def HU (r:List UInt8):List UInt8 × Nd × Bool :=
 if hasP r Eu=true then (r.drop 4,.mk 1 [] [] [],false)
 else if hasP r D2=true then (r.drop 4,.mk 2 D2 [] [],false)
 else if hasP r Ee=true then (r.drop 5,.mk 2 Ee [] [],false)
 else if hasP (r.drop (B3 r+d1R r)) [46]=true then (r.drop (B3 r+d1R r+1+d2R r),.mk 3 (r.take (B3 r+d1R r+1+d2R r)) [] [],decide (d1R r=0) || decide (d2R r=0))
 else (r.drop (B3 r+d1R r),.mk 3 (r.take (B3 r+d1R r)) [] [],decide (d1R r=0))
def O8 (k:Int) (r:List UInt8) (st:List Nd):RSt :=
 if (sgn (AC k) r).2=true then .got (sgn (AC k) r).1 st (.mk k [] [] []) else if k=5 then .beg (Av r) (.mk k [] [] []::st) else Pc (Av r) (.mk k [] [] []) st
def Ei (r:List UInt8) (st:List Nd):RSt :=
 if hasP (Av r) [91]=true then O8 5 ((Av r).drop 1) st
 else if hasP (Av r) [123]=true then O8 6 ((Av r).drop 1) st
 else if hasP (Av r) [34]=true then (if (quo (Av r)).2.2=true then .got (txR (Av r)) st (.mk 4 (quo (Av r)).2.1 [] []) else .bad (txR (Av r)))
 else if (HU (Av r)).2.2=true then .bad (HU (Av r)).1 else .got (HU (Av r)).1 st (HU (Av r)).2.1
def EL (r:List UInt8) (t:Nd) (st:List Nd) (n:Nd):RSt :=
 if (sgn 44 r).2=true then (if t.kind=6 then Pc (sgn 44 r).1 (AE t n) st else .beg (sgn 44 r).1 (AE t n::st))
 else if (sgn (AC t.kind) (Av r)).2=true then .got (sgn (AC t.kind) (Av r)).1 st (AE t n) else .bad (sgn (AC t.kind) (Av r)).1
def muR:RSt->Nat
 | .beg r _=>r.length+2
 | .got r _ _=>r.length+2
 | .bad _=>1
def toP:RSt->PSt
 | .beg r st=>.beg r st
 | .got r st n=>.got r st n
 | .bad _=>.bad
def XC (x:RSt):muR x=muP (toP x):=by cases x<;>rfl
def okK:RSt->Prop
 | .beg _ st=>∀ t∈st,t.kind=5\/t.kind=6
 | .got _ st _=>∀ t∈st,t.kind=5\/t.kind=6
 | .bad _=>True
def Z5 (s:List UInt8):Av (Av s)=Av s:=VD s
def AdF (c:UInt8) (s:List UInt8):sgn c (Av s)=sgn c s:=by unfold sgn;rw[Z5]
def Adf {r:List UInt8} (h:(quo r).2.2=true):(quo r).1=txR r:=by
 unfold quo txR at *;split at h;·rename_i e;rw[if_pos e,if_pos e];exact VV _ _ h
 cases h
def TD {c:UInt8} {s:List UInt8} (h:¬(sgn c s).2=true):(sgn c s).1=Av s:=by
 rcases En c s with ⟨e,_⟩ | ⟨r,_,e⟩
 ·rw[e]
 rw[e] at h;exact absurd rfl h
def XF (r:List UInt8) (t:Nd) (st:List Nd) (h:t.kind≠5):toP (Pc r t st)=EW r t st:=by
 unfold Pc EW;rw[if_neg h];by_cases q:(quo r).2.2=true
 ·rw[<-Adf q];by_cases q2:(sgn 58 (quo r).1).2=true;·rw[if_pos (by rw[q,q2];rfl),if_pos ⟨q,q2⟩];rfl
  rw[if_neg (by rw[q,Aeq];exact q2),if_neg fun c=>q2 c.2];rfl
 rw[if_neg (by rw[Bool.and_eq_true];exact fun c=>q c.1),if_neg fun c=>q c.1];rfl
def Xs (k:Int) (hk:k=5\/k=6) (r:List UInt8) (st:List Nd):toP (O8 k r st)=Ht k r st:=by
 unfold O8 Ht;by_cases h:(sgn (AC k) r).2=true;·rw[if_pos h,if_pos h];rfl
 rw[if_neg h,if_neg h,TD h];rcases hk with rfl | rfl
 ·rw[if_pos rfl];rfl
 rw[if_neg lz,XF _ _ _ (by show (6:Int)≠5;decide)]
def SB {c:UInt8} {s:List UInt8}:hasP s [c]=true↔∃ r,s=c::r:=by
 constructor
 ·intro h;have e:=of_decide_eq_true h;cases s with
  | nil=>simp at e
  | cons b r=>simp at e;exact ⟨r,lB⟩
 rintro ⟨r,rfl⟩;unfold hasP;simp
def Xg {c:UInt8} {s:List UInt8} (h:hasP (Av s) [c]=true):sgn c s=((Av s).drop 1,true):=by obtain ⟨r,e⟩:=SB.1 h;rw[GU e,e];rfl
def Nu {c:UInt8} {s:List UInt8} (h:¬hasP (Av s) [c]=true):sgn c s=(Av s,false):=by
 rcases En c s with ⟨e,_⟩ | ⟨r,e1,e⟩
 ·exact e
 exact absurd (SB.2 ⟨r,e1⟩) h
def S9 (r:List UInt8) (st:List Nd):toP (Ei r st)=Ez r st\/(toP (Ei r st)=.bad/\∃ q n,Ez r st=.got (46::q) st n):=by
 unfold Ei Ez;by_cases h1:hasP (Av r) [91]=true;·left;rw[if_pos h1,Xg h1,if_pos rfl,Xs 5 (.inl rfl)]
 rw[if_neg h1,Nu h1];simp only[AgG,if_false];rw[AdF];by_cases h2:hasP (Av r) [123]=true;·left;rw[if_pos h2,Xg h2,if_pos rfl,Xs 6 (.inr rfl)]
 rw[if_neg h2,Nu h2];simp only[AgG,if_false];unfold Gc;rw[Z5];generalize Av r=w;by_cases h3:hasP w [34]=true
 ·left;rw[if_pos h3,if_pos h3];by_cases q:(quo w).2.2=true;·rw[if_pos q,if_pos q,Adf q];rfl
  rw[if_neg q,if_neg q];rfl
 rw[if_neg h3,if_neg h3];unfold HU;by_cases n1:hasP w Eu=true;·left;rw[if_pos n1,if_pos n1];rfl
 rw[if_neg n1,if_neg n1];by_cases n2:hasP w D2=true;·left;rw[if_pos n2,if_pos n2];rfl
 rw[if_neg n2,if_neg n2];by_cases n3:hasP w Ee=true;·left;rw[if_pos n3,if_pos n3];rfl
 rw[if_neg n3,if_neg n3];have nd:O9 w=if d1R w=0 then 0 else if hasP (w.drop (B3 w+d1R w)) [46]=true/\0<d2R w then B3 w+d1R w+(1+d2R w) else B3 w+d1R w:=rfl
 by_cases z:d1R w=0
 ·left;rw[if_pos z] at nd;rw[nd];by_cases hp:hasP (w.drop (B3 w+d1R w)) [46]=true;·rw[if_pos hp,decide_eq_true z];rfl
  rw[if_neg hp,decide_eq_true z];rfl
 rw[if_neg z] at nd;by_cases hp:hasP (w.drop (B3 w+d1R w)) [46]=true
 ·rw[if_pos hp,decide_eq_false z];by_cases z2:d2R w=0;·right;rw[if_neg lA] at nd;obtain ⟨q,hq⟩:=SB.1 hp;rw[nd,decide_eq_true (show 0<B3 w+d1R w by omega),decide_eq_true z2,hq];exact ⟨rfl,q,_,rfl⟩
  left;rw[if_pos ⟨hp,lA⟩] at nd;rw[nd,decide_eq_true (show 0<B3 w+d1R w+(1+d2R w) by omega),decide_eq_false z2,show B3 w+d1R w+(1+d2R w)=B3 w+d1R w+1+d2R w by omega];rfl
 left;rw[if_neg fun c=>hp c.1] at nd;rw[if_neg hp,decide_eq_false z,nd,decide_eq_true (show 0<B3 w+d1R w by omega)];rfl
def SC (r:List UInt8) (t:Nd) (st:List Nd) (n:Nd) (ht:t.kind=5\/t.kind=6):toP (EL r t st n)=Je r t st n:=by
 unfold EL Je;by_cases h:(sgn 44 r).2=true
 ·rw[if_pos h,if_pos h];rcases ht with e | e
  ·rw[if_neg lA,EW,if_pos (show (AE t n).kind=5 from e)];rfl
  rw[if_pos e,XF _ _ _ (by show t.kind≠5;omega)]
 rw[if_neg h,if_neg h,TD h];split<;>rfl
def AaW {r:List UInt8} {t:Nd} {st:List Nd} (ht:t.kind=5\/t.kind=6) (h:∀ t∈st,t.kind=5\/t.kind=6):okK (Pc r t st):=by
 unfold Pc;split
 ·intro x hx;rcases Aex.1 hx with rfl | hx
  ·exact ht
  exact h x hx
 trivial
def MO {r:List UInt8} {st:List Nd} (h:∀ t∈st,t.kind=5\/t.kind=6):okK (Ei r st):=by
 have op:∀ k r,(k=5\/k=6)->okK (O8 k r st):=fun k r hk=>by
  unfold O8;split;·exact h
  split
  ·intro x hx;rcases Aex.1 hx with rfl | hx
   ·exact hk
   exact h x hx
  exact AaW hk h
 unfold Ei;split;·exact op 5 _ (.inl rfl)
 split;·exact op 6 _ (.inr rfl)
 split
 ·split;·exact h
  trivial
 split;·trivial
 exact h
def MN {r:List UInt8} {t:Nd} {st:List Nd} {n:Nd} (h:∀ x∈t::st,x.kind=5\/x.kind=6):okK (EL r t st n):=by
 have ht:=h t lC;have hs:=fun x hx=>h x (AbZ _ hx);unfold EL;split
 ·split;·exact AaW ht hs
  intro x hx;rcases Aex.1 hx with rfl | hx
  ·exact ht
  exact hs x hx
 split;·exact hs
 trivial
def Kh:Nat->RSt->List UInt8 × Bool × Nd
 | 0,_=>([],true,noN)
 | k+1,x=>match x with
   | .bad r=>(r,true,noN)
   | .beg r st=>Kh k (Ei r st)
   | .got r [] n=>(r,false,n)
   | .got r (t::st) n=>Kh k (EL r t st n)
def J7 (r:List UInt8) (st:List Nd):muR (Ei r st)<r.length+2:=by
 rw[XC];rcases S9 r st with h | ⟨h,_⟩
 ·rw[h];exact M8 r st
 rw[h];show 1<_;omega
def J6 (r:List UInt8) (t:Nd) (st:List Nd) (n:Nd) (ht:t.kind=5\/t.kind=6):muR (EL r t st n)<r.length+2:=by rw[XC,SC r t st n ht];exact Kx r t st n
def IR:∀ (a b:Nat) (x:RSt),okK x->muR x<=a->muR x<=b->Kh a x=Kh b x
 | 0,_,x,_,h,_=>fZ
 | _,0,x,_,_,h=>fZ
 | a+1,b+1,x,hk,ha,hb=>by
   cases x with
   | bad r=>rfl
   | beg r st =>have:=J7 r st;simp only[muR] at ha hb;exact IR a b (Ei r st) (MO hk) lA lA
   | got r st n =>
    cases st with
    | nil=>rfl
    | cons t st =>have:=J6 r t st n (hk t lC);simp only[muR] at ha hb;exact IR a b (EL r t st n) (MN hk) lA lA
def Gv (x:RSt):List UInt8 × Bool × Nd:=Kh (muR x) x
def Aai {r:List UInt8} {st:List Nd} (h:∀ t∈st,t.kind=5\/t.kind=6):Gv (.beg r st)=Gv (Ei r st):=by have:=J7 r st;exact IR (r.length+1) _ (Ei r st) (MO h) lA (Agx _)
def Aah {r:List UInt8} {t:Nd} {st:List Nd} {n:Nd} (h:∀ x∈t::st,x.kind=5\/x.kind=6):Gv (.got r (t::st) n)=Gv (EL r t st n):=by have:=J6 r t st n (h t lC);exact IR (r.length+1) _ (EL r t st n) (MN h) lA (Agx _)
def UG (data:List UInt8) (o:Option (List UInt8 × Nd)):Nd × Int:=match o with
 | none=>(noN,4)
 | some (r,n)=>if Lib.validD data=true/\Av r=[] then (if AM n 0=true then (n,0) else (noN,1)) else (noN,4)
def YE (data:List UInt8):FA data=UG data (Es (.beg data [])):=rfl
def AcS (data q:List UInt8) (st:List Nd) (n:Nd):UG data (Es (.got (46::q) st n))=(noN,4):=by
 cases st with
 | nil =>rw[Aaj];unfold UG;simp only;rw[if_neg fun c=>by have:=c.2;rw[Xd lz] at this;cases this]
 | cons t st =>
  have e:Je (46::q) t st n=.bad:=by unfold Je;rw[Xf lz lz];simp only[AgG,if_false];have:sgn (AC t.kind) (46::q)=(46::q,false):=Xf lz (by unfold AC;split<;>decide) q;rw[this];rfl
  rw[Km,e];rfl
def R7 (data:List UInt8):∀ (k:Nat) (x:RSt),muR x<=k->okK x->((Kh k x).2.1=true->UG data (Es (toP x))=(noN,4))/\((Kh k x).2.1=false->Es (toP x)=some ((Kh k x).1,(Kh k x).2.2))
 | 0,x,h,_=>fZ
 | k+1,x,h,hk=>by
   cases x with
   | bad r=>exact ⟨(fun _=>rfl),(fun e=>lh)⟩
   | beg r st =>
    have m:=J7 r st;simp only[muR] at h;obtain ⟨i1,i2⟩:=R7 data k (Ei r st) lA (MO hk);show ((Kh k (Ei r st)).2.1=true->UG data (Es (.beg r st))=_)/\((Kh k (Ei r st)).2.1=false->Es (.beg r st)=_)
    rw[TU];rcases S9 r st with e | ⟨e,q,n,e2⟩
    ·rw[<-e];exact ⟨i1,i2⟩
    refine ⟨fun _=>by rw[e2];exact AcS data q st n,fun c=>?_⟩;have:=i2 c;rw[e,Gw] at this;cases this
   | got r st n =>
    cases st with
    | nil=>exact ⟨(fun c=>by cases c),(fun _=>rfl)⟩
    | cons t st =>
     have m:=J6 r t st n (hk t lC);simp only[muR] at h;obtain ⟨i1,i2⟩:=R7 data k (EL r t st n) lA (MN hk);show ((Kh k (EL r t st n)).2.1=true->UG data (Es (.got r (t::st) n))=_)/\((Kh k (EL r t st n)).2.1=false->Es (.got r (t::st) n)=_)
     rw[Km,<-SC r t st n (hk t lC)];exact ⟨i1,i2⟩
end
section
open Go Go.Proofs Go.Abs
variable {G:Ah}
def AdM {s:List UInt8} {x:Nat} (h:x<s.length):quR (s.drop x)=if s.getD x 0=34 then s.drop (x+1) else if s.getD x 0<32 then s.drop x else if s.getD x 0=92 then (if x+1<s.length then (if FG (s.getD (x+1) 0)=0 then s.drop (x+1) else quR (s.drop (x+2))) else s.drop (x+1)) else quR (s.drop (x+1)):=by
 rw[EG h];rcases Af0 (x+1) s.length with h2 | h2
 ·rw[EG h2,quR,if_pos h2]
 rw[Agq h2,if_neg (show ¬x+1<s.length by omega)];generalize s.getD x 0=c;by_cases a:c=34<;>by_cases b:c<32<;>by_cases d:c=92<;>simp[a,b,d,quR]
def Acr {s:List UInt8} {x:Nat} (h:x<s.length) (out:List UInt8):(CF (s.drop x) out).2=if s.getD x 0=34 then (out,true) else if s.getD x 0<32 then ([],false) else if s.getD x 0=92 then (if x+1<s.length then (if FG (s.getD (x+1) 0)=0 then ([],false) else (CF (s.drop (x+2)) (out++[FG (s.getD (x+1) 0)])).2) else ([],false)) else (CF (s.drop (x+1)) (out++[s.getD x 0])).2:=by
 rw[EG h];rcases Af0 (x+1) s.length with h2 | h2
 ·rw[EG h2,CF,if_pos h2];split;·rfl
  split;·rfl
  split
  ·split;·rfl
   rfl
  rfl
 rw[Agq h2,if_neg (show ¬x+1<s.length by omega)];generalize s.getD x 0=c;by_cases a:c=34<;>by_cases b:c<32<;>by_cases d:c=92<;>simp[a,b,d,CF]
def Wr (e:UInt8):(∃ (v:UInt8) (c d:Nat),FG e=v/\v≠0/\e.toNat=c/\v.toNat=d/\((c=92/\d=92)\/(c=34/\d=34)\/(c=110/\d=10)\/(c=114/\d=13)\/(c=116/\d=9))) \/
  (FG e=0/\¬e.toNat=92/\¬e.toNat=34/\¬e.toNat=110/\¬e.toNat=114/\¬e.toNat=116):=by
 have ne:∀ c:UInt8,¬e=c->¬e.toNat=c.toNat:=fun c h q=>h (UInt8.toNat_inj.1 q);by_cases h1:e=92;·subst h1;exact .inl ⟨92,92,92,rfl,lz,rfl,rfl,.inl ⟨rfl,rfl⟩⟩
 by_cases h2:e=34;·subst h2;exact .inl ⟨34,34,34,rfl,lz,rfl,rfl,.inr (.inl ⟨rfl,rfl⟩)⟩
 by_cases h3:e=110;·subst h3;exact .inl ⟨10,110,10,rfl,lz,rfl,rfl,.inr (.inr (.inl ⟨rfl,rfl⟩))⟩
 by_cases h4:e=114;·subst h4;exact .inl ⟨13,114,13,rfl,lz,rfl,rfl,.inr (.inr (.inr (.inl ⟨rfl,rfl⟩)))⟩
 by_cases h5:e=116;·subst h5;exact .inl ⟨9,116,9,rfl,lz,rfl,rfl,.inr (.inr (.inr (.inr ⟨rfl,rfl⟩)))⟩
 exact .inr ⟨by unfold FG;rw[if_neg h1,if_neg h2,if_neg h3,if_neg h4,if_neg h5],ne 92 h1,ne 34 h2,ne 110 h3,ne 114 h4,ne 116 h5⟩
def Cs {s:List UInt8} {x:Nat} (h:x<=s.length):Cn s (s.drop x)=x:=J5 h
def R9 (s:List UInt8) (i:Nat) (hs:s.length<=1000000000) (hi:i<=s.length) :
  Ctr TP G 90 [.ptr 0 0] [RB7 s i false] (.d (S (quo (s.drop i)).2.1)) [RB7 s (Cn s (if (sgn 34 (s.drop i)).2=true then quR (sgn 34 (s.drop i)).1 else (sgn 34 (s.drop i)).1)) (!(quo (s.drop i)).2.2)]:=by
 have tk:=GV (G:=G) 34 s i false lz hs hi;rw[AgM] at tk;have sf:=CJ ((D6 34 (s.drop i)).trans (Aew i s));unfold quo;generalize sgn 34 (s.drop i)=g at *;obtain ⟨g1,g2⟩:=g;simp only at tk sf ⊢;obtain ⟨sf1,sf2⟩:=sf;generalize Cn s g1=p at *;refine Ctr.body (M:=M0) Ak Tryz.func90 rfl go90 ?_;simp only[Tryz.f90,↓Ab,Ad,↓reduceIte,Qv];refine Aa.by tk lD lD lC ?_;cases g2
 ·simp only[AgG,if_false,Bool.not_false];have ep:Cn s g1=p:=by rw[<-sf1];exact J5 sf2
  rw[ep];simp(disch:=try exact aa)only[↓Ab,Ad,↓reduceIte];refine Al.fr 1 (α:=Unit) (fun x=>0) (fun x=>[]) (fun x=>[RB7 s p true]) (fun _=>True) () trivial ?_ ?_
  ·first
   | exact nr
  intro _ _;simp only[Bm,Af1,Af2];simp(disch:=try exact aa)only[↓Ab,Ad,↓reduceIte,Qu];repeat (refine ab ?_ ?_;· rfl)
  first
  | exact mj
 simp only[if_true,Bool.not_true];obtain ⟨Q,hQ⟩:∃ Q,Q=(CF g1 []).2:=⟨_,rfl⟩;obtain ⟨R,hR⟩:∃ R,R=quR g1:=⟨_,rfl⟩;rw[<-hQ,<-hR];simp(disch:=try exact aa)only[↓Ab,Ad,↓reduceIte];refine Al.fr 1 (α:=Nat × List UInt8) (fun x=>s.length-x.1) (fun x=>[(3,.lsl 1 1 0 x.2.length)]) (fun x=>[RB7 s x.1 false,.row false (Ar .u8 (AB x.2))]) (fun x=>x.1<=s.length/\x.2.length<=x.1/\Q=(CF (s.drop x.1) x.2).2/\R=quR (s.drop x.1)) (p,[]) ⟨sf2,Agb _,by rw[sf1];exact hQ,by rw[sf1];exact hR⟩ ?_ ?_
 ·first
  | exact ⟨[some 0,none],rfl,lC,gV,by simp[HW,BW,SW,AW,Ar,AB]⟩
 rintro ⟨x,out⟩ ⟨b1,b0,b2,b3⟩;simp only at b0 b1 b2 b3;clear hQ hR;have ol:=Gz out;simp only[Bm,Af1,Af2];rcases Af0 x s.length with h | h
 ·rw[Acr h] at b2;rw[AdM h] at b3;have pd:=Cs (s:=s) (x:=x) b1;have pd1:=Cs (s:=s) (x:=x+1) h;have ne:∀ (y:Nat) (c:UInt8),¬s.getD y 0=c->¬(s.getD y 0).toNat=c.toNat:=fun y c e q=>e (UInt8.toNat_inj.1 q);by_cases h34:s.getD x 0=34
  ·rw[if_pos h34] at b2 b3;have en:(s.getD x 0).toNat=34:=(by rw[h34];rfl)
   subst b2;subst b3;rw[pd1];have tk:AgS out.length (AB out)=AB out:=Af7 (by rw[Bh];exact Agx _);simp(disch:=try exact aa)only[Af,en,↓Ab,Ad,↓reduceIte,Qu];rw[tk,Cl];simp only[BK];repeat (refine ab ?_ ?_;· rfl)
   first
   | exact mj
  rw[if_neg h34] at b2 b3;have e34:¬(s.getD x 0).toNat=34:=ne x 34 h34;by_cases h32:s.getD x 0<32
  ·rw[if_pos h32] at b2 b3;have e32:(s.getD x 0).toNat<32:=UInt8.lt_iff_toNat_lt.1 h32;subst b2;subst b3;rw[pd];simp(disch:=try exact aa)only[Af,↓Ab,Ad,↓reduceIte,Qu];repeat (refine ab ?_ ?_;· rfl)
   first
   | exact mj
  rw[if_neg h32] at b2 b3;have e32:¬(s.getD x 0).toNat<32:=fun q=>h32 (UInt8.lt_iff_toNat_lt.2 q);by_cases h92:s.getD x 0=92
  ·rw[if_pos h92] at b2 b3;have en:(s.getD x 0).toNat=92:=(by rw[h92];rfl)
   rcases Af0 (x+1) s.length with h2 | h2
   ·rw[if_pos h2] at b2 b3;have pd2:=Cs (s:=s) (x:=x+2) h2;rcases Wr (s.getD (x+1) 0) with ⟨v,c,d,q1,q2,en2,vd,hcd⟩ | ⟨q1,n1,n2,n3,n4,n5⟩
    ·rw[q1,if_neg q2] at b2;rw[q1,if_neg q2] at b3;rcases hcd with ⟨rfl,rfl⟩ | ⟨rfl,rfl⟩ | ⟨rfl,rfl⟩ | ⟨rfl,rfl⟩ | ⟨rfl,rfl⟩
     all_goals
      simp(disch:=try exact aa)only[Af,en,en2,ol,↓Ab,Ad,↓reduceIte,Qu];repeat (refine ab ?_ ?_;· rfl)
      first
      | (refine ⟨(x+1+1,out++[v]),⟨h2,jW,b2,b3⟩,iz,[some 0,some 3],rfl,lC,?_,?_⟩<;>(simp[HW,BW,SW,AW,Ar,AB,vd];done))
    rw[if_pos q1] at b2 b3;subst b2;subst b3;rw[pd1];simp(disch:=try exact aa)only[Af,en,↓Ab,Ad,↓reduceIte,Qu];repeat (refine ab ?_ ?_;· rfl)
    first
    | exact mj
   rw[if_neg lA] at b2 b3;subst b2;subst b3;rw[pd1];simp(disch:=try exact aa)only[Af,en,↓Ab,Ad,↓reduceIte,Qu];repeat (refine ab ?_ ?_;· rfl)
   first
   | exact mj
  rw[if_neg h92] at b2 b3;have e92:¬(s.getD x 0).toNat=92:=ne x 92 h92;simp(disch:=try exact aa)only[Af,ol,↓Ab,Ad,↓reduceIte,Qu];repeat (refine ab ?_ ?_;· rfl)
  first
  | exact ⟨(x+1,out++[s.getD x 0]),⟨h,jW,b2,b3⟩,iz,[some 0,some 3],rfl,lC,jR,by simp[HW,BW,SW,AW,Ar,AB]⟩
 obtain rfl:x=s.length:=lA
 rw[AgH,H8] at b2;rw[AgH,quR] at b3;subst b2;subst b3;have ep:Cn s []=s.length:=by unfold Cn;simp
 rw[ep];simp(disch:=try exact aa)only[Af,AA,↓Ab,Ad,↓reduceIte,Qu];repeat (refine ab ?_ ?_;· rfl)
 first
 | exact mj
def Ab9 {s:List UInt8} {i k:Nat}:(s.drop i).take k=(s.take (i+k)).drop i:=by rw[List.take_drop]
def M7:(⟨#[110,117,108,108]⟩:ByteArray)=bs Eu:=rfl
def Ac1:(⟨#[116,114,117,101]⟩:ByteArray)=bs D2:=rfl
def AbA:(⟨#[102,97,108,115,101]⟩:ByteArray)=bs Ee:=rfl
def GP:List (List UInt8):=[Eu,D2,Ee]
def VN (s:List UInt8) (i:Nat) (hs:s.length<=1000000000) (hi:i<=s.length) (hk:Av (s.drop i)=s.drop i) :
  Ctr TP G 92 [.ptr 0 0] [RB7 s i false] (.d (NdD (HU (s.drop i)).2.1)) [RB7 s (Cn s (HU (s.drop i)).1) (HU (s.drop i)).2.2]:=by
 have sp:=FQ (G:=G) s i false hs hi;rw[hk,Cs hi] at sp;have dg:=fun j bad hj=>Sh (G:=G) s j bad hs hj;obtain ⟨r,hr⟩:∃ r,r=HU (s.drop i):=⟨_,rfl⟩;rw[<-hr];refine Ctr.body (M:=M0) Ak Tryz.func92 rfl go92 ?_;simp(disch:=try exact aa)only[Tryz.f92,M7,Ac1,AbA,↓Ab,Ad,↓reduceIte,Qu,Qv,Qz];obtain ⟨rest,hrest⟩:∃ rest,rest=s.drop i:=⟨_,rfl⟩;have rd:∀ k,rest.drop k=s.drop (i+k):=fun k=>by rw[hrest,AgD]
 have rk:∀ k,rest.take k=(s.take (i+k)).drop i:=fun k=>by rw[hrest,Ab9]
 rw[<-hrest] at hr sp;have sw:(strs GP).length=3:=rfl;have tn:(D2=Eu)=False:=eq_false lz;have fn:(Ee=Eu)=False:=eq_false lz;refine Al.fr 389 (α:=Nat) (fun x=>3-x) (fun x=>[(9,.d (.int .i64 x))]) (fun x=>[RB7 s i false,.box zN7,.row false (strs GP)]) (fun x=>x<=3/\∀ j,j<x->hasP rest (GP.getD j [])=false) 0 ⟨Agb _,fun j h=>absurd h (Nat.not_lt_zero _)⟩ ?_ ?_
 ·first
  | exact ⟨[some 0,some 1,some 2],rfl,lC,gV,by simp[HW,BW,SW,AW];rfl⟩
 rintro x ⟨b1,b2⟩;simp only[Bm,Af1,Af2];rcases Af0 x 3 with h | h
 ·have gw:=strs_getD (l:=GP) h;obtain ⟨w,hw⟩:∃ w,w=GP.getD x []:=⟨_,rfl⟩;have hwc:(x=0/\w=Eu)\/(x=1/\w=D2)\/(x=2/\w=Ee):=by
   rcases (by omega:x=0\/x=1\/x=2) with rfl | rfl | rfl
   ·exact .inl ⟨rfl,hw⟩
   ·exact .inr (.inl ⟨rfl,hw⟩)
   exact .inr (.inr ⟨rfl,hw⟩)
  have lw:w.length<=5:=by rcases hwc with ⟨_,rfl⟩ | ⟨_,rfl⟩ | ⟨_,rfl⟩<;>decide
  rw[<-hw] at gw;cases hm:hasP rest w with
  | false =>
   have hm2:¬(s.take (i+w.length)).drop i=w:=fun e=>by unfold hasP at hm;rw[rk] at hm;exact absurd e (of_decide_eq_false hm)
   have nx:∀ j,j<x+1->hasP rest (GP.getD j [])=false:=fun j hj=>by
    rcases Af0 j x with q | q
    ·exact b2 j q
    obtain rfl:j=x:=lA
    rw[<-hw];exact hm
   rcases Af0 s.length (i+w.length) with hle | hle
   ·simp(disch:=try exact aa)only[Af,sw,gw,↓Ab,Ad,↓reduceIte,Qu];repeat (refine ab ?_ ?_;· rfl)
    first
    | exact ma
   simp(disch:=try exact aa)only[Af,sw,gw,hm2,↓Ab,Ad,↓reduceIte,Qu];repeat (refine ab ?_ ?_;· rfl)
   first
   | exact ma
  | true =>
   have hm2:(s.take (i+w.length)).drop i=w:=(by unfold hasP at hm;rw[rk] at hm;exact of_decide_eq_true hm);have hle:i+w.length<=s.length:=(by have:=hasP_le hm;rw[hrest,AeA] at this;omega);have b2':∀ j,j<x->hasP rest (GP.getD j [])=false:=b2;rcases hwc with ⟨hx,rfl⟩ | ⟨hx,rfl⟩ | ⟨hx,rfl⟩
   ·have er:r=(rest.drop 4,.mk 1 [] [] [],false):=(by rw[hr,HU,if_pos hm]);have l4:Eu.length=4:=rfl;rw[l4] at hm2 hle;rw[er,rd];have ep:=Cs (s:=s) (x:=i+4) hle;simp only;rw[ep];simp(disch:=try exact aa)only[Af,sw,gw,hm2,l4,↓Ab,Ad,↓reduceIte,Qu];repeat (refine ab ?_ ?_;· rfl)
    first
    | (refine ⟨[some 0],rfl,lC,gU,.inr ⟨_,rfl,?_,rfl⟩⟩;rfl)
   ·have p0:¬hasP rest Eu=true:=bq;have er:r=(rest.drop 4,.mk 2 D2 [] [],false):=(by rw[hr,HU,if_neg p0,if_pos hm]);have l4:D2.length=4:=rfl;rw[l4] at hm2 hle;rw[er,rd];have ep:=Cs (s:=s) (x:=i+4) hle;simp only;rw[ep];simp(disch:=try exact aa)only[Af,sw,gw,hm2,l4,tn,↓Ab,Ad,↓reduceIte,Qu];repeat (refine ab ?_ ?_;· rfl)
    first
    | (refine ⟨[some 0],rfl,lC,gU,.inr ⟨_,rfl,?_,rfl⟩⟩;rfl)
   have p0:¬hasP rest Eu=true:=bq;have p1:¬hasP rest D2=true:=(by rw[show hasP rest D2=false from b2' 1 lA];simp);have er:r=(rest.drop 5,.mk 2 Ee [] [],false):=(by rw[hr,HU,if_neg p0,if_neg p1,if_pos hm]);have l4:Ee.length=5:=rfl;rw[l4] at hm2 hle;rw[er,rd];have ep:=Cs (s:=s) (x:=i+5) hle;simp only;rw[ep];simp(disch:=try exact aa)only[Af,sw,gw,hm2,l4,fn,↓Ab,Ad,↓reduceIte,Qu];repeat (refine ab ?_ ?_;· rfl)
   first
   | (refine ⟨[some 0],rfl,lC,gU,.inr ⟨_,rfl,?_,rfl⟩⟩;rfl)
 obtain rfl:x=3:=lA
 have p0:¬hasP rest Eu=true:=by rw[show hasP rest Eu=false from b2 0 lA];simp
 have p1:¬hasP rest D2=true:=by rw[show hasP rest D2=false from b2 1 lA];simp
 have p2:¬hasP rest Ee=true:=by rw[show hasP rest Ee=false from b2 2 lA];simp
 rw[HU,if_neg p0,if_neg p1,if_neg p2] at hr;obtain ⟨K,hK⟩:∃ K,K=B3 rest+d1R rest:=⟨_,rfl⟩;obtain ⟨c1,hc1⟩:∃ c1,c1=decide (d1R rest=0):=⟨_,rfl⟩;have hsl:B3 rest<=rest.length:=Xe rest;have hrl:rest.length=s.length-i:=by rw[hrest,AeA]
 have hd1:d1R rest=CM (s.drop (i+B3 rest)):=by unfold d1R;rw[rd]
 have hdl:d1R rest<=s.length-(i+B3 rest):=by have:=EH (s.drop (i+B3 rest));rw[AeA] at this;omega
 have hKl:i+K<=s.length:=lA
 have dg1:=dg (i+B3 rest) false lA;rw[AgM,<-hd1,<-hc1,show i+B3 rest+d1R rest=i+K by omega] at dg1;rw[<-hK,<-hc1] at hr;have hsig:((Di rest=43\/Di rest=45)/\B3 rest=1)\/(¬Di rest=43/\¬Di rest=45/\B3 rest=0):=by
  cases rest with
  | nil=>exact .inr ⟨lz,lz,rfl⟩
  | cons b q =>
   have ne:∀ c:UInt8,¬b=c->¬b.toNat=c.toNat:=fun c e q=>e (UInt8.toNat_inj.1 q);by_cases h1:b=43;·subst h1;exact .inl ⟨.inl rfl,rfl⟩
   by_cases h2:b=45;·subst h2;exact .inl ⟨.inr rfl,rfl⟩
   exact .inr ⟨ne 43 h1,ne 45 h2,by simp only[B3];rw[if_neg jO]⟩
 have d46:∀ p,p<s.length->s.getD p 0=46->hasP (s.drop p) [46]=true:=fun p hp e=>by rw[EG hp,e];exact SB.2 ⟨_,rfl⟩
 have n46:∀ p,p<s.length->¬s.getD p 0=46->¬hasP (s.drop p) [46]=true:=fun p hp e q=>by rw[EG hp] at q;obtain ⟨_,q⟩:=SB.1 q;exact e (List.cons.inj q).1
 simp(disch:=try exact aa)only[AA,↓Ab,Ad,↓reduceIte,Qu];refine Aa.by sp lD lD lC ?_;have hcase:((Di rest=43/\¬Di rest=45/\B3 rest=1)\/(Di rest=45/\¬Di rest=43/\B3 rest=1))\/(¬Di rest=43/\¬Di rest=45/\B3 rest=0):=by
  rcases hsig with ⟨h1 | h1,h2⟩ | h
  ·exact .inl (.inl ⟨h1,lA,h2⟩)
  ·exact .inl (.inr ⟨h1,lA,h2⟩)
  exact .inr h
 rcases hcase with (⟨q1,q3,q2⟩ | ⟨q1,q3,q2⟩) | ⟨q1,q3,q2⟩
 all_goals
  simp(disch:=try exact aa)only[q1,↓Ab,Ad,↓reduceIte,Qu];rw[q2] at dg1;try rw[Nat.add_zero] at dg1
  clear hd1 hdl hsig q2 hsl;first
  | (refine Aa.by dg1 lD lD lC ?_)
  rcases Af0 (i+K) s.length with hp | hp
  ·by_cases hd:s.getD (i+K) 0=46
   ·have en:(s.getD (i+K) 0).toNat=46:=congrArg UInt8.toNat hd;have ht:=d46 _ hp hd;rw[<-rd] at ht;rw[if_pos ht] at hr;have h2:d2R rest=CM (s.drop (i+K+1)):=(by unfold d2R;rw[<-hK,rd,Nat.add_assoc])
    have h2l:d2R rest<=s.length-(i+K+1):=(by have:=EH (s.drop (i+K+1));rw[AeA] at this;omega);have dg2:=dg (i+K+1) c1 lA;rw[<-h2] at dg2;obtain ⟨c2,hc2⟩:∃ c2,c2=(c1 || decide (d2R rest=0)):=⟨_,rfl⟩;obtain ⟨K2,hK2⟩:∃ K2,K2=K+1+d2R rest:=⟨_,rfl⟩;rw[<-hc2,<-hK2,rd,rk] at hr;rw[<-hc2,show i+K+1+d2R rest=i+K2 by omega] at dg2;have ep:=Cs (s:=s) (x:=i+K2) lA;rw[hr];simp only;rw[ep];have le2:i+K2<=s.length:=lA
    clear hr hc2 h2 h2l hc1;simp(disch:=try exact aa)only[Af,en,↓Ab,Ad,↓reduceIte,Qu];repeat (refine ab ?_ ?_;· rfl)
    first
    | (refine Aa.by dg2 lD lD lC ?_)
    simp(disch:=try exact aa)only[Af,↓Ab,Ad,↓reduceIte,Qu];repeat (refine ab ?_ ?_;· rfl)
    first
    | (refine ⟨[some 0],rfl,lC,gU,.inr ⟨_,rfl,?_,rfl⟩⟩;rfl)
   have en:¬(s.getD (i+K) 0).toNat=46:=fun q=>hd (UInt8.toNat_inj.1 q);have ht:=n46 _ hp hd;rw[<-rd] at ht;rw[if_neg ht,rd,rk] at hr;have ep:=Cs (s:=s) (x:=i+K) lA;rw[hr];simp only;rw[ep];simp(disch:=try exact aa)only[Af,↓Ab,Ad,↓reduceIte,Qu];repeat (refine ab ?_ ?_;· rfl)
   first
   | (refine ⟨[some 0],rfl,lC,gU,.inr ⟨_,rfl,?_,rfl⟩⟩;rfl)
  have ht:¬hasP (rest.drop K) [46]=true:=by rw[rd,Agq hp];decide
  rw[if_neg ht,rd,rk] at hr;have ep:=Cs (s:=s) (x:=i+K) lA;rw[hr];simp only;rw[ep];simp(disch:=try exact aa)only[Af,↓Ab,Ad,↓reduceIte,Qu];repeat (refine ab ?_ ?_;· rfl)
  first
  | (refine ⟨[some 0],rfl,lC,gU,.inr ⟨_,rfl,?_,rfl⟩⟩;rfl)
end
section
open Go Go.Proofs Go.Abs
def D1 {P:Program} {G:Ah} {M:B8} {p:Nat} {c:Code} {Q:Az} {s s2:List AV} {H H2:List Ae} (hw:ES p s H s2 H2) (h:Al P G M p c Q s2 H2):Al P G M p c Q s H:=by obtain ⟨b,Q',I,h1,⟨n,s3,H3,h2,h3⟩,h4⟩:=h;exact ⟨b,Q',I,h1,⟨n,s3,H3,.trans hw h2,h3⟩,h4⟩
abbrev exR:List AV:=[.d (.bool false)]
structure C9 (s:List UInt8) (i:Nat) (st:List Nd) (ob:Nat) (ids:List Nat) (H:List Ae):Prop where
 box:H[0]?=some (RB7 s i false)
 b1:H[1]?=some (.box zN7)
 stack:JM exR st ob ids H
 pos:∀ b∈ob::ids,1<b
 nox:NoX H
def C9.lt {s:List UInt8} {i:Nat} {st:List Nd} {ob:Nat} {ids:List Nat} {H:List Ae} (h:C9 s i st ob ids H):1<H.length:=(Agw.1 h.b1).1
def C9.ne0 {s:List UInt8} {i:Nat} {st:List Nd} {ob:Nat} {ids:List Nat} {H:List Ae} (h:C9 s i st ob ids H) {b:Nat} (hb:b∈ob::ids):¬0=b:=by have:=h.pos b hb;omega
def C9.put {s:List UInt8} {i j:Nat} {st:List Nd} {ob:Nat} {ids:List Nat} {H:List Ae} (h:C9 s i st ob ids H):C9 s j st ob ids (H.set 0 (RB7 s j false)):=by have l:=h.lt;exact ⟨A8 lA,by rw[Ao lz];exact h.b1,h.stack.frame fun b hb=>Ao (h.ne0 hb),h.pos,h.nox.set _ lC⟩
def C9.app {s:List UInt8} {i:Nat} {st:List Nd} {ob:Nat} {ids:List Nat} {H E:List Ae} (h:C9 s i st ob ids H) (he:NoX E):C9 s i st ob ids (H++E):=by have l:=h.lt;exact ⟨by rw[Ay lA];exact h.box,by rw[Ay l];exact h.b1,h.stack.frame fun b hb=>Ay (h.stack.lt b hb),h.pos,h.nox.app he⟩
def C9.top {s:List UInt8} {i:Nat} {t:Nd} {st:List Nd} {ob:Nat} {ids:List Nat} {H:List Ae} (h:C9 s i (t::st) ob ids H) :
  ∃ c junk l ka ik qa iq,H[ob]?=some (.box (c++(.d (.int .i64 t.kind)::.d (S t.text)::ka::qa::.d (.bool false)::junk)))/\c.length=st.length*5/\Gk exR H st c l/\Pl t ka ik H/\OU t qa iq H/\ids=l++(ik++iq):=by
 obtain ⟨cells,h1,c,l,ka,ik,qa,iq,h2,h3,h4,h5,h6⟩:=h.stack.stk;rcases h1 with ⟨junk,h1⟩ | ⟨h1,_⟩
 ·refine ⟨c,junk,l,ka,ik,qa,iq,?_,eN,h2,h3,h4,h6⟩;rw[h1,h5];simp[N8]
 rw[h5] at h1;simp[N8] at h1
def C9.mk_top {s:List UInt8} {i:Nat} {t:Nd} {st:List Nd} {ob:Nat} {H K:List Ae} {c junk:List AV} {l ik iq:List Nat} {ka qa:AV}
  (k0:K[0]?=some (RB7 s i false)) (k1:K[1]?=some (.box zN7)) (kb:K[ob]?=some (.box (c++(.d (.int .i64 t.kind)::.d (S t.text)::ka::qa::.d (.bool false)::junk)))) (hs:Gk exR H st c l) (hf:∀ b∈l,K[b]?=H[b]?)
  (hk:Pl t ka ik K) (hq:OU t qa iq K) (hn:(ob::(l++(ik++iq))).Nodup) (hp:∀ b∈ob::(l++(ik++iq)),1<b) (hx:NoX K):C9 s i (t::st) ob (l++(ik++iq)) K :=
 ⟨k0,k1,⟨⟨c++N8 exR t ka qa,.inl ⟨junk,by rw[kb];simp[N8]⟩,c,l,ka,ik,qa,iq,hs.frame hf,hk,hq,rfl,rfl⟩,hn⟩,hp,hx⟩
def C9.push {s:List UInt8} {i j:Nat} {t:Nd} {st:List Nd} {ob ob':Nat} {ids ik:List Nat} {H H2:List Ae} {cells:List AV} {ka qa:AV} (h:C9 s i st ob ids H) (hs:Gk exR H st cells ids)
  (e0:H2[0]?=some (RB7 s j false)) (ef:∀ k,0<k->k<H.length->k≠ob->H2[k]?=H[k]?) (e2:H2[ob']?=some (.box (cells++(.d (.int .i64 t.kind)::.d (S t.text)::ka::qa::.d (.bool false)::[]))))
  (hk:Pl t ka ik H2) (hq:OU t qa [] H2) (ho:H.length<=ob') (hi:∀ b∈ik,H.length<=b/\b≠ob') (ni:ik.Nodup) (hx:NoX H2):C9 s j (t::st) ob' (ids++(ik++[])) H2:=by
 have nd:=Aer.1 h.stack.nd;have hlt:=h.stack.lt;have l1:=h.lt;have o1:=h.pos ob lC;refine C9.mk_top e0 (by rw[ef 1 lA l1 lA];exact h.b1) e2 hs (fun b hb=>ef b (by have:=h.pos b (AbZ _ hb);omega) (hlt b (AbZ _ hb)) fun e=>nd.1 (e▸hb)) hk hq ?_ (fun b hb=>?_) hx
 ·rw[AgJ];refine Aer.2 ⟨fun q=>?_,Aet.2 ⟨nd.2,ni,fun x hx y hy e=>?_⟩⟩
  ·rcases Aen.1 q with q | q
   ·have:=hlt ob' (AbZ _ q);omega
   exact (hi _ q).2 rfl
  have a1:=hlt x (AbZ _ hx);have a2:=(hi y hy).1;omega
 rw[AgJ] at hb;rcases Aex.1 hb with rfl | hb
 ·omega
 rcases Aen.1 hb with hb | hb
 ·exact h.pos b (AbZ _ hb)
 have:=(hi b hb).1;omega
def C9.kid {s:List UInt8} {i:Nat} {t n:Nd} {st:List Nd} {ob nb:Nat} {ids l ik iq:List Nat} {H H2:List Ae} {c junk:List AV} {ka:AV} (h:C9 s i (t::st) ob ids H) (hs:Gk exR H st c l) (hk:Pl t ka ik H) (hids:ids=l++(ik++iq))
  (ef:∀ k,k<H.length->k≠ob->k∉iq->H2[k]?=H[k]?) (hn:H.length<=nb) (e2:H2[ob]?=some (.box (c++(.d (.int .i64 t.kind)::.d (S t.text)::ka::.lsl nb 4 0 (t.kids.length+1)::.d (.bool false)::junk))))
  (e3:H2[nb]?=some (.row false (AH (t.kids++[n])))) (hx:NoX H2):C9 s i (AE t n::st) ob (l++(ik++[nb])) H2:=by
 have nd:=h.stack.nd;have hlt:=h.stack.lt;have hp:=h.pos;rw[hids] at nd hlt hp;have n1:=Aer.1 nd;have n2:=Aet.1 n1.2;have n3:=Aet.1 n2.2.1;have old:∀ b∈l++ik,b<H.length/\b≠ob/\b∉iq/\1<b:=fun b hb=>by
  have hm:b∈l++(ik++iq):=by
   rcases Aen.1 hb with hb | hb
   ·exact Aeg _ hb
   exact AbY _ (Aeg _ hb)
  refine ⟨hlt b (AbZ _ hm),fun e=>n1.1 (e▸hm),fun q=>?_,hp b (AbZ _ hm)⟩;rcases Aen.1 hb with hb | hb
  ·exact n2.2.2 b hb b (AbY _ q) rfl
  exact n3.2.2 b hb b q rfl
 have l1:=h.lt;have o1:=hp ob lC;have ol:=hlt ob lC;have nq:∀ k,k<=1->k∉iq:=fun k hk q=>by have:=hp k (AbZ _ (AbY _ (AbY _ q)));omega
 refine C9.mk_top (t:=AE t n) aZ bz e2 hs (fun b hb=>ef b (old b (Aeg _ hb)).1 (old b (Aeg _ hb)).2.1 (old b (Aeg _ hb)).2.2.1)
  (hk.frame fun b hb=>ef b (old b (AbY _ hb)).1 (old b (AbY _ hb)).2.1 (old b (AbY _ hb)).2.2.1) (.inr ⟨ij,nb,ij,rfl,e3⟩) ?_ (fun b hb=>?_) hx
 ·refine Aer.2 ⟨fun q=>?_,Aet.2 ⟨n2.1,Aet.2 ⟨n3.1,lC,fun x hx y hy e=>?_⟩,fun x hx y hy e=>?_⟩⟩
  ·rcases Aen.1 q with q | q
   ·exact (old _ (Aeg _ q)).2.1 rfl
   rcases Aen.1 q with q | q
   ·exact (old _ (AbY _ q)).2.1 rfl
   rw[AfZ.1 q] at ol;omega
  ·rw[AfZ.1 hy] at e;have:=(old x (AbY _ hx)).1;omega
  subst e;rcases Aen.1 hy with hy | hy
  ·exact n2.2.2 x hx x (Aeg _ hy) rfl
  rw[AfZ.1 hy] at hx;have:=(old nb (Aeg _ hx)).1;omega
 rcases Aex.1 hb with rfl | hb
 ·exact o1
 rcases Aen.1 hb with hb | hb
 ·exact (old b (Aeg _ hb)).2.2.2
 rcases Aen.1 hb with hb | hb
 ·exact (old b (AbY _ hb)).2.2.2
 rw[AfZ.1 hb];omega
def C9.key {s:List UInt8} {i:Nat} {t:Nd} {k:List UInt8} {st:List Nd} {ob nb:Nat} {ids l ik iq:List Nat} {H H2:List Ae} {c junk:List AV} {qa:AV} (h:C9 s i (t::st) ob ids H) (hs:Gk exR H st c l) (hq:OU t qa iq H) (hids:ids=l++(ik++iq))
  (ef:∀ k,k<H.length->k≠ob->k∉ik->H2[k]?=H[k]?) (hn:H.length<=nb) (e2:H2[ob]?=some (.box (c++(.d (.int .i64 t.kind)::.d (S t.text)::.lsl nb 1 0 (t.keys.length+1)::qa::.d (.bool false)::junk))))
  (e3:H2[nb]?=some (.row false (strs (t.keys++[k])))) (hx:NoX H2):C9 s i (BH t k::st) ob (l++([nb]++iq)) H2:=by
 have nd:=h.stack.nd;have hlt:=h.stack.lt;have hp:=h.pos;rw[hids] at nd hlt hp;have n1:=Aer.1 nd;have n2:=Aet.1 n1.2;have n3:=Aet.1 n2.2.1;have old:∀ b∈l++iq,b<H.length/\b≠ob/\b∉ik/\1<b:=fun b hb=>by
  have hm:b∈l++(ik++iq):=by
   rcases Aen.1 hb with hb | hb
   ·exact Aeg _ hb
   exact AbY _ (AbY _ hb)
  refine ⟨hlt b (AbZ _ hm),fun e=>n1.1 (e▸hm),fun q=>?_,hp b (AbZ _ hm)⟩;rcases Aen.1 hb with hb | hb
  ·exact n2.2.2 b hb b (Aeg _ q) rfl
  exact n3.2.2 b q b hb rfl
 have l1:=h.lt;have o1:=hp ob lC;have ol:=hlt ob lC;have nq:∀ k,k<=1->k∉ik:=fun k hk q=>by have:=hp k (AbZ _ (AbY _ (Aeg _ q)));omega
 refine C9.mk_top (t:=BH t k) aZ bz e2 hs (fun b hb=>ef b (old b (Aeg _ hb)).1 (old b (Aeg _ hb)).2.1 (old b (Aeg _ hb)).2.2.1)
  (.inr ⟨ii,nb,ii,rfl,e3⟩) (hq.frame fun b hb=>ef b (old b (AbY _ hb)).1 (old b (AbY _ hb)).2.1 (old b (AbY _ hb)).2.2.1) ?_ (fun b hb=>?_) hx
 ·refine Aer.2 ⟨fun q=>?_,Aet.2 ⟨n2.1,Aet.2 ⟨lC,n3.2.1,fun x hx y hy e=>?_⟩,fun x hx y hy e=>?_⟩⟩
  ·rcases Aen.1 q with q | q
   ·exact (old _ (Aeg _ q)).2.1 rfl
   rcases Aen.1 q with q | q
   ·rw[AfZ.1 q] at ol;omega
   exact (old _ (AbY _ q)).2.1 rfl
  ·rw[AfZ.1 hx] at e;have:=(old y (AbY _ hy)).1;omega
  subst e;rcases Aen.1 hy with hy | hy
  ·rw[AfZ.1 hy] at hx;have:=(old nb (Aeg _ hx)).1;omega
  exact n2.2.2 x hx x (AbY _ hy) rfl
 rcases Aex.1 hb with rfl | hb
 ·exact o1
 rcases Aen.1 hb with hb | hb
 ·exact (old b (Aeg _ hb)).2.2.2
 rcases Aen.1 hb with hb | hb
 ·rw[AfZ.1 hb];omega
 exact (old b (AbY _ hb)).2.2.2
end
section
open Go Go.Proofs Go.Abs
variable {G:Ah}
def V5 {P:Program} {M:B8} {p:Nat} {c:Code} {Q:Az} {α:Type} {S:α->List AV} {HH:α->List Ae} {R:α->Prop} {Goal:Prop} (main:(∀ x,R x->Al P G M p c Q (S x) (HH x))->Goal) (inner:∀ x,R x->Al P G M p c Q (S x) (HH x)):Goal:=main inner
def TG (H:List Ae):∀ ds:List D,sealL H (ds.map .d)=some ds
 | []=>rfl
 | d::r=>by rw[AgC,sealL,TG H r];rfl
def M4:∀ ds:List D,idsL (ds.map .d)=[]
 | []=>rfl
 | d::r=>by rw[AgC,idsL,M4 r];rfl
def Lc (A:List Ae) (cs:List D):Vd A.length (A++[.box (cs.map .d)]) (A++[.box ((cs.map unf0).map .d)]):=by
 refine ⟨[],cs.map .d,[],cs,true,lC,TG _ cs,by rw[M4];simp,?_,?_⟩;·rw[M4];simp[frz,wOK]
 rw[M4];simp[frz,applyW,Jl]
structure NQ where
 i:Nat
 bad:Bool
 st:List Nd
 ob:Nat
 ids:List Nat
 H:List Ae
def NQ.rst (data:List UInt8) (x:NQ) (m:Option Nd):RSt:=if x.bad=true then .bad (data.drop x.i) else match m with
 | none=>.beg (data.drop x.i) x.st
 | some n=>.got (data.drop x.i) x.st n
structure RdI (data:List UInt8) (o:List UInt8 × Bool × Nd) (x:NQ) (m:Option Nd):Prop where
 le:x.i<=data.length
 red:x.bad=false->C9 data x.i x.st x.ob x.ids x.H
 b0:x.H[0]?=some (RB7 data x.i x.bad)
 b1:x.H[1]?=some (.box zN7)
 kd:okK (x.rst data m)
 res:Gv (x.rst data m)=o
 ok:okP data.length (toP (x.rst data m))
structure InQ (data:List UInt8) (o:List UInt8 × Bool × Nd) (L R:Nat) (x:NQ × Option Nd):Prop where
 inv:RdI data o x.1 x.2
 bL:∀ m,x.2=some m->x.1.H[L]?=some (.box ((ndC m).map .d))
 nL:x.1.bad=false->L∉x.1.ob::x.1.ids
 lt:muR (x.1.rst data x.2)<R
structure KS (data:List UInt8) (o:List UInt8 × Bool × Nd) (R:Nat) (X:RSt):Prop where
 res:Gv X=o
 mu:muR X<R
 ok:okP data.length (toP X)
 kd:okK X
def InQ.of {data:List UInt8} {o:List UInt8 × Bool × Nd} {L R:Nat} {x:NQ} {m:Option Nd} {X:RSt} (hX:KS data o R X) (e:x.rst data m=X) (le:x.i<=data.length) (red:x.bad=false->C9 data x.i x.st x.ob x.ids x.H) (b0:x.H[0]?=some (RB7 data x.i x.bad))
  (b1:x.H[1]?=some (.box zN7)) (bL:∀ n,m=some n->x.H[L]?=some (.box ((ndC n).map .d))) (nL:x.bad=false->L∉x.ob::x.ids):InQ data o L R (x,m) :=
 ⟨⟨le,red,b0,b1,by show okK (x.rst data m);rw[e];exact hX.kd,by show Gv (x.rst data m)=o;rw[e];exact hX.res,by show okP _ (toP (x.rst data m));rw[e];exact hX.ok⟩,bL,nL,by show muR (x.rst data m)<R;rw[e];exact hX.mu⟩
def KS.beg {data:List UInt8} {o:List UInt8 × Bool × Nd} {r:List UInt8} {st:List Nd} (hk:∀ t∈st,t.kind=5\/t.kind=6) (h:Gv (.beg r st)=o) (ok:okP data.length (.beg r st)):KS data o (r.length+2) (Ei r st) :=
 ⟨by rw[<-Aai hk];exact h,J7 r st,by
  rcases S9 r st with e | ⟨e,_⟩
  ·rw[e];exact So ok
  rw[e];trivial,MO hk⟩
def KS.got {data:List UInt8} {o:List UInt8 × Bool × Nd} {r:List UInt8} {t:Nd} {st:List Nd} {n:Nd} (hk:∀ x∈t::st,x.kind=5\/x.kind=6) (h:Gv (.got r (t::st) n)=o) (ok:okP data.length (.got r (t::st) n)):KS data o (r.length+2) (EL r t st n) :=
 ⟨by rw[<-Aah hk];exact h,J6 r t st n (hk t lC),by rw[SC r t st n (hk t lC)];exact MV ok,MN hk⟩
def KS.mono {data:List UInt8} {o:List UInt8 × Bool × Nd} {R R':Nat} {X:RSt} (h:KS data o R X) (hr:R<=R'):KS data o R' X:=⟨h.res,Nat.lt_of_lt_of_le h.mu hr,h.ok,h.kd⟩
def InQ.flat {data:List UInt8} {o:List UInt8 × Bool × Nd} {R:Nat} {i j:Nat} {bad:Bool} {st:List Nd} {ob:Nat} {ids:List Nat} {H:List Ae} {n:Nd} {X:RSt} (h:C9 data i st ob ids H) (hj:j<=data.length) (hX:KS data o R X)
  (e:(if bad=true then RSt.bad (data.drop j) else .got (data.drop j) st n)=X):InQ data o H.length R (⟨j,bad,st,ob,ids,H.set 0 (RB7 data j bad)++[.box ((ndC n).map .d)]⟩,some n):=by
 have l:=h.lt;refine InQ.of hX e hj (fun hb=>?_) (by rw[Ay jD,A8 lA]) (by rw[Ay jD,Ao lz];exact h.b1) (fun m hm=>by cases hm;rw[A0 (by rw[AeB];exact Agx _),AeB,Nat.sub_self];rfl) fun _ q=>fF
 have hb:bad=false:=hb;subst hb;exact (h.put (j:=j)).app kE
def InQ.push {data:List UInt8} {o:List UInt8 × Bool × Nd} {R:Nat} {i j:Nat} {bad:Bool} {t:Nd} {st:List Nd} {ob ob' k:Nat} {ids ik:List Nat} {H K E:List Ae} {cells:List AV} {ka qa:AV} {X:RSt} (h:C9 data i st ob ids H) (hs:Gk exR H st cells ids) (hj:j<=data.length) (hX:KS data o R X)
  (e:(if bad=true then RSt.bad (data.drop j) else .beg (data.drop j) (t::st))=X) (hK:K=(H.set 0 (RB7 data j bad)).set ob .dead++E) (hob:ob'=H.length+k) (k0:0<k) (hE:E[k]?=some (.box (cells++(.d (.int .i64 t.kind)::.d (S t.text)::ka::qa::.d (.bool false)::[]))))
  (hne:NoX E) (hk:Pl t ka ik K) (hq:OU t qa [] K) (hi:∀ b∈ik,H.length<b/\b≠ob') (ni:ik.Nodup):InQ data o H.length R (⟨j,bad,t::st,ob',ids++(ik++[]),K⟩,none):=by
 have l:=h.lt;have o1:=h.pos ob lC;have ll:((H.set 0 (RB7 data j bad)).set ob .dead).length=H.length:=lC
 have k0':K[0]?=some (RB7 data j bad):=by rw[hK,Ay jM,Ao lA,A8 lA]
 have ef:∀ q,0<q->q<H.length->q≠ob->K[q]?=H[q]?:=fun q h0 hl hn=>by rw[hK,Ay jM,Ao (fun e=>hn e.symm),Ao lA]
 refine InQ.of hX e hj (fun hb=>?_) k0' (by show K[1]?=_;rw[ef 1 lA l lA];exact h.b1) (fun m hm=>kW) fun _ q=>?_
 ·have hb:bad=false:=hb;subst hb;show C9 data j (t::st) ob' (ids++(ik++[])) K
  refine h.push hs k0' ef (by rw[hK,A0 jM,ll,hob,Agz];exact hE) hk hq lA (fun b hb=>⟨by have:=(hi b hb).1;omega,(hi b hb).2⟩) ni ?_;rw[hK];exact ((h.nox.set _ lC).set _ lC).app hne
 have q:H.length∈ob'::(ids++(ik++[])):=q;rcases Aex.1 q with q | q
 ·omega
 rcases Aen.1 q with q | q
 ·have:=h.stack.lt _ (AbZ _ q);omega
 rw[AgJ] at q;have:=(hi _ q).1;omega
def tg0 {c:List AV} {K:Nat} (hc:c.length=K) (a:AV) (r:List AV):(c++(a::r)).getD K .undef=a:=d7
def tg2 {c:List AV} {K:Nat} (hc:c.length=K) (a b k:AV) (r:List AV):(c++(a::b::k::r)).getD (K+2) .undef=k:=d7
def tg3 {c:List AV} {K:Nat} (hc:c.length=K) (a b k q:AV) (r:List AV):(c++(a::b::k::q::r)).getD (K+3) .undef=q:=d7
def tgt {c:List AV} {K:Nat} (hc:c.length=K) (a b k q:AV) (r:List AV):((c++(a::b::k::q::r)).drop K).take 4=[a,b,k,q]:=by rw[List.drop_append,hc,Agu lA];simp
def tgs2 {c:List AV} {K:Nat} (hc:c.length=K) (a b k x:AV) (r:List AV):(c++(a::b::k::r)).set (K+2) x=c++(a::b::x::r):=d8
def tgs3 {c:List AV} {K:Nat} (hc:c.length=K) (a b k q x:AV) (r:List AV):(c++(a::b::k::q::r)).set (K+3) x=c++(a::b::k::x::r):=d8
def InQ.key_end {data:List UInt8} {o:List UInt8 × Bool × Nd} {L R:Nat} {j p:Nat} {bad:Bool} {T:Nd} {txt:List UInt8} {s:List Nd} {ob nb:Nat} {l ik iq:List Nat} {K3 K:List Ae} {c junk:List AV} {qa:AV} {X:RSt} (P:C9 data j (T::s) ob (l++(ik++iq)) K3) (hs:Gk exR K3 s c l) (hq:OU T qa iq K3)
  (hL:L∉ob::(l++(ik++iq))) (lL:L<K3.length) (hp:p<=data.length) (hX:KS data o R X) (e:(if bad=true then RSt.bad (data.drop p) else .beg (data.drop p) (BH T txt::s))=X)
  (k0:K[0]?=some (RB7 data p bad)) (ef:∀ q,0<q->q<K3.length->q≠ob->q∉ik->K[q]?=K3[q]?) (hn:K3.length<=nb) (e2:K[ob]?=some (.box (c++(.d (.int .i64 T.kind)::.d (S T.text)::.lsl nb 1 0 (T.keys.length+1)::qa::.d (.bool false)::junk))))
  (e3:K[nb]?=some (.row false (strs (T.keys++[txt])))) (hx:NoX K):InQ data o L R (⟨p,bad,BH T txt::s,ob,l++([nb]++iq),K⟩,none):=by
 have l1:=P.lt;have ob1:=P.pos ob lC;have n1:1∉ik:=fun q=>by have:=P.pos 1 (AbZ _ (AbY _ (Aeg _ q)));omega
 refine InQ.of hX e hp (fun hb=>?_) k0 (by show K[1]?=_;rw[ef 1 lA l1 lA n1];exact P.b1) (fun m hm=>kW) fun _ q=>?_
 ·have hb:bad=false:=hb;subst hb;show C9 data p (BH T txt::s) ob (l++([nb]++iq)) K
  have fr:∀ b,b∈ob::(l++(ik++iq))->(K3.set 0 (RB7 data p false))[b]?=K3[b]?:=fun b hb=>Ao (P.ne0 hb);refine C9.key (P.put (j:=p)) (hs.frame fun b hb=>fr b (AbZ _ (Aeg _ hb))) (hq.frame fun b hb=>fr b (AbZ _ (AbY _ (AbY _ hb)))) rfl (fun k hk hno hni=>?_) (by rw[AeB];exact hn) e2 e3 hx;rw[AeB] at hk;by_cases k0':k=0;·subst k0';rw[k0,A8 lA]
  rw[ef k lA hk hno hni,Ao fun e=>k0' e.symm]
 have q:L∈ob::(l++([nb]++iq)):=q;rcases Aex.1 q with q | q
 ·exact hL (by rw[q];simp)
 rcases Aen.1 q with q | q
 ·exact hL (AbZ _ (Aeg _ q))
 rcases Aen.1 q with q | q
 ·rw[AfZ.1 q] at lL;omega
 exact hL (AbZ _ (AbY _ (AbY _ q)))
def IC {H0:List Ae} {b:Nat} {x:Ae}:∀ (ids:List Nat) (H:List Ae),(∀ q∈ids,q<H.length)->b<H.length->wOK H.length (frz H0 ids++[(b,x)])=true/\applyW H (frz H0 ids++[(b,x)])=(applyW H (frz H0 ids)).set b x
 | [],H,_,hb=>by simp[frz,wOK,applyW,hb]
 | q::r,H,hq,hb=>by
   have hq0:=hq q lC;rw[frz];split;·rename_i cells hc;have ih:=IC (H0:=H0) (b:=b) (x:=x) r (H.set q (.row true cells)) (fun y hy=>by rw[AeB];exact hq y (AbZ _ hy)) (by rw[AeB];exact hb);rw[AeB] at ih;rw[AgV,applyW,applyW,if_pos hq0,wOK,if_pos hq0];exact ih
   exact IC (H0:=H0) r H (fun y hy=>hq y (AbZ _ hy)) hb
def InQ.pop_end {data:List UInt8} {o:List UInt8 × Bool × Nd} {L R:Nat} {j p:Nat} {bad:Bool} {T:Nd} {s:List Nd} {ob:Nat} {l ik iq:List Nat} {K3 KL:List Ae} {c junk:List AV} {ka qa:AV} {X:RSt} (P:C9 data j (T::s) ob (l++(ik++iq)) K3) (hs:Gk exR K3 s c l) (hk:Pl T ka ik K3) (hq:OU T qa iq K3)
  (hob:K3[ob]?=some (.box (c++junk))) (hL:L∉ob::(l++(ik++iq))) (L1:1<L) (lL:L<K3.length) (hp:p<=data.length) (hX:KS data o R X) (e:(if bad=true then RSt.bad (data.drop p) else .got (data.drop p) s T)=X)
  (hKL:KL=(K3.set 0 (RB7 data p bad)).set L (.box [.d (.int .i64 T.kind),.d (S T.text),ka,qa])):∃ H1,Vd L KL H1/\InQ data o L R (⟨p,bad,s,ob,l,H1⟩,some T):=by
 have l1:=P.lt;have ob1:=P.pos ob lC;have lk:KL.length=K3.length:=by rw[hKL];simp
 have fr:∀ b,0<b->b≠L->KL[b]?=K3[b]?:=fun b h0 hb=>by rw[hKL,Ao (fun e=>hb e.symm),Ao lA]
 have frm:∀ b,b∈ob::(l++(ik++iq))->KL[b]?=K3[b]?:=fun b hb=>fr b (by have:=P.pos b hb;omega) fun e=>hL (e▸hb);have eL:KL[L]?=some (.box [.d (.int .i64 T.kind),.d (S T.text),ka,qa]):=by rw[hKL,A8 (by rw[AeB];exact lL)]
 obtain ⟨fk,k1,k2,k3⟩:=(hk.frame (K:=KL) fun b hb=>frm b (AbZ _ (AbY _ (Aeg _ hb)))).shutR (by rw[strs_length,Nat.mul_one]);obtain ⟨fq,q1,q2,q3⟩:=(hq.frame (K:=KL) fun b hb=>frm b (AbZ _ (AbY _ (AbY _ hb)))).shutR (by rw[Ax,Nat.mul_comm]);have hids:idsL [ka,qa]=ik++iq:=by
  show AY ka++(AY qa++[])=_
  rw[k2,q2,AgJ]
 have hlt:∀ b∈ik++iq,b<KL.length:=fun b hb=>by have:=P.stack.lt b (AbZ _ (AbY _ hb));omega
 have nx:NoX KL:=by rw[hKL];exact (P.nox.set _ lC).set _ lC
 have nL:L∉ik++iq:=fun q=>hL (AbZ _ (AbY _ q));obtain ⟨a1,a2,a3,a4⟩:=Hh (H0:=KL) (ik++iq) KL hlt nx;obtain ⟨b1,b2⟩:=IC (H0:=KL) (b:=L) (x:=.box ((ndC T).map .d)) (ik++iq) KL hlt (by rw[lk];exact lL);have e0:∀ q,q∉ik++iq->q≠L->((applyW KL (frz KL (ik++iq))).set L (.box ((ndC T).map .d)))[q]?=KL[q]?:=fun q hq hn=>by rw[Ao (fun e=>hn e.symm),a3 q hq]
 have hsmall:∀ q,q<=1->q∉ik++iq:=fun q hq hm=>by have:=P.pos q (AbZ _ (AbY _ hm));omega
 have nd:=Aer.1 P.stack.nd;have nd2:=Aet.1 nd.2;refine ⟨(applyW KL (frz KL (ik++iq))).set L (.box ((ndC T).map .d)),⟨[.d (.int .i64 T.kind),.d (S T.text)],[ka,qa],[],[.sl T.keys.length fk (strs T.keys),.sl T.kids.length fq (AH T.kids)],true,by rw[eL];rfl,?_,by rw[hids];exact nL,?_,?_⟩,?_⟩;·simp only[sealL,k1,q1]
 ·rw[hids];have:(.box ([.d (.int .i64 T.kind),.d (S T.text)]++((Jl true [.sl T.keys.length fk (strs T.keys),.sl T.kids.length fq (AH T.kids)]).map .d++[])):Ae)=.box ((ndC T).map .d):=by rw[N4];rfl
  rw[this];exact b1
 ·rw[hids];have:(.box ([.d (.int .i64 T.kind),.d (S T.text)]++((Jl true [.sl T.keys.length fk (strs T.keys),.sl T.kids.length fq (AH T.kids)]).map .d++[])):Ae)=.box ((ndC T).map .d):=by rw[N4];rfl
  rw[this];exact b2.symm
 have k0:KL[0]?=some (RB7 data p bad):=by rw[hKL,Ao lA,A8 lA]
 refine InQ.of hX e hp (fun hb=>?_) (by show ((applyW KL (frz KL (ik++iq))).set L _)[0]?=_;rw[e0 0 (hsmall 0 lA) lA];exact k0) (by show ((applyW KL (frz KL (ik++iq))).set L _)[1]?=_;rw[e0 1 (hsmall 1 lA) lA,fr 1 lA lA];exact P.b1) (fun m hm=>by
  cases hm;show ((applyW KL (frz KL (ik++iq))).set L _)[L]?=_
  rw[A8 (by rw[a2,lk];exact lL)]) fun _ q=>hL (by
  have q:L∈ob::l:=q;rcases Aex.1 q with q | q
  ·rw[q];simp
  exact AbZ _ (Aeg _ q))
 have hb:bad=false:=hb;subst hb;have old:∀ b∈ob::l,b∉ik++iq/\b≠L/\b∈ob::(l++(ik++iq)):=fun b hb=>by
  have hm:b∈ob::(l++(ik++iq)):=by
   rcases Aex.1 hb with hb | hb
   ·rw[hb];simp
   exact AbZ _ (Aeg _ hb)
  refine ⟨fun q=>?_,fun e=>hL (e▸hm),hm⟩;rcases Aex.1 hb with hb | hb
  ·subst hb;exact nd.1 (AbY _ q)
  exact nd2.2.2 b hb b q rfl
 have fin:∀ b∈ob::l,((applyW KL (frz KL (ik++iq))).set L (.box ((ndC T).map .d)))[b]?=K3[b]?:=fun b hb=>by obtain ⟨o1,o2,o3⟩:=old b hb;rw[e0 b o1 o2,frm b o3]
 show C9 data p s ob l ((applyW KL (frz KL (ik++iq))).set L (.box ((ndC T).map .d)))
 refine ⟨by rw[e0 0 (hsmall 0 lA) lA];exact k0,by rw[e0 1 (hsmall 1 lA) lA,fr 1 lA lA];exact P.b1,⟨⟨c,.inl ⟨junk,by rw[fin ob lC];exact hob⟩,hs.frame fun b hb=>fin b (AbZ _ hb)⟩,?_⟩,fun b hb=>P.pos b (old b hb).2.2,a4.set _ lC⟩;exact Aer.2 ⟨fun q=>nd.1 (Aeg _ q),nd2.1⟩
def Og:Dh [0,0]=false:=rfl
def MR7:B8:=fun k=>Nat.beq k 2000063 || Nat.beq k 2000064
def Agg:MR7 2000063=true:=rfl
def Agf:MR7 2000064=true:=rfl
def Cp {k:Nat} (h:¬(k=2000063\/k=2000064)):MR7 k=false:=by
 cases e:MR7 k with
 | false=>rfl
 | true =>
  unfold MR7 at e;simp only[Bool.or_eq_true] at e;rcases e with e | e
  ·exact absurd (.inl (AgQ e)) h
  exact absurd (.inr (AgQ e)) h
def Fr {w:List UInt8} {c:UInt8} (hc:c≠0) (h:Di w=c.toNat):∃ r,w=c::r:=by
 cases w with
 | nil=>exact absurd (UInt8.toNat_inj.1 h.symm) hc
 | cons b r=>exact ⟨r,by rw[UInt8.toNat_inj.1 (show b.toNat=c.toNat from h)]⟩
def FD {w:List UInt8} {c:UInt8} (h:¬Di w=c.toNat):¬hasP w [c]=true:=fun q=>by obtain ⟨r,rfl⟩:=SB.1 q;exact h rfl
def JW (w:List UInt8):txR w <:+ w:=by
 unfold txR;split;·exact (Sk _).trans (D6 34 w)
 exact D6 34 w
def WU (w:List UInt8):(HU w).1 <:+ w:=by
 unfold HU;repeat' split
 all_goals exact Aew _ _
def Jk (L:Nat) (x:NQ × Option Nd):List AV:=[.ptr 0 0,.undef,.ptr 1 0,.lsl x.1.ob 5 0 x.1.st.length,.ptr L 0,.d (.bool x.2.isSome)]++Aga 140 .undef
def Yr (data:List UInt8) (hd:data.length<=100000000) :
  Ctr TP G 49 [.ptr 0 0] [RB7 data 0 false] (.d (NdD (Gv (.beg data [])).2.2)) [RB7 data (Cn data (Gv (.beg data [])).1) (Gv (.beg data [])).2.1]:=by
 obtain ⟨o,ho⟩:∃ o,o=Gv (.beg data []):=⟨_,rfl⟩;rw[<-ho];have sp:=fun i hi=>FQ (G:=G) data i false lA hi;refine Ctr.body (M:=MR7) Ak Tryz.func49 rfl go49 ?_;simp(disch:=try exact aa)only[Cp,Tryz.f49,↓Ab,Ad,↓reduceIte,Qu,Qv];refine Al.frI 5 (α:=NQ) (fun x=>muR (x.rst data none)) (fun x=>[(3,.lsl x.ob 5 0 x.st.length)]) (fun x=>x.H) (fun x=>RdI data o x none) ⟨0,false,[],2,[],[RB7 data 0 false,.box zN7,.row false []]⟩
  ⟨Agb _,(fun _=>⟨rfl,rfl,mR,lC,kE⟩),rfl,rfl,(fun t ht=>kY),ho.symm,(by simp[NQ.rst,toP,okP])⟩ ?_ ?_
 ·first
  | exact .weak mG
 rintro ⟨i,bad,st,ob,ids,H⟩ hI;have hle:=hI.le;have hb0:=hI.b0;have hb1:=hI.b1;have hkd:=hI.kd;have hres:=hI.res;have hok:=hI.ok;have hred:=hI.red;simp only at hle hb0 hb1 hkd hres hok hred;clear hI;have l1:1<H.length:=(Agw.1 hb1).1;simp only[Bm,Af1,Af2];cases bad with
 | true =>
  have e:o=(data.drop i,true,noN):=hres.symm;subst e;have ep:Cn data (data.drop i)=i:=Cs hle;simp only;rw[ep];simp(disch:=try exact aa)only[Cp,hb0,hb1,AA,↓Ab,Ad,↓reduceIte,Qu];first
  | exact ⟨[some 0],rfl,lC,by simp[HW,BW,SW,AW,hb0],.inr nJ⟩
 | false =>
  have h:=hred rfl;clear hred;replace hres:Gv (.beg (data.drop i) st)=o:=hres;replace hok:okP data.length (.beg (data.drop i) st):=hok;replace hkd:∀ t∈st,t.kind=5\/t.kind=6:=hkd;have hX:=KS.beg hkd hres hok;have sp0:=sp i hle;obtain ⟨w,hw⟩:∃ w,w=Av (data.drop i):=⟨_,rfl⟩;have sfw:=CJ ((hw▸CX (data.drop i)).trans (Aew i data));rw[<-hw] at sp0;obtain ⟨p,hp⟩:∃ p,p=Cn data w:=⟨_,rfl⟩;rw[<-hp] at sp0 sfw;obtain ⟨sf1,sf2⟩:=sfw;have hws:Av w=w:=by rw[hw,Z5]
  unfold Ei at hX;rw[<-hw] at hX;have hR:muR (NQ.rst data ⟨i,false,st,ob,ids,H⟩ none)=(data.drop i).length+2:=rfl;simp(disch:=try exact aa)only[Cp,hb0,AA,↓Ab,Ad,↓reduceIte,Qu];refine Aa.by sp0 lD lD lC ?_;apply V5 (P:=TP) (G:=G) (M:=MR7) (p:=1) (S:=Jk H.length) (HH:=fun x=>x.1.H) (R:=InQ data o H.length ((data.drop i).length+2))
  ·intro inner;by_cases h91:Di w=91
   ·have hX2:=hX;obtain ⟨w',hw'⟩:=Fr (c:=91) lz h91;rw[if_pos fG,hw',AgZ,AgR,O8] at hX2;have hpl:p<data.length:=by
     have:=congrArg List.length sf1;rw[hw',AeA,Aev] at this;omega
    have sf3:data.drop (p+1)=w':=(by rw[<-AgD,sf1,hw'];rfl);have sp1:=sp (p+1) hpl;rw[sf3] at sp1;obtain ⟨w2,hw2⟩:∃ w2,w2=Av w':=⟨_,rfl⟩;have sfw2:=CJ ((hw2▸CX w').trans d9);rw[<-hw2] at sp1;obtain ⟨p2,hp2⟩:∃ p2,p2=Cn data w2:=⟨_,rfl⟩;rw[<-hp2] at sp1 sfw2;obtain ⟨sf4,sf5⟩:=sfw2;simp(disch:=try exact aa)only[Cp,h91,Aes,AA,↓Ab,Ad,↓reduceIte,Qu];first
    | (refine Aa.by sp1 lD lD lC ?_)
    by_cases h93:Di w2=93
    ·obtain ⟨w3,hw3⟩:=Fr (c:=93) lz h93;rw[show sgn (AC 5) w'=(w3,true) from GU (by rw[<-hw2];exact hw3)] at hX2;simp only[if_true] at hX2;have hpl2:p2<data.length:=by
      have:=congrArg List.length sf4;rw[hw3,AeA,Aev] at this;omega
     have sf6:data.drop (p2+1)=w3:=(by rw[<-AgD,sf4,hw3];rfl);simp(disch:=try exact aa)only[Cp,h93,Aes,AA,↓Ab,Ad,↓reduceIte,Qu];first
     | (refine D1 (.trans (.mid (Lc (H.set 0 (RB7 data (p2+1) false)) [.int .i64 5,.str ByteArray.empty,.sl 0 true [],.sl 0 true []])) (.slots ?_)) (inner _ (InQ.flat h (j:=p2+1) (bad:=false) (n:=.mk 5 [] [] []) hpl2 hX2 (by rw[sf6];rfl)))<;>(simp[Ce,Jk,Aga];done))
    have h93':¬(sgn (AC 5) w').2=true:=fun q=>by
     rcases En (AC 5) w' with ⟨e,_⟩ | ⟨r,e,_⟩
     ·rw[e] at q;cases q
     rw[<-hw2] at e;exact h93 kB
    rw[if_neg h93',if_pos rfl,<-hw2] at hX2;obtain ⟨cells,hop,hstk⟩:=h.stack.stk;have hcl:cells.length=st.length*5:=dP
    have hts:∀ x,AgS (st.length*5) (cells++x)=cells:=fun x=>by rw[<-hcl,AgL]
    have hds:∀ x y z u v:AV,AgW (st.length*5+5) (cells++[x,y,z,u,v])=[]:=fun x y z u v=>Agu kG;have lob:=h.stack.lt ob lC;have pob:=h.pos ob lC;have hln:st.length<=100000000:=(by have:=hok.1;omega)
    rcases hop with ⟨junk,hop⟩ | ⟨hc0,hop⟩
    ·obtain ⟨cs,hcs⟩:∃ cs,cs=cells++junk:=⟨_,rfl⟩;have htc:cs.take (st.length*5)=cells:=(by rw[hcs,hts])
     have hcl2:st.length*5<=cs.length:=(by rw[hcs,AfI];omega);rw[<-hcs] at hop;simp(disch:=try exact aa)only[Cp,show DH MR7 (some 63)=true from rfl,show DH MR7 (some 64)=true from rfl,hop,htc,hcl,Aes,AA,↓Ab,Ad,↓reduceIte,Qu,Qw,Qz];first
     | (refine D1 (.slots ?_) (inner _ (InQ.push h hstk (j:=p2) (bad:=false) (t:=.mk 5 [] [] []) (k:=2) (ik:=[]) (ka:=.d (.sl 0 true [])) (qa:=.d (.sl 0 true [])) (ob':=H.length+2) sf5 hX2 (by rw[sf4];rfl) rfl rfl lz rfl kE (.inl ⟨rfl,rfl,rfl⟩) (.inl ⟨rfl,rfl,rfl⟩) (fun b hb=>kU) AgA))<;>(simp[Ce,Jk,Aga];done))
    have hst0:st.length=0:=(by rw[hc0,AgB] at hcl;omega);subst hc0;simp(disch:=try exact aa)only[Cp,show DH MR7 (some 63)=true from rfl,show DH MR7 (some 64)=true from rfl,hop,hst0,Aes,AA,↓Ab,Ad,↓reduceIte,Qu,Qw,Qz];first
    | (refine D1 (.slots ?_) (inner _ (InQ.push h hstk (j:=p2) (bad:=false) (t:=.mk 5 [] [] []) (k:=2) (ik:=[]) (ka:=.d (.sl 0 true [])) (qa:=.d (.sl 0 true [])) (ob':=H.length+2) sf5 hX2 (by rw[sf4];rfl) rfl rfl lz rfl kE (.inl ⟨rfl,rfl,rfl⟩) (.inl ⟨rfl,rfl,rfl⟩) (fun b hb=>kU) AgA))<;>(simp[Ce,Jk,Aga,hst0];done))
   by_cases h123:Di w=123
   ·have hX2:=hX;obtain ⟨w',hw'⟩:=Fr (c:=123) lz h123;rw[if_neg (FD (c:=91) h91),if_pos fG,hw',AgZ,AgR,O8] at hX2;have hpl:p<data.length:=by
     have:=congrArg List.length sf1;rw[hw',AeA,Aev] at this;omega
    have sf3:data.drop (p+1)=w':=(by rw[<-AgD,sf1,hw'];rfl);have sp1:=sp (p+1) hpl;rw[sf3] at sp1;obtain ⟨w2,hw2⟩:∃ w2,w2=Av w':=⟨_,rfl⟩;have sfw2:=CJ ((hw2▸CX w').trans d9);rw[<-hw2] at sp1;obtain ⟨p2,hp2⟩:∃ p2,p2=Cn data w2:=⟨_,rfl⟩;rw[<-hp2] at sp1 sfw2;obtain ⟨sf4,sf5⟩:=sfw2;simp(disch:=try exact aa)only[Cp,h123,Aes,AA,↓Ab,Ad,↓reduceIte,Qu];first
    | (refine Aa.by sp1 lD lD lC ?_)
    by_cases h125:Di w2=125
    ·obtain ⟨w3,hw3⟩:=Fr (c:=125) lz h125;rw[show sgn (AC 6) w'=(w3,true) from GU (by rw[<-hw2];exact hw3)] at hX2;simp only[if_true] at hX2;have hpl2:p2<data.length:=by
      have:=congrArg List.length sf4;rw[hw3,AeA,Aev] at this;omega
     have sf6:data.drop (p2+1)=w3:=(by rw[<-AgD,sf4,hw3];rfl);simp(disch:=try exact aa)only[Cp,h125,Aes,AA,↓Ab,Ad,↓reduceIte,Qu];first
     | (refine D1 (.trans (.mid (Lc (H.set 0 (RB7 data (p2+1) false)) [.int .i64 6,.str ByteArray.empty,.sl 0 true [],.sl 0 true []])) (.slots ?_)) (inner _ (InQ.flat h (j:=p2+1) (bad:=false) (n:=.mk 6 [] [] []) hpl2 hX2 (by rw[sf6];rfl)))<;>(simp[Ce,Jk,Aga];done))
    have h125':¬(sgn (AC 6) w').2=true:=fun q=>by
     rcases En (AC 6) w' with ⟨e,_⟩ | ⟨r,e,_⟩
     ·rw[e] at q;cases q
     rw[<-hw2] at e;exact h125 kB
    rw[if_neg h125',if_neg lz,<-hw2,Pc] at hX2;have htx:=R9 (G:=G) data p2 lA sf5;rw[sf4] at htx;replace htx:Ctr TP G 90 [.ptr 0 0] [RB7 data p2 false] (.d (S (quo w2).2.1)) [RB7 data (Cn data (txR w2)) (!(quo w2).2.2)]:=htx;have hsf:txR w2 <:+ data:=(JW w2).trans (by rw[<-sf4];exact Aew p2 data);obtain ⟨s1,s2⟩:=CJ hsf;have htk:=GV (G:=G) 58 data (Cn data (txR w2)) (!(quo w2).2.2) lz lA s2;rw[s1] at htk;have hsf2:(sgn 58 (txR w2)).1 <:+ data:=(D6 58 _).trans hsf;obtain ⟨s3,s4⟩:=CJ hsf2;obtain ⟨r4,hr4⟩:∃ r4,r4=(sgn 58 (txR w2)).1:=⟨_,rfl⟩;obtain ⟨b2,hb2⟩:∃ b2,b2=(sgn 58 (txR w2)).2:=⟨_,rfl⟩;obtain ⟨p3,hp3⟩:∃ p3,p3=Cn data (txR w2):=⟨_,rfl⟩;obtain ⟨txt,htxt⟩:∃ txt,txt=(quo w2).2.1:=⟨_,rfl⟩;obtain ⟨b,hb⟩:∃ b,b=(quo w2).2.2:=⟨_,rfl⟩;rw[<-hr4,<-hb2,<-hp3,<-hb] at htk;rw[<-htxt,<-hb,<-hp3] at htx;rw[<-htxt,<-hb,<-hr4,<-hb2] at hX2;rw[<-hr4] at s3 s4;obtain ⟨p4,hp4⟩:∃ p4,p4=Cn data r4:=⟨_,rfl⟩;rw[<-hp4] at s3 s4 htk;have e4:(if (!b || !b2)=true then RSt.bad (data.drop p4) else .beg (data.drop p4) (.mk 6 [] [txt] []::st))=(if (b && b2)=true then .beg r4 (BH (.mk 6 [] [] []) txt::st) else .bad r4):=(by rw[s3];cases b<;>cases b2<;>rfl)
    obtain ⟨cells,hop,hstk⟩:=h.stack.stk;have hcl:cells.length=st.length*5:=dP
    have hts:∀ x,AgS (st.length*5) (cells++x)=cells:=fun x=>by rw[<-hcl,AgL]
    have hds:∀ x y z u v:AV,AgW (st.length*5+5) (cells++[x,y,z,u,v])=[]:=fun x y z u v=>Agu kG;have lob:=h.stack.lt ob lC;have pob:=h.pos ob lC;have hln:st.length<=100000000:=(by have:=hok.1;omega)
    simp(disch:=try exact aa)only[Cp,Aes,AA,↓Ab,Ad,↓reduceIte,Qu];first
    | (refine Aa.by htx lD lD lC ?_)
    simp(disch:=try exact aa)only[Cp,Aes,AA,↓Ab,Ad,↓reduceIte,Qu,Qw];obtain ⟨cf,hcf⟩:=CB [0,H.length,H.length+1,H.length+2] aH;have c0:=hcf 0 _ rfl;have c1:=hcf 1 _ rfl;have c2:=hcf 2 _ rfl;have c3:=hcf 3 _ rfl;first
    | (refine ⟨AF cf bS (by simp only[AgC,AgK,c0,c1,c2,c3];rfl),Aa.by htk lD lD lC ?_⟩)
    rcases hop with ⟨junk,hop⟩ | ⟨hc0,hop⟩
    ·obtain ⟨cs,hcs⟩:∃ cs,cs=cells++junk:=⟨_,rfl⟩;have htc:cs.take (st.length*5)=cells:=(by rw[hcs,hts])
     have hcl2:st.length*5<=cs.length:=(by rw[hcs,AfI];omega);rw[<-hcs] at hop;simp(disch:=try exact aa)only[Cp,show DH MR7 (some 63)=true from rfl,show DH MR7 (some 64)=true from rfl,hop,htc,hcl,Aes,AA,↓Ab,Ad,↓reduceIte,Qu,Qw,Qz];first
     | (refine D1 (.slots ?_) (inner _ (InQ.push h hstk (j:=p4) (bad:=!b || !b2) (t:=.mk 6 [] [txt] []) (k:=4) (ik:=[H.length+2]) (ka:=.lsl (H.length+2) 1 0 1) (qa:=.d (.sl 0 true [])) (ob':=H.length+4) s4 hX2 e4 rfl rfl lz rfl kE (.inr ⟨jC,_,rfl,rfl,dQ⟩) (.inl ⟨rfl,rfl,rfl⟩) (fun b hb=>by rw[AfZ.1 hb];omega) lC))<;>(simp[Ce,Jk,Aga];done))
    have hst0:st.length=0:=(by rw[hc0,AgB] at hcl;omega);subst hc0;simp(disch:=try exact aa)only[Cp,show DH MR7 (some 63)=true from rfl,show DH MR7 (some 64)=true from rfl,hop,hst0,Aes,AA,↓Ab,Ad,↓reduceIte,Qu,Qw,Qz];first
    | (refine D1 (.slots ?_) (inner _ (InQ.push h hstk (j:=p4) (bad:=!b || !b2) (t:=.mk 6 [] [txt] []) (k:=4) (ik:=[H.length+2]) (ka:=.lsl (H.length+2) 1 0 1) (qa:=.d (.sl 0 true [])) (ob':=H.length+4) s4 hX2 e4 rfl rfl lz rfl kE (.inr ⟨jC,_,rfl,rfl,dQ⟩) (.inl ⟨rfl,rfl,rfl⟩) (fun b hb=>by rw[AfZ.1 hb];omega) lC))<;>(simp[Ce,Jk,Aga,hst0];done))
   by_cases h34:Di w=34
   ·have hX2:=hX;obtain ⟨w',hw'⟩:=Fr (c:=34) lz h34;rw[if_neg (FD (c:=91) h91),if_neg (FD (c:=123) h123),if_pos fG] at hX2;have htx:=R9 (G:=G) data p lA sf2;rw[sf1] at htx;replace htx:Ctr TP G 90 [.ptr 0 0] [RB7 data p false] (.d (S (quo w).2.1)) [RB7 data (Cn data (txR w)) (!(quo w).2.2)]:=htx;have hsf:txR w <:+ data:=(JW w).trans fH;obtain ⟨s1,s2⟩:=CJ hsf;obtain ⟨txt,htxt⟩:∃ txt,txt=(quo w).2.1:=⟨_,rfl⟩;obtain ⟨b,hb⟩:∃ b,b=(quo w).2.2:=⟨_,rfl⟩;rw[<-htxt,<-hb] at htx hX2;simp(disch:=try exact aa)only[Cp,h34,AA,↓Ab,Ad,↓reduceIte,Qu];refine Aa.by htx lD lD lC ?_;simp(disch:=try exact aa)only[Cp,Aes,AA,↓Ab,Ad,↓reduceIte,Qu];first
    | (refine D1 (.trans (.mid (Lc (H.set 0 (RB7 data (Cn data (txR w)) (!b))) [.int .i64 4,S txt,.sl 0 true [],.sl 0 true []])) (.slots ?_)) (inner _ (InQ.flat h (j:=Cn data (txR w)) (bad:=!b) (n:=.mk 4 txt [] []) s2 hX2 (by rw[s1];cases b<;>rfl)))<;>(simp[Ce,Jk,Aga];done))
   have hX2:=hX;rw[if_neg (FD (c:=91) h91),if_neg (FD (c:=123) h123),if_neg (FD (c:=34) h34)] at hX2;have hwd:=VN (G:=G) data p lA sf2 (by rw[sf1];exact hws);have hsf:(HU w).1 <:+ data:=(WU w).trans fH;rw[sf1] at hwd;obtain ⟨wr,hwr⟩:∃ wr,wr=HU w:=⟨_,rfl⟩;rw[<-hwr] at hwd hX2 hsf;obtain ⟨q,n,b⟩:=wr;simp only at hwd hX2 hsf;obtain ⟨s1,s2⟩:=CJ hsf;obtain ⟨nk,nt,nks,nl⟩:=n;simp(disch:=try exact aa)only[Cp,AA,↓Ab,Ad,↓reduceIte,Qu];first
   | (refine Aa.by hwd lD lD lC ?_)
   simp(disch:=try exact aa)only[ndC,Aes,AA,↓Ab,Ad,↓reduceIte,Qu];first
   | (refine D1 (.slots ?_) (inner _ (InQ.flat h (j:=Cn data q) (bad:=b) (n:=.mk nk nt nks nl) s2 hX2 (by rw[s1])))<;>(simp[Ce,Jk,Aga];done))
  rintro ⟨⟨j0,bad0,st0,ob0,ids0,H0⟩,m0⟩ hx;unfold Jk;simp only[Aga,AgV,List.nil_append];refine Al.frI 21 (α:=NQ × Option Nd) (fun x=>muR (x.1.rst data x.2)) (fun x=>[(3,.lsl x.1.ob 5 0 x.1.st.length),(5,.d (.bool x.2.isSome))]) (fun x=>x.1.H) (InQ data o H.length ((data.drop i).length+2)) _ hx (.slots jc) ?_;clear hx;rintro ⟨⟨j,b,s,ob2,ids2,H2⟩,m⟩ hq;have hle2:=hq.inv.le;have hred2:=hq.inv.red;have e0:=hq.inv.b0;have e1:=hq.inv.b1;have hkd2:=hq.inv.kd;have hres2:=hq.inv.res;have hok2:=hq.inv.ok;have eL:=hq.bL;have nL:=hq.nL;have hlt:=hq.lt;simp only at hle2 hred2 e0 e1 hkd2 hres2 hok2 eL nL hlt;have l2:1<H2.length:=(Agw.1 e1).1;simp only[Bm,Af1,Af2];cases m with
  | none =>
   simp(disch:=try exact aa)only[Cp,show (none:Option Nd).isSome=false from rfl,↓Ab,Ad,↓reduceIte];first
   | exact ⟨⟨j,b,s,ob2,ids2,H2⟩,hq.inv,hlt,.inl ⟨rfl,kV⟩⟩
  | some n =>
   have his:(some n).isSome=true:=rfl;cases b with
   | true =>
    simp(disch:=try exact aa)only[Cp,his,e0,↓Ab,Ad,↓reduceIte,Qu];first
    | exact ⟨⟨j,true,s,ob2,ids2,H2⟩,⟨hle2,(fun h=>lx),e0,e1,trivial,hres2,trivial⟩,hlt,.inl ⟨rfl,kV⟩⟩
   | false =>
    have P:=hred2 rfl;have eL':=eL n rfl;have nL':=nL rfl;have lL:H.length<H2.length:=(Agw.1 eL').1;clear hred2 eL nL;obtain ⟨nk,nt,nks,nl⟩:=n;replace eL':H2[H.length]?=some (.box [.d (.int .i64 nk),.d (S nt),.d (Ss nks false),.d (.sl nl.length false (AH nl))]):=eL';cases s with
    | nil =>
     have ho2:o=(data.drop j,false,.mk nk nt nks nl):=hres2.symm;have ep:Cn data (data.drop j)=j:=Cs hle2;rw[ho2];simp only;rw[ep];simp(disch:=try exact aa)only[Cp,his,AgB,e0,e1,eL',AA,↓Ab,Ad,↓reduceIte,Qu];first
     | exact ⟨[some 0],rfl,lC,by simp[HW,BW,SW,AW,e0],.inr nJ⟩
    | cons t s =>
     obtain ⟨c,junk,l,ka,ik,qa,iq,hb,hc,hs,hk,hq2,hids⟩:=P.top;have lb2:ob2<H2.length:=P.stack.lt ob2 lC;have pb2:=P.pos ob2 lC;have hLo:¬H.length=ob2:=fun e=>nL' ki;have g0:=tg0 hc (.d (.int .i64 t.kind)) (.d (S t.text)::ka::qa::.d (.bool false)::junk);have g3:=tg3 hc (.d (.int .i64 t.kind)) (.d (S t.text)) ka qa (.d (.bool false)::junk);have gs:=fun x=>tgs3 hc (.d (.int .i64 t.kind)) (.d (S t.text)) ka qa x (.d (.bool false)::junk);have gl:(c++(.d (.int .i64 t.kind)::.d (S t.text)::ka::qa::.d (.bool false)::junk)).length=s.length*5+5+junk.length:=jd
     obtain ⟨cs,hcs⟩:∃ cs,cs=c++(.d (.int .i64 t.kind)::.d (S t.text)::ka::qa::.d (.bool false)::junk):=⟨_,rfl⟩;rw[<-hcs] at hb g0 g3 gl gs;have ndl:=Ax t.kids;have htk3:∀ x,AgS (t.kids.length*4) (AH t.kids++x)=AH t.kids:=fun x=>by rw[show t.kids.length*4=(AH t.kids).length by omega,AgL]
     have hdr3:∀ x y z w:D,AgW (t.kids.length*4+4) (AH t.kids++[x,y,z,w])=[]:=fun x y z w=>Agu jW;have okk:=hok2.2 t lC;have oks:=hok2.1;simp only[Aev] at oks;have hcut:cut [D.int .i64 0,.str {data:=#[]},.sl 0 false [],.sl 0 false []] 0 4=[D.int .i64 0,.str {data:=#[]},.sl 0 false [],.sl 0 false []]:=rfl;obtain ⟨n,hn⟩:∃ n:Nd,n=.mk nk nt nks nl:=⟨_,rfl⟩;rw[<-hn] at hres2 hok2 hlt;have hnd:ndC n=[.int .i64 nk,S nt,Ss nks false,.sl nl.length false (AH nl)]:=(by rw[hn];rfl)
     obtain ⟨K3,hK3⟩:∃ K3,K3=(match iq with | []=>H2 | qb::_=>H2.set qb .dead).set ob2 (.box (c++(AV.d (.int .i64 t.kind)::AV.d (S t.text)::ka::.lsl (H2.length+1) 4 0 (t.kids.length+1)::.d (.bool false)::junk))) ++
       [.row false [.int .i64 0,.str {data:=#[]},.sl 0 false [],.sl 0 false []],.row false (AH t.kids++[D.int .i64 nk,S nt,Ss nks false,D.sl nl.length false (AH nl)])]:=⟨_,rfl⟩
     have hiq:iq.length<=1/\∀ b∈iq,b<H2.length/\1<b/\¬b=ob2/\¬b=H.length:=by
      refine ⟨by rcases hq2 with ⟨_,_,e⟩ | ⟨_,_,_,e,_⟩<;>rw[e]<;>simp,fun b hb=>?_⟩;have hm:b∈ids2:=(by rw[hids];exact AbY _ (AbY _ hb))
      exact ⟨P.stack.lt b (AbZ _ hm),P.pos b (AbZ _ hm),fun e=>(Aer.1 P.stack.nd).1 (e▸hm),fun e=>nL' (by rw[<-e];exact AbZ _ hm)⟩
     have lm:(match iq with | []=>H2 | qb::_=>H2.set qb .dead).length=H2.length:=(by cases iq<;>simp);have l3:K3.length=H2.length+2:=(by rw[hK3,AfI,AeB,lm];rfl);have f3:∀ q,q<H2.length->q≠ob2->q∉iq->K3[q]?=H2[q]?:=fun q hl hn hi=>by
      rw[hK3,Ay (by rw[AeB,lm];exact hl),Ao (fun e=>hn e.symm)];cases iq with
      | nil=>rfl
      | cons qb r=>exact Ao fun e=>hi ki
     have x3:NoX K3:=by
      rw[hK3];refine (NoX.set ?_ _ lC).app kE;cases iq with
      | nil=>exact P.nox
      | cons qb r=>exact P.nox.set _ lC
     have e3b:K3[ob2]?=some (.box (c++(AV.d (.int .i64 t.kind)::AV.d (S t.text)::ka::.lsl (H2.length+1) 4 0 (t.kids.length+1)::.d (.bool false)::junk))):=(by rw[hK3,Ay (by rw[AeB,lm];exact lb2),A8 (by rw[lm];exact lb2)]);have e3n:K3[H2.length+1]?=some (.row false (AH (t.kids++[n]))):=(by rw[hK3,A0 (by rw[AeB,lm];omega),AeB,lm,Agz,GB,Fp,hnd];rfl);have P3:=P.kid (n:=n) hs hk hids f3 lA e3b e3n x3;have niq:∀ q,(q<=1\/q=H.length)->q∉iq:=fun q hq hm=>by have:=hiq.2 q hm;omega
     have eL3:K3[H.length]?=some (.box [.d (.int .i64 nk),.d (S nt),.d (Ss nks false),.d (.sl nl.length false (AH nl))]):=(by rw[f3 H.length lL hLo (niq _ (.inr rfl))];exact eL');have nL3:H.length∉ob2::(l++(ik++[H2.length+1])):=fun q=>by
      rcases Aex.1 q with q | q
      ·exact hLo q
      rcases Aen.1 q with q | q
      ·exact nL' (by rw[hids];exact AbZ _ (Aeg _ q))
      rcases Aen.1 q with q | q
      ·exact nL' (by rw[hids];exact AbZ _ (AbY _ (Aeg _ q)))
      rw[AfZ.1 q] at lL;omega
     have sp2:=sp j hle2;obtain ⟨v,hv⟩:∃ v,v=Av (data.drop j):=⟨_,rfl⟩;have sfv:=CJ ((hv▸CX (data.drop j)).trans (Aew j data));rw[<-hv] at sp2;obtain ⟨p2,hp2⟩:∃ p2,p2=Cn data v:=⟨_,rfl⟩;rw[<-hp2] at sp2 sfv;obtain ⟨sv1,sv2⟩:=sfv;have hkt:∀ x∈t::s,x.kind=5\/x.kind=6:=hkd2;have hY:=KS.got (data:=data) (o:=o) (r:=data.drop j) (n:=n) hkt hres2 hok2;replace hlt:(data.drop j).length+2<(data.drop i).length+2:=hlt;unfold EL at hY;rcases hq2 with ⟨kn,qa0,iq0⟩ | ⟨kn,qb,qa0,iq0,hqb⟩
     case' inl =>
      subst qa0;subst iq0;have kn0:AH t.kids=[]:=(by rw[Agp.1 kn];rfl)
      simp(disch:=try exact aa)only[Cp,his,e0,eL',hb,g3,gl,gs,hcut,AA,↓Ab,Ad,↓reduceIte,Qu,Qw,Qz];rw[show (H2.set ob2 (.box (c++(AV.d (.int .i64 t.kind)::AV.d (S t.text)::ka::.lsl (H2.length+1) 4 0 1::.d (.bool false)::junk)))++[.row false [.int .i64 0,.str {data:=#[]},.sl 0 false [],.sl 0 false []],.row false [.int .i64 nk,.str (bs nt),.sl nks.length false (strs nks),.sl nl.length false (AH nl)]])=K3 by rw[hK3,kn,kn0];rfl];obtain ⟨cf,hcf⟩:=CB [0,ob2,H.length,H2.length,H2.length+1] aH;have c0:=hcf 0 _ rfl;have c1:=hcf 1 _ rfl;have c2:=hcf 2 _ rfl;have c3:=hcf 3 _ rfl;have c4:=hcf 4 _ rfl;refine ⟨AF cf bY (by simp only[AgC,AgK,c1,c2,c3,c4];rfl),?_⟩
     case' inr =>subst qa0;subst iq0;obtain ⟨lqb,pqb,nqo,nqL⟩:=hiq.2 qb lC;have nqo':¬ob2=qb:=fun e=>nqo e.symm;have nqL':¬H.length=qb:=fun e=>nqL e.symm;simp(disch:=try exact aa)only[Cp,his,e0,eL',hb,hqb,g3,gl,gs,ndl,htk3,hdr3,hcut,AA,↓Ab,Ad,↓reduceIte,Qu,Qw,Qz];rw[show ((H2.set qb .dead).set ob2 (.box (c++(AV.d (.int .i64 t.kind)::AV.d (S t.text)::ka::.lsl (H2.length+1) 4 0 (t.kids.length+1)::.d (.bool false)::junk)))++[.row false [.int .i64 0,.str {data:=#[]},.sl 0 false [],.sl 0 false []],.row false (AH t.kids++[D.int .i64 nk,D.str (bs nt),D.sl nks.length false (strs nks),.sl nl.length false (AH nl)])])=K3 by rw[hK3]];obtain ⟨cf,hcf⟩:=CB [0,ob2,H.length,H2.length,H2.length+1,qb] aH;have c0:=hcf 0 _ rfl;have c1:=hcf 1 _ rfl;have c2:=hcf 2 _ rfl;have c3:=hcf 3 _ rfl;have c4:=hcf 4 _ rfl;have c5:=hcf 5 _ rfl;refine ⟨AF cf bZ (by simp only[AgC,AgK,c1,c2,c3,c4,c5];rfl),?_⟩
     all_goals
      have e30:K3[0]?=some (RB7 data j false):=P3.box;have e31:K3[1]?=some (.box zN7):=P3.b1;have hR2:(data.drop j).length+2<=data.length-i+2:=(by rw[AeA (i:=i)] at hlt;omega)
      have lL3:H.length<K3.length:=lA;have fl:∀ b,b∈l++ik->K3[b]?=H2[b]?:=fun b hb=>by
       have hm:b∈ids2:=by
        rw[hids];rcases Aen.1 hb with hb | hb
        ·exact Aeg _ hb
        exact AbY _ (Aeg _ hb)
       have nd:=(Aer.1 P.stack.nd).2;rw[hids] at nd;refine f3 b (P.stack.lt b (AbZ _ hm)) (fun e=>(Aer.1 P.stack.nd).1 (e▸hm)) fun q=>?_;rcases Aen.1 hb with hb | hb
       ·exact (Aet.1 nd).2.2 b hb b (AbY _ q) rfl
       exact (Aet.1 (Aet.1 nd).2.1).2.2 b hb b q rfl
      have hs3:Gk exR K3 s c l:=hs.frame fun b hb=>fl b (Aeg _ hb);have hk3:Pl (AE t n) ka ik K3:=hk.frame fun b hb=>fl b (AbY _ hb);have hq3:OU (AE t n) (.lsl (H2.length+1) 4 0 (t.kids.length+1)) [H2.length+1] K3:=.inr nG;first
      | (refine Aa.by sp2 lD lD lC ?_)
      by_cases h44:Di v=44
      ·have g30:=tg0 hc (.d (.int .i64 t.kind)) (.d (S t.text)::ka::.lsl (H2.length+1) 4 0 (t.kids.length+1)::.d (.bool false)::junk);have gl3:(c++(.d (.int .i64 t.kind)::.d (S t.text)::ka::.lsl (H2.length+1) 4 0 (t.kids.length+1)::.d (.bool false)::junk)).length=s.length*5+5+junk.length:=jd
       obtain ⟨v',hv'⟩:=Fr (c:=44) lz h44;have hs44:sgn 44 (data.drop j)=(v',true):=GU (by rw[<-hv];exact hv');have hpl:p2<data.length:=(by have:=congrArg List.length sv1;rw[hv',AeA,Aev] at this;omega)
       have sv3:data.drop (p2+1)=v':=(by rw[<-AgD,sv1,hv'];rfl);rw[hs44,if_pos rfl] at hY;obtain ⟨cs3,hcs3⟩:∃ cs3,cs3=c++(AV.d (.int .i64 t.kind)::.d (S t.text)::ka::.lsl (H2.length+1) 4 0 (t.kids.length+1)::.d (.bool false)::junk):=⟨_,rfl⟩;rw[<-hcs3] at g30 gl3 e3b;by_cases k6:t.kind=6
       ·rw[if_pos k6,Pc] at hY;have g32:=tg2 hc (.d (.int .i64 t.kind)) (.d (S t.text)) ka (.lsl (H2.length+1) 4 0 (t.kids.length+1)::.d (.bool false)::junk);have gs2:=fun x=>tgs2 hc (.d (.int .i64 t.kind)) (.d (S t.text)) ka x (.lsl (H2.length+1) 4 0 (t.kids.length+1)::.d (.bool false)::junk);rw[<-hcs3] at g32 gs2;have htx:=R9 (G:=G) data (p2+1) lA hpl;rw[sv3] at htx;replace htx:Ctr TP G 90 [.ptr 0 0] [RB7 data (p2+1) false] (.d (S (quo v').2.1)) [RB7 data (Cn data (txR v')) (!(quo v').2.2)]:=htx;have hsf:txR v' <:+ data:=(JW v').trans (by rw[<-sv3];exact Aew (p2+1) data);obtain ⟨s1,s2⟩:=CJ hsf;have htk:=GV (G:=G) 58 data (Cn data (txR v')) (!(quo v').2.2) lz lA s2;rw[s1] at htk;have hsf2:(sgn 58 (txR v')).1 <:+ data:=(D6 58 _).trans hsf;obtain ⟨s3,s4⟩:=CJ hsf2;obtain ⟨r4,hr4⟩:∃ r4,r4=(sgn 58 (txR v')).1:=⟨_,rfl⟩;obtain ⟨b2,hb2⟩:∃ b2,b2=(sgn 58 (txR v')).2:=⟨_,rfl⟩;obtain ⟨p3,hp3⟩:∃ p3,p3=Cn data (txR v'):=⟨_,rfl⟩;obtain ⟨txt,htxt⟩:∃ txt,txt=(quo v').2.1:=⟨_,rfl⟩;obtain ⟨b1,hb1'⟩:∃ b1,b1=(quo v').2.2:=⟨_,rfl⟩;rw[<-hr4,<-hb2,<-hp3,<-hb1'] at htk;rw[<-htxt,<-hb1',<-hp3] at htx;rw[<-htxt,<-hb1',<-hr4,<-hb2] at hY;rw[<-hr4] at s3 s4;obtain ⟨p4,hp4⟩:∃ p4,p4=Cn data r4:=⟨_,rfl⟩;rw[<-hp4] at s3 s4 htk;have skl:=@strs_length t.keys;have htk1:∀ x,AgS t.keys.length (strs t.keys++x)=strs t.keys:=fun x=>by rw[show t.keys.length=(strs t.keys).length by rw[strs_length],AgL]
        have hdk1:∀ x:D,AgW (t.keys.length+1) (strs t.keys++[x])=[]:=fun x=>Agu (by simp[skl]);rcases hk with ⟨kk,ka0,ik0⟩ | ⟨kk,kb,ka0,ik0,hkb⟩
        ·subst ka0;simp(disch:=try exact aa)only[Cp,h44,k6,e3b,g30,g32,gl3,Aes,AA,↓Ab,Ad,↓reduceIte,Qu];first
         | (refine Aa.by htx lD lD lC ?_)
         obtain ⟨cg,hcg⟩:=CB [0,ob2,K3.length,K3.length+1] aH;have d0:=hcg 0 _ rfl;have d1:=hcg 1 _ rfl;have d2:=hcg 2 _ rfl;have d3:=hcg 3 _ rfl;simp(disch:=try exact aa)only[Cp,k6,e3b,gs2,gl3,Aes,AA,↓Ab,Ad,↓reduceIte,Qu,Qw];first
         | (refine ⟨AF cg bS (by simp only[AgC,AgK,d0,d1,d2,d3];rfl),Aa.by htk lD lD lC ?_⟩)
         simp(disch:=try exact aa)only[AA,↓Ab,Ad,↓reduceIte,Qu];have e4:(if (!b1 || !b2)=true then RSt.bad (data.drop p4) else .beg (data.drop p4) (BH (AE t n) txt::s))=(if (b1 && b2)=true then .beg r4 (BH (AE t n) txt::s) else .bad r4):=dJ
         obtain ⟨KE,hKE⟩:∃ KE,KE=(((K3.set 0 (RB7 data p3 (!b1))).set ob2 (.box (c++(AV.d (.int .i64 6)::.d (S t.text)::.lsl (K3.length+1) 1 0 1::.lsl (H2.length+1) 4 0 (t.kids.length+1)::.d (.bool false)::junk)))).set 0 (RB7 data p4 (!b1 || !b2))++[Ae.row false [D.str (bs txt)],Ae.row false [.str (bs txt)]]):=⟨_,rfl⟩;have lE:(((K3.set 0 (RB7 data p3 (!b1))).set ob2 (.box (c++(AV.d (.int .i64 6)::.d (S t.text)::.lsl (K3.length+1) 1 0 1::.lsl (H2.length+1) 4 0 (t.kids.length+1)::.d (.bool false)::junk)))).set 0 (RB7 data p4 (!b1 || !b2))).length=K3.length:=lC
         have q0:KE[0]?=some (RB7 data p4 (!b1 || !b2)):=bT;have qf:∀ q,0<q->q<K3.length->q≠ob2->q∉ik->KE[q]?=K3[q]?:=fun q h0 hl ho hi=>by rw[hKE,Ay jN,Ao lA,Ao (fun e=>ho e.symm),Ao lA]
         have q2:KE[ob2]?=some (.box (c++(.d (.int .i64 (AE t n).kind)::.d (S (AE t n).text)::.lsl (K3.length+1) 1 0 ((AE t n).keys.length+1)::.lsl (H2.length+1) 4 0 (t.kids.length+1)::.d (.bool false)::junk))):=by
          rw[hKE,Ay jN,Ao lA,A8 jW];show _=some (Ae.box (c++(AV.d (.int .i64 t.kind)::.d (S t.text)::.lsl (K3.length+1) 1 0 (t.keys.length+1)::_)))
          rw[k6,kk]
         have q3:KE[K3.length+1]?=some (.row false (strs ((AE t n).keys++[txt]))):=by
          rw[hKE,A0 jN,lE,Agz];show _=some (Ae.row false (strs (t.keys++[txt])))
          rw[Agp.1 kk];rfl
         have qx:NoX KE:=(by rw[hKE];exact (((x3.set _ lC).set _ lC).set _ lC).app kE);have hI:=InQ.key_end P3 hs3 hq3 nL3 lL3 s4 (hY.mono hR2) e4 q0 qf lA q2 q3 qx;have mu2:muR (NQ.rst data ⟨p4,!b1 || !b2,BH (AE t n) txt::s,ob2,l++([K3.length+1]++[H2.length+1]),KE⟩ none)<(data.drop j).length+2:=aj
         subst hKE;first
         | exact ⟨(⟨p4,!b1 || !b2,BH (AE t n) txt::s,ob2,l++([K3.length+1]++[H2.length+1]),_⟩,none),hI,mu2,.inl ⟨rfl,kV⟩⟩
        subst ka0;have e3k:K3[kb]?=some (.row false (strs t.keys)):=(by have hm:kb∈ids2:=(by rw[hids,ik0];simp);rw[f3 kb (P.stack.lt kb (AbZ _ hm)) (fun e=>(Aer.1 P.stack.nd).1 (e▸hm)) (fun q=>by have:=(Aet.1 (Aet.1 (hids▸(Aer.1 P.stack.nd).2)).2.1).2.2 kb jJ kb q;exact this rfl)];exact hkb)
        simp(disch:=try exact aa)only[Cp,h44,k6,e3b,g30,g32,gl3,Aes,AA,↓Ab,Ad,↓reduceIte,Qu];first
        | (refine Aa.by htx lD lD lC ?_)
        have hkm:kb∈ob2::(l++(ik++[H2.length+1])):=jJ;have kb1:=P3.pos kb hkm;have kbl:=P3.stack.lt kb hkm;have kbo:¬kb=ob2:=fun e=>by have:=(Aer.1 P.stack.nd).1;rw[hids,ik0,<-e] at this;exact this lC
        have kbo':¬ob2=kb:=fun e=>kbo e.symm;obtain ⟨cg,hcg⟩:=CB [0,ob2,K3.length,K3.length+1,kb] aH;have d0:=hcg 0 _ rfl;have d1:=hcg 1 _ rfl;have d2:=hcg 2 _ rfl;have d3:=hcg 3 _ rfl;have d4:=hcg 4 _ rfl;simp(disch:=try exact aa)only[Cp,k6,e3b,e3k,gs2,gl3,skl,Aes,AA,↓Ab,Ad,↓reduceIte,Qu];first
        | (refine ⟨AF cg (by simp(disch:=omega)only[Bb,AX,AU,A2,Og,and_self]) (by simp only[AgC,AgK,d0,d1,d2,d3,d4];rfl),Aa.by htk lD lD lC ?_⟩)
        simp(disch:=try exact aa)only[AA,↓Ab,Ad,↓reduceIte,Qu];have e4:(if (!b1 || !b2)=true then RSt.bad (data.drop p4) else .beg (data.drop p4) (BH (AE t n) txt::s))=(if (b1 && b2)=true then .beg r4 (BH (AE t n) txt::s) else .bad r4):=dJ
        obtain ⟨KE,hKE⟩:∃ KE,KE=((((K3.set 0 (RB7 data p3 (!b1))).set kb Ae.dead).set ob2 (.box (c++(AV.d (.int .i64 6)::.d (S t.text)::.lsl (K3.length+1) 1 0 (t.keys.length+1)::.lsl (H2.length+1) 4 0 (t.kids.length+1)::.d (.bool false)::junk)))).set 0 (RB7 data p4 (!b1 || !b2))++[Ae.row false [D.str (bs txt)],Ae.row false (strs t.keys++[D.str (bs txt)])]):=⟨_,rfl⟩;have lE:((((K3.set 0 (RB7 data p3 (!b1))).set kb Ae.dead).set ob2 (.box (c++(AV.d (.int .i64 6)::.d (S t.text)::.lsl (K3.length+1) 1 0 (t.keys.length+1)::.lsl (H2.length+1) 4 0 (t.kids.length+1)::.d (.bool false)::junk)))).set 0 (RB7 data p4 (!b1 || !b2))).length=K3.length:=lC
        have q0:KE[0]?=some (RB7 data p4 (!b1 || !b2)):=bT;have qf:∀ q,0<q->q<K3.length->q≠ob2->q∉ik->KE[q]?=K3[q]?:=fun q h0 hl ho hi=>by have hkq:¬kb=q:=fun e=>hi (by rw[ik0,e];simp);rw[hKE,Ay jN,Ao lA,Ao (fun e=>ho e.symm),Ao hkq,Ao lA]
        have q2:KE[ob2]?=some (.box (c++(.d (.int .i64 (AE t n).kind)::.d (S (AE t n).text)::.lsl (K3.length+1) 1 0 ((AE t n).keys.length+1)::.lsl (H2.length+1) 4 0 (t.kids.length+1)::.d (.bool false)::junk))):=by
         rw[hKE,Ay jN,Ao lA,A8 jW];show _=some (Ae.box (c++(AV.d (.int .i64 t.kind)::.d (S t.text)::.lsl (K3.length+1) 1 0 (t.keys.length+1)::_)))
         rw[k6]
        have q3:KE[K3.length+1]?=some (.row false (strs ((AE t n).keys++[txt]))):=by
         rw[hKE,A0 jN,lE,Agz];show _=some (Ae.row false (strs (t.keys++[txt])))
         simp[strs]
        have qx:NoX KE:=(by rw[hKE];exact ((((x3.set _ lC).set _ lC).set _ lC).set _ lC).app kE);have hI:=InQ.key_end P3 hs3 hq3 nL3 lL3 s4 (hY.mono hR2) e4 q0 qf lA q2 q3 qx;have mu2:muR (NQ.rst data ⟨p4,!b1 || !b2,BH (AE t n) txt::s,ob2,l++([K3.length+1]++[H2.length+1]),KE⟩ none)<(data.drop j).length+2:=aj
        subst hKE;first
        | exact ⟨(⟨p4,!b1 || !b2,BH (AE t n) txt::s,ob2,l++([K3.length+1]++[H2.length+1]),_⟩,none),hI,mu2,.inl ⟨rfl,kV⟩⟩
       rw[if_neg k6] at hY;simp(disch:=try exact aa)only[Cp,h44,k6,e3b,g30,gl3,Aes,AA,↓Ab,Ad,↓reduceIte,Qu];have mu2:muR (NQ.rst data ⟨p2+1,false,AE t n::s,ob2,l++(ik++[H2.length+1]),K3.set 0 (RB7 data (p2+1) false)⟩ none)<(data.drop j).length+2:=by
        show muR (RSt.beg (data.drop (p2+1)) _)<_
        rw[sv3];exact hY.mu
       first
       | exact ⟨(⟨p2+1,false,AE t n::s,ob2,l++(ik++[H2.length+1]),K3.set 0 (RB7 data (p2+1) false)⟩,none),InQ.of (hY.mono hR2) (by show RSt.beg (data.drop (p2+1)) _=_;rw[sv3]) hpl (fun _=>P3.put) P3.put.box P3.put.b1 (fun m hm=>kW) (fun _=>nL3),mu2,.inl ⟨rfl,kV⟩⟩
      have hn44:(sgn 44 (data.drop j)).2=false:=(by rw[Nu (c:=44) (by rw[<-hv];exact FD (c:=44) h44)]);rw[hn44,if_neg lC,<-hv] at hY;have g3t:=tgt hc (.d (.int .i64 t.kind)) (.d (S t.text)) ka (.lsl (H2.length+1) 4 0 (t.kids.length+1)) (.d (.bool false)::junk);have g30:=tg0 hc (.d (.int .i64 t.kind)) (.d (S t.text)::ka::.lsl (H2.length+1) 4 0 (t.kids.length+1)::.d (.bool false)::junk);have gl3:(c++(.d (.int .i64 t.kind)::.d (S t.text)::ka::.lsl (H2.length+1) 4 0 (t.kids.length+1)::.d (.bool false)::junk)).length=s.length*5+5+junk.length:=jd
      obtain ⟨cs3,hcs3⟩:∃ cs3,cs3=c++(AV.d (.int .i64 t.kind)::.d (S t.text)::ka::.lsl (H2.length+1) 4 0 (t.kids.length+1)::.d (.bool false)::junk):=⟨_,rfl⟩;have e3c:=e3b;rw[<-hcs3] at g30 g3t gl3 e3b;have htk:=GV (G:=G) (AC t.kind) data p2 false (by unfold AC;split<;>decide) lA sv2;rw[sv1,AgM] at htk;have hsf2:(sgn (AC t.kind) v).1 <:+ data:=(D6 _ v).trans (by rw[<-sv1];exact Aew p2 data);obtain ⟨s3,s4⟩:=CJ hsf2;obtain ⟨r4,hr4⟩:∃ r4,r4=(sgn (AC t.kind) v).1:=⟨_,rfl⟩;obtain ⟨b2,hb2⟩:∃ b2,b2=(sgn (AC t.kind) v).2:=⟨_,rfl⟩;rw[<-hr4,<-hb2] at htk hY;rw[<-hr4] at s3 s4;obtain ⟨p4,hp4⟩:∃ p4,p4=Cn data r4:=⟨_,rfl⟩;rw[<-hp4] at s3 s4 htk;by_cases k6:t.kind=6;case' pos=>rw[show AC t.kind=125 by unfold AC;rw[if_neg lA]] at htk
      case' neg=>rw[show AC t.kind=93 by unfold AC;rw[if_pos ((hkt t lC).resolve_right k6)]] at htk
      all_goals
       simp(disch:=try exact aa)only[Cp,k6,e3b,g30,gl3,AA,↓Ab,Ad,↓reduceIte,Qu];first
       | (refine Aa.by htk lD lD lC ?_)
       simp(disch:=try exact aa)only[Cp,e3b,eL3,g3t,gl3,Aes,AA,↓Ab,Ad,↓reduceIte,Qu];have e4:(if (!b2)=true then RSt.bad (data.drop p4) else .got (data.drop p4) s (AE t n))=(if b2=true then .got r4 s (AE t n) else .bad r4):=(by rw[s3];cases b2<;>rfl)
       obtain ⟨H1,hS,hI⟩:=InQ.pop_end (T:=AE t n) P3 hs3 hk3 hq3 e3c nL3 l1 lL3 s4 (hY.mono hR2) e4 rfl;have mu2:muR (NQ.rst data ⟨p4,!b2,s,ob2,l,H1⟩ (some (AE t n)))<(data.drop j).length+2:=(by rw[show NQ.rst data ⟨p4,!b2,s,ob2,l,H1⟩ (some (AE t n))=_ from e4];exact hY.mu)
       refine ⟨by rcases hk with ⟨_,e,_⟩ | ⟨_,_,e,_⟩<;>subst e<;>rfl,?_⟩;first
       | exact ⟨(⟨p4,!b2,s,ob2,l,H1⟩,some (AE t n)),hI,mu2,.inr ⟨_,.inr ⟨rfl,_,hS⟩,kV⟩⟩
def Nz (hT:HT G) (n:Nd) (hz:szN n):Ctr TP G 20 [.d (NdD n)] [] (.d (.bool (AM n 0))) []:=O0 hT n hz (Xz n)
def TT:RSt->List UInt8
 | .beg r _=>r
 | .got r _ _=>r
 | .bad r=>r
def Ur (r:List UInt8) (t:Nd) (st:List Nd):TT (Pc r t st) <:+ r:=by have h:=(D6 58 (txR r)).trans (JW r);unfold Pc;split<;>exact h
def T9 (k:Int) (r:List UInt8) (st:List Nd):TT (O8 k r st) <:+ r:=by
 unfold O8;split;·exact D6 _ r
 split;·exact CX r
 exact (Ur _ _ _).trans (CX r)
def Yh (r:List UInt8) (st:List Nd):TT (Ei r st) <:+ r:=by
 have h:=CX r;unfold Ei;split;·exact (T9 _ _ _).trans ((Aew 1 _).trans h)
 split;·exact (T9 _ _ _).trans ((Aew 1 _).trans h)
 split;·split<;>exact (JW _).trans h
 split<;>exact (WU _).trans h
def Yg (r:List UInt8) (t:Nd) (st:List Nd) (n:Nd):TT (EL r t st n) <:+ r:=by
 have h:=CX r;unfold EL;split
 ·split;·exact (Ur _ _ _).trans (D6 _ r)
  exact D6 _ r
 split<;>exact (D6 _ _).trans h
def NC (data:List UInt8):∀ (k:Nat) (x:RSt),TT x <:+ data->(Kh k x).1 <:+ data
 | 0,_,_=>AgN
 | k+1,x,h=>by
   cases x with
   | bad r=>exact h
   | beg r st=>exact NC data k (Ei r st) ((Yh r st).trans h)
   | got r st n =>
    cases st with
    | nil=>exact h
    | cons t st=>exact NC data k (EL r t st n) ((Yg r t st n).trans h)
def Sj (hT:HT G) (data:List UInt8) (hd:data.length<=100000):Ctr TP G 24 [.d (S data)] [] (.d (NM (FA data))) []:=by
 have hrn:=Yr (G:=G) data lA;have hrel:((Gv (.beg data [])).2.1=true->UG data (Es (.beg data []))=(noN,4))/\((Gv (.beg data [])).2.1=false->Es (.beg data [])=some ((Gv (.beg data [])).1,(Gv (.beg data [])).2.2)):=R7 data _ (.beg data []) (Agx _) (fun t ht=>kY);have hsf:(Gv (.beg data [])).1 <:+ data:=NC data (muR (.beg data [])) (.beg data []) (AgI _);have hsz:=fun r n=>VS (r:=r) (n:=n) hd;have hv:=Kf (G:=G) hT data lA;obtain ⟨r,hr⟩:∃ r,r=FA data:=⟨_,rfl⟩;rw[<-hr];rw[YE] at hr;obtain ⟨o,ho⟩:∃ o,o=Gv (.beg data []):=⟨_,rfl⟩;rw[<-ho] at hrn;rw[<-ho] at hrel hsf;clear ho;obtain ⟨q,b,n⟩:=o;simp only at hrn hrel hsf;obtain ⟨s1,s2⟩:=CJ hsf;obtain ⟨p,hp⟩:∃ p,p=Cn data q:=⟨_,rfl⟩;rw[<-hp] at hrn s1 s2;have sp:=FQ (G:=G) data p b lA s2;rw[s1] at sp;refine Ctr.pure (M:=M0) Ak Tryz.func24 rfl go24 ?_;have hn:=fun h=>hsz q n (hrel.2 h);have hvn:=fun h=>Nz (G:=G) hT n (hn h).1;have lq:Cn data (Av q)<=data.length:=Nat.sub_le _ _;have hq0:Cn data (Av q)=data.length↔Av q=[]:=by
  have h1:(Av q).length<=data.length:=Nat.le_trans (Em q) hsf.length_le;unfold Cn;constructor;·intro h;exact Agp.1 lA
  intro h;rw[h];simp
 obtain ⟨p2,hp2⟩:∃ p2,p2=Cn data (Av q):=⟨_,rfl⟩;rw[<-hp2] at sp hq0 lq;cases b with
 | true =>
  rw[hrel.1 rfl] at hr;subst hr;obtain ⟨nk,nt,nks,nl⟩:=n;simp(disch:=try exact aa)only[Af,Tryz.f24,↓Ab,Ad,↓reduceIte,Qu,Qv];refine Aa.by hrn lD lD lC ?_;simp(disch:=try exact aa)only[ndC,↓Ab,Ad,↓reduceIte,Qu];first
  | (refine Aa.by sp lD lD lC ?_)
  simp(disch:=try exact aa)only[↓Ab,Ad,↓reduceIte,↓Qe,Qu];first | done | rfl
 | false =>
  have hvn:=hvn rfl;rw[hrel.2 rfl] at hr;unfold UG at hr;simp only at hr;obtain ⟨okm,hokm⟩:∃ okm,okm=AM n 0:=⟨_,rfl⟩;rw[<-hokm] at hr hvn;obtain ⟨nk,nt,nks,nl⟩:=n;simp(disch:=try exact aa)only[Af,Tryz.f24,↓Ab,Ad,↓reduceIte,Qu,Qv];refine Aa.by hrn lD lD lC ?_;simp(disch:=try exact aa)only[ndC,↓Ab,Ad,↓reduceIte,Qu];first
  | (refine Aa.by sp lD lD lC ?_)
  by_cases hw:p2=data.length
  ·cases hvd:Lib.validD data;·rw[if_neg (by rw[hvd];simp)] at hr;subst hr;rw[hvd] at hv;simp(disch:=try exact aa)only[Af,hw,↓Ab,Ad,↓reduceIte,Qu];refine Aa.of hv lD ?_;simp(disch:=try exact aa)only[↓Ab,Ad,↓reduceIte,↓Qe,Qu];first | done | rfl
   rw[if_pos ⟨hvd,hq0.1 hw⟩] at hr;rw[hvd] at hv;simp(disch:=try exact aa)only[Af,hw,↓Ab,Ad,↓reduceIte,Qu];refine Aa.of hv lD ?_;simp(disch:=try exact aa)only[↓Ab,Ad,↓reduceIte,Qu];refine Aa.of hvn lD ?_;cases okm;·rw[if_neg lC] at hr;subst hr;simp(disch:=try exact aa)only[↓Ab,Ad,↓reduceIte,↓Qe,Qu];first | done | rfl
   rw[if_pos rfl] at hr;exact oC
  rw[if_neg fun c=>hw (hq0.2 c.2)] at hr;subst hr;simp(disch:=try exact aa)only[Af,↓Ab,Ad,↓reduceIte,↓Qe,Qu];first | done | rfl
abbrev PtR:=List UInt8 × Nd
def ptC (p:PtR):List D:=S p.1::ndC p.2
def Gy (l:List PtR):List D:=l.flatMap ptC
abbrev PtS (l:List PtR) (full:Bool):D:=.sl l.length full (Gy l)
def VX (p:PtR):(ptC p).length=5:=by simp[ptC,Ev]
def FSa:∀ l:List PtR,(Gy l).length=5*l.length
 | []=>rfl
 | o::l=>by have ih:=FSa l;have e:Gy (o::l)=ptC o++Gy l:=rfl;rw[e,AfI,VX,ih,Aev];omega
def T4 (a b:List PtR):Gy (a++b)=Gy a++Gy b:=by simp[Gy]
mutual
def Ia:Nd->List UInt8->List PtR
 | .mk _ _ ks l,front=>G3 l front ks
def G3:List Nd->List UInt8->List (List UInt8)->List PtR
 | [],_,_=>[]
 | n::r,front,ks=>(if n.kind=6 then Ia n (front++ks.headD []++[46]) else [(front++ks.headD [],n)])++G3 r front ks.tail
end
def Lh (n:Nd) (path:List UInt8):List PtR:=if n.kind=6 then Ia n (path++[46]) else [(path,n)]
def G8 (l:List Nd) (front:List UInt8) (ks:List (List UInt8)) (k:Nat):List PtR:=(List.range k).flatMap fun i=>Lh (l.getD i noN) (front++ks.getD i [])
def PV (l:List Nd) (front:List UInt8) (ks:List (List UInt8)) (k:Nat):G8 l front ks (k+1)=G8 l front ks k++Lh (l.getD k noN) (front++ks.getD k []):=by unfold G8;rw[List.range_succ,List.flatMap_append];simp
def Up:∀ (l:List Nd) (front:List UInt8) (ks:List (List UInt8)),ks.length=l.length->G8 l front ks l.length=G3 l front ks
 | [],front,ks,h=>rfl
 | n::r,front,ks,h=>by
   cases ks with
   | nil=>simp at h
   | cons k kr =>have ih:=Up r front kr ji;rw[G3,AgR,<-ih];unfold G8;rw[Aev,List.range_succ_eq_map,List.flatMap_cons,List.flatMap_map];rfl
mutual
def NK:∀ (n:Nd) (front:List UInt8),(Ia n front).length<=BG n.kids
 | .mk _ _ ks l,front=>L0 l front ks
def L0:∀ (l:List Nd) (front:List UInt8) (ks:List (List UInt8)),(G3 l front ks).length<=BG l
 | [],_,_=>Agx _
 | n::r,front,ks=>by
   have h2:=L0 r front ks.tail;have h1:(if n.kind=6 then Ia n (front++ks.headD []++[46]) else [(front++ks.headD [],n)]).length<=nsz n:=by
    split;·have:=NK n (front++ks.headD []++[46]);have:=CK n;omega
    have:=Cv n;simp only[Aev,AgB];omega
   rw[G3,BG,AfI];omega
end
def NL (n:Nd) (path:List UInt8):(Lh n path).length<=nsz n:=by
 unfold Lh;split;·have:=NK n (path++[46]);have:=CK n;omega
 have:=Cv n;simp only[Aev,AgB];omega
def Uo (l:List Nd) (front:List UInt8) (ks:List (List UInt8)):∀ k,k<=l.length->(G8 l front ks k).length<=Ud l k
 | 0,_=>by simp[G8]
 | k+1,h=>by have ih:=Uo l front ks k lA;have:=NL (l.getD k noN) (front++ks.getD k []);rw[PV,AfI,Lo lA];omega
end
section
open Go Go.Proofs Go.Abs
variable {G:Ah}
end
section
open Go Go.Proofs Go.Abs
end
section
open Go Go.Proofs Go.Abs
variable {G:Ah}
structure ZN (z:Nat) (n:Nd):Prop where
 sz:szN n
 nz:nsz n<=z
 ky:n.keys.length<=1000
def GN.zn {d:Nat} {n:Nd} (h:GN d n) (hd:d<=5):ZN 121 n:=by
 have hz:=h.sz;have:zM d<=121:=by rcases (by omega:d=0\/d=1\/d=2\/d=3\/d=4\/d=5) with rfl | rfl | rfl | rfl | rfl | rfl<;>decide
 have o:=FB (h.ok 0 lA);refine ⟨Z0 _ n 0 (Agx _) (h.ok 0 lA) lA,lA,?_⟩;by_cases h6:n.kind=6;·have h1:=(o.recd h6).1;have h2:=CK n;have h3:=CP n.kids;omega
 rw[o.nrecd h6];simp
def E1 (n:Nd):Nat->Nd
 | 0=>n
 | k+1=>.mk 5 [] [] [E1 n k]
def Mq (n:Nd) (w:Int):Nd :=
 if w % 9=0 then .mk n.kind [120] n.keys n.kids
 else if w % 9=1 then .mk n.kind n.text ([107]::n.keys) n.kids
 else if w % 9=2 then .mk (w.tdiv 9 % 8) n.text n.keys n.kids
 else if w % 9=3 then .mk n.kind n.text n.keys (.mk 3 [49,101,53] [] []::n.kids)
 else if w % 9=4 then E1 n (11+w.tdiv 9 % 7).toNat
 else if w % 9=5 then .mk 6 [] [[97],[97]] [n,n]
 else if w % 9=6 then .mk 5 [] [] [.mk 4 [1] [] [],n]
 else n
def RJ {z:Nat} {n:Nd} (h:ZN z n):∀ k,ZN (z+k) (E1 n k)
 | 0=>h
 | k+1=>by
   have ih:=RJ h k;refine ⟨⟨lC,lC,(fun s hs=>kX),lC,⟨ih.sz,trivial⟩⟩,?_,(show ([]:List (List UInt8)).length<=1000 by simp)⟩;show 1+(nsz (E1 n k)+0)<=_
   have:=ih.nz;omega
def AaA {z:Nat} {n:Nd} (hz:z<=700) (h:ZN z n) (w:Int):szN (Mq n w)/\nsz (Mq n w)<=1500:=by
 have hs:=h.sz;have hn:=h.nz;have hm:(11+w.tdiv 9 % 7).toNat<=20:=lA
 have hw:=RJ h (11+w.tdiv 9 % 7).toNat;unfold Mq;generalize (11+w.tdiv 9 % 7).toNat=k at *;obtain ⟨na,nb,nc,ne⟩:=n;obtain ⟨s1,s2,s3,s4,s5⟩:=hs;have hnz:nsz (.mk na nb nc ne)=1+BG ne:=rfl;have hnl:=CP ne;have hkl:nc.length<=100000:=s2;repeat' split
 ·exact ⟨⟨by simp[],s2,s3,s4,s5⟩,gF⟩
 ·refine ⟨⟨s1,?_,(fun s hs=>?_),s4,s5⟩,gF⟩;·have:=h.ky;simp only[Nd.keys,Aev] at *;omega
  rcases Aex.1 hs with rfl | hs
  ·simp
  exact s3 s hs
 ·exact ⟨⟨s1,s2,s3,s4,s5⟩,gF⟩
 ·exact ⟨⟨s1,s2,s3,by simp[Nd.kids];omega,⟨mQ,s5⟩⟩,by show 1+(1+0+BG ne)<=_;omega⟩
 ·exact ⟨hw.sz,by have:=hw.nz;omega⟩
 ·exact ⟨⟨lC,lC,(fun s hs=>by simp at hs;rw[hs];simp),lC,⟨h.sz,h.sz,trivial⟩⟩,by show 1+(nsz _+(nsz _+0))<=_;omega⟩
 ·exact ⟨⟨lC,lC,(fun s hs=>kX),lC,⟨mQ,h.sz,trivial⟩⟩,by show 1+(1+0+(nsz _+0))<=_;omega⟩
 exact ⟨h.sz,lA⟩
end
end Go.Proofs.YtmidaophnbdcdaaGreatDoor
