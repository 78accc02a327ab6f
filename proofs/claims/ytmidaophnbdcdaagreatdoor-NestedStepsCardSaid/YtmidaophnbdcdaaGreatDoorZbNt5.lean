/-
  Contracts of the functions, one after another.
-/
import Derived.Test.YtmidaophnbdcdaaGreatDoorZbNt4
set_option linter.all false
open Go.Abs renaming Bc->HW,Dv->BW,Cx->SW,Ap->AW,BP->sA,Bw->kZ
open Go.Proofs.Tryz renaming prog->TP
set_option maxHeartbeats 16000000
set_option maxRecDepth 100000
open Go.Abs renaming FW->Qa,Co->Qb,BU->Qc,Cg->Qd,DD->Qe,AP->Qf,AY->Qg,AG->Qh,Bl->Qi,Dc->Qj,He->Qk,Fx->Ql,Cb->Qm,B4->Qn,BE->Qo,C2->Qr,unfA->Qs,Gr->QJ,Kv->QL,CA->QM,EZ->QN,ID->QO,Hv->QP,BS->QQ,N3->QT,N2->QU,DQ->QV,OK->QW,Rv->QX,Rw->QY,Ru->QZ,UZ->Q0,Bh->Q1,PP->Q2
open Go.Abs.AV renaming one->Qp
open Go.Abs.D renaming one->Qq
open Go.IntKind renaming signed->Qt
open Nat renaming reduceAdd->Qu,reduceSub->Qv,reduceMul->Qw,reducePow->Qx,reduceDiv->Qy,reduceMod->Qz,reduceEqDiff->QI,reduceBEq->QK
open Int renaming reduceAdd->QA,reduceSub->QB,reduceMul->QC,reducePow->QD,reduceNeg->QE,reduceToNat->QF,reduceLT->QG,reduceLE->QH
open Option renaming toList_some->QR,toList_none->QS
open List renaming mem_cons_of_mem->AbY,mem_append_left->AbZ,length_append->Aeg,mem_append_right->Aen,getElem?_eq_some_iff->Aer,mem_append->Aes,mem_singleton->Aet,length_cons->Aeu,length_nil->Aev,mem_cons->Aex,length_set->AeB,getD_eq_getElem?_getD->AfI,take_of_length_le->Af0,nodup_append->Aga,nodup_cons->Agb,length_eq_zero_iff->Agp,set_cons_zero->Agq,append_assoc->Agv,getElem?_eq_getElem->Agx,set_cons_succ->Agy,drop_eq_getElem_cons->Agz,map_cons->AgA,map_nil->AgB,drop_eq_nil_of_le->AgD,append_nil->AgE,take_left->AgG,drop_of_length_le->AgH,not_mem_nil->AgK,getElem?_eq_none->AgO,nodup_nil->AgP,dropWhile_cons->AgQ,mem_reverse->AgR,take->AgT,drop->AgU
open Bool renaming true_and->Aeq,false_and->AeA,and_false->AgJ,false_or->AgM,or_eq_true->AgS
open Nat renaming le_refl->Aew,eq_of_beq_eq_true->AfZ,add_sub_cancel_left->Af1,reduceMod->Af2,reduceDiv->Af7,lt_or_ge->Agu,zero_le->Agw,sub_self->AgC,mul_le_mul_left->AgF,beq->AgL,add_zero->AgN,pow_succ->AgV
open Int renaming toNat_natCast->AgI
namespace Go.Proofs.YtmidaophnbdcdaaGreatDoor
section
open Go Go.Proofs Go.Abs
variable {G:Ah}
def MB7:B8:=fun k=>AgL k 2000027 || (AgL k 2000028 || (AgL k 4000113 || (AgL k 4000080 || (AgL k 4000082 || AgL k 4000081))))
def Ago:MB7 2000027=true:=rfl
def Agn:MB7 2000028=true:=rfl
def Agm:MB7 4000113=true:=rfl
def Agl:MB7 4000080=true:=rfl
def Agk:MB7 4000082=true:=rfl
def Agj:MB7 4000081=true:=rfl
def Agi {k:Nat} (h:¬(k=2000027\/k=2000028\/k=4000113\/k=4000080\/k=4000082\/k=4000081)):MB7 k=false:=by
 cases e:MB7 k with
 | false=>rfl
 | true =>
  unfold MB7 at e;simp only[AgS] at e;rcases e with e | e | e | e | e | e
  ·exact qt
  ·exact qn
  ·exact pX
  ·exact absurd (.inr (.inr (.inr (.inl (AfZ e))))) h
  ·exact absurd (.inr (.inr (.inr (.inr (.inl (AfZ e)))))) h
  exact absurd (.inr (.inr (.inr (.inr (.inr (AfZ e)))))) h
set_option linter.defProp false in
def MBX := ab @Agi (ab @Ago (ab @Agn (ab @Agm (ab @Agl (ab @Agk (ab @Agj (ab (show DH MB7 (some 27)=true from rfl) ((show DH MB7 (some 28)=true from rfl)))))))))
def Aea (x:PSt) (n:Nd) (c b:Bool) (ob:Nat) (ids:List Nat) (H:List Ae):Prop:=match x with
 | .beg r st=>c=false/\b=true/\CD r st ob ids H
 | .got r st m=>n=m/\c=true/\b=true/\CD r st ob ids H
 | .bad=>b=false
def CD.other {r:List UInt8} {st:List Nd} {ob:Nat} {ids:List Nat} {H:List Ae} (h:CD r st ob ids H) {j:Nat} {b:Ae} (j0:¬j=0) (hj:j∉ob::ids) (hb:∀ J t,b≠.ext J t):CD r st ob ids (H.set j b) :=
 ⟨by rw[Ao j0];exact h.box,h.stack.frame fun x hx=>Ao fun e=>hj (e▸hx),h.pos,h.nox.set _ hb⟩
def CI.set {F F':List Nat} {H H':List Ae} (h:CI F H F' H') {j:Nat} (hj:H.length<=j) (b:Ae):CI F H F' (H'.set j b) :=
 ⟨by rw[AeB];exact h.len,fun i h0 hi hn=>by rw[Ao lA];exact h.keep i h0 hi hn,h.old⟩
def KJ {r:List UInt8} {t:Nd} {st:List Nd} {b:Bool} {ob:Nat} {ids:List Nat} {H:List Ae} (h:Ad8 (EW r t st) ob b ids H) {j:Nat} {x:AV} {l:List AV} (j0:¬j=0) (hj:j∉ob::ids) :
  Aea (EW r t st) noN false b ob ids (H.set j (.box (x::l))):=by
 unfold Ad8 at h;have hk:∀ y,EW r t st=y->(∃ a c,y=.beg a c)\/y=.bad:=by
  intro y e;unfold EW at e;split at e;·exact .inl ⟨_,_,e.symm⟩
  split at e;·exact .inl ⟨_,_,e.symm⟩
  exact .inr e.symm
 rcases hk _ rfl with ⟨a,c,e⟩ | e
 ·rw[e] at h ⊢;exact ⟨rfl,h.1,h.2.other j0 hj lC⟩
 rw[e] at h ⊢;exact h
def Hg {rest r:List UInt8} {st:List Nd} {ob:Nat} {ids:List Nat} {H H2:List Ae} {cells:List AV} {k:Int} (h:CD rest st ob ids H) (hs:Gk [] H st cells ids) (l2:H2.length=H.length+3)
  (e0:H2[0]?=some (.box [.d (S r),.lsl (H.length+2) 4 0 (st.length+1)])) (ef:∀ j,j≠0->j<H.length->j≠ob->H2[j]?=H[j]?) (e1:H2[H.length]?=some (.box zN))
  (e2:H2[H.length+2]?=some (.box (cells++(.d (.int .i64 k)::.d (.str ByteArray.empty)::.d (.sl 0 true [])::.d (.sl 0 true [])::[])))) (hx:NoX H2) :
  CD r (.mk k [] [] []::st) (H.length+2) ids H2/\CI (ob::ids) H ((H.length+2)::ids) H2/\H2[H.length]?=some (.box zN):=by
 have hnd:=Agb.1 h.stack.nd;have hlt:=h.stack.lt;have h0:0<H.length:=(Aer.1 h.box).1;have P:=CD.mk_top (r1:=r) (t:=.mk k [] [] []) (ik:=[]) (iq:=[]) (ka:=.d (.sl 0 true [])) (qa:=.d (.sl 0 true [])) (junk:=[]) e0 e2 hs (fun b hb=>ef b (fun e=>by have:=h.pos b (AbY _ hb);omega) (hlt b (AbY _ hb)) fun e=>hnd.1 (e▸hb)) (.inl ⟨rfl,rfl,rfl⟩) (.inl ⟨rfl,rfl,rfl⟩)
  (by rw[AgE,AgE];exact Agb.2 ⟨fun q=>by have:=hlt _ (AbY _ q);omega,hnd.2⟩) (fun b hb=>by
   rw[AgE,AgE] at hb;rcases Aex.1 hb with hb | hb
   ·omega
   exact h.pos b (AbY _ hb)) hx
 rw[AgE,AgE] at P;refine ⟨P,⟨lA,fun i i0 il hn=>ef i lA il fun e=>hn ki,fun i hi=>?_⟩,e1⟩;rcases Aex.1 hi with hi | hi
 ·exact .inr lA
 exact .inl (AbY _ hi)
def CI.not_mem {F F':List Nat} {H H':List Ae} (k:CI F H F' H') {j:Nat} (hj:j∉F) (hl:j<H.length):j∉F':=fun q=>by
 rcases k.old j q with q | q
 ·exact hj q
 omega
def Zo {rest:List UInt8} {st:List Nd} {ob:Nat} {ids:List Nat} {H:List Ae} (h:CD rest st ob ids H) (hst:st.length<=900000000) (hr:rest.length<=1000000000) :
  ∃ n c b ob' ids' H',Ctr TP G 79 [.ptr 0 0] H (.d (.tup [NdD n,.bool c,.bool b])) H'/\NoX H'/\CI (ob::ids) H (ob'::ids') H'/\Aea (Ez rest st) n c b ob' ids' H':=by
 have hsig:=fun (c:UInt8) (r:List UInt8) (hr:r.length<=1000000000) v=>GT (G:=G) c r lA v;have q0:=h.box;have l0:0<H.length:=(Aer.1 q0).1;have lb:ob<H.length:=h.stack.lt ob lC;have n0b:¬0=ob:=h.ne lC;have nb0:¬ob=0:=fun e=>n0b e.symm;obtain ⟨P1,K1⟩:=h.app (E:=[.box zN]) kE;have s1:=P1.lift (G:=G) (r':=(sgn 91 rest).1) (fun v=>hsig 91 rest hr v) lC;obtain ⟨P2,K2⟩:=P1.rest (r':=(sgn 91 rest).1);have hl1:=Bi 91 rest;obtain ⟨cf,hcf⟩:=CB [0,ob,H.length,H.length+1,H.length+2] aG;have c0:=hcf 0 _ rfl;have c1:=hcf 1 _ rfl;have c2:=hcf 2 _ rfl;have c3:=hcf 3 _ rfl;have c4:=hcf 4 _ rfl;cases h91:(sgn 91 rest).2 with
 | true =>
  obtain ⟨cells,ho,hs⟩:=h.stack.stk;rcases ho with ⟨junk,ho⟩ | ⟨ho1,ho⟩
  ·have hcl:=hs.len;simp only[Aev,AgN] at hcl;have htk:(cells++junk).take (st.length*4)=cells:=jA
   have htk2:∀ x,AgT (st.length*4) (cells++x)=cells:=fun x=>jA
   have hdr2:∀ x y z w:AV,AgU (st.length*4+4) (cells++[x,y,z,w])=[]:=fun x y z w=>AgH kG;obtain ⟨cs,hcs⟩:∃ cs,cs=cells++junk:=⟨_,rfl⟩;rw[<-hcs] at ho htk;obtain ⟨r,hr1⟩:∃ r,r=(sgn 91 rest).1:=⟨_,rfl⟩;have hrl:r.length<=1000000000:=jB
   obtain ⟨H2,hH2⟩:∃ H2,H2=((H.set 0 (.box [.d (S r),.lsl ob 4 0 st.length])).set ob .dead).set 0 (.box [.d (S r),.lsl (H.length+2) 4 0 (st.length+1)])++[.box zN,.box [.d (.int .i64 0),.d (.str {data:=#[]}),.d (.sl 0 true []),.d (.sl 0 true [])],.box (cells++(.d (.int .i64 5)::.d (.str ByteArray.empty)::.d (.sl 0 true [])::.d (.sl 0 true [])::[]))]:=⟨_,rfl⟩;obtain ⟨P3,K3,e3⟩:CD r (.mk 5 [] [] []::st) (H.length+2) ids H2/\CI (ob::ids) H ((H.length+2)::ids) H2/\H2[H.length]?=some (.box zN):=Hg h hs jK ba (fun j j0 jl jo=>aA) fS fS ax;have s3:=P3.lift (G:=G) (r':=(sgn (AC 5) r).1) (fun v=>hsig (AC 5) r hrl v) lC;obtain ⟨P4,K4⟩:=P3.rest (r':=(sgn (AC 5) r).1);have hl4:=Bi (AC 5) r;have lH2:H2.length=H.length+3:=jK
   have hF0:H.length∉(H.length+2)::ids:=fun q=>aN
   have e4:(H2.set 0 (.box [.d (S (sgn (AC 5) r).1),.lsl (H.length+2) 4 0 (st.length+1)]))[H.length]?=some (.box zN):=fD;have hbp:Ez rest st=Ht 5 r st:=dI;rw[hbp];unfold Ht;cases hcl2:(sgn (AC 5) r).2 with
   | true =>
    obtain ⟨ids5,H5,c5,P5,K5⟩:=IX (G:=G) P4 lA;have e5:H5[H.length]?=some (.box zN):=aY
    have l5:H.length<H5.length:=(Aer.1 e5).1;have hF:=(K4.trans K5).not_mem hF0 lA;refine ⟨(.mk 5 [] [] []),true,true,H.length+2,ids5,H5.set H.length (.box [.d (.int .i64 5),.d (S []),.d (.sl 0 false []),.d (.sl 0 false [])]),Ctr.bodyI (M:=MB7) Ak Tryz.func79 rfl SD ?h1 ?h2,?h3,((K3.trans K4).trans K5).set (Aew _) _,?h4⟩;case h1=>exact (P5.nox.set _ lC).ok
    case h3=>exact P5.nox.set _ lC
    case h4 =>rw[if_pos rfl];exact mS
    case h2 =>
     simp(disch:=try exact aa)only[MBX,Tryz.f79,↓Ab,Ad,↓reduceIte,Qu,Qv];refine Au.go s1 m8 lC ?_;rw[h91];simp(disch:=try exact aa)only[MBX,ho,htk,htk2,hdr2,hcl,AA,↓Ab,Ad,↓reduceIte,Qu,Qw,Qz];refine ⟨AF cf bZ dv,?_⟩;refine Aa.of (BJ 5) lD ?_;simp(disch:=try exact aa)only[MBX,↓Ab,Ad,Qu];rw[<-hr1,<-hH2];refine Au.go s3 m8 lC ?_;rw[hcl2];simp(disch:=try exact aa)only[MBX,↓Ab,Ad,Qu];refine Au.go c5 nC K5.len ?_;simp(disch:=try exact aa)only[Ai,e5,show ndC (.mk 5 [] [] [])=[.int .i64 5,S [],.sl 0 false [],.sl 0 false []] from rfl,A8,AeB,Agq,Agy,↓Ab,awV,awF,Qa,Qb,Qd,↓reduceIte,Qf,Qh,Qp,Qq,Qr,Qu];first
     | exact .inr ng
     | exact mD
   | false =>
    obtain ⟨b5,ids5,H5,c5,X5,K5,hQ5⟩:=I2 (G:=G) P4 lA lA jC;have e5:H5[H.length]?=some (.box zN):=aY
    have l5:H.length<H5.length:=(Aer.1 e5).1;have hF:=(K4.trans K5).not_mem hF0 lA;refine ⟨noN,false,b5,H.length+2,ids5,H5.set H.length (.box zN),Ctr.bodyI (M:=MB7) Ak Tryz.func79 rfl SD ?h1 ?h2,?h3,((K3.trans K4).trans K5).set (Aew _) _,?h4⟩;case h1=>exact (X5.set _ lC).ok
    case h3=>exact X5.set _ lC
    case h4 =>rw[if_neg lC];exact KJ hQ5 lA hF
    case h2 =>
     simp(disch:=try exact aa)only[MBX,Tryz.f79,↓Ab,Ad,↓reduceIte,Qu,Qv];refine Au.go s1 m8 lC ?_;rw[h91];simp(disch:=try exact aa)only[MBX,ho,htk,htk2,hdr2,hcl,AA,↓Ab,Ad,↓reduceIte,Qu,Qw,Qz];refine ⟨AF cf bZ dv,?_⟩;refine Aa.of (BJ 5) lD ?_;simp(disch:=try exact aa)only[MBX,↓Ab,Ad,Qu];rw[<-hr1,<-hH2];refine Au.go s3 m8 lC ?_;rw[hcl2];simp(disch:=try exact aa)only[MBX,↓Ab,Ad,Qu];refine Au.go c5 nC K5.len ?_;simp(disch:=try exact aa)only[Ai,e5,A8,AeB,Agq,Agy,↓Ab,awV,awF,Qa,Qb,Qd,↓reduceIte,Qf,Qh,Qp,Qq,Qr,Qu];first
     | exact .inr ng
     | exact mD
  have hst0:st=[]:=aB
  subst hst0;subst ho1;obtain ⟨r,hr1⟩:∃ r,r=(sgn 91 rest).1:=⟨_,rfl⟩;have hrl:r.length<=1000000000:=jB
  obtain ⟨H2,hH2⟩:∃ H2,H2=((H.set 0 (.box [.d (S r),.lsl ob 4 0 0])).set ob .dead).set 0 (.box [.d (S r),.lsl (H.length+2) 4 0 1])++[.box zN,.box [.d (.int .i64 0),.d (.str {data:=#[]}),.d (.sl 0 true []),.d (.sl 0 true [])],.box ((.d (.int .i64 5)::.d (.str ByteArray.empty)::.d (.sl 0 true [])::.d (.sl 0 true [])::[]))]:=⟨_,rfl⟩;obtain ⟨P3,K3,e3⟩:CD r (.mk 5 [] [] []::[]) (H.length+2) ids H2/\CI (ob::ids) H ((H.length+2)::ids) H2/\H2[H.length]?=some (.box zN):=Hg (cells:=[]) h hs jK ba (fun j j0 jl jo=>aA) fS fS ax;have s3:=P3.lift (G:=G) (r':=(sgn (AC 5) r).1) (fun v=>hsig (AC 5) r hrl v) lC;obtain ⟨P4,K4⟩:=P3.rest (r':=(sgn (AC 5) r).1);have hl4:=Bi (AC 5) r;have lH2:H2.length=H.length+3:=jK
  have hF0:H.length∉(H.length+2)::ids:=fun q=>aN
  have e4:(H2.set 0 (.box [.d (S (sgn (AC 5) r).1),.lsl (H.length+2) 4 0 1]))[H.length]?=some (.box zN):=fD
  have hbp:Ez rest []=Ht 5 r []:=dI
  rw[hbp];unfold Ht;cases hcl2:(sgn (AC 5) r).2 with
  | true =>
   obtain ⟨ids5,H5,c5,P5,K5⟩:=IX (G:=G) P4 lA;have e5:H5[H.length]?=some (.box zN):=aY
   have l5:H.length<H5.length:=(Aer.1 e5).1;have hF:=(K4.trans K5).not_mem hF0 lA;refine ⟨(.mk 5 [] [] []),true,true,H.length+2,ids5,H5.set H.length (.box [.d (.int .i64 5),.d (S []),.d (.sl 0 false []),.d (.sl 0 false [])]),Ctr.bodyI (M:=MB7) Ak Tryz.func79 rfl SD ?h1 ?h2,?h3,((K3.trans K4).trans K5).set (Aew _) _,?h4⟩;case h1=>exact (P5.nox.set _ lC).ok
   case h3=>exact P5.nox.set _ lC
   case h4 =>rw[if_pos rfl];exact mS
   case h2 =>
    simp(disch:=try exact aa)only[MBX,Tryz.f79,↓Ab,Ad,↓reduceIte,Qu,Qv];refine Au.go s1 m8 lC ?_;rw[h91];simp(disch:=try exact aa)only[MBX,ho,AA,↓Ab,Ad,↓reduceIte,Qu,Qw,Qz];refine ⟨AF cf bZ dv,?_⟩;refine Aa.of (BJ 5) lD ?_;simp(disch:=try exact aa)only[MBX,↓Ab,Ad,Qu];rw[<-hr1,<-hH2];refine Au.go s3 m8 lC ?_;rw[hcl2];simp(disch:=try exact aa)only[MBX,↓Ab,Ad,Qu];refine Au.go c5 nC K5.len ?_;simp(disch:=try exact aa)only[Ai,e5,show ndC (.mk 5 [] [] [])=[.int .i64 5,S [],.sl 0 false [],.sl 0 false []] from rfl,A8,AeB,Agq,Agy,↓Ab,awV,awF,Qa,Qb,Qd,↓reduceIte,Qf,Qh,Qp,Qq,Qr,Qu];first
    | exact .inr ng
    | exact mD
  | false =>
   obtain ⟨b5,ids5,H5,c5,X5,K5,hQ5⟩:=I2 (G:=G) P4 lA lA jC;have e5:H5[H.length]?=some (.box zN):=aY
   have l5:H.length<H5.length:=(Aer.1 e5).1;have hF:=(K4.trans K5).not_mem hF0 lA;refine ⟨noN,false,b5,H.length+2,ids5,H5.set H.length (.box zN),Ctr.bodyI (M:=MB7) Ak Tryz.func79 rfl SD ?h1 ?h2,?h3,((K3.trans K4).trans K5).set (Aew _) _,?h4⟩;case h1=>exact (X5.set _ lC).ok
   case h3=>exact X5.set _ lC
   case h4 =>rw[if_neg lC];exact KJ hQ5 lA hF
   case h2 =>
    simp(disch:=try exact aa)only[MBX,Tryz.f79,↓Ab,Ad,↓reduceIte,Qu,Qv];refine Au.go s1 m8 lC ?_;rw[h91];simp(disch:=try exact aa)only[MBX,ho,AA,↓Ab,Ad,↓reduceIte,Qu,Qw,Qz];refine ⟨AF cf bZ dv,?_⟩;refine Aa.of (BJ 5) lD ?_;simp(disch:=try exact aa)only[MBX,↓Ab,Ad,Qu];rw[<-hr1,<-hH2];refine Au.go s3 m8 lC ?_;rw[hcl2];simp(disch:=try exact aa)only[MBX,↓Ab,Ad,Qu];refine Au.go c5 nC K5.len ?_;simp(disch:=try exact aa)only[Ai,e5,A8,AeB,Agq,Agy,↓Ab,awV,awF,Qa,Qb,Qd,↓reduceIte,Qf,Qh,Qp,Qq,Qr,Qu];first
    | exact .inr ng
    | exact mD
 | false =>
  have hl2:=Bi 123 (sgn 91 rest).1;have s2:=P2.lift (G:=G) (r':=(sgn 123 (sgn 91 rest).1).1) (fun v=>hsig 123 (sgn 91 rest).1 lA v) lC;simp only[Cc,l0,AeB] at s2;obtain ⟨P3,K3⟩:=P2.rest (r':=(sgn 123 (sgn 91 rest).1).1);cases h123:(sgn 123 (sgn 91 rest).1).2 with
  | true =>
   clear P3 K3;obtain ⟨cells,ho,hs⟩:=h.stack.stk;rcases ho with ⟨junk,ho⟩ | ⟨ho1,ho⟩
   ·have hcl:=hs.len;simp only[Aev,AgN] at hcl;have htk:(cells++junk).take (st.length*4)=cells:=jA
    have htk2:∀ x,AgT (st.length*4) (cells++x)=cells:=fun x=>jA
    have hdr2:∀ x y z w:AV,AgU (st.length*4+4) (cells++[x,y,z,w])=[]:=fun x y z w=>AgH kG;obtain ⟨cs,hcs⟩:∃ cs,cs=cells++junk:=⟨_,rfl⟩;rw[<-hcs] at ho htk;obtain ⟨r,hr1⟩:∃ r,r=(sgn 123 (sgn 91 rest).1).1:=⟨_,rfl⟩;have hrl:r.length<=1000000000:=jB
    obtain ⟨H2,hH2⟩:∃ H2,H2=(((H.set 0 (.box [.d (S (sgn 91 rest).1),.lsl ob 4 0 st.length])).set 0 (.box [.d (S r),.lsl ob 4 0 st.length])).set ob .dead).set 0 (.box [.d (S r),.lsl (H.length+2) 4 0 (st.length+1)])++[.box zN,.box [.d (.int .i64 0),.d (.str {data:=#[]}),.d (.sl 0 true []),.d (.sl 0 true [])],.box (cells++(.d (.int .i64 6)::.d (.str ByteArray.empty)::.d (.sl 0 true [])::.d (.sl 0 true [])::[]))]:=⟨_,rfl⟩;obtain ⟨P3,K3,e3⟩:CD r (.mk 6 [] [] []::st) (H.length+2) ids H2/\CI (ob::ids) H ((H.length+2)::ids) H2/\H2[H.length]?=some (.box zN):=Hg h hs jK ba (fun j j0 jl jo=>aw) fS fS an;have s3:=P3.lift (G:=G) (r':=(sgn (AC 6) r).1) (fun v=>hsig (AC 6) r hrl v) lC;obtain ⟨P4,K4⟩:=P3.rest (r':=(sgn (AC 6) r).1);have hl4:=Bi (AC 6) r;have lH2:H2.length=H.length+3:=jK
    have hF0:H.length∉(H.length+2)::ids:=fun q=>aN
    have e4:(H2.set 0 (.box [.d (S (sgn (AC 6) r).1),.lsl (H.length+2) 4 0 (st.length+1)]))[H.length]?=some (.box zN):=fD;have hbp:Ez rest st=Ht 6 r st:=bi;rw[hbp];unfold Ht;cases hcl2:(sgn (AC 6) r).2 with
    | true =>
     obtain ⟨ids5,H5,c5,P5,K5⟩:=IX (G:=G) P4 lA;have e5:H5[H.length]?=some (.box zN):=aY
     have l5:H.length<H5.length:=(Aer.1 e5).1;have hF:=(K4.trans K5).not_mem hF0 lA;refine ⟨(.mk 6 [] [] []),true,true,H.length+2,ids5,H5.set H.length (.box [.d (.int .i64 6),.d (S []),.d (.sl 0 false []),.d (.sl 0 false [])]),Ctr.bodyI (M:=MB7) Ak Tryz.func79 rfl SD ?h1 ?h2,?h3,((K3.trans K4).trans K5).set (Aew _) _,?h4⟩;case h1=>exact (P5.nox.set _ lC).ok
     case h3=>exact P5.nox.set _ lC
     case h4 =>rw[if_pos rfl];exact mS
     case h2 =>
      simp(disch:=try exact aa)only[MBX,Tryz.f79,↓Ab,Ad,↓reduceIte,Qu,Qv];refine Au.go s1 m8 lC ?_;rw[h91];simp(disch:=try exact aa)only[MBX,AA,↓Ab,Ad,Qu];refine Au.go s2 m8 lC ?_;rw[h123];simp(disch:=try exact aa)only[MBX,ho,htk,htk2,hdr2,hcl,AA,↓Ab,Ad,↓reduceIte,Qu,Qw,Qz];refine ⟨AF cf bZ dv,?_⟩;refine Aa.of (BJ 6) lD ?_;simp(disch:=try exact aa)only[MBX,↓Ab,Ad,Qu];rw[<-hr1,<-hH2];refine Au.go s3 m8 lC ?_;rw[hcl2];simp(disch:=try exact aa)only[MBX,↓Ab,Ad,Qu];refine Au.go c5 nC K5.len ?_;simp(disch:=try exact aa)only[Ai,e5,show ndC (.mk 6 [] [] [])=[.int .i64 6,S [],.sl 0 false [],.sl 0 false []] from rfl,A8,AeB,Agq,Agy,↓Ab,awV,awF,Qa,Qb,Qd,↓reduceIte,Qf,Qh,Qp,Qq,Qr,Qu];first
      | exact .inr ng
      | exact mD
    | false =>
     obtain ⟨b5,ids5,H5,c5,X5,K5,hQ5⟩:=I2 (G:=G) P4 lA lA jC;have e5:H5[H.length]?=some (.box zN):=aY
     have l5:H.length<H5.length:=(Aer.1 e5).1;have hF:=(K4.trans K5).not_mem hF0 lA;refine ⟨noN,false,b5,H.length+2,ids5,H5.set H.length (.box zN),Ctr.bodyI (M:=MB7) Ak Tryz.func79 rfl SD ?h1 ?h2,?h3,((K3.trans K4).trans K5).set (Aew _) _,?h4⟩;case h1=>exact (X5.set _ lC).ok
     case h3=>exact X5.set _ lC
     case h4 =>rw[if_neg lC];exact KJ hQ5 lA hF
     case h2 =>
      simp(disch:=try exact aa)only[MBX,Tryz.f79,↓Ab,Ad,↓reduceIte,Qu,Qv];refine Au.go s1 m8 lC ?_;rw[h91];simp(disch:=try exact aa)only[MBX,AA,↓Ab,Ad,Qu];refine Au.go s2 m8 lC ?_;rw[h123];simp(disch:=try exact aa)only[MBX,ho,htk,htk2,hdr2,hcl,AA,↓Ab,Ad,↓reduceIte,Qu,Qw,Qz];refine ⟨AF cf bZ dv,?_⟩;refine Aa.of (BJ 6) lD ?_;simp(disch:=try exact aa)only[MBX,↓Ab,Ad,Qu];rw[<-hr1,<-hH2];refine Au.go s3 m8 lC ?_;rw[hcl2];simp(disch:=try exact aa)only[MBX,↓Ab,Ad,Qu];refine Au.go c5 nC K5.len ?_;simp(disch:=try exact aa)only[Ai,e5,A8,AeB,Agq,Agy,↓Ab,awV,awF,Qa,Qb,Qd,↓reduceIte,Qf,Qh,Qp,Qq,Qr,Qu];first
      | exact .inr ng
      | exact mD
   have hst0:st=[]:=aB;subst hst0;subst ho1;obtain ⟨r,hr1⟩:∃ r,r=(sgn 123 (sgn 91 rest).1).1:=⟨_,rfl⟩;have hrl:r.length<=1000000000:=jB
   obtain ⟨H2,hH2⟩:∃ H2,H2=(((H.set 0 (.box [.d (S (sgn 91 rest).1),.lsl ob 4 0 0])).set 0 (.box [.d (S r),.lsl ob 4 0 0])).set ob .dead).set 0 (.box [.d (S r),.lsl (H.length+2) 4 0 1])++[.box zN,.box [.d (.int .i64 0),.d (.str {data:=#[]}),.d (.sl 0 true []),.d (.sl 0 true [])],.box ((.d (.int .i64 6)::.d (.str ByteArray.empty)::.d (.sl 0 true [])::.d (.sl 0 true [])::[]))]:=⟨_,rfl⟩;obtain ⟨P3,K3,e3⟩:CD r (.mk 6 [] [] []::[]) (H.length+2) ids H2/\CI (ob::ids) H ((H.length+2)::ids) H2/\H2[H.length]?=some (.box zN):=Hg (cells:=[]) h hs jK ba (fun j j0 jl jo=>aw) fS fS an;have s3:=P3.lift (G:=G) (r':=(sgn (AC 6) r).1) (fun v=>hsig (AC 6) r hrl v) lC;obtain ⟨P4,K4⟩:=P3.rest (r':=(sgn (AC 6) r).1);have hl4:=Bi (AC 6) r;have lH2:H2.length=H.length+3:=jK
   have hF0:H.length∉(H.length+2)::ids:=fun q=>aN
   have e4:(H2.set 0 (.box [.d (S (sgn (AC 6) r).1),.lsl (H.length+2) 4 0 1]))[H.length]?=some (.box zN):=fD;have hbp:Ez rest []=Ht 6 r []:=bi;rw[hbp];unfold Ht;cases hcl2:(sgn (AC 6) r).2 with
   | true =>
    obtain ⟨ids5,H5,c5,P5,K5⟩:=IX (G:=G) P4 lA;have e5:H5[H.length]?=some (.box zN):=aY
    have l5:H.length<H5.length:=(Aer.1 e5).1;have hF:=(K4.trans K5).not_mem hF0 lA;refine ⟨(.mk 6 [] [] []),true,true,H.length+2,ids5,H5.set H.length (.box [.d (.int .i64 6),.d (S []),.d (.sl 0 false []),.d (.sl 0 false [])]),Ctr.bodyI (M:=MB7) Ak Tryz.func79 rfl SD ?h1 ?h2,?h3,((K3.trans K4).trans K5).set (Aew _) _,?h4⟩;case h1=>exact (P5.nox.set _ lC).ok
    case h3=>exact P5.nox.set _ lC
    case h4 =>rw[if_pos rfl];exact mS
    case h2 =>
     simp(disch:=try exact aa)only[MBX,Tryz.f79,↓Ab,Ad,↓reduceIte,Qu,Qv];refine Au.go s1 m8 lC ?_;rw[h91];simp(disch:=try exact aa)only[MBX,AA,↓Ab,Ad,Qu];refine Au.go s2 m8 lC ?_;rw[h123];simp(disch:=try exact aa)only[MBX,ho,AA,↓Ab,Ad,↓reduceIte,Qu,Qw,Qz];refine ⟨AF cf bZ dv,?_⟩;refine Aa.of (BJ 6) lD ?_;simp(disch:=try exact aa)only[MBX,↓Ab,Ad,Qu];rw[<-hr1,<-hH2];refine Au.go s3 m8 lC ?_;rw[hcl2];simp(disch:=try exact aa)only[MBX,↓Ab,Ad,Qu];refine Au.go c5 nC K5.len ?_;simp(disch:=try exact aa)only[Ai,e5,show ndC (.mk 6 [] [] [])=[.int .i64 6,S [],.sl 0 false [],.sl 0 false []] from rfl,A8,AeB,Agq,Agy,↓Ab,awV,awF,Qa,Qb,Qd,↓reduceIte,Qf,Qh,Qp,Qq,Qr,Qu];first
     | exact .inr ng
     | exact mD
   | false =>
    obtain ⟨b5,ids5,H5,c5,X5,K5,hQ5⟩:=I2 (G:=G) P4 lA lA jC;have e5:H5[H.length]?=some (.box zN):=aY
    have l5:H.length<H5.length:=(Aer.1 e5).1;have hF:=(K4.trans K5).not_mem hF0 lA;refine ⟨noN,false,b5,H.length+2,ids5,H5.set H.length (.box zN),Ctr.bodyI (M:=MB7) Ak Tryz.func79 rfl SD ?h1 ?h2,?h3,((K3.trans K4).trans K5).set (Aew _) _,?h4⟩;case h1=>exact (X5.set _ lC).ok
    case h3=>exact X5.set _ lC
    case h4 =>rw[if_neg lC];exact KJ hQ5 lA hF
    case h2 =>
     simp(disch:=try exact aa)only[MBX,Tryz.f79,↓Ab,Ad,↓reduceIte,Qu,Qv];refine Au.go s1 m8 lC ?_;rw[h91];simp(disch:=try exact aa)only[MBX,AA,↓Ab,Ad,Qu];refine Au.go s2 m8 lC ?_;rw[h123];simp(disch:=try exact aa)only[MBX,ho,AA,↓Ab,Ad,↓reduceIte,Qu,Qw,Qz];refine ⟨AF cf bZ dv,?_⟩;refine Aa.of (BJ 6) lD ?_;simp(disch:=try exact aa)only[MBX,↓Ab,Ad,Qu];rw[<-hr1,<-hH2];refine Au.go s3 m8 lC ?_;rw[hcl2];simp(disch:=try exact aa)only[MBX,↓Ab,Ad,Qu];refine Au.go c5 nC K5.len ?_;simp(disch:=try exact aa)only[Ai,e5,A8,AeB,Agq,Agy,↓Ab,awV,awF,Qa,Qb,Qd,↓reduceIte,Qf,Qh,Qp,Qq,Qr,Qu];first
     | exact .inr ng
     | exact mD
  | false =>
   obtain ⟨r,hr1⟩:∃ r,r=(sgn 123 (sgn 91 rest).1).1:=⟨_,rfl⟩;have hbp:Ez rest st=if (Gc r).2.2=true then .got (Gc r).1 st (Gc r).2.1 else .bad:=(by unfold Ez;rw[if_neg (by rw[h91];simp),if_neg (by rw[h123];simp),hr1])
   rw[hbp];rw[<-hr1] at P3 K3;have s3:=P3.lift (G:=G) (r':=(Gc r).1) (fun v=>R5 (G:=G) r jB v) lC;obtain ⟨P4,K4⟩:=P3.rest (r':=(Gc r).1);generalize Gc r=x at *;obtain ⟨x1,⟨k,tx,ks,l⟩,x3⟩:=x;simp only at s3 P4 K4 ⊢;have hF:H.length∉ob::ids:=fun q=>fF
   have P5:=P4.other (j:=H.length) (b:=.box ((ndC (.mk k tx ks l)).map .d)) lA hF lC;have K5:=(((K1.trans K2).trans K3).trans K4).set (j:=H.length) (Aew _) (.box ((ndC (.mk k tx ks l)).map .d))
   have eH:((((H++[Ae.box zN]).set 0 (.box [.d (S (sgn 91 rest).1),.lsl ob 4 0 st.length])).set 0 (.box [.d (S r),.lsl ob 4 0 st.length])).set 0 (.box [.d (S x1),.lsl ob 4 0 st.length])).set H.length (.box ((ndC (.mk k tx ks l)).map .d)) =
     ((H.set 0 (.box [.d (S (sgn 91 rest).1),.lsl ob 4 0 st.length])).set 0 (.box [.d (S r),.lsl ob 4 0 st.length])).set 0 (.box [.d (S x1),.lsl ob 4 0 st.length])++[.box ((ndC (.mk k tx ks l)).map .d)]:=by
    simp only[Cc,Cu,l0,AeB,Aew,AgC,Agq]
   simp only[Cc,l0,AeB] at s3;refine ⟨.mk k tx ks l,x3,x3,ob,ids,_,Ctr.bodyI (M:=MB7) Ak Tryz.func79 rfl SD P5.nox.ok ?_,P5.nox,K5,?_⟩
   ·simp(disch:=try exact aa)only[MBX,Tryz.f79,AA,↓Ab,Ad,↓reduceIte,Qu,Qv];refine Au.go s1 m8 lC ?_;rw[h91];simp(disch:=try exact aa)only[MBX,AA,↓Ab,Ad,Qu];refine Au.go s2 m8 lC ?_;rw[h123];simp(disch:=try exact aa)only[MBX,↓Ab,Ad,Qu];rw[<-hr1];refine Au.go s3 nC lC ?_;simp(disch:=try exact aa)only[Ai,MBX,ndC,AA,↓Ab,Ad,↓reduceIte,Qu];first
    | exact .inr ng
    | exact mD
   cases x3 with
   | true=>exact ⟨rfl,rfl,rfl,P5⟩
   | false=>rfl
def Xv {N:Nat} {rest:List UInt8} {t:Nd} {st:List Nd} (h1:st.length+1+rest.length<=N) (h2:t.keys.length+rest.length<=N/\t.kids.length+rest.length<=N) (h3:∀ s∈st,s.keys.length+rest.length<=N/\s.kids.length+rest.length<=N):okP N (EW rest t st):=by
 unfold EW;split
 ·refine ⟨by simp only[Aeu];omega,fun s hs=>?_⟩;rcases Aex.1 hs with rfl | hs
  ·exact h2
  exact h3 s hs
 split
 ·rename_i h;have q1:=Aak h.1;have q2:=Fu h.2;refine ⟨by simp only[Aeu];omega,fun s hs=>?_⟩;rcases Aex.1 hs with rfl | hs
  ·exact ⟨by simp only[BH,Nd.keys,Aeg,Aeu,Aev];have:=h2.1;unfold Nd.keys at this;omega,by have:=h2.2;show t.kids.length+_<=N;omega⟩
  have:=h3 s hs;omega
 trivial
def Xu {N:Nat} {k:Int} {rest:List UInt8} {st:List Nd} (h1:st.length+1+rest.length<=N) (h3:∀ s∈st,s.keys.length+rest.length<=N/\s.kids.length+rest.length<=N):okP N (Ht k rest st):=by
 have hl:=Bi (AC k) rest;unfold Ht;split;·rename_i h;have q:=Fu h;exact ⟨lA,fun s hs=>by have:=h3 s hs;omega⟩
 exact Xv lA ⟨by simp[Nd.keys];omega,by simp[Nd.kids];omega⟩ fun s hs=>by have:=h3 s hs;omega
def So {N:Nat} {rest:List UInt8} {st:List Nd} (h:okP N (.beg rest st)):okP N (Ez rest st):=by
 obtain ⟨h1,h2⟩:=h;have l1:=Bi 91 rest;have l2:=Bi 123 (sgn 91 rest).1;unfold Ez;split
 ·rename_i e;have:=Fu e;exact Xu lA fun s hs=>gQ
 split;·rename_i e;have:=Fu e;exact Xu lA fun s hs=>gQ
 split;·rename_i e;have:=Xk e;exact ⟨lA,fun s hs=>gQ⟩
 trivial
def MV {N:Nat} {rest:List UInt8} {t:Nd} {st:List Nd} {n:Nd} (h:okP N (.got rest (t::st) n)):okP N (Je rest t st n):=by
 obtain ⟨h1,h2⟩:=h;have h3:=h2 t lC;simp only[Aeu] at h1;have l1:=Bi 44 rest;unfold Je;split
 ·rename_i e;have:=Fu e;exact Xv lA ⟨by show t.keys.length+_<=N;omega,by simp only[AE,Nd.kids,Aeg,Aeu,Aev];have:=h3.2;unfold Nd.kids at this;omega⟩ fun s hs=>ff
 split;·rename_i e;have:=Fu e;exact ⟨lA,fun s hs=>ff⟩
 trivial
def Ue (o:Option (List UInt8 × Nd)):D:=match o with
 | none=>.tup [NdD noN,.bool false]
 | some x=>.tup [NdD x.2,.bool true]
def N0 (o:Option (List UInt8 × Nd)):Ae:=match o with
 | none=>.dead
 | some x=>.box [.d (S x.1),.undef]
structure NX where
 rest:List UInt8
 st:List Nd
 ob:Nat
 ids:List Nat
 H:List Ae
structure NodI (o:Option (List UInt8 × Nd)) (N:Nat) (x:NX):Prop where
 par:CD x.rest x.st x.ob x.ids x.H
 b1:x.H[1]?=some (.box zN)
 n1:1∉x.ob::x.ids
 res:Es (.beg x.rest x.st)=o
 ok:okP N (.beg x.rest x.st)
def IxP (x:NX × Option Nd):PSt:=match x.2 with
 | none=>.beg x.1.rest x.1.st
 | some m=>.got x.1.rest x.1.st m
structure InI (o:Option (List UInt8 × Nd)) (N L R:Nat) (x:NX × Option Nd):Prop where
 par:CD x.1.rest x.1.st x.1.ob x.1.ids x.1.H
 b1:x.1.H[1]?=some (.box zN)
 n1:1∉x.1.ob::x.1.ids
 bL:∃ n:Nd,x.1.H[L]?=some (.box ((ndC n).map .d))/\∀ m,x.2=some m->m=n
 nL:L∉x.1.ob::x.1.ids
 lt:x.1.rest.length<R
 res:Es (IxP x)=o
 ok:okP N (IxP x)
def MN7:B8:=fun k=>AgL k 4000079 || (AgL k 4000080 || (AgL k 4000082 || AgL k 4000081))
def CV:MN7 4000079=true:=rfl
def CU:MN7 4000080=true:=rfl
def CT:MN7 4000082=true:=rfl
def CS:MN7 4000081=true:=rfl
def CR {k:Nat} (h:¬(k=4000079\/k=4000080\/k=4000082\/k=4000081)):MN7 k=false:=by
 cases e:MN7 k with
 | false=>rfl
 | true =>
  unfold MN7 at e;simp only[AgS] at e;rcases e with e | e | e | e
  ·exact qt
  ·exact qn
  ·exact pX
  exact absurd (.inr (.inr (.inr (AfZ e)))) h
def Oa (r:List UInt8) (t:Nd) (st:List Nd):EW r t st=.bad\/∃ a c,EW r t st=.beg a c:=by
 unfold EW;split;·exact .inr ⟨_,_,rfl⟩
 split;·exact .inr ⟨_,_,rfl⟩
 exact .inl rfl
def GX {H:List Ae} (h:0<H.length):Jg 1 H (.tup [.agg [.d (.int .i64 0),.d (.str ByteArray.empty),.d (.sl 0 true []),.d (.sl 0 true [])],.d (.bool false)]) (.d (Ue none)) [N0 none] :=
 ⟨[some 0],rfl,lC,by simp[HW,N0,Agx h,BW],.inr nJ⟩
def AdI {H:List Ae} {r:List UInt8} {k:Int} {t:List UInt8} {ks:List (List UInt8)} {l:List Nd} {x:AV} (h:H[0]?=some (.box [.d (S r),x])) :
  Jg 1 H (.tup [.agg [.d (.int .i64 k),.d (S t),.d (Ss ks false),.d (.sl l.length false (AH l))],.d (.bool true)]) (.d (Ue (some (r,.mk k t ks l)))) [N0 (some (r,.mk k t ks l))] :=
 ⟨[some 0],rfl,lC,by simp[HW,N0,h,BW,SW,AW],.inr nJ⟩
def AaD (data:List UInt8) (hd:data.length<=100000000) :
  Ctr TP G 47 [.ptr 0 0] [.box [.d (S data),.d (.sl 0 true [])]] (.d (Ue (Es (.beg data [])))) [N0 (Es (.beg data []))]:=by
 have hsig:=fun (c:UInt8) (r:List UInt8) (hr:r.length<=1000000000) v=>GT (G:=G) c r lA v;obtain ⟨o,ho⟩:∃ o,o=Es (.beg data []):=⟨_,rfl⟩;rw[<-ho];refine Ctr.body (M:=MN7) Ak Tryz.func47 rfl go47 ?_ (hx:=by cases o<;>rfl);simp(disch:=try exact aa)only[CR,Tryz.f47,↓Ab,Ad,↓reduceIte,Qu,Qv];refine Al.frI 5 (α:=NX) (fun x=>x.rest.length) (fun x=>[]) (fun x=>x.H) (NodI o data.length) ⟨data,[],2,[],[.box [.d (S data),.lsl 2 4 0 0],.box zN,.row false []]⟩ ⟨⟨rfl,mR,lC,kE⟩,rfl,lC,ho.symm,by simp[okP]⟩ ?_ ?_
 ·first
  | exact .weak mG
 rintro ⟨rest,st,ob,ids,H⟩ ⟨h,b1,n1,hres,hok⟩;simp only at h b1 n1 hres hok;simp only[Bm,Af2,Af7];obtain ⟨ok1,ok2⟩:=hok;have q0:=h.box;obtain ⟨n,c,b,ob',ids',H',cb,xb,Kb,hQb⟩:=Zo (G:=G) h lA lA;have okb:=So (N:=data.length) (rest:=rest) (st:=st) ⟨ok1,ok2⟩;have mub:=M8 rest st;rw[TU] at hres;have lH:1<H.length:=(Aer.1 b1).1;have b1':H'[1]?=some (.box zN):=by rw[Kb.keep 1 lA lH n1];exact b1
 have n1':=Kb.not_mem n1 lH;have lH':=Kb.len;obtain ⟨nk,nt,nks,nl⟩:=n;cases b with
 | false =>
  have hbad:Ez rest st=.bad:=by
   cases e:Ez rest st with
   | bad=>rfl
   | beg r s=>rw[e] at hQb;exact absurd hQb.2.1 lC
   | got r s m=>rw[e] at hQb;exact absurd hQb.2.2.1 lC
  rw[hbad,Gw] at hres;subst hres;simp(disch:=try exact aa)only[CR,CV,↓Ab,Ad,Qu];refine Au.go cb nC Kb.len ?_;simp(disch:=try exact aa)only[CR,ndC,b1',AA,↓Ab,Ad,↓reduceIte,Qu];exact GX lC
 | true =>
  simp(disch:=try exact aa)only[CR,CV,↓Ab,Ad,Qu];refine Au.go cb nC Kb.len ?_;simp(disch:=try exact aa)only[CR,ndC,AA,↓Ab,Ad,↓reduceIte,Qu];have lH'':1<H'.length:=lA
  have key:∃ x:NX × Option Nd,InI o data.length H'.length rest.length x/\x.1.H=H'++[.box [.d (.int .i64 nk),.d (S nt),.d (Ss nks false),.d (.sl nl.length false (AH nl))]]/\x.2.isSome=c:=by
   have fin:∀ r s,CD r s ob' ids' H'->r.length+2<rest.length+2->∀ m:Option Nd,Es (IxP (⟨r,s,ob',ids',H'++[.box [.d (.int .i64 nk),.d (S nt),.d (Ss nks false),.d (.sl nl.length false (AH nl))]]⟩,m))=o ->
     okP data.length (IxP (⟨r,s,ob',ids',H'++[.box [.d (.int .i64 nk),.d (S nt),.d (Ss nks false),.d (.sl nl.length false (AH nl))]]⟩,m))->(∀ y,m=some y->y=.mk nk nt nks nl)->m.isSome=c ->
     ∃ x:NX × Option Nd,InI o data.length H'.length rest.length x/\x.1.H=H'++[.box [.d (.int .i64 nk),.d (S nt),.d (Ss nks false),.d (.sl nl.length false (AH nl))]]/\x.2.isSome=c:=by
    intro r s P hl m hm1 hm2 hm3 hm4;exact ⟨_,⟨(P.app kE).1,by rw[Ay lH''];exact b1',n1',⟨.mk nk nt nks nl,by rw[A0 (Aew _),AgC];rfl,hm3⟩,fun q=>by have:=P.stack.lt _ q;omega,by show r.length<rest.length;omega,hm1,hm2⟩,rfl,hm4⟩
   cases e:Ez rest st with
   | bad=>rw[e] at hQb;exact absurd hQb (by simp[Aea])
   | beg r s =>rw[e] at hQb hres okb mub;exact fin r s hQb.2.2 mub none hres okb (fun y hy=>by cases hy) hQb.1.symm
   | got r s m =>rw[e] at hQb hres okb mub;exact fin r s hQb.2.2.2 mub (some m) hres okb (fun y hy=>by cases hy;exact hQb.1.symm) hQb.2.1.symm
  obtain ⟨x0,i0,hH0,hc0⟩:=key;refine Al.frI 21 (α:=NX × Option Nd) (fun x=>x.1.rest.length) (fun x=>[(5,.d (.bool x.2.isSome))]) (fun x=>x.1.H) (InI o data.length H'.length rest.length) x0 i0 ?_ ?_;·rw[hH0,hc0];exact .slots jc
  rintro ⟨⟨r,s,ob2,ids2,H2⟩,nm⟩ ⟨P,e1,m1,⟨n,eL,hnm⟩,nL,hlt,hres2,hok2⟩;simp only at P e1 m1 eL hnm nL hlt;have p0:=P.box;have l2:0<H2.length:=(Aer.1 p0).1;have lL:H'.length<H2.length:=(Aer.1 eL).1;obtain ⟨nk2,nt2,nks2,nl2⟩:=n;simp only[Bm,Af2,Af7];cases nm with
  | none =>
   simp(disch:=try exact aa)only[CR,↓Ab,Ad];first
   | exact ⟨⟨r,s,ob2,ids2,H2⟩,⟨P,e1,m1,hres2,hok2⟩,hlt,.inl ⟨rfl,kV⟩⟩
  | some m =>
   obtain rfl:=hnm m rfl;have eL':H2[H'.length]?=some (.box [.d (.int .i64 nk2),.d (S nt2),.d (Ss nks2 false),.d (.sl nl2.length false (AH nl2))]):=eL;have q0':H2[0]?=some (.box [.d (S r),.lsl ob2 4 0 s.length]):=p0;clear p0 eL;have his:(some (Nd.mk nk2 nt2 nks2 nl2)).isSome=true:=rfl;cases s with
   | nil =>
    simp(disch:=try exact aa)only[CR,his,Aev,q0',e1,eL',AA,↓Ab,Ad,↓reduceIte,Qu];have ho2:some (r,Nd.mk nk2 nt2 nks2 nl2)=o:=hres2;rw[<-ho2];first
    | exact AdI (by rw[Ao lz];exact q0')
   | cons t s =>
    obtain ⟨c,junk,i,ka,ik,qa,iq,hb,hc,hs,hk,hq,hids⟩:=P.top;have p0:H2[0]?=some (.box [.d (S r),.lsl ob2 4 0 (s.length+1)]):=q0';replace q0':=p0;have lb2:ob2<H2.length:=P.stack.lt ob2 lC;have hnd:=P.stack.nd;have hpos:=P.pos;have hlt2:=P.stack.lt;rw[hids] at hnd hpos hlt2;have ob0:=hpos ob2 lC;have g0:=J1 hc (.d (.int .i64 t.kind)) (.d (S t.text)) ka qa junk;have g3:=ZL hc (.d (.int .i64 t.kind)) (.d (S t.text)) ka qa junk;have gl:=JZ hc (.d (.int .i64 t.kind)) (.d (S t.text)) ka qa junk;have gs:=fun x=>ZJ hc (.d (.int .i64 t.kind)) (.d (S t.text)) ka qa x junk;obtain ⟨cs,hcs⟩:∃ cs,cs=c++(.d (.int .i64 t.kind)::.d (S t.text)::ka::qa::junk):=⟨_,rfl⟩;rw[<-hcs] at hb g0 g3 gl gs;have ndl:=Ax t.kids;have htk3:∀ x,AgT (t.kids.length*4) (AH t.kids++x)=AH t.kids:=fun x=>by rw[show t.kids.length*4=(AH t.kids).length by omega,AgG]
    have hdr3:∀ x y z w:D,AgU (t.kids.length*4+4) (AH t.kids++[x,y,z,w])=[]:=fun x y z w=>AgH jW;have okk:=hok2.2 t lC;have oks:=hok2.1;simp only[Aeu] at oks;have hLo:¬H'.length=ob2:=fun e=>nL ki;have hcut:cut [D.int .i64 0,.str {data:=#[]},.sl 0 false [],.sl 0 false []] 0 4=[D.int .i64 0,.str {data:=#[]},.sl 0 false [],.sl 0 false []]:=rfl;obtain ⟨cf,hcf⟩:=CB [0,ob2,H2.length,H2.length+1,H'.length] aG;have c0:=hcf 0 _ rfl;have c1:=hcf 1 _ rfl;have c2:=hcf 2 _ rfl;have c3:=hcf 3 _ rfl;have c4:=hcf 4 _ rfl;rcases hq with ⟨kn,qa0,iq0⟩ | ⟨kn,qb,qa0,iq0,hqb⟩
    ·subst qa0;obtain ⟨H3,hH3⟩:∃ H3,H3=H2.set ob2 (.box (c++(.d (.int .i64 t.kind)::.d (S t.text)::ka::.lsl (H2.length+1) 4 0 1::junk)))++[.row false [.int .i64 0,.str {data:=#[]},.sl 0 false [],.sl 0 false []],.row false [.int .i64 nk2,S nt2,Ss nks2 false,.sl nl2.length false (AH nl2)]]:=⟨_,rfl⟩;have l3:H3.length=H2.length+2:=(by rw[hH3];simp)
     have x3:NoX H3:=(by rw[hH3];exact (P.nox.set _ lC).app kE);have f3:∀ b,b<H2.length->¬b=ob2->H3[b]?=H2[b]?:=fun b hb1 hb3=>by rw[hH3,Ay iD,Ao (fun e=>hb3 e.symm)]
     have e30:H3[0]?=some (.box [.d (S r),.lsl ob2 4 0 (s.length+1)]):=(by rw[f3 0 l2 lA];exact p0);have e3b:H3[ob2]?=some (.box (c++(.d (.int .i64 t.kind)::.d (S t.text)::ka::.lsl (H2.length+1) 4 0 (t.kids.length+1)::junk))):=(by rw[hH3,Ay iE,A8 iE,kn]);have e3n:H3[H2.length+1]?=some (.row false (AH (t.kids++[.mk nk2 nt2 nks2 nl2]))):=(by rw[hH3,A0 lC];simp[AH,ndC,Agp.1 kn]);have hne:∀ b,b∈ob2::(i++(ik++iq))->¬b=H2.length+1:=fun b hb=>by have:=hlt2 b hb;omega
     have hnd2:(ob2::(i++(ik++[H2.length+1]))).Nodup:=by
      have u1:=Agb.1 hnd;have u2:=Aga.1 u1.2;have u3:=Aga.1 u2.2.1;refine Agb.2 ⟨fun q=>?_,Aga.2 ⟨u2.1,Aga.2 ⟨u3.1,lC,fun x hx y hy e=>?_⟩,fun x hx y hy e=>?_⟩⟩
      ·rcases Aes.1 q with q | q
       ·exact u1.1 (AbZ _ q)
       rcases Aes.1 q with q | q
       ·exact u1.1 (Aen _ (AbZ _ q))
       exact hne ob2 lC (Aet.1 q)
      ·exact pF
      subst e;rcases Aes.1 hy with hy | hy
      ·exact u2.2.2 x hx x (AbZ _ hy) rfl
      exact hne x (AbY _ (AbZ _ hx)) (Aet.1 hy)
     have hold:∀ b,b∈i++ik->b<H2.length/\¬b=ob2:=fun b hb=>by have hm:b∈i++(ik++iq):=aO;refine ⟨hlt2 b (AbY _ hm),fun e=>(Agb.1 hnd).1 (e▸hm)⟩
     have P3:CD r (AE t (.mk nk2 nt2 nks2 nl2)::s) ob2 (i++(ik++[H2.length+1])) H3:=by
      refine CD.mk_top (t:=AE t (.mk nk2 nt2 nks2 nl2)) e30 e3b hs (fun b hb=>f3 b (hold b (AbZ _ hb)).1 (hold b (AbZ _ hb)).2) (hk.frame fun b hb=>f3 b (hold b (Aen _ hb)).1 (hold b (Aen _ hb)).2) (.inr nG) hnd2 (fun b hb=>?_) x3;rcases Aex.1 hb with hb | hb
      ·rw[hb];exact hpos ob2 lC
      rcases Aes.1 hb with hb | hb
      ·exact hpos b (AbY _ (AbZ _ hb))
      rcases Aes.1 hb with hb | hb
      ·exact hpos b (AbY _ (Aen _ (AbZ _ hb)))
      rw[Aet.1 hb];omega
     have K3:CI (ob2::ids2) H2 (ob2::(i++(ik++[H2.length+1]))) H3:=by
      rw[hids];refine ⟨lA,fun j j0 jl jn=>f3 j jl (fun e=>jn ki),fun j hj=>?_⟩;rcases Aex.1 hj with hj | hj
      ·rw[hj];simp
      rcases Aes.1 hj with hj | hj
      ·exact .inl (AbY _ (AbZ _ hj))
      rcases Aes.1 hj with hj | hj
      ·exact .inl (AbY _ (Aen _ (AbZ _ hj)))
      rw[Aet.1 hj];exact .inr lA
     obtain ⟨b3,n3,L3⟩:H3[1]?=some (.box zN)/\1∉ob2::(i++(ik++[H2.length+1]))/\(H3[H'.length]?=some (.box [.d (.int .i64 nk2),.d (S nt2),.d (Ss nks2 false),.d (.sl nl2.length false (AH nl2))])/\H'.length∉ob2::(i++(ik++[H2.length+1]))) :=
      mg
     have g30:=J1 hc (.d (.int .i64 t.kind)) (.d (S t.text)) ka (.lsl (H2.length+1) 4 0 (t.kids.length+1)) junk;have gl3:=JZ hc (.d (.int .i64 t.kind)) (.d (S t.text)) ka (.lsl (H2.length+1) 4 0 (t.kids.length+1)) junk
     skip
     have s4:=P3.lift (G:=G) (r':=(sgn 44 r).1) (fun v=>hsig 44 r lA v) lC;obtain ⟨P4,K4⟩:=P3.rest (r':=(sgn 44 r).1);have hl44:=Bi 44 r;have hres3:=hres2;have hok3:=hok2;rw[show IxP ((⟨r,t::s,ob2,ids2,H2⟩:NX),some (.mk nk2 nt2 nks2 nl2))=.got r (t::s) (.mk nk2 nt2 nks2 nl2) from rfl,Km] at hres3;replace hok3:=MV hok3;have mu3:=Kx r t s (.mk nk2 nt2 nks2 nl2);unfold Je at hres3 hok3 mu3;simp(disch:=try exact aa)only[CR,CU,his,q0',eL',hb,g3,gl,gs,hcut,AA,↓Ab,Ad,↓reduceIte,Qu,Qw,Qz];refine ⟨lD,?_⟩;refine ⟨AF cf bY dw,?_⟩;rw[<-hH3];refine Au.go s4 m8 lC ?_;cases h44:(sgn 44 r).2 with
     | true =>
      rw[if_pos h44] at hres3 hok3 mu3;obtain ⟨kb,ids5,H5,d5,X5,K5,hQ5⟩:=I2 (G:=G) P4 lA lA fg;have KK:=K4.trans K5;have e5:H5[1]?=some (.box zN):=bP
      have n5:=KK.not_mem n3 lA;have L5:H5[H'.length]?=some (.box [.d (.int .i64 nk2),.d (S nt2),.d (Ss nks2 false),.d (.sl nl2.length false (AH nl2))]):=bd
      have m5:=KK.not_mem L3.2 lA;have l5:=K5.len;rw[AeB] at l5;simp(disch:=try exact aa)only[CR,CS,↓Ab,Ad,Qu];refine Au.go d5 nC K5.len ?_;rcases Oa (sgn 44 r).1 (AE t (.mk nk2 nt2 nks2 nl2)) s with hkp | ⟨ra,rc,hkp⟩
      ·rw[hkp] at hQ5 hres3;have hkb:kb=false:=hQ5;subst hkb;rw[Gw] at hres3;subst hres3;simp(disch:=try exact aa)only[CR,e5,AA,↓Ab,Ad,↓reduceIte,Qu];first
       | exact GX jD
      rw[hkp] at hQ5 hres3 hok3 mu3;obtain ⟨hkb,P5⟩:=hQ5;subst hkb;simp only[↓Ab,Ad];first
      | exact lM
     | false =>
      rw[if_neg (by rw[h44];simp)] at hres3 hok3 mu3;have s5:=P4.lift (G:=G) (r':=(sgn (AC t.kind) (sgn 44 r).1).1) (fun v=>hsig (AC t.kind) (sgn 44 r).1 lA v) lC;obtain ⟨P5,K5⟩:=P4.rest (r':=(sgn (AC t.kind) (sgn 44 r).1).1);have hl55:=Bi (AC t.kind) (sgn 44 r).1;have KK:=K4.trans K5;simp(disch:=try exact aa)only[CR,e3b,g30,gl3,AA,↓Ab,Ad,↓reduceIte,Qu];refine Aa.of (BJ t.kind) lD ?_;simp(disch:=try exact aa)only[CR,CU,↓Ab,Ad,Qu];refine Au.go s5 m8 lC ?_;have ek:(AE t (.mk nk2 nt2 nks2 nl2)).kind=t.kind:=rfl;cases hcl5:(sgn (AC t.kind) (sgn 44 r).1).2 with
      | true =>
       rw[if_pos hcl5] at hres3 hok3 mu3;obtain ⟨ids6,H6,d6,P6,K6⟩:=IX (G:=G) P5 lA;have d6:Ctr TP G 82 [.ptr 0 0] _ (.d (NdD (.mk t.kind t.text t.keys (t.kids++[.mk nk2 nt2 nks2 nl2])))) H6:=d6;have K7:=KK.trans K6;have e6:H6[1]?=some (.box zN):=bQ
       have n6:=K7.not_mem n3 lA;have L6:H6[H'.length]?=some (.box [.d (.int .i64 nk2),.d (S nt2),.d (Ss nks2 false),.d (.sl nl2.length false (AH nl2))]):=be
       have m6:=K7.not_mem L3.2 lA;have l6:=K7.len;simp(disch:=try exact aa)only[CR,CT,↓Ab,Ad,Qu];refine Au.go d6 nC K6.len ?_;generalize hkk:t.kids++[Nd.mk nk2 nt2 nks2 nl2]=kk at *;have hak:AE t (.mk nk2 nt2 nks2 nl2)=.mk t.kind t.text t.keys kk:=(by rw[<-hkk];rfl)
       simp(disch:=try exact aa)only[L6,ndC,↓Ab,Ad,↓reduceIte,Qu];rw[hak] at hres3 hok3;first
       | exact lF
      | false =>
       rw[if_neg (by rw[hcl5];simp),Gw] at hres3;subst hres3;simp(disch:=try exact aa)only[CR,b3,AA,↓Ab,Ad,↓reduceIte,Qu];first
       | exact GX jW
       | exact GX lC
    subst qa0;have hqm:qb∈i++(ik++iq):=Aen _ (Aen _ jL);have lqb:qb<H2.length:=hlt2 qb (AbY _ hqm);have qb0:=hpos qb (AbY _ hqm);have nqo:¬qb=ob2:=fun e=>(Agb.1 hnd).1 (e▸hqm);have noq:¬ob2=qb:=fun e=>nqo e.symm;obtain ⟨H3,hH3⟩:∃ H3,H3=(H2.set qb .dead).set ob2 (.box (c++(.d (.int .i64 t.kind)::.d (S t.text)::ka::.lsl (H2.length+1) 4 0 (t.kids.length+1)::junk)))++[.row false [.int .i64 0,.str {data:=#[]},.sl 0 false [],.sl 0 false []],.row false (AH t.kids++[.int .i64 nk2,S nt2,Ss nks2 false,.sl nl2.length false (AH nl2)])]:=⟨_,rfl⟩;have l3:H3.length=H2.length+2:=(by rw[hH3];simp)
    have x3:NoX H3:=(by rw[hH3];exact ((P.nox.set _ lC).set _ lC).app kE);have f3:∀ b,b<H2.length->¬b=ob2->¬b=qb->H3[b]?=H2[b]?:=fun b hb1 hb3 hb4=>by rw[hH3,Ay iD,Ao (fun e=>hb3 e.symm),Ao (fun e=>hb4 e.symm)]
    have e30:H3[0]?=some (.box [.d (S r),.lsl ob2 4 0 (s.length+1)]):=(by rw[f3 0 l2 lA lA];exact p0);have e3b:H3[ob2]?=some (.box (c++(.d (.int .i64 t.kind)::.d (S t.text)::ka::.lsl (H2.length+1) 4 0 (t.kids.length+1)::junk))):=(by rw[hH3,Ay iE,A8 iE]);have e3n:H3[H2.length+1]?=some (.row false (AH (t.kids++[.mk nk2 nt2 nks2 nl2]))):=(by rw[hH3,A0 lC];simp[GB,AH,ndC]);have hne:∀ b,b∈ob2::(i++(ik++iq))->¬b=H2.length+1:=fun b hb=>by have:=hlt2 b hb;omega
    have hnd2:(ob2::(i++(ik++[H2.length+1]))).Nodup:=by
     have u1:=Agb.1 hnd;have u2:=Aga.1 u1.2;have u3:=Aga.1 u2.2.1;refine Agb.2 ⟨fun q=>?_,Aga.2 ⟨u2.1,Aga.2 ⟨u3.1,lC,fun x hx y hy e=>?_⟩,fun x hx y hy e=>?_⟩⟩
     ·rcases Aes.1 q with q | q
      ·exact u1.1 (AbZ _ q)
      rcases Aes.1 q with q | q
      ·exact u1.1 (Aen _ (AbZ _ q))
      exact hne ob2 lC (Aet.1 q)
     ·exact pF
     subst e;rcases Aes.1 hy with hy | hy
     ·exact u2.2.2 x hx x (AbZ _ hy) rfl
     exact hne x (AbY _ (AbZ _ hx)) (Aet.1 hy)
    have hold:∀ b,b∈i++ik->b<H2.length/\¬b=ob2/\¬b=qb:=fun b hb=>by
     have hm:b∈i++(ik++iq):=aO;refine ⟨hlt2 b (AbY _ hm),fun e=>(Agb.1 hnd).1 (e▸hm),fun e=>?_⟩;subst e;have u2:=Aga.1 (Agb.1 hnd).2;have u3:=Aga.1 u2.2.1;rcases Aes.1 hb with hb | hb
     ·exact u2.2.2 b hb b (Aen _ jL) rfl
     exact u3.2.2 b hb b jL rfl
    have P3:CD r (AE t (.mk nk2 nt2 nks2 nl2)::s) ob2 (i++(ik++[H2.length+1])) H3:=by
     refine CD.mk_top (t:=AE t (.mk nk2 nt2 nks2 nl2)) e30 e3b hs (fun b hb=>f3 b (hold b (AbZ _ hb)).1 (hold b (AbZ _ hb)).2.1 (hold b (AbZ _ hb)).2.2) (hk.frame fun b hb=>f3 b (hold b (Aen _ hb)).1 (hold b (Aen _ hb)).2.1 (hold b (Aen _ hb)).2.2) (.inr nG) hnd2 (fun b hb=>?_) x3;rcases Aex.1 hb with hb | hb
     ·rw[hb];exact hpos ob2 lC
     rcases Aes.1 hb with hb | hb
     ·exact hpos b (AbY _ (AbZ _ hb))
     rcases Aes.1 hb with hb | hb
     ·exact hpos b (AbY _ (Aen _ (AbZ _ hb)))
     rw[Aet.1 hb];omega
    have K3:CI (ob2::ids2) H2 (ob2::(i++(ik++[H2.length+1]))) H3:=by
     rw[hids];refine ⟨lA,fun j j0 jl jn=>f3 j jl (fun e=>jn ki) (fun e=>jn (by rw[e,iq0];simp)),fun j hj=>?_⟩;rcases Aex.1 hj with hj | hj
     ·rw[hj];simp
     rcases Aes.1 hj with hj | hj
     ·exact .inl (AbY _ (AbZ _ hj))
     rcases Aes.1 hj with hj | hj
     ·exact .inl (AbY _ (Aen _ (AbZ _ hj)))
     rw[Aet.1 hj];exact .inr lA
    obtain ⟨b3,n3,L3⟩:H3[1]?=some (.box zN)/\1∉ob2::(i++(ik++[H2.length+1]))/\(H3[H'.length]?=some (.box [.d (.int .i64 nk2),.d (S nt2),.d (Ss nks2 false),.d (.sl nl2.length false (AH nl2))])/\H'.length∉ob2::(i++(ik++[H2.length+1]))) :=
     mg
    have g30:=J1 hc (.d (.int .i64 t.kind)) (.d (S t.text)) ka (.lsl (H2.length+1) 4 0 (t.kids.length+1)) junk;have gl3:=JZ hc (.d (.int .i64 t.kind)) (.d (S t.text)) ka (.lsl (H2.length+1) 4 0 (t.kids.length+1)) junk
    skip
    have s4:=P3.lift (G:=G) (r':=(sgn 44 r).1) (fun v=>hsig 44 r lA v) lC;obtain ⟨P4,K4⟩:=P3.rest (r':=(sgn 44 r).1);have hl44:=Bi 44 r;have hres3:=hres2;have hok3:=hok2;rw[show IxP ((⟨r,t::s,ob2,ids2,H2⟩:NX),some (.mk nk2 nt2 nks2 nl2))=.got r (t::s) (.mk nk2 nt2 nks2 nl2) from rfl,Km] at hres3;replace hok3:=MV hok3;have mu3:=Kx r t s (.mk nk2 nt2 nks2 nl2);unfold Je at hres3 hok3 mu3;simp(disch:=try exact aa)only[CR,CU,his,q0',eL',hb,g3,gl,gs,ndl,htk3,hdr3,hcut,hqb,AA,↓Ab,Ad,↓reduceIte,Qu,Qw,Qz];refine ⟨lD,?_⟩;refine ⟨AF cf bZ dw,?_⟩;rw[<-hH3];refine Au.go s4 m8 lC ?_;cases h44:(sgn 44 r).2 with
    | true =>
     rw[if_pos h44] at hres3 hok3 mu3;obtain ⟨kb,ids5,H5,d5,X5,K5,hQ5⟩:=I2 (G:=G) P4 lA lA fg;have KK:=K4.trans K5;have e5:H5[1]?=some (.box zN):=bP
     have n5:=KK.not_mem n3 lA;have L5:H5[H'.length]?=some (.box [.d (.int .i64 nk2),.d (S nt2),.d (Ss nks2 false),.d (.sl nl2.length false (AH nl2))]):=bd
     have m5:=KK.not_mem L3.2 lA;have l5:=K5.len;rw[AeB] at l5;simp(disch:=try exact aa)only[CR,CS,↓Ab,Ad,Qu];refine Au.go d5 nC K5.len ?_;rcases Oa (sgn 44 r).1 (AE t (.mk nk2 nt2 nks2 nl2)) s with hkp | ⟨ra,rc,hkp⟩
     ·rw[hkp] at hQ5 hres3;have hkb:kb=false:=hQ5;subst hkb;rw[Gw] at hres3;subst hres3;simp(disch:=try exact aa)only[CR,e5,AA,↓Ab,Ad,↓reduceIte,Qu];first
      | exact GX jD
     rw[hkp] at hQ5 hres3 hok3 mu3;obtain ⟨hkb,P5⟩:=hQ5;subst hkb;simp only[↓Ab,Ad];first
     | exact lM
    | false =>
     rw[if_neg (by rw[h44];simp)] at hres3 hok3 mu3;have s5:=P4.lift (G:=G) (r':=(sgn (AC t.kind) (sgn 44 r).1).1) (fun v=>hsig (AC t.kind) (sgn 44 r).1 lA v) lC;obtain ⟨P5,K5⟩:=P4.rest (r':=(sgn (AC t.kind) (sgn 44 r).1).1);have hl55:=Bi (AC t.kind) (sgn 44 r).1;have KK:=K4.trans K5;simp(disch:=try exact aa)only[CR,e3b,g30,gl3,AA,↓Ab,Ad,↓reduceIte,Qu];refine Aa.of (BJ t.kind) lD ?_;simp(disch:=try exact aa)only[CR,CU,↓Ab,Ad,Qu];refine Au.go s5 m8 lC ?_;have ek:(AE t (.mk nk2 nt2 nks2 nl2)).kind=t.kind:=rfl;cases hcl5:(sgn (AC t.kind) (sgn 44 r).1).2 with
     | true =>
      rw[if_pos hcl5] at hres3 hok3 mu3;obtain ⟨ids6,H6,d6,P6,K6⟩:=IX (G:=G) P5 lA;have d6:Ctr TP G 82 [.ptr 0 0] _ (.d (NdD (.mk t.kind t.text t.keys (t.kids++[.mk nk2 nt2 nks2 nl2])))) H6:=d6;have K7:=KK.trans K6;have e6:H6[1]?=some (.box zN):=bQ
      have n6:=K7.not_mem n3 lA;have L6:H6[H'.length]?=some (.box [.d (.int .i64 nk2),.d (S nt2),.d (Ss nks2 false),.d (.sl nl2.length false (AH nl2))]):=be
      have m6:=K7.not_mem L3.2 lA;have l6:=K7.len;simp(disch:=try exact aa)only[CR,CT,↓Ab,Ad,Qu];refine Au.go d6 nC K6.len ?_;generalize hkk:t.kids++[Nd.mk nk2 nt2 nks2 nl2]=kk at *;have hak:AE t (.mk nk2 nt2 nks2 nl2)=.mk t.kind t.text t.keys kk:=(by rw[<-hkk];rfl)
      simp(disch:=try exact aa)only[L6,ndC,↓Ab,Ad,↓reduceIte,Qu];rw[hak] at hres3 hok3;first
      | exact lF
     | false =>
      rw[if_neg (by rw[hcl5];simp),Gw] at hres3;subst hres3;simp(disch:=try exact aa)only[CR,b3,AA,↓Ab,Ad,↓reduceIte,Qu];first
      | exact GX jW
      | exact GX lC
def szW (t:Nd):Prop:=t.text.length<=1000000000/\(∀ s∈t.keys,s.length<=1000000000)/\∀ k∈t.kids,szN k
def W8:∀ {l:List Nd},(∀ n∈l,szN n)->ZZ l
 | [],_=>trivial
 | n::r,h=>⟨h n lC,W8 fun x hx=>h x (AbY _ hx)⟩
def RT {t:Nd} (h:szW t) (h1:t.keys.length<=100000) (h2:t.kids.length<=100000):szN t:=by cases t;exact ⟨h.1,h1,h.2.1,h2,W8 h.2.2⟩
def szP:PSt->Prop
 | .beg _ st=>∀ t∈st,szW t
 | .got _ st n=>szN n/\∀ t∈st,szW t
 | .bad=>True
def W5 (k:Int):szW (.mk k [] [] []):=⟨by simp[Nd.text],(fun s hs=>kX),(fun s hs=>kX)⟩
def W7 {rest:List UInt8} {t:Nd} {st:List Nd} (hl:rest.length<=100000) (h:szW t) (h2:∀ s∈st,szW s):szP (EW rest t st):=by
 unfold EW;split
 ·intro s hs;rcases Aex.1 hs with rfl | hs
  ·exact h
  exact h2 s hs
 split
 ·intro s hs;rcases Aex.1 hs with rfl | hs
  ·refine ⟨h.1,fun x hx=>?_,h.2.2⟩;rcases Aes.1 (show x∈t.keys++[(quo rest).2.1] from hx) with hx | hx
   ·exact h.2.1 x hx
   rw[Aet.1 hx];have:=Xo rest;omega
  exact h2 s hs
 trivial
def W6 {k:Int} {rest:List UInt8} {st:List Nd} (hl:rest.length<=100000) (h2:∀ s∈st,szW s):szP (Ht k rest st):=by
 have:=Bi (AC k) rest;unfold Ht;split;·exact ⟨RT (W5 k) jC (by simp[Nd.kids]),h2⟩
 exact W7 lA (W5 k) h2
def Acm (s:List UInt8) (hl:s.length<=100000):szN (Gc s).2.1:=by
 have hw:=Em s;have leaf:∀ (k:Int) (t:List UInt8),t.length<=1000000000->szN (.mk k t [] []):=fun k t ht=>RT (t:=.mk k t [] []) ⟨ht,(fun s hs=>kX),(fun s hs=>kX)⟩ jC (by simp[Nd.kids]);unfold Gc;split;·exact leaf _ _ (by have:=Xo (Av s);omega)
 split;·exact leaf _ _ lC
 split;·exact leaf _ _ lz
 split;·exact leaf _ _ lz
 exact leaf _ _ fi
def Acd {rest:List UInt8} {st:List Nd} (hl:rest.length<=100000) (h:szP (.beg rest st)):szP (Ez rest st):=by
 have l1:=Bi 91 rest;have l2:=Bi 123 (sgn 91 rest).1;unfold Ez;split;·exact W6 lA h
 split;·exact W6 lA h
 split;·exact ⟨Acm _ lA,h⟩
 trivial
def Acb {N:Nat} (hN:N<=100000) {rest:List UInt8} {t:Nd} {st:List Nd} {n:Nd} (ho:okP N (.got rest (t::st) n)) (h:szP (.got rest (t::st) n)):szP (Je rest t st n):=by
 obtain ⟨h1,h2⟩:=h;have h3:=h2 t lC;have o3:=ho.2 t lC;have ol:=ho.1;have l1:=Bi 44 rest;have hw:szW (AE t n):=⟨h3.1,h3.2.1,fun k hk=>by
  rcases Aes.1 (show k∈t.kids++[n] from hk) with hk | hk
  ·exact h3.2.2 k hk
  rw[Aet.1 hk];exact h1⟩
 unfold Je;split;·exact W7 lA hw fun s hs=>h2 s (AbY _ hs)
 split;·exact ⟨RT hw fg (by show (t.kids++[n]).length<=_;rw[Aeg];simp only[Aeu,Aev];omega),fun s hs=>h2 s (AbY _ hs)⟩
 trivial
def VP {N:Nat} (hN:N<=100000):∀ (k:Nat) (x:PSt) (r:List UInt8) (n:Nd),okP N x->szP x->Yq k x=some (r,n)->szN n/\r.length<=N
 | 0,x,r,n,_,_,h=>by cases x<;>cases h
 | k+1,x,r,n,ho,hs,h=>by
   cases x with
   | bad=>cases h
   | beg rest st=>exact VP hN k _ r n (So ho) (Acd (by have:=ho.1;omega) hs) h
   | got rest st m =>
    cases st with
    | nil =>have e:some (rest,m)=some (r,n):=h;cases e;exact ⟨hs.1,by have:=ho.1;omega⟩
    | cons t st=>exact VP hN k _ r n (MV ho) (Acb hN ho hs) h
def VS {data r:List UInt8} {n:Nd} (hd:data.length<=100000) (h:Es (.beg data [])=some (r,n)):szN n/\r.length<=data.length :=
 VP hd _ (.beg data []) r n ⟨lC,fun t ht=>kY⟩ (fun t ht=>kY) h
def Abm (p:UInt8->Bool) (b:UInt8):∀ l:List UInt8,b∈l->p b=false->b∈l.dropWhile p
 | [],h,_=>lx
 | x::l,h,hc=>by
   rw[AgQ];split
   ·rename_i hx;rcases Aex.1 h with rfl | h2
    ·rw[hc] at hx;cases hx
    exact Abm p b l h2 hc
   exact h
def Tq (s:List UInt8):(Num.trimL Fc (Num.trimR Fc s)=[])↔Av s=[]:=by
 have key:∀ l:List UInt8,l.dropWhile Fc.contains=[]↔∀ b∈l,Fc.contains b=true:=by
  intro l;induction l with
  | nil=>simp
  | cons b l ih =>
   rw[AgQ];split;·rename_i h;rw[ih];simp only[Aex,forall_eq_or_imp,h,true_and]
   rename_i h;simp only[reduceCtorEq,Aex,forall_eq_or_imp,false_iff,not_and];exact fun q=>absurd q h
 unfold Av Num.trimL Num.trimR;rw[key,key];constructor
 ·intro h b hb;cases hc:Fc.contains b with
  | true=>rfl
  | false =>
   have:b∈(s.reverse.dropWhile Fc.contains).reverse:=by rw[AgR];exact Abm _ _ _ jg hc
   rw[h b this] at hc;cases hc
 intro h b hb;rw[AgR] at hb;have:=(List.dropWhile_sublist _).subset hb;exact h b (by simpa using this)
def NM (x:Nd × Int):D:=.tup [NdD x.1,.int .i64 x.2]
def L4 (hT:HT G) (hG:Num.HG G) (data:List UInt8) (hd:data.length<=100000):Ctr TP G 23 [.d (S data)] [] (.d (NM (FA data))) []:=by
 obtain ⟨r,hr⟩:∃ r,r=FA data:=⟨_,rfl⟩;rw[<-hr];unfold FA at hr;have hn:=AaD (G:=G) data lA;have hsz:=fun r n=>VS (r:=r) (n:=n) hd;have hv:=EJ (G:=G) hT data lA;refine Ctr.pure (M:=M0) Ak Tryz.func23 rfl go23 ?_;simp(disch:=try exact aa)only[Af,Tryz.f23,↓Ab,Ad,↓reduceIte,Qu,Qv];refine Aa.by hn lD lD lC ?_;cases hx:Es (.beg data []) with
 | none =>rw[hx] at hr;simp only at hr;subst hr;simp(disch:=try exact aa)only[N0,Ue,ndC,noN,↓Ab,Ad,↓reduceIte,↓Qe,Qu];first | done | rfl
 | some x =>
  obtain ⟨q,m⟩:=x;obtain ⟨sz1,sz2⟩:=hsz q m hx;rw[hx] at hr;simp only at hr;have hm:=E6 (G:=G) hT hG m sz1;have htr:Ctr TP G 48 [.d (S q),.d (S Fc)] [] (.d (S (Num.trimL Fc (Num.trimR Fc q)))) []:=Num.trim_spec q Fc lA lz lz lz;have hbl:=Tq q;generalize Num.trimL Fc (Num.trimR Fc q)=tq at *;generalize AM m 0=okm at *;obtain ⟨mk,mt,mks,ml⟩:=m;simp(disch:=try exact aa)only[N0,Ue,ndC,↓Ab,Ad,↓reduceIte,Qu];refine Aa.of hv lD ?_;cases hvd:Lib.validD data
  ·rw[if_neg (by rw[hvd];simp)] at hr;exact oC
  simp(disch:=try exact aa)only[↓Ab,Ad,↓reduceIte,Qu];refine Aa.of htr lD ?_;by_cases hq0:tq=[]
  ·rw[if_pos ⟨hvd,hbl.1 hq0⟩] at hr;simp(disch:=try exact aa)only[Af,hq0,↓Ab,Ad,↓reduceIte,Qu];refine Aa.of hm lD ?_;cases okm;·rw[if_neg lC] at hr;subst hr;simp(disch:=try exact aa)only[↓Ab,Ad,↓reduceIte,↓Qe,Qu];first | done | rfl
   rw[if_pos rfl] at hr;exact oC
  rw[if_neg (fun c=>hq0 (hbl.2 c.2))] at hr;subst hr;have hq1:(tq=[])=False:=eq_false hq0;simp(disch:=try exact aa)only[Af,hq1,↓Ab,Ad,↓reduceIte,↓Qe,Qu];first | done | rfl
def exB:List UInt8:=[91,123,34,97,34,58,49,44,34,98,34,58,91,50,44,51,93,125,44,123,34,97,34,58,52,125,93]
def exN:Nd:=.mk 5 [] [] [.mk 6 [] [[97],[98]] [.mk 3 [49] [] [],.mk 5 [] [] [.mk 3 [50] [] [],.mk 3 [51] [] []]],.mk 6 [] [[97]] [.mk 3 [52] [] []]]
def AdZ:Es (.beg exB [])=some ([],exN):=lD
def Adw:AM exN 0=true:=lz
def Abg:Lib.validD exB=true:=lz
def Ad0:Lib.decDigits 0=[48]:=Lib.decDigits_one lA
def Abh:FA exB=(exN,0):=by unfold FA;rw[AdZ];simp only;rw[if_pos ⟨Abg,rfl⟩,if_pos Adw]
def Wo:Tab:=⟨5,[],[⟨[97],[([49],false),([52],false)]⟩]⟩
def Y3:Tab:=⟨6,[46,98],[⟨Sd,[([48],false),([48],false)]⟩,⟨Ji,[([50],false),([51],false)]⟩]⟩
def exE:List Elm:=[(0,.mk 3 [50] [] []),(0,.mk 3 [51] [] [])]
def AcO:Gp (A1 false (EN exN)) (5+(0:Nat)) []=(Wo,true):=lD
def AcN:Gp (A1 true exE) (5+(1:Nat)) [46,98]=(Y3,true):=by
 have hr:Dd (A1 true exE).above=⟨Sd,[([48],false),([48],false)]⟩:=by
  show Dd [0,0]=_
  simp[Dd,Ad0]
 have ht:Gn (A1 true exE) (5+(1:Nat)) [46,98]=Y3:=by unfold Gn Fb;rw[if_pos (show (A1 true exE).further=true from rfl),hr];rfl
 unfold Gp;rw[if_neg lz,ht];rfl
def AcP:UF 17 [] 5 exN=([Wo,Y3],0):=by
 unfold UF;rw[if_pos ⟨Adw,lz,lz⟩];have h2:GL 16 (A1 true exE) 5 [46,98] [Wo]=([Wo,Y3],true):=by unfold GL;rw[show ((5:Int)+([Wo]:List Tab).length)=5+(1:Nat) from rfl,AcN,if_pos ⟨rfl,lz⟩];rw[show (A1 true exE).lists=[] from rfl];rfl
 have h:GL 17 (A1 false (EN exN)) 5 [] []=([Wo,Y3],true):=by unfold GL;rw[show ((5:Int)+([]:List Tab).length)=5+(0:Nat) from rfl,AcO,if_pos ⟨rfl,lz⟩];rw[show (A1 false (EN exN)).lists=[[98]] from rfl];rw[List.foldl_cons,List.foldl_nil,if_pos rfl];rw[show (A1 false (EN exN)).it [98]=exE from rfl];exact h2
 rw[h,if_pos rfl]
def Abi:Adv ([Wo,Y3],0)=.tup [.sl 2 false [.int .i64 5,S [],.sl 1 false [S [97],.sl 2 false [.bool false,S [49],.bool false,S [52]]],
  .int .i64 6,S [46,98],.sl 2 false [S Sd,.sl 2 false [.bool false,S [48],.bool false,S [48]],S Ji,.sl 2 false [.bool false,S [50],.bool false,S [51]]]],.int .i64 0]:=rfl
def Af3:szN exN:=by simp[exN,szN,ZZ]
def VK (hT:HT G) (hP:HP G) (hG:Num.HG G):Ctr TP G 7 [] [] (.d (.bool true)) []:=by have hp:=L4 (G:=G) hT hG exB lz;rw[Abh] at hp;have hf:=Pe (G:=G) hT hP hG 17 [] 5 exN Af3 lC lz lz (fun h=>AcM lz lz h);rw[AcP,Abi] at hf;generalize exN=n at *;obtain ⟨k,t,ks,l⟩:=n;refine Ctr.pure (M:=M0) Ak Tryz.func7 rfl go7 ?_;simp only[Tryz.f7,↓Ab,Ad,↓reduceIte];refine Aa.of hp lD ?_;simp(disch:=try exact aa)only[NM,ndC,↓Ab,Ad,↓reduceIte,Qu];refine Aa.of hf lD ?_;simp(disch:=try exact aa)only[Af,↓Ab,Ad,↓reduceIte,↓Qe,Qu,Qw,QF];first | done | rfl
def X2 (G:Ah) (t:List Int) (d:Nat):Prop:=∀ k:Nat,Ctr TP G 11 [.ptr 0 0,.d (.int .i64 d)] [DiceM t k] (.d (NdD (DF t d k).1)) [DiceM t (DF t d k).2]
def PE:[D.str (bs [97]),D.str (bs [98]),D.str (bs [97,46,98]),D.str (bs [99]),D.str (bs []),D.str (bs [114,111,119])]=strs FY:=rfl
def YY {t:List Int} {f:Nat->Nd × Nat} {m:Nat} {ks:List (List UInt8)} {l:List Nd} {k:Nat} (h:Ku t k∈ks):Du t f (m+1) ks l k=Du t f m ks l (k+1):=by rw[Du,if_pos h]
def Aa8 {t:List Int} {f:Nat->Nd × Nat} {m:Nat} {ks:List (List UInt8)} {l:List Nd} {k:Nat} (h:¬Ku t k∈ks):Du t f (m+1) ks l k=Du t f m (ks++[Ku t k]) (l++[(f (k+1)).1]) (f (k+1)).2:=by rw[Du,if_neg h]
abbrev zN7:List AV:=[.d (.int .i64 0),.d (.str ByteArray.empty),.d (.sl 0 true []),.d (.sl 0 true [])]
structure FldS where
 m:Nat
 ks:List (List UInt8)
 l:List Nd
 k:Nat
def Sg (t:List Int) (ht:OkM t) (d:Nat) (hd:d<=1000) (hn:X2 G t d) (k:Nat) :
  Ctr TP G 16 [.ptr 0 0,.d (.int .i64 (d+1:Nat))] [DiceM t k] (.d (NdD (Kn t (DF t d) k).1)) [DiceM t (Kn t (DF t d) k).2]:=by
 obtain ⟨m0,hm0,hm1⟩:=pk_nat t k 4 lz;obtain ⟨r,hr⟩:∃ r,r=Kn t (DF t d) k:=⟨_,rfl⟩;rw[<-hr];unfold Kn at hr;rw[hm0,AgI] at hr;refine Ctr.body (M:=M0) Ak Tryz.func16 rfl go16 ?_;simp(disch:=try exact aa)only[Tryz.f16,↓Ab,Ad,↓reduceIte,Qu,Qv];refine Aa.by (pick_spec t k 4 ht lz lz) lD lD (Aew _) ?_;rw[hm0];simp(disch:=try exact aa)only[↓Ab,Ad,↓reduceIte,Qu];refine Al.fr 51 (α:=FldS) (fun x=>x.m) (fun x=>[(6,.d (.int .i64 (x.m:Nat)))]) (fun x=>[DiceM t x.k,.box zN7,.box [.d (.int .i64 6),.d (.str ByteArray.empty),.lsl 3 1 0 x.ks.length,.lsl 4 4 0 x.l.length],.row false (strs x.ks),.row false (AH x.l)])
  (fun x=>Du t (DF t d) x.m x.ks x.l x.k=Du t (DF t d) m0 [] [] (k+1)/\x.ks.length=x.l.length/\x.l.length+x.m<=3) ⟨m0,[],[],k+1⟩ ⟨rfl,rfl,jW⟩ ?_ ?_
 ·first
  | exact ⟨[some 0,some 1,some 2,none,none],rfl,lC,gV,by simp[HW,BW,SW,AW,strs,AH]⟩
 rintro ⟨m,ks,l,k2⟩ ⟨b1,b2,b3⟩;simp only at b1 b2 b3;simp only[Bm,Af2,Af7];have sl:=@strs_length ks;have nl:=Ax l;cases m with
 | zero =>rw[Du] at b1;rw[<-b1] at hr;subst hr;simp(disch:=try exact aa)only[↓Ab,Ad,↓reduceIte,Qu];have q1:cut (strs ks) 0 (ks.length*1)=strs ks:=GJ (by rw[sl,Nat.mul_one]);have q2:cut (AH l) 0 (l.length*4)=AH l:=GJ lA;refine ⟨[some 0],rfl,lC,gU,.inr ⟨.agg [.int .i64 6,.str ByteArray.empty,.sl ks.length false (cut (strs ks) 0 (ks.length*1)),.sl l.length false (cut (AH l) 0 (l.length*4))],rfl,?_,rfl⟩⟩;rw[q1,q2];rfl
 | succ m =>
  obtain ⟨c,hc,hc2⟩:=pk_nat t k2 6 lz;have hky:Ku t k2=FY.getD c []:=by unfold Ku;rw[hc,AgI]
  have lk:=@strs_length FY;have lk':FY.length=6:=rfl;have gs:=strs_getD (l:=FY) (i:=c) lA;simp(disch:=try exact aa)only[PE,strs_unf,↓Ab,Ad,↓reduceIte,Qu,Qz];refine Aa.by (pick_spec t k2 6 ht lz lz) lD lD (Aew _) ?_;rw[hc];rw[<-hky] at gs;simp(disch:=try exact aa)only[lk,lk',gs,↓Ab,Ad,↓reduceIte,Qu];have cu:cut (strs ks) 0 ks.length=Dst.strs ks:=by unfold cut strs Dst.strs;rw[List.drop_zero,Af0 lC]
  refine Aa.frozenE (Dst.has_spec ks false (Ku t k2) lA) (by rw[cu]) ?_;by_cases hm:Ku t k2∈ks
  ·rw[YY hm] at b1;rw[decide_eq_true hm];simp(disch:=try exact aa)only[↓Ab,Ad,↓reduceIte,Qu];first
   | exact ⟨⟨m,ks,l,k2+1⟩,⟨b1,b2,iz⟩,iz,mb⟩
  rw[Aa8 hm] at b1;rw[decide_eq_false hm];have hnd:=hn (k2+1);generalize DF t d (k2+1)=nn at *;obtain ⟨⟨na,nb,nc,ne⟩,k3⟩:=nn;simp only at hnd b1;simp(disch:=try exact aa)only[sl,↓Ab,Ad,↓reduceIte,Qu];refine Aa.by hnd lD lD (Aew _) ?_;simp(disch:=try exact aa)only[nl,ndC,↓Ab,Ad,↓reduceIte,Qu,Qw,Qz];have hs1:strs (ks++[Ku t k2])=strs ks++[.str (bs (Ku t k2))]:=by simp[strs]
  have hs2:AH (l++[.mk na nb nc ne])=AH l++[.int .i64 na,.str (bs nb),.sl nc.length false (strs nc),.sl ne.length false (AH ne)]:=by rw[GB];rfl
  first
  | exact ⟨lD,lD,⟨m,ks++[Ku t k2],l++[.mk na nb nc ne],k3⟩,⟨b1,by simp[b2],jW⟩,iz,⟨[some 0,some 1,some 2,some 7,some 9],rfl,lC,jR,by simp[HW,BW,SW,AW,hs1,hs2,cut]⟩⟩
def Wa (f:Nat->Nd × Nat) (m:Nat) (l:List Nd) (k:Nat):Hs f (m+1) l k=Hs f m (l++[(f k).1]) (f k).2:=rfl
def AdH:[D.str (bs D2),D.str (bs Ee)]=strs [D2,Ee]:=rfl
structure KidS where
 m:Nat
 l:List Nd
 k:Nat
def NZ (t:List Int) (ht:OkM t) (d:Nat) (hd:d<=1000) (hn:d=0\/X2 G t d):X2 G t (d+1):=by
 intro k;obtain ⟨c,hc,hc2⟩:=pk_nat t k 8 lz;obtain ⟨r,hr⟩:∃ r,r=DF t (d+1) k:=⟨_,rfl⟩;rw[<-hr];unfold DF at hr;rw[hc] at hr;refine Ctr.body (M:=M0) Ak Tryz.func11 rfl go11 ?_;simp only[Tryz.f11,↓Ab,Ad,↓reduceIte,Qu,Qv];refine Aa.by (pick_spec t k 8 ht lz lz) lD lD (Aew _) ?_;rw[hc];by_cases c0:c=0
 ·subst c0;rw[if_pos lA] at hr;subst hr;simp(disch:=try exact aa)only[↓Ab,Ad,↓reduceIte,Qu];first
  | (refine ⟨[some 0],rfl,lC,gU,.inr ⟨_,rfl,?_,rfl⟩⟩;rfl)
 rw[if_neg lA] at hr;have i0:¬((c:Int)=0):=lA
 by_cases c1:c=1
 ·subst c1;rw[if_pos lA] at hr;obtain ⟨a,ha,ha2⟩:=pk_nat t (k+1) 2 lz;simp(disch:=try exact aa)only[↓Ab,Ad,↓reduceIte,Qu,Qz];refine Aa.by (pick_spec t (k+1) 2 ht lz lz) lD lD (Aew _) ?_;rw[ha];rw[ha] at hr;rcases (by omega:a=0\/a=1) with rfl | rfl
  ·rw[if_pos lA] at hr;subst hr;simp(disch:=try exact aa)only[↓Ab,Ad,↓reduceIte,Qu];first
   | (refine ⟨[some 0],rfl,lC,gU,.inr ⟨_,rfl,?_,rfl⟩⟩;rfl)
  rw[if_neg lA] at hr;subst hr;simp(disch:=try exact aa)only[↓Ab,Ad,↓reduceIte,Qu];first
  | (refine ⟨[some 0],rfl,lC,gU,.inr ⟨_,rfl,?_,rfl⟩⟩;rfl)
 rw[if_neg lA] at hr;have i1:¬((c:Int)=1):=lA
 by_cases c2:c=2
 ·subst c2;rw[if_pos lA] at hr;simp(disch:=try exact aa)only[↓Ab,Ad,↓reduceIte,Qu];refine Aa.by (Ie t (k+1) ht) lD lD (Aew _) ?_;subst hr;generalize Jw t (k+1)=q;simp(disch:=try exact aa)only[↓Ab,Ad,↓reduceIte,Qu];first
  | (refine ⟨[some 0],rfl,lC,gU,.inr ⟨_,rfl,?_,rfl⟩⟩;rfl)
 rw[if_neg lA] at hr;have i2:¬((c:Int)=2):=lA
 by_cases c5:c<5\/d=0
 ·rw[if_pos lA] at hr;obtain ⟨a,ha,ha2⟩:=pk_nat t (k+1) 8 lz;rw[ha,AgI] at hr;rcases (by omega:c<5\/(¬c<5/\d=0)) with c5' | ⟨c5',d0⟩
  ·have i5:(c:Int)<5:=lA;simp(disch:=try exact aa)only[i0,i1,i2,i5,↓Ab,Ad,↓reduceIte,Qu];refine Aa.by (pick_spec t (k+1) 8 ht lz lz) lD lD (Aew _) ?_;rw[ha];simp(disch:=try exact aa)only[↓Ab,Ad,↓reduceIte,Qu];refine Aa.by (Mc t (k+1+1) a ht lA) lD lD (Aew _) ?_;subst hr;generalize FF t (k+1+1) a=q;simp(disch:=try exact aa)only[↓Ab,Ad,↓reduceIte,Qu];first
   | (refine ⟨[some 0],rfl,lC,gU,.inr ⟨_,rfl,?_,rfl⟩⟩;rfl)
  subst d0;have i5:¬((c:Int)<5):=lA
  simp(disch:=try exact aa)only[i0,i1,i2,i5,↓Ab,Ad,↓reduceIte,Qu];refine Aa.by (pick_spec t (k+1) 8 ht lz lz) lD lD (Aew _) ?_;rw[ha];simp(disch:=try exact aa)only[↓Ab,Ad,↓reduceIte,Qu];refine Aa.by (Mc t (k+1+1) a ht lA) lD lD (Aew _) ?_;subst hr;generalize FF t (k+1+1) a=q;simp(disch:=try exact aa)only[↓Ab,Ad,↓reduceIte,Qu];first
  | (refine ⟨[some 0],rfl,lC,gU,.inr ⟨_,rfl,?_,rfl⟩⟩;rfl)
 rw[if_neg lA] at hr;have hn:=hn.resolve_left lA;have i5:¬((c:Int)<5):=lA
 have id:¬(((d+1:Nat):Int)<2):=lA
 by_cases c6:c=5
 ·subst c6;rw[if_pos lA] at hr;obtain ⟨m0,hm0,hm1⟩:=pk_nat t (k+1) 4 lz;rw[hm0,AgI] at hr;simp(disch:=try exact aa)only[i0,i1,i2,i5,id,↓Ab,Ad,↓reduceIte,Qu];refine Aa.by (pick_spec t (k+1) 4 ht lz lz) lD lD (Aew _) ?_;rw[hm0];simp(disch:=try exact aa)only[↓Ab,Ad,↓reduceIte,Qu];refine Al.fr 83 (α:=KidS) (fun x=>x.m) (fun x=>[(7,.d (.int .i64 (x.m:Nat)))]) (fun x=>[DiceM t x.k,.box zN7,.box [.d (.int .i64 5),.d (.str ByteArray.empty),.d (.sl 0 true []),.lsl 3 4 0 x.l.length],.row false (AH x.l)])
   (fun x=>Hs (DF t d) x.m x.l x.k=Hs (DF t d) m0 [] (k+2)/\x.l.length+x.m<=3) ⟨m0,[],k+2⟩ ⟨rfl,jW⟩ ?_ ?_
  ·first
   | exact ⟨[some 0,some 1,some 2,none],rfl,lC,gV,by simp[HW,BW,SW,AW,AH]⟩
  rintro ⟨m,l,k2⟩ ⟨b1,b3⟩;simp only at b1 b3;simp only[Bm,Af2,Af7];have nl:=Ax l;cases m with
  | zero =>rw[Hs] at b1;rw[<-b1] at hr;subst hr;simp(disch:=try exact aa)only[↓Ab,Ad,↓reduceIte,Qu];have q2:cut (AH l) 0 (l.length*4)=AH l:=GJ lA;refine ⟨[some 0],rfl,lC,gU,.inr ⟨.agg [.int .i64 5,.str ByteArray.empty,.sl 0 true [],.sl l.length false (cut (AH l) 0 (l.length*4))],rfl,?_,rfl⟩⟩;rw[q2];rfl
  | succ m =>
   rw[Wa] at b1;have hnd:=hn k2;generalize DF t d k2=nn at *;obtain ⟨⟨na,nb,nc,ne⟩,k3⟩:=nn;simp only at hnd b1;simp(disch:=try exact aa)only[↓Ab,Ad,↓reduceIte,Qu];refine Aa.by hnd lD lD (Aew _) ?_;simp(disch:=try exact aa)only[nl,ndC,↓Ab,Ad,↓reduceIte,Qu,Qw,Qz];have hs2:AH (l++[.mk na nb nc ne])=AH l++[.int .i64 na,.str (bs nb),.sl nc.length false (strs nc),.sl ne.length false (AH ne)]:=(by rw[GB];rfl)
   first
   | exact ⟨lD,lD,⟨m,l++[.mk na nb nc ne],k3⟩,⟨b1,jW⟩,iz,⟨[some 0,some 1,some 2,some 5],rfl,lC,jR,by simp[HW,BW,SW,AW,hs2,cut]⟩⟩
 rw[if_neg lA] at hr;have i6:¬((c:Int)=5):=lA
 have hrec:=Sg (G:=G) t ht d hd hn (k+1);rw[<-hr] at hrec;obtain ⟨⟨na,nb,nc,ne⟩,k3⟩:=r;simp(disch:=try exact aa)only[i0,i1,i2,i5,i6,id,↓Ab,Ad,↓reduceIte,Qu];refine Aa.by hrec lD lD (Aew _) ?_;simp(disch:=try exact aa)only[ndC,↓Ab,Ad,↓reduceIte,Qu];first
 | (refine ⟨[some 0],rfl,lC,gU,.inr ⟨_,rfl,?_,rfl⟩⟩;rfl)
def Jx (t:List Int) (ht:OkM t):∀ d:Nat,d<=1000->X2 G t (d+1)
 | 0,h=>NZ t ht 0 lA (.inl rfl)
 | d+1,h=>NZ t ht (d+1) lA (.inr (Jx t ht d lA))
def XE {P:Nd->Prop} {f:Nat->Nd × Nat} (hf:∀ k,P (f k).1):∀ (m:Nat) (l:List Nd) (k:Nat),(∀ n∈l,P n)->(∀ n∈(Hs f m l k).1,P n)/\(Hs f m l k).1.length=l.length+m
 | 0,l,k,h=>⟨h,rfl⟩
 | m+1,l,k,h=>by
   obtain ⟨h1,h2⟩:=XE hf m (l++[(f k).1]) (f k).2 fun n hn=>by
    rcases Aes.1 hn with hn | hn
    ·exact h n hn
    rw[Aet.1 hn];exact hf k
   refine ⟨h1,?_⟩;rw[Hs,h2,Aeg];simp only[Aeu,Aev];omega
def SH {P:Nd->Prop} {t:List Int} {f:Nat->Nd × Nat} (hf:∀ k,P (f k).1):∀ (m:Nat) (ks:List (List UInt8)) (l:List Nd) (k:Nat),(∀ n∈l,P n)->ks.Nodup->(∀ s∈ks,s∈FY\/s=[])->ks.length=l.length ->
  (∀ n∈(Du t f m ks l k).1.2,P n)/\(Du t f m ks l k).1.1.Nodup/\(∀ s∈(Du t f m ks l k).1.1,s∈FY\/s=[])/\(Du t f m ks l k).1.1.length=(Du t f m ks l k).1.2.length/\(Du t f m ks l k).1.2.length<=l.length+m
 | 0,ks,l,k,h,h2,h3,h4=>⟨h,h2,h3,h4,Aew _⟩
 | m+1,ks,l,k,h,h2,h3,h4=>by
   rw[Du];split;·obtain ⟨a1,a2,a3,a4,a5⟩:=SH hf m ks l (k+1) h h2 h3 h4;exact ⟨a1,a2,a3,a4,lA⟩
   rename_i hk;obtain ⟨a1,a2,a3,a4,a5⟩:=SH (t:=t) hf m (ks++[Ku t k]) (l++[(f (k+1)).1]) (f (k+1)).2 (fun n hn=>by
    rcases Aes.1 hn with hn | hn
    ·exact h n hn
    ·rw[Aet.1 hn];exact hf _) (Aga.2 ⟨h2,lC,fun x hx y hy e=>hk (by rw[Aet.1 hy] at e;rw[<-e];exact hx)⟩) (fun s hs=>by
    rcases Aes.1 hs with hs | hs
    ·exact h3 s hs
    rw[Aet.1 hs];unfold Ku;rcases Agu (pk t k 6).toNat FY.length with q | q
    ·exact .inl (Ds q)
    right;rw[AfI,AgO q];rfl) (by simp[h4])
   refine ⟨a1,a2,a3,a4,?_⟩;rw[Aeg] at a5;simp only[Aeu,Aev] at a5;omega
mutual
def txN:Nd->Prop
 | .mk _ t ks l=>t.length<=40/\(∀ s∈ks,s.length<=40)/\Ab4 l
def Ab4:List Nd->Prop
 | []=>True
 | n::r=>txN n/\Ab4 r
end
def RQ:∀ {l:List Nd},(∀ n∈l,txN n)->Ab4 l
 | [],_=>trivial
 | n::r,h=>⟨h n lC,RQ fun x hx=>h x (AbY _ hx)⟩
def zM:Nat->Nat
 | 0=>0
 | d+1=>1+3*zM d
structure GN (d:Nat) (n:Nd):Prop where
 ok:∀ a,a+d<=16->AM n a=true
 sz:nsz n<=zM d
 ka:kA n
 w:wN n<=3^(d-1)
 q:qN n<=nsz n
 tx:txN n
def Aem:∀ s∈FY,B1 s/\s.length<=3:=by intro s hs;simp only[FY,Aex,AgK,or_false] at hs;rcases hs with rfl | rfl | rfl | rfl | rfl | rfl<;>exact ⟨ib,lz⟩
def AaV {s:List UInt8} (h:s∈FY\/s=[]):B1 s/\s.length<=3:=by
 rcases h with h | h
 ·exact Aem s h
 subst h;exact ⟨D0,lz⟩
def Vp {w:Nat}:∀ {l:List Nd},(∀ n∈l,wN n<=w)->wNs l<=w*l.length
 | [],_=>Agw _
 | n::r,h=>by have h1:=h n lC;have h2:=Vp (l:=r) fun x hx=>h x (AbY _ hx);rw[wNs,Aeu,Nat.mul_succ];omega
def VW:∀ {l:List Nd},(∀ n∈l,qN n<=nsz n)->qNs l<=BG l
 | [],_=>Agw _
 | n::r,h=>by have h1:=h n lC;have h2:=VW (l:=r) fun x hx=>h x (AbY _ hx);rw[qNs,BG];omega
def Wm (t:List Int) (k c:Nat):AN (FF t k c)=true:=by
 have num:=fun k=>Oz (PQ t k);have asc:∀ s:List UInt8,B1 s->s.length<=40->(∀ b∈s,Iw b=false)->AN s=true:=fun s h1 h2 h3=>by unfold AN;rw[decide_eq_true (show s.length<=1024 by omega),DX s h1,List.any_eq_false.2 fun b hb=>by rw[h3 b hb];simp];rfl
 have fall:∀ (l:List (List UInt8)) (i:Nat),(∀ s∈l,AN s=true)->AN (l.getD i [])=true:=fun l i h=>by
  rcases Agu i l.length with q | q
  ·exact h _ (Ds q)
  rw[AfI,AgO q];rfl
 have fapp:∀ a b:List UInt8,AN a=true->AN b=true->a.length+b.length<=1024->AN (a++b)=true:=fun a b h1 h2 h3=>by unfold AN at h1 h2 ⊢;simp only[Bool.and_eq_true,decide_eq_true_eq,Bool.not_eq_true'] at h1 h2 ⊢;refine ⟨by rw[Aeg];omega,X6 h1.2.1 h2.2.1,?_⟩;rw[List.any_append,h1.2.2,h2.2.2];rfl
 have one:AN [45]=true/\AN [47]=true/\AN [46]=true:=lz
 have fy:∀ s∈Ej,AN s=true:=lz
 have fm:∀ s∈Dr,AN s=true:=lz
 have fd:∀ s∈GI,AN s=true:=lz
 have fu:∀ s∈Gb,AN s=true:=lz
 have ly:=fun i=>Cj (l:=Ej) (m:=4) lz i;have lm:=fun i=>Cj (l:=Dr) (m:=2) lz i;have ld:=fun i=>Cj (l:=GI) (m:=2) lz i;unfold FF;repeat' split
 ·exact fall _ _ Wk
 ·exact num k
 ·unfold Mf;simp only;have y:=fall Ej (pk t k 6).toNat fy;have m:=fall Dr (pk t (k+1) 5).toNat fm;have d:=fall GI (pk t (k+2) 5).toNat fd;have y2:=ly (pk t k 6).toNat;have m2:=lm (pk t (k+1) 5).toNat;have d2:=ld (pk t (k+2) 5).toNat;generalize Ej.getD (pk t k 6).toNat []=ys at *;generalize Dr.getD (pk t (k+1) 5).toNat []=ms at *;generalize GI.getD (pk t (k+2) 5).toNat []=ds at *;have join:∀ (a b c:List UInt8) (x:UInt8),AN a=true->AN b=true->AN c=true->AN [x]=true->a.length<=4->b.length<=4->c.length<=4->AN (a++[x]++b++[x]++c)=true:=fun a b c x h1 h2 h3 h4 l1 l2 l3 =>
   fapp _ _ (fapp _ _ (fapp _ _ (fapp _ _ h1 h4 jW) h2 jW) h4 jW) h3 jW
  split;·exact join ys ms ds 45 y m d one.1 lA lA lA
  split;·exact join ys ms ds 47 y m d one.2.1 lA lA lA
  exact join ds ms ys 46 d m y one.2.2 lA lA lA
 ·exact fall _ _ Wn
 ·have:=(Ig t k).2;have l2:=Cj (l:=Gb) (m:=4) lz (pk t (Pa t k) 7).toNat;exact fapp _ _ (num k) (fall _ _ fu) lA
 ·exact fall _ _ Wl
 exact fall _ _ YZ
def Kt {d:Nat} {k:Int} {t:List UInt8} (h1:1<=k/\k<=4) (h2:Cq k t=true) (h3:t.length<=40):GN (d+1) (.mk k t [] []):=by
 refine ⟨fun a ha=>?_,?_,⟨fun s hs=>kX,trivial⟩,?_,?_,⟨h3,fun s hs=>kX,trivial⟩⟩;·rw[AM,h2,decide_eq_true (show 1<=k/\k<=6 by omega),decide_eq_true (show a<16 by omega)];unfold DJ;rw[if_neg lA];simp[Bv]
 ·rw[nsz,zM,BG];omega
 ·rw[wN,if_neg lA];exact Nat.one_le_pow _ _ lA
 rw[qN,if_neg lA,qNs];omega
def AdJ {d:Nat} {t:List Int} {f:Nat->Nd × Nat} (hf:∀ k,GN (d+1) (f k).1) (k:Nat):GN (d+2) (Kn t f k).1/\(Kn t f k).1.kind=6/\(Kn t f k).1.text=[]:=by
 have hr:=@pk_range t k 4 lz;obtain ⟨a1,a2,a3,a4,a5⟩:=SH (P:=GN (d+1)) (t:=t) hf (pk t k 4).toNat [] [] (k+1) (fun n hn=>by cases hn) AgP (fun s hs=>kX) rfl;unfold Kn;generalize Du t f (pk t k 4).toNat [] [] (k+1)=r at *;obtain ⟨⟨ks,l⟩,k2⟩:=r;simp only at a1 a2 a3 a4 a5 ⊢;simp only[Aev] at a5;have h3:l.length<=3:=lA
 refine ⟨⟨fun a ha=>?_,?_,⟨fun s hs=>AaV (a3 s hs),We fun n hn=>(a1 n hn).ka⟩,?_,?_,⟨lC,fun s hs=>by have:=(AaV (a3 s hs)).2;omega,RQ fun n hn=>(a1 n hn).tx⟩⟩,rfl,rfl⟩
 ·rw[AM,Lm fun n hn=>(a1 n hn).ok (a+1) lA];have e1:DJ 6 ks l.length=true:=by
   rw[DJ,if_pos rfl,a4,decide_eq_true rfl,decide_eq_true a2,List.all_eq_true.2 fun s hs=>Y0 (a3 s hs)];rfl
  rw[e1,decide_eq_true (show a<16 by omega)];rfl
 ·rw[nsz,zM];have:=Sq (l:=l) (z:=zM (d+1)) fun n hn=>(a1 n hn).sz;have:=AgF (zM (d+1)) h3;omega
 ·rw[wN,if_pos (.inr rfl)];have h1:=Vp (l:=l) (w:=3^d) fun n hn=>(a1 n hn).w;have h2:=AgF (3^d) h3;show wNs l<=3^(d+1)
  rw[AgV];omega
 rw[qN,if_neg lz,nsz];exact pY
def MW (t:List Int):∀ (d k:Nat),GN (d+1) (DF t (d+1) k).1
 | d,k=>by
   have hk:=@pk_range t k 8 lz;rw[DF];split;·exact Kt lz rfl lC
   split
   ·split;·exact Kt lz lz lz
    exact Kt lz lz lz
   split;·exact Kt lz (by show Cq 3 _=true;unfold Cq;rw[if_neg lz,if_pos rfl];exact PQ t (k+1)) (by have:=(Ig t (k+1)).2;show (Jw t (k+1)).length<=40;omega)
   split
   ·refine Kt lz ?_ (by have:=(Y1 t (k+2) (pk t (k+1) 8).toNat).2;show (FF t (k+2) (pk t (k+1) 8).toNat).length<=40;omega);show Cq 4 _=true
    unfold Cq;rw[if_neg lz,if_neg lz,if_pos rfl];exact Wm _ _ _
   rename_i hd;obtain ⟨e,rfl⟩:∃ e,d=e+1:=⟨d-1,lA⟩;split
   ·have hr:=@pk_range t (k+1) 4 lz;obtain ⟨a1,a2⟩:=XE (P:=GN (e+1)) (MW t e) (pk t (k+1) 4).toNat [] (k+2) fun n hn=>by cases hn
    generalize Hs (DF t (e+1)) (pk t (k+1) 4).toNat [] (k+2)=r at *;obtain ⟨l,k2⟩:=r;simp only at a1 a2 ⊢;simp only[Aev] at a2;have h3:l.length<=3:=lA
    refine ⟨fun a ha=>?_,?_,⟨fun s hs=>kX,We fun n hn=>(a1 n hn).ka⟩,?_,?_,⟨lC,fun s hs=>kX,RQ fun n hn=>(a1 n hn).tx⟩⟩;·rw[AM,Lm fun n hn=>(a1 n hn).ok (a+1) lA,decide_eq_true (show a<16 by omega)];rfl
    ·rw[nsz,zM];have:=Sq (l:=l) (z:=zM (e+1)) fun n hn=>(a1 n hn).sz;have:=AgF (zM (e+1)) h3;omega
    ·rw[wN,if_pos (.inl rfl)];have h1:=Vp (l:=l) (w:=3^e) fun n hn=>(a1 n hn).w;have h2:=AgF (3^e) h3;show wNs l<=3^(e+1)
     rw[AgV];omega
    rw[qN,if_pos rfl,nsz];exact pY
   exact (AdJ (t:=t) (MW t e) (k+1)).1
def Z0:∀ (N:Nat) (n:Nd) (a:Nat),nsz n<=N->AM n a=true->nsz n<=100000->szN n
 | 0,n,_,h,_,_=>ic
 | N+1,n,a,hN,h,hz=>by
   have o:=FB h;have e:=CK n;have hl:=CP n.kids;have hk:∀ k∈n.kids,szN k:=fun k hk=>by have:=Df hk;exact Z0 N k (a+1) lA (o.kids k hk) lA
   refine RT ⟨by have:=o.text;omega,fun s hs=>?_,hk⟩ ?_ lA
   ·by_cases k6:n.kind=6;·have:=FE ((o.recd k6).2.2 s hs);omega
    rw[o.nrecd k6] at hs;cases hs
   by_cases k6:n.kind=6;·have:=(o.recd k6).1;omega
   rw[o.nrecd k6];simp
end
section
open Go Go.Proofs Go.Abs
def Oo:∀ s:List UInt8,(Oq s).length<=2*s.length
 | []=>Aew _
 | b::s=>by
   have ih:=Oo s;have e:Oq (b::s)=Pg b++Oq s:=(by simp[Oq])
   rw[e,Aeg,Aeu];rcases Wq b with ⟨c,h1,_⟩ | ⟨h1,_⟩
   ·rw[h1];simp only[Aeu,Aev];omega
   rw[h1];simp only[Aeu,Aev];omega
def Fy (s:List UInt8):(Dx s).length<=2*s.length+2:=by have:=Oo s;simp only[Dx,Aeu,Aeg,Aev];omega
def YV {B:Nat} {ks:List (List UInt8)} (h:∀ s∈ks,s.length<=B):(ks.headD []).length<=B:=by
 cases ks with
 | nil=>exact Agw _
 | cons a r=>exact h a lC
def UE (rec:Bool):∀ (l:List Nd) (ks:List (List UInt8)) (first:Bool),(∀ n∈l,(D3 n).length+84<=170*nsz n)->(∀ s∈ks,s.length<=40)->(Gg rec ks l first).length<=170*BG l
 | [],ks,f,_,_=>by rw[Ol];exact Agw _
 | n::r,ks,f,h,hk=>by
   have h1:=h n lC;have h2:=UE rec r ks.tail false (fun x hx=>h x (AbY _ hx)) fun s hs=>hk s (List.mem_of_mem_tail hs);have h3:=YV hk;have h4:=Fy (ks.headD []);rw[Q4,BG];simp only[Aeg];have h5:(if f=true then ([]:List UInt8) else [44]).length<=1:=(by split<;>simp)
   have h6:(if rec=true then Dx (ks.headD [])++[58] else ([]:List UInt8)).length<=83:=by
    split;·simp only[Aeg,Aeu,Aev];omega
    simp
   omega
def Tn:∀ {l:List Nd},Ab4 l->∀ n∈l,txN n
 | [],_,n,h=>lx
 | x::r,h,n,hn=>by
   rcases Aex.1 hn with rfl | hn
   ·exact h.1
   exact Tn h.2 n hn
def UD:∀ (N:Nat) (n:Nd),nsz n<=N->txN n->(D3 n).length+84<=170*nsz n
 | 0,n,h,_=>ic
 | N+1,.mk k t ks l,hN,hx=>by
   have e:nsz (.mk k t ks l)=1+BG l:=CK _;obtain ⟨x1,x2,x3⟩:=hx;have h2:=fun rec=>UE rec l ks true (fun c hc=>UD N c g8 (Tn x3 c hc)) x2;have h2a:=h2 false;have h2b:=h2 true;have h4:=Fy t;rw[D3,e];split;·simp[Eu];omega
   split;·omega
   split;·simp only[Aeg,Aeu,Aev];omega
   split;·simp only[Aeg,Aeu,Aev];omega
   omega
def AdS {b:UInt8} (h:32<b.toNat):Fc.contains b=false:=by
 cases e:Fc.contains b with
 | false=>rfl
 | true =>simp only[Fc,List.contains_eq_mem,Aex,AgK,or_false,decide_eq_true_eq] at e;rcases e with rfl | rfl | rfl | rfl<;>exact absurd h lz
def Xf {c b:UInt8} (h:32<b.toNat) (hb:b≠c) (s:List UInt8):sgn c (b::s)=(b::s,false):=R1 (Xd (AdS h) s) hb
end
section
open Go Go.Proofs Go.Abs
variable {G:Ah}
def Xm (b:UInt8):rpO b=Pg b:=by
 unfold rpO rpN Pg;by_cases h1:b=92;·subst h1;rfl
 by_cases h2:b=34;·subst h2;rfl
 by_cases h3:b=10;·subst h3;rfl
 by_cases h4:b=13;·subst h4;rfl
 by_cases h5:b=9;·subst h5;rfl
 rw[if_neg h1,if_neg h2,if_neg h3,if_neg h4,if_neg h5,if_neg h1,if_neg h2,if_neg h3,if_neg h4,if_neg h5]
def Sb (s:List UInt8):rpL s=Oq s:=by unfold rpL Oq;exact congrArg (s.flatMap ·) (funext Xm)
def LY (s:List UInt8) (hs:s.length<=1000000000):Ctr TP G 69 [.d (S s)] [] (.d (S (Dx s))) []:=by have h:=VU (G:=G) s hs;rw[Sb] at h;exact h
def Dl (used:Bool) (l x:List UInt8) (hl:l.length<=10000000000000) (hx:x.length<=10000000000000) (y:List UInt8) (hy:l++x=y) :
  Ctr TP G 68 [.ptr 0 0,.d (S x)] (BL used l) (.tup [.d (.int .i64 x.length),.undef]) [.bld 79 true y.length (some 2),.dead,.buf 5 y]:=by
 subst hy;exact KV used l x hl hx
def Abr {P:Program} {f:FuncId} {args:List AV} {res:AV} {H':List Ae} {T e:TypeId} {used:Bool} (spec:Ctr P G f args [.bld T used 0 (some 1),.buf e []] res H') (ha:SW [some 0,none] args args) :
  Ctr P G f args [.bld T used 0 none] res H':=by
 refine ⟨spec.1,fun h ρ w vs hs hvs=>?_⟩;have ρ1:∀ k,k≠0->ρ k=none:=by
  intro k hk;cases er:ρ k with
  | none=>rfl
  | some x =>obtain ⟨_,b,hb⟩:=hs.dom k x.1 x.2 er;obtain ⟨j,rfl⟩:∃ j,k=j+1:=⟨k-1,lA⟩;simp[hp] at hb
 have epl:plN [some 0,none] ρ=ρ:=by
  funext k;rcases k with _ | _ | k
  ·rfl
  ·rw[ρ1 1 lA];rfl
  rw[ρ1 (k+2) lA];rfl
 obtain ⟨h1,t1,_,s2,r2⟩:=II (fl:=[some 0,none]) (H:=[.bld T used 0 none]) (s:=args) (s2:=args) (H2:=[.bld T used 0 (some 1),.buf e []]) (tmps:=vs) lC ha jT hs hvs;rw[epl] at s2 r2;refine (spec.2 h1 ρ w vs s2 r2).mono ?_;rintro e w' ⟨v,h',ρ',rfl,a,b,c⟩;exact ⟨v,h',ρ',rfl,a,b,t1.trans c⟩
mutual
def eqN:Nd->Nd->Bool
 | .mk k t ks l,.mk k2 t2 ks2 l2=>decide (k=k2) && (decide (t=t2) && (decide (ks=ks2) && GG l l2))
def GG:List Nd->List Nd->Bool
 | [],[]=>true
 | a::r,b::s=>eqN a b && GG r s
 | [],_::_=>false
 | _::_,[]=>false
end
mutual
def UJ:∀ n:Nd,eqN n n=true
 | .mk k t ks l=>by rw[eqN,Q6 l];simp
def Q6:∀ l:List Nd,GG l l=true
 | []=>by rw[GG]
 | a::r=>by rw[GG,UJ a,Q6 r];rfl
end
def Ot:∀ {l m:List Nd},l.length≠m.length->GG l m=false
 | [],[],h=>absurd rfl h
 | [],_::_,_=>by rw[GG]
 | _::_,[],_=>by rw[GG]
 | a::r,b::s,h=>by rw[GG,Ot fun e=>h (by simp[e]),AgJ]
def XL {l m:List Nd} {i:Nat} (h:i<l.length) (h2:i<m.length):GG (l.drop i) (m.drop i)=(eqN (l.getD i noN) (m.getD i noN) && GG (l.drop (i+1)) (m.drop (i+1))):=by rw[Agz h,Agz h2,GG,AfI,Agx h,AfI,Agx h2];rfl
end
section
open Go Go.Proofs Go.Abs
variable {G:Ah}
def My:List (List UInt8)->List (List UInt8)->Bool
 | [],[]=>true
 | a::r,b::s=>decide (a=b) && My r s
 | [],_::_=>false
 | _::_,[]=>false
def SJ:∀ a b:List (List UInt8),My a b=decide (a=b)
 | [],[]=>rfl
 | a::r,b::s=>by rw[My,SJ r s];by_cases h1:a=b<;>by_cases h2:r=s<;>simp[h1,h2]
 | [],_::_=>by simp[My]
 | _::_,[]=>by simp[My]
def Abk {l m:List (List UInt8)} (h:l.length≠m.length):My l m=false:=by rw[SJ];exact decide_eq_false fun e=>h lB
def AcR {l m:List (List UInt8)} {i:Nat} (h:i<l.length) (h2:i<m.length):My (l.drop i) (m.drop i)=(decide (l.getD i []=m.getD i []) && My (l.drop (i+1)) (m.drop (i+1))):=by rw[Agz h,Agz h2,My,AfI,Agx h,AfI,Agx h2];rfl
def Wt (l m:List (List UInt8)) (fu fv:Bool) (hl:l.length<=1000000000) (hm:m.length<=1000000000) :
  Ctr TP G 44 [.d (Ss l fu),.d (Ss m fv)] [] (.d (.bool (My l m))) []:=by
 refine Ctr.pure (M:=M0) Ak Tryz.func44 rfl go44 ?_;have sl:=@strs_length l;have sm:=@strs_length m;by_cases hlen:l.length=m.length
 ·simp only[hlen,Tryz.f44,↓Ab,Ad,Qu,Qv];refine Al.fr 4099 (α:=Nat) (fun i=>l.length-i) (fun i=>[(13,.d (.int .i64 i))]) (fun _=>[]) (fun i=>i<=l.length/\My l m=My (l.drop i) (m.drop i)) 0 ⟨Agw _,rfl⟩ ?_ ?_;·exact nD
  rintro i ⟨h1,h2⟩;simp only[Bm,Af2,Af7];rcases Agu i l.length with h | h
  ·have g1:=strs_getD h;have g2:=strs_getD (l:=m) (i:=i) lA;rw[h2,AcR h lA];by_cases e:l.getD i []=m.getD i []
   ·rw[decide_eq_true e,Aeq];simp(disch:=try exact aa)only[Af,sl,sm,g1,g2,e,↓Ab,Ad,↓reduceIte];first
    | exact ⟨lD,i+1,⟨h,rfl⟩,iz,nE⟩
   rw[decide_eq_false e,AeA];simp(disch:=try exact aa)only[Af,sl,sm,g1,g2,e,↓Ab,Ad,↓reduceIte,↓Qe];first
   | done
   | rfl
  rw[AgD h,AgD (by omega:m.length<=i)] at h2;rw[h2];simp(disch:=try exact aa)only[↓Ab,Ad,↓Qe];first
  | done
  | rfl
 rw[Abk hlen];simp(disch:=try exact aa)only[Tryz.f44,↓Ab,Ad,↓Qe,Qu,Qv];first
 | done
 | rfl
def UK (l m:List Nd) (fu fv:Bool) (hl:l.length<=1000000000) (hm:m.length<=1000000000) (hp:∀ c∈l,∀ d∈m,Ctr TP G 21 [.d (NdD c),.d (NdD d)] [] (.d (.bool (eqN c d))) []) :
  Ctr TP G 45 [.d (NdS l fu),.d (NdS m fv),.d (.fn (.func 21) [] [])] [] (.d (.bool (GG l m))) []:=by
 refine Ctr.pure (M:=M0) Ak Tryz.func45 rfl go45 ?_;have sl:=Ax l;have sm:=Ax m;by_cases hlen:l.length=m.length
 ·simp only[hlen,Tryz.f45,↓Ab,Ad,Qu,Qv];refine Al.fr 98310 (α:=Nat) (fun i=>l.length-i) (fun i=>[(17,.d (.int .i64 i))]) (fun _=>[]) (fun i=>i<=l.length/\GG l m=GG (l.drop i) (m.drop i)) 0 ⟨Agw _,rfl⟩ ?_ ?_;·exact nD
  rintro i ⟨h1,h2⟩;simp only[Bm,Af2,Af7];rcases Agu i l.length with h | h
  ·have g1:=Ca h;have g2:=Ca (l:=m) (k:=i) lA;have hc:=hp _ (Ds (d:=noN) h) _ (Ds (d:=noN) (i:=i) lA);rw[h2,XL h lA];generalize l.getD i noN=c at *;generalize m.getD i noN=d at *;obtain ⟨ck,ct,cks,ckl⟩:=c;obtain ⟨dk,dt,dks,dkl⟩:=d;simp(disch:=try exact aa)only[sl,sm,g1,g2,ndC,↓Ab,Ad,↓reduceIte,Qu];first
   | (refine Aa.of hc lD ?_)
   cases hx:eqN (.mk ck ct cks ckl) (.mk dk dt dks dkl)
   ·simp only[↓Ab,Ad,↓Qe,Qu];first
    | done
    | rfl
   simp(disch:=try exact aa)only[↓Ab,Ad,Qu];first
   | exact mJ
  rw[AgD h,AgD (by omega:m.length<=i)] at h2;rw[h2,show GG [] []=true by rw[GG]];simp(disch:=try exact aa)only[↓Ab,Ad,↓Qe];first
  | done
  | rfl
 rw[Ot hlen];simp(disch:=try exact aa)only[Tryz.f45,↓Ab,Ad,↓Qe,Qu,Qv];first
 | done
 | rfl
def Ny:∀ (N:Nat) (a b:Nd),nsz a<=N->szN a->szN b->Ctr TP G 21 [.d (NdD a),.d (NdD b)] [] (.d (.bool (eqN a b))) []
 | 0,a,b,hN,_,_=>by have:=Cv a;omega
 | N+1,a,b,hN,ha,hb=>by
   have hnz:=CK a;obtain ⟨k,t,ks,l⟩:=a;obtain ⟨k2,t2,ks2,l2⟩:=b;obtain ⟨s1,s2,s3,s4,s5⟩:=ha;obtain ⟨q1,q2,q3,q4,q5⟩:=hb;replace hnz:nsz (.mk k t ks l)=1+BG l:=hnz;have ih:∀ c∈l,∀ d∈l2,Ctr TP G 21 [.d (NdD c),.d (NdD d)] [] (.d (.bool (eqN c d))) []:=fun c hc d hd =>Ny N c d g8 (Ft s5 c hc) (Ft q5 d hd)
   obtain ⟨r,hr⟩:∃ r,r=eqN (.mk k t ks l) (.mk k2 t2 ks2 l2):=⟨_,rfl⟩;rw[<-hr];rw[eqN] at hr;refine Ctr.pure (M:=M0) Ak Tryz.func21 rfl go21 ?_;by_cases e1:k=k2
   ·rw[decide_eq_true e1,Aeq] at hr;by_cases e2:t=t2
    ·rw[decide_eq_true e2,Aeq] at hr;simp(disch:=try exact aa)only[Af,ndC,e1,e2,Tryz.f21,↓Ab,Ad,↓reduceIte,Qu,Qv];first
     | (refine Aa.of (Wt ks ks2 false false lA lA) lD ?_)
     rw[SJ];by_cases e3:ks=ks2
     ·rw[decide_eq_true e3,Aeq] at hr;simp(disch:=try exact aa)only[e3,↓Ab,Ad,↓reduceIte,Qu];first
      | (refine Aa.of (UK l l2 false false lA lA ih) lD ?_)
      rw[<-hr];simp only[↓Ab,Ad,↓reduceIte,↓Qe,Qu];first
      | done
      | rfl
     rw[decide_eq_false e3,AeA] at hr;subst hr;simp only[e3,↓Ab,Ad,↓reduceIte,↓Qe,Qu];first
     | done
     | rfl
    rw[decide_eq_false e2,AeA] at hr;subst hr;simp(disch:=try exact aa)only[Af,ndC,e1,e2,Tryz.f21,↓Ab,Ad,↓reduceIte,↓Qe,Qu,Qv];first
    | done
    | rfl
   rw[decide_eq_false e1,AeA] at hr;subst hr;simp(disch:=try exact aa)only[ndC,e1,Tryz.f21,↓Ab,Ad,↓reduceIte,↓Qe,Qu,Qv];first
   | done
   | rfl
abbrev BX7 (y:List UInt8):List Ae:=[.bld 79 true y.length (some 2),.dead,.buf 5 y]
def XK (rec f:Bool) {ks:List (List UInt8)} {l:List Nd} {i:Nat} (h:i<l.length):Gg rec (ks.drop i) (l.drop i) f=(if f=true then [] else [44])++((if rec=true then Dx (ks.getD i [])++[58] else [])++(D3 (l.getD i noN)++Gg rec (ks.drop (i+1)) (l.drop (i+1)) false)):=by
 have e1:l.getD i noN=l[i]:=by rw[AfI,Agx h];rfl
 rw[Agz h,Q4,e1,List.tail_drop,List.headD_eq_head?_getD,List.head?_drop,<-AfI]
def LK:∀ (N:Nat) (n:Nd) (a:Nat),nsz n<=N->AM n a=true->nsz n<=100000->∀ (used:Bool) (out0:List UInt8),out0.length+(D3 n).length<=1000000000000 ->
  Ctr TP G 38 [.ptr 0 0,.d (NdD n)] (BL used out0) (.d (.tup [])) (BX7 (out0++D3 n))
 | 0,n,_,hN,_,_=>ic
 | N+1,n,a,hN,ho,hz=>by
   intro used out0 hb;have o:=FB ho;have hnz:=CK n;obtain ⟨k,t,ks,l⟩:=n;have hl:l.length<=BG l:=CP l;replace hnz:nsz (.mk k t ks l)=1+BG l:=hnz;have ok:1<=k/\k<=6:=o.kind;have ot:t.length<=1024:=o.text;have ih:∀ c∈l,∀ (o3 o4:List UInt8),o3++D3 c=o4->o4.length<=1000000000000->Ctr TP G 38 [.ptr 0 0,.d (NdD c)] (BL true o3) (.d (.tup [])) (BX7 o4):=fun c hc o3 o4 e h4=>by subst e;have:=Df hc;exact LK N c (a+1) lA (o.kids c hc) lA true o3 (by rw[Aeg] at h4;exact h4)
   obtain ⟨y,hy⟩:∃ y,out0++D3 (.mk k t ks l)=y:=⟨_,rfl⟩;have ly:y.length<=1000000000000:=(by rw[<-hy,Aeg];exact hb)
   have l0:out0.length<=y.length:=(by rw[<-hy,Aeg];omega);rw[hy];rw[D3] at hy;refine Ctr.body (M:=M0) Ak Tryz.func38 rfl go38 ?_;by_cases h1:k=1
   ·subst h1;rw[if_pos rfl] at hy;simp(disch:=try exact aa)only[Af,ndC,Tryz.f38,↓Ab,Ad,↓reduceIte,Qu,Qv,QK];first
    | (refine Aa.by (Dl used out0 Eu lA (by simp[Eu]) y hy) lD lD lC ?_)
    simp(disch:=try exact aa)only[↓Ab,Ad,↓reduceIte,Qu,Qv];first
    | (refine ⟨[some 0,some 1,some 3],rfl,lC,jT,.inr ⟨_,rfl,?_,rfl⟩⟩;rfl)
   by_cases h4:k=4
   ·subst h4;rw[if_neg h1,if_pos rfl] at hy;have ql:=Fy t;simp(disch:=try exact aa)only[ndC,Tryz.f38,↓Ab,Ad,↓reduceIte,Qu,Qv];refine Aa.of (LY t lA) lD ?_;generalize Dx t=q at *;simp(disch:=try exact aa)only[Af,↓Ab,Ad,↓reduceIte,Qu,QK];first
    | (refine Aa.by (Dl used out0 q lA lA y hy) lD lD lC ?_)
    simp(disch:=try exact aa)only[↓Ab,Ad,↓reduceIte,Qu,Qv];first
    | (refine ⟨[some 0,some 1,some 3],rfl,lC,jT,.inr ⟨_,rfl,?_,rfl⟩⟩;rfl)
   by_cases h56:k=5\/k=6
   ·obtain ⟨rec,op,cl,K0,hK,hc⟩:∃ (rec:Bool) (op cl:UInt8) (K0:Int),K0=k/\((k=5/\rec=false/\op=91/\cl=93)\/(k=6/\rec=true/\op=123/\cl=125)):=by
     rcases h56 with h | h
     ·exact mK
     exact mL
    have hcl:Ctr TP G 71 [.d (.int .i64 K0)] [] (.d (.int .u8 cl.toNat)) []:=by
     rcases hc with ⟨rfl,rfl,rfl,rfl⟩ | ⟨rfl,rfl,rfl,rfl⟩
     ·subst hK;exact KG 5
     subst hK;exact KG 6
    have hks:rec=true->ks.length=l.length/\∀ s∈ks,s.length<=1024:=by
     intro e;rcases hc with ⟨rfl,rfl,rfl,rfl⟩ | ⟨rfl,rfl,rfl,rfl⟩
     ·cases e
     obtain ⟨r1,r2,r3⟩:=o.recd rfl;exact ⟨r1,fun s hs=>FE (r3 s hs)⟩
    have hy2:out0++op::(Gg rec ks l true++[cl])=y:=by
     rcases hc with ⟨rfl,rfl,rfl,rfl⟩ | ⟨rfl,rfl,rfl,rfl⟩
     ·exact hy
     exact hy
    have sl:=@strs_length ks;have nl:=Ax l;generalize ho1:out0++[op]=o1;have lo1:o1.length<=y.length:=(by rw[<-ho1,<-hy2];simp)
    have inv0:o1++(Gg rec ks l true++[cl])=y:=(by rw[<-hy2,<-ho1];simp);have hw1:=Da (G:=G) used out0 op lA o1 ho1;rcases hc with ⟨rfl,hr,hop,hcc⟩ | ⟨rfl,hr,hop,hcc⟩
    case' inr=>have hkl:=(hks hr).1
    all_goals
     rw[hop] at hw1;simp(disch:=try exact aa)only[Af,ndC,Tryz.f38,↓Ab,Ad,↓reduceIte,Qu,Qv,QK];first
     | (refine ⟨lD,lD,lD,Aa.by hw1 lD lD lC ?_⟩)
     simp(disch:=try exact aa)only[↓Ab,Ad,↓reduceIte,Qu,Qv];refine Al.fr 412316860441 (α:=Nat × List UInt8) (fun x=>l.length-x.1) (fun x=>[(39,.d (.int .i64 x.1))]) (fun x=>[.bld 79 true x.2.length (some 3),.dead,.box [.d (.int .i64 K0),.d (S t),.d (Ss ks false),.d (.sl l.length false (AH l))],.buf 5 x.2])
      (fun x=>x.1<=l.length/\x.2++(Gg rec (ks.drop x.1) (l.drop x.1) (decide (x.1=0))++[cl])=y) (0,o1) ⟨Agw _,inv0⟩ ?_ ?_
     ·first
      | exact ⟨[some 0,some 1,some 2,some 4],rfl,lC,gV,by simp[HW,BW,SW,AW,hK]⟩
     rintro ⟨i,out⟩ ⟨b1,b2⟩;simp only at b1 b2;have lo:out.length<=y.length:=(by rw[<-b2,Aeg];omega)
     simp only[Bm,Af2,Af7];rcases Agu i l.length with h | h
     ·have gk:=Ca h;have sg:=fun q:i<ks.length=>strs_getD q;rw[XK rec _ h] at b2;obtain ⟨o2,h2⟩:∃ o2,out++(if decide (i=0)=true then [] else [44])=o2:=⟨_,rfl⟩;obtain ⟨o3,h3⟩:∃ o3,o2++(if rec=true then Dx (ks.getD i [])++[58] else [])=o3:=⟨_,rfl⟩;obtain ⟨o4,h4⟩:∃ o4,o3++D3 (l.getD i noN)=o4:=⟨_,rfl⟩;have e4:o4++(Gg rec (ks.drop (i+1)) (l.drop (i+1)) (decide (i+1=0))++[cl])=y:=by
       rw[<-b2,<-h4,<-h3,<-h2,show decide (i+1=0)=false by simp];simp only[Agv]
      have l4:o4.length<=y.length:=(by rw[<-e4,Aeg];omega);have l3:o3.length<=o4.length:=(by rw[<-h4,Aeg];omega);have l2:o2.length<=o3.length:=(by rw[<-h3,Aeg];omega);have hk:=ih _ (Ds h) o3 o4 h4 lA;have hkey:i<ks.length->(ks.getD i []).length<=1024:=fun q=>(hks ah).2 _ (Ds q);generalize l.getD i noN=kid at *;obtain ⟨dk,dt,dks,dl⟩:=kid;by_cases i0:i=0;case' pos =>
       obtain rfl:o2=out:=hO
       simp(disch:=try exact aa)only[Af,nl,gk,sl,sg,ndC,↓Ab,Ad,↓reduceIte,Qu,QK]
      case' neg =>
       have e2:out++[44]=o2:=hO;simp(disch:=try exact aa)only[Af,nl,gk,ndC,↓Ab,Ad,↓reduceIte,Qu,QK];first
       | (refine Aa.by (Da true out 44 lA o2 e2) lD lD lC ?_)
       simp(disch:=try exact aa)only[Af,sl,sg,↓Ab,Ad,↓reduceIte,Qu,Qv,QK]
      all_goals
       first
       | (have hr0:rec=false:=hr
          have q:o3=o2:=(by rw[<-h3,hr0];simp);subst q)
       | (have hr1:rec=true:=hr
          have e3:o2++(Dx (ks.getD i [])++[58])=o3:=(by rw[<-h3];simp[hr]);have hkey:=hkey lA;have ql:=Fy (ks.getD i []);refine Aa.of (LY (ks.getD i []) lA) lD ?_;generalize Dx (ks.getD i [])=qk at *;simp(disch:=try exact aa)only[Af,↓Ab,Ad,↓reduceIte,Qu,QK];refine Aa.by (Dl true o2 (qk++[58]) lA (by simp only[Aeg,Aeu,Aev];omega) o3 e3) lD lD lC ?_;simp(disch:=try exact aa)only[Af,↓Ab,Ad,↓reduceIte,Qu,Qv,QK])
       first
       | (refine Aa.by hk lD lD lC ?_)
       simp(disch:=try exact aa)only[↓Ab,Ad,↓reduceIte,Qu,Qv];first
       | (refine ⟨(i+1,o4),⟨h,e4⟩,iz,[some 0,some 1,some 2,some 5],rfl,lC,?_,?_⟩<;>(simp[HW,BW,SW,AW];done))
       | (refine ⟨(i+1,o4),⟨h,e4⟩,iz,[some 0,some 1,some 2,some 6],rfl,lC,?_,?_⟩<;>(simp[HW,BW,SW,AW];done))
       | (refine ⟨(i+1,o4),⟨h,e4⟩,iz,[some 0,some 1,some 2,some 7],rfl,lC,?_,?_⟩<;>(simp[HW,BW,SW,AW];done))
     rw[AgD h,Ol,List.nil_append] at b2;simp(disch:=try exact aa)only[↓Ab,Ad,↓reduceIte,Qu];first
     | (refine Aa.of hcl lD ?_)
     simp(disch:=try exact aa)only[Af,↓Ab,Ad,↓reduceIte,Qu,QK];first
     | (refine Aa.by (Da true out cl lA y b2) lD lD lC ?_)
     simp(disch:=try exact aa)only[↓Ab,Ad,↓reduceIte,Qu,Qv];first
     | (refine ⟨[some 0,some 1,some 4],rfl,lC,jT,.inr ⟨_,rfl,?_,rfl⟩⟩;rfl)
   have h23:k=2\/k=3:=lA;rw[if_neg h1,if_neg h4,if_neg lA,if_neg lA] at hy;have h5:¬k=5:=lA
   have h6:¬k=6:=lA;simp(disch:=try exact aa)only[Af,ndC,h1,h4,h5,h6,Tryz.f38,↓Ab,Ad,↓reduceIte,Qu,Qv,QK];first
   | (refine Aa.by (Dl used out0 t lA lA y hy) lD lD lC ?_)
   simp(disch:=try exact aa)only[↓Ab,Ad,↓reduceIte,Qu,Qv];first
   | (refine ⟨[some 0,some 1,some 3],rfl,lC,jT,.inr ⟨_,rfl,?_,rfl⟩⟩;rfl)
def Ok (n:Nd):List UInt8 × Int:=if AM n 0=true then (if 1048576<(D3 n).length then ([],3) else (D3 n,0)) else ([],1)
def YX (x:List UInt8 × Int):D:=.tup [S x.1,.int .i64 x.2]
def RI (n:Nd) (ho:AM n 0=true) (hz:nsz n<=100000) (hb:(D3 n).length<=1000000000000):Ctr TP G 38 [.ptr 0 0,.d (NdD n)] (BN false) (.d (.tup [])) (BX7 (D3 n)) :=
 Abr (LK _ n 0 (Aew _) ho hz false [] jg) jR
def SG (hT:HT G) (hG:Num.HG G) (n:Nd) (hs:szN n) (hz:nsz n<=100000) (hb:(D3 n).length<=1000000000000):Ctr TP G 17 [.d (NdD n)] [] (.d (YX (Ok n))) []:=by
 have hv:=E6 (G:=G) hT hG n hs;obtain ⟨r,hr⟩:∃ r,r=Ok n:=⟨_,rfl⟩;rw[<-hr];unfold Ok at hr;refine Ctr.pure (M:=MQ7) Ak Tryz.func17 rfl go17 ?_;cases ho:AM n 0;·rw[ho] at hv;rw[if_neg jP] at hr;subst hr;obtain ⟨k,t,ks,l⟩:=n;simp(disch:=try exact aa)only[ndC,C6,Tryz.f17,↓Ab,Ad,↓reduceIte,Qu,Qv];refine Aa.of hv lD ?_;simp only[↓Ab,Ad,↓Qe];first | done | rfl
 rw[ho] at hv;rw[if_pos ho] at hr;have hw:=RI (G:=G) n ho hz hb;generalize D3 n=y at *;obtain ⟨k,t,ks,l⟩:=n;simp(disch:=try exact aa)only[ndC,C6,Tryz.f17,↓Ab,Ad,↓reduceIte,Qu,Qv];refine Aa.of hv lD ?_;simp(disch:=try exact aa)only[Af,C6,↓Ab,Ad,↓reduceIte,Qu];first
 | (refine Aa.by hw lD lD lC ?_)
 simp(disch:=try exact aa)only[Af,C6,↓Ab,Ad,↓reduceIte,Qu,Qv,QK];first
 | (refine Aa.by (AaS true y) lD lD lC ?_)
 rcases Agu 1048576 y.length with h4 | h4
 ·rw[if_pos h4] at hr;exact oC
 rw[if_neg lA] at hr;subst hr;simp(disch:=try exact aa)only[Af,C6,↓Ab,Ad,↓reduceIte,Qu,QK];first
 | (refine Aa.by (LP true y) lD lD lC ?_)
 simp(disch:=try exact aa)only[↓Ab,Ad,↓reduceIte,↓Qe,Qu];first | done | rfl
def O6 (hT:HT G) (t:List UInt8) (ks:List (List UInt8)) (l:List Nd) (s1:t.length<=1000000000) (s2:ks.length<=100000) (s3:∀ s∈ks,s.length<=1000000000) (s4:l.length<=100000) (u1:(1:Int)=3->Num.decOk t=true->AN t=true) (d:Nat) (hd:d<=16) (d0:¬d=0)
  (ih:∀ c∈l,∀ b:Nat,b<=16->Ctr TP G 43 [.d (NdD c),.d (.int .i64 b)] [] (.d (.bool (AM c (16-b)))) []) :
  Ctr TP G 43 [.d (NdD (.mk 1 t ks l)),.d (.int .i64 d)] [] (.d (.bool (AM (.mk 1 t ks l) (16-d)))) []:=by
 obtain ⟨r,hr⟩:∃ r,r=AM (.mk 1 t ks l) (16-d):=⟨_,rfl⟩;rw[<-hr];rw[AM] at hr;have kl:=@strs_length ks;have ll:=Ax l;have hsf:=Fm (k:=1) (t:=t) u1;rw[decide_eq_true (show (1:Int)<=1/\(1:Int)<=6 by omega),Aeq,decide_eq_true (show 16-d<16 by omega),Aeq,show 16-d+1=16-(d-1) by omega] at hr;refine Ctr.pure (M:=M0) Ak Tryz.func43 rfl Ux ?_;simp(disch:=try exact aa)only[ndC,Tryz.f43,↓Ab,Ad,↓reduceIte,Qu,Qv];refine Aa.of (De hT t s1) lD ?_;cases ef:AN t
 ·exact oV
 simp(disch:=try exact aa)only[↓Ab,Ad,↓reduceIte,Qu];refine Aa.of (CY 1) lD ?_;rw[show Kd 1=false from rfl];by_cases tz:t=[]
 rotate_left
 ·have tz':(t=[])=False:=eq_false tz;rw[show Cq 1 t=false from decide_eq_false tz,AeA] at hr;exact ox
 have tz':(t=[])=True:=eq_true tz;rw[show Cq 1 t=true from decide_eq_true tz,Aeq] at hr;simp(disch:=try exact aa)only[Af,tz',↓Ab,Ad,↓reduceIte,Qu];refine Aa.of (Num.rdecimal_spec t lA) lD ?_;generalize Num.decOk t=dk at *;have hdk:∃ (w1 w3:Bool) (n2 n4:Nat) (w2 w4:List D),(if dk=true then Num.Frac (Num.decVal t) else Num.Zf)=.agg [.bool w1,.sl n2 false w2,.bool w3,.sl n4 false w4]:=dx
 obtain ⟨w1,w3,n2,n4,w2,w4,hw⟩:=hdk;rw[hw];rw[DJ,if_neg (show ¬(1:Int)=6 by omega)] at hr;rw[decide_eq_false (show ¬((1:Int)=5\/(1:Int)=6) by omega),AgM] at hr;by_cases l0:l.length=0
 rotate_left
 ·exact nZ
 rw[decide_eq_true l0,Aeq] at hr;by_cases k0:ks.length=0
 rotate_left
 ·exact n8
 have ke:ks=[]:=Agp.1 k0;have hk1:Et ks=true:=kj
 rw[decide_eq_true k0,Aeq] at hr;replace hr:r=(Et ks && Bv l (16-(d-1))):=gL
 clear ke hk1;simp(disch:=try exact aa)only[↓Ab,Ad,↓reduceIte,Qu];refine Al.fr 7605903601369376408980219232262 (α:=Nat) (fun i=>ks.length-i) (fun i=>[(103,.d (.int .i64 i))]) (fun _=>[.box [.d (.int .i64 1),.d (S t),.d (Ss ks false),.d (.sl l.length false (AH l))]]) (fun i=>i<=ks.length/\Et (ks.take i)=true) 0 ⟨Agw _,rfl⟩ ?_ ?_
 ·first
  | exact nr
 rintro i ⟨h1,h2⟩;simp only[Bm,Af2,Af7];rcases Agu i ks.length with h | h
 ·exact qF
 rw[Af0 h] at h2;rw[h2,Aeq] at hr;simp(disch:=try exact aa)only[↓Ab,Ad,↓reduceIte,Qu];refine Al.fr 7975367974709495237422842361682067458 (α:=Nat) (fun i=>l.length-i) (fun i=>[(123,.d (.int .i64 i))]) (fun _=>[]) (fun i=>i<=l.length/\Bv (l.take i) (16-(d-1))=true) 0 ⟨Agw _,rfl⟩ ?_ ?_
 ·first
  | exact nD
 rintro i ⟨h1,h2⟩;simp only[Bm,Af2,Af7];rcases Agu i l.length with h | h
 ·exact qF
 rw[Af0 h] at h2;exact oD
def O5 (hT:HT G) (t:List UInt8) (ks:List (List UInt8)) (l:List Nd) (s1:t.length<=1000000000) (s2:ks.length<=100000) (s3:∀ s∈ks,s.length<=1000000000) (s4:l.length<=100000) (u1:(2:Int)=3->Num.decOk t=true->AN t=true) (d:Nat) (hd:d<=16) (d0:¬d=0)
  (ih:∀ c∈l,∀ b:Nat,b<=16->Ctr TP G 43 [.d (NdD c),.d (.int .i64 b)] [] (.d (.bool (AM c (16-b)))) []) :
  Ctr TP G 43 [.d (NdD (.mk 2 t ks l)),.d (.int .i64 d)] [] (.d (.bool (AM (.mk 2 t ks l) (16-d)))) []:=by
 obtain ⟨r,hr⟩:∃ r,r=AM (.mk 2 t ks l) (16-d):=⟨_,rfl⟩;rw[<-hr];rw[AM] at hr;have kl:=@strs_length ks;have ll:=Ax l;have hsf:=Fm (k:=2) (t:=t) u1;rw[decide_eq_true (show (1:Int)<=2/\(2:Int)<=6 by omega),Aeq,decide_eq_true (show 16-d<16 by omega),Aeq,show 16-d+1=16-(d-1) by omega] at hr;refine Ctr.pure (M:=M0) Ak Tryz.func43 rfl Ux ?_;simp(disch:=try exact aa)only[ndC,Tryz.f43,↓Ab,Ad,↓reduceIte,Qu,Qv];refine Aa.of (De hT t s1) lD ?_;cases ef:AN t
 ·exact oV
 simp(disch:=try exact aa)only[↓Ab,Ad,↓reduceIte,Qu];refine Aa.of (CY 2) lD ?_;rw[show Kd 2=true from rfl];by_cases tz:t=D2\/t=Ee
 rotate_left
 ·have ta:(t=[116,114,117,101])=False:=eq_false fun c=>tz (.inl c);have tb:(t=[102,97,108,115,101])=False:=eq_false fun c=>tz (.inr c);rw[show Cq 2 t=false from decide_eq_false tz,AeA] at hr;subst hr;simp(disch:=try exact aa)only[Af,ta,tb,↓Ab,Ad,↓reduceIte,↓Qe,Qu];first | done | rfl
 rw[show Cq 2 t=true from decide_eq_true tz,Aeq] at hr;have tq:((t=[116,114,117,101])=True)\/((t=[116,114,117,101])=False/\(t=[102,97,108,115,101])=True):=by
  rcases tz with tz | tz
  ·exact .inl (eq_true tz)
  exact .inr ⟨eq_false fun c=>by rw[c] at tz;exact absurd tz lz,eq_true tz⟩
 refine (?_:_/\True).1;refine ⟨?_,trivial⟩;rcases tq with ta | ⟨ta,tb⟩
 rotate_left
 ·simp(disch:=try exact aa)only[Af,ta,tb,↓Ab,Ad,↓reduceIte,Qu];refine Aa.of (Num.rdecimal_spec t lA) lD ?_;generalize Num.decOk t=dk at *;have hdk:∃ (w1 w3:Bool) (n2 n4:Nat) (w2 w4:List D),(if dk=true then Num.Frac (Num.decVal t) else Num.Zf)=.agg [.bool w1,.sl n2 false w2,.bool w3,.sl n4 false w4]:=by cases dk<;>exact nH
  obtain ⟨w1,w3,n2,n4,w2,w4,hw⟩:=hdk;rw[hw];rw[DJ,if_neg (show ¬(2:Int)=6 by omega)] at hr;rw[decide_eq_false (show ¬((2:Int)=5\/(2:Int)=6) by omega),AgM] at hr;by_cases l0:l.length=0
  rotate_left
  ·exact nZ
  rw[decide_eq_true l0,Aeq] at hr;by_cases k0:ks.length=0
  rotate_left
  ·exact n8
  have ke:ks=[]:=Agp.1 k0;have hk1:Et ks=true:=kj
  rw[decide_eq_true k0,Aeq] at hr;replace hr:r=(Et ks && Bv l (16-(d-1))):=gL
  clear ke hk1;simp(disch:=try exact aa)only[↓Ab,Ad,↓reduceIte,Qu];refine Al.fr 7605903601369376408980219232262 (α:=Nat) (fun i=>ks.length-i) (fun i=>[(103,.d (.int .i64 i))]) (fun _=>[.box [.d (.int .i64 2),.d (S t),.d (Ss ks false),.d (.sl l.length false (AH l))]]) (fun i=>i<=ks.length/\Et (ks.take i)=true) 0 ⟨Agw _,rfl⟩ ?_ ?_
  ·first
   | exact nr
  rintro i ⟨h1,h2⟩;simp only[Bm,Af2,Af7];rcases Agu i ks.length with h | h
  ·exact qF
  rw[Af0 h] at h2;rw[h2,Aeq] at hr;simp(disch:=try exact aa)only[↓Ab,Ad,↓reduceIte,Qu];refine Al.fr 7975367974709495237422842361682067458 (α:=Nat) (fun i=>l.length-i) (fun i=>[(123,.d (.int .i64 i))]) (fun _=>[]) (fun i=>i<=l.length/\Bv (l.take i) (16-(d-1))=true) 0 ⟨Agw _,rfl⟩ ?_ ?_
  ·first
   | exact nD
  rintro i ⟨h1,h2⟩;simp only[Bm,Af2,Af7];rcases Agu i l.length with h | h
  ·exact qF
  rw[Af0 h] at h2;exact oD
 simp(disch:=try exact aa)only[Af,ta,↓Ab,Ad,↓reduceIte,Qu];refine Aa.of (Num.rdecimal_spec t lA) lD ?_;generalize Num.decOk t=dk at *;have hdk:∃ (w1 w3:Bool) (n2 n4:Nat) (w2 w4:List D),(if dk=true then Num.Frac (Num.decVal t) else Num.Zf)=.agg [.bool w1,.sl n2 false w2,.bool w3,.sl n4 false w4]:=dx
 obtain ⟨w1,w3,n2,n4,w2,w4,hw⟩:=hdk;rw[hw];rw[DJ,if_neg (show ¬(2:Int)=6 by omega)] at hr;rw[decide_eq_false (show ¬((2:Int)=5\/(2:Int)=6) by omega),AgM] at hr;by_cases l0:l.length=0
 rotate_left
 ·exact nZ
 rw[decide_eq_true l0,Aeq] at hr;by_cases k0:ks.length=0
 rotate_left
 ·exact n8
 have ke:ks=[]:=Agp.1 k0;have hk1:Et ks=true:=kj
 rw[decide_eq_true k0,Aeq] at hr;replace hr:r=(Et ks && Bv l (16-(d-1))):=gL
 clear ke hk1;simp(disch:=try exact aa)only[↓Ab,Ad,↓reduceIte,Qu];refine Al.fr 7605903601369376408980219232262 (α:=Nat) (fun i=>ks.length-i) (fun i=>[(103,.d (.int .i64 i))]) (fun _=>[.box [.d (.int .i64 2),.d (S t),.d (Ss ks false),.d (.sl l.length false (AH l))]]) (fun i=>i<=ks.length/\Et (ks.take i)=true) 0 ⟨Agw _,rfl⟩ ?_ ?_
 ·first
  | exact nr
 rintro i ⟨h1,h2⟩;simp only[Bm,Af2,Af7];rcases Agu i ks.length with h | h
 ·exact qF
 rw[Af0 h] at h2;rw[h2,Aeq] at hr;simp(disch:=try exact aa)only[↓Ab,Ad,↓reduceIte,Qu];refine Al.fr 7975367974709495237422842361682067458 (α:=Nat) (fun i=>l.length-i) (fun i=>[(123,.d (.int .i64 i))]) (fun _=>[]) (fun i=>i<=l.length/\Bv (l.take i) (16-(d-1))=true) 0 ⟨Agw _,rfl⟩ ?_ ?_
 ·first
  | exact nD
 rintro i ⟨h1,h2⟩;simp only[Bm,Af2,Af7];rcases Agu i l.length with h | h
 ·exact qF
 rw[Af0 h] at h2;exact oD
def O4 (hT:HT G) (t:List UInt8) (ks:List (List UInt8)) (l:List Nd) (s1:t.length<=1000000000) (s2:ks.length<=100000) (s3:∀ s∈ks,s.length<=1000000000) (s4:l.length<=100000) (u1:(3:Int)=3->Num.decOk t=true->AN t=true) (d:Nat) (hd:d<=16) (d0:¬d=0)
  (ih:∀ c∈l,∀ b:Nat,b<=16->Ctr TP G 43 [.d (NdD c),.d (.int .i64 b)] [] (.d (.bool (AM c (16-b)))) []) :
  Ctr TP G 43 [.d (NdD (.mk 3 t ks l)),.d (.int .i64 d)] [] (.d (.bool (AM (.mk 3 t ks l) (16-d)))) []:=by
 obtain ⟨r,hr⟩:∃ r,r=AM (.mk 3 t ks l) (16-d):=⟨_,rfl⟩;rw[<-hr];rw[AM] at hr;have kl:=@strs_length ks;have ll:=Ax l;have hsf:=Fm (k:=3) (t:=t) u1;rw[decide_eq_true (show (1:Int)<=3/\(3:Int)<=6 by omega),Aeq,decide_eq_true (show 16-d<16 by omega),Aeq,show 16-d+1=16-(d-1) by omega] at hr;refine Ctr.pure (M:=M0) Ak Tryz.func43 rfl Ux ?_;simp(disch:=try exact aa)only[ndC,Tryz.f43,↓Ab,Ad,↓reduceIte,Qu,Qv];refine Aa.of (De hT t s1) lD ?_;cases ef:AN t
 ·exact oV
 simp(disch:=try exact aa)only[↓Ab,Ad,↓reduceIte,Qu];refine Aa.of (CY 3) lD ?_;rw[show Kd 3=true from rfl];simp(disch:=try exact aa)only[↓Ab,Ad,↓reduceIte,Qu];refine Aa.of (Num.rdecimal_spec t lA) lD ?_;have hdk:∃ (w1 w3:Bool) (n2 n4:Nat) (w2 w4:List D),(if Num.decOk t=true then Num.Frac (Num.decVal t) else Num.Zf)=.agg [.bool w1,.sl n2 false w2,.bool w3,.sl n4 false w4]:=by cases Num.decOk t<;>exact nH
 have hs3:Cq 3 t=Num.decOk t:=rfl;rw[hs3] at hr hsf;generalize Num.decOk t=dk at *;cases dk;·rw[AeA] at hr;subst hr;obtain ⟨w1,w3,n2,n4,w2,w4,hw⟩:=hdk;rw[hw];simp(disch:=try exact aa)only[↓Ab,Ad,↓reduceIte,↓Qe,Qu];first | done | rfl
 rw[Aeq] at hr;obtain ⟨w1,w3,n2,n4,w2,w4,hw⟩:=hdk;rw[hw];rw[DJ,if_neg (show ¬(3:Int)=6 by omega)] at hr;rw[decide_eq_false (show ¬((3:Int)=5\/(3:Int)=6) by omega),AgM] at hr;by_cases l0:l.length=0
 rotate_left
 ·exact nZ
 rw[decide_eq_true l0,Aeq] at hr;by_cases k0:ks.length=0
 rotate_left
 ·exact n8
 have ke:ks=[]:=Agp.1 k0;have hk1:Et ks=true:=kj
 rw[decide_eq_true k0,Aeq] at hr;replace hr:r=(Et ks && Bv l (16-(d-1))):=gL
 clear ke hk1;simp(disch:=try exact aa)only[↓Ab,Ad,↓reduceIte,Qu];refine Al.fr 7605903601369376408980219232262 (α:=Nat) (fun i=>ks.length-i) (fun i=>[(103,.d (.int .i64 i))]) (fun _=>[.box [.d (.int .i64 3),.d (S t),.d (Ss ks false),.d (.sl l.length false (AH l))]]) (fun i=>i<=ks.length/\Et (ks.take i)=true) 0 ⟨Agw _,rfl⟩ ?_ ?_
 ·first
  | exact nr
 rintro i ⟨h1,h2⟩;simp only[Bm,Af2,Af7];rcases Agu i ks.length with h | h
 ·exact qF
 rw[Af0 h] at h2;rw[h2,Aeq] at hr;simp(disch:=try exact aa)only[↓Ab,Ad,↓reduceIte,Qu];refine Al.fr 7975367974709495237422842361682067458 (α:=Nat) (fun i=>l.length-i) (fun i=>[(123,.d (.int .i64 i))]) (fun _=>[]) (fun i=>i<=l.length/\Bv (l.take i) (16-(d-1))=true) 0 ⟨Agw _,rfl⟩ ?_ ?_
 ·first
  | exact nD
 rintro i ⟨h1,h2⟩;simp only[Bm,Af2,Af7];rcases Agu i l.length with h | h
 ·exact qF
 rw[Af0 h] at h2;exact oD
end
end Go.Proofs.YtmidaophnbdcdaaGreatDoor
