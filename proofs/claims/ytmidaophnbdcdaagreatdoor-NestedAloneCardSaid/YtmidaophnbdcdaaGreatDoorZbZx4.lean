/-
  Contracts of the functions, one after another.
-/
import Derived.Test.YtmidaophnbdcdaaGreatDoorZbZx3
set_option linter.all false
open Go.Abs renaming A4→HW,Dx→BW,Ci→SW,Aq→AW,BI→sA
open Go.Proofs.Tryz renaming prog→TP
set_option maxHeartbeats 16000000
set_option maxRecDepth 100000
open Go.Abs renaming EL→Qa,B1→Qb,BB→Qc,BT→Qd,Eq→Qe,AF→Qf,AJ→Qg,AA→Qh,Bf→Qi,C9→Qj,DW→Qk,EK→Ql,BS→Qm,BV→Qn,BA→Qo,CM→Qr,unfA→Qs,FSa→QJ,IOa→QL,Cm→QM,Dw→QN,Fr→QO,CY→QP,BM→QQ,LI→QT,LH→QU,Eg→QV,Mf→QW,NT→QX,NU→QY,NS→QZ,Rt→Q0,BJ→Q1,Nf→Q2
open Go.Abs.AV renaming one→Qp
open Go.Abs.D renaming one→Qq
open Go.IntKind renaming signed→Qt
open Nat renaming reduceAdd→Qu,reduceSub→Qv,reduceMul→Qw,reducePow→Qx,reduceDiv→Qy,reduceMod→Qz,reduceEqDiff→QI,reduceBEq→QK
open Int renaming reduceAdd→QA,reduceSub→QB,reduceMul→QC,reducePow→QD,reduceNeg→QE,reduceToNat→QF,reduceLT→QG,reduceLE→QH
open Option renaming toList_some→QR,toList_none→QS
open List renaming mem_cons_of_mem→AcB,mem_append_left→AdT,mem_append_right→AdU,mem_singleton→AdV,getElem?_eq_some_iff→AdW,mem_append→AdX,length_append→AdY,mem_cons→Ad0,length_set→Ad1,getD_eq_getElem?_getD→Ae1,length_nil→Ae3,length_cons→Afv,nodup_append→Afw,nodup_cons→AfI,set_cons_zero→AfJ,append_assoc→AfN,set_cons_succ→AfO,map_cons→AfP,map_nil→AfQ,getElem?_eq_getElem→AfR,drop_of_length_le→AfW,append_nil→AfX,foldl_cons→AfZ,length_eq_zero_iff→Af0,take_left→Af1,not_mem_nil→Af6,all_eq_true→Af7,getElem?_eq_none→Af9,nodup_nil→Aga,foldl_nil→Agb,dropWhile_cons→Agc,getElem?_take→Agd,getElem?_drop→Age,any_eq_false→Agf,mem_map→Agg,getElem?_map→Agh,mem_reverse→Agi,nil_append→Agk,length_map→Agl,any_cons→Agn,take→Ago,drop→Agp,any_nil→Agr
open Nat renaming le_refl→AdZ,eq_of_beq_eq_true→Ae2,add_sub_cancel_left→Afs,sub_self→AfS,reduceMod→AfU,reduceDiv→AfV,mul_le_mul_left→AfY,lt_or_ge→Af3,zero_le→Af4,beq→Af5,add_zero→Af8,pow_succ→Agq
open Bool renaming and_eq_true→AfT,or_eq_true→Agj,not_false→Agm,or_self→Ags
open Int renaming toNat_natCast→Af2
namespace Go.Proofs.YtmidaophnbdcdaaGreatDoor
open Go Go.Proofs Go.Abs
variable {G:Ad}
def MB7:BZ:=fun k=>Af5 k 2000027 || (Af5 k 2000028 || (Af5 k 4000113 || (Af5 k 4000080 || (Af5 k 4000082 || Af5 k 4000081))))
theorem AfH:MB7 2000027=true:=rfl
theorem AfG:MB7 2000028=true:=rfl
theorem AfF:MB7 4000113=true:=rfl
theorem AfE:MB7 4000080=true:=rfl
theorem AfD:MB7 4000082=true:=rfl
theorem AfC:MB7 4000081=true:=rfl
theorem AfB {k:Nat} (h:¬(k=2000027∨k=2000028∨k=4000113∨k=4000080∨k=4000082∨k=4000081)):MB7 k=false:=by
 cases e:MB7 k with
 | false=>rfl
 | true =>
  unfold MB7 at e
  simp only[Agj] at e
  rcases e with e | e | e | e | e | e
  ·exact absurd (.inl (Ae2 e)) h
  ·exact absurd (.inr (.inl (Ae2 e))) h
  ·exact absurd (.inr (.inr (.inl (Ae2 e)))) h
  ·exact absurd (.inr (.inr (.inr (.inl (Ae2 e))))) h
  ·exact absurd (.inr (.inr (.inr (.inr (.inl (Ae2 e)))))) h
  ·exact absurd (.inr (.inr (.inr (.inr (.inr (Ae2 e)))))) h
set_option linter.defProp false in
def MBX := And.intro @AfB (And.intro @AfH (And.intro @AfG (And.intro @AfF (And.intro @AfE (And.intro @AfD (And.intro @AfC (And.intro (show markK MB7 (some 27)=true from rfl) ((show markK MB7 (some 28)=true from rfl)))))))))
def Aa7 (x:PSt) (n:Nd) (c b:Bool) (ob:Nat) (ids:List Nat) (H:List Aa):Prop:=match x with
 | .beg r st=>c=false∧b=true∧Cf r st ob ids H
 | .got r st m=>n=m∧c=true∧b=true∧Cf r st ob ids H
 | .bad=>b=false
theorem Cf.other {r:List UInt8} {st:List Nd} {ob:Nat} {ids:List Nat} {H:List Aa} (h:Cf r st ob ids H) {j:Nat} {b:Aa} (j0:¬j=0) (hj:j∉ob::ids) (hb:∀ J t,b≠.ext J t):Cf r st ob ids (H.set j b) :=
 ⟨by rw[An j0];exact h.box,h.stack.frame fun x hx=>An fun e=>hj (e▸hx),h.pos,h.nox.set _ hb⟩
theorem Cj.set {F F':List Nat} {H H':List Aa} (h:Cj F H F' H') {j:Nat} (hj:H.length≤j) (b:Aa):Cj F H F' (H'.set j b) :=
 ⟨by rw[Ad1];exact h.len,fun i h0 hi hn=>by rw[An (by omega)];exact h.keep i h0 hi hn,h.old⟩
theorem I5 {r:List UInt8} {t:Nd} {st:List Nd} {b:Bool} {ob:Nat} {ids:List Nat} {H:List Aa} (h:Aa5 (EG r t st) ob b ids H) {j:Nat} {x:AV} {l:List AV} (j0:¬j=0) (hj:j∉ob::ids) :
  Aa7 (EG r t st) noN false b ob ids (H.set j (.box (x::l))):=by
 unfold Aa5 at h
 have hk:∀ y,EG r t st=y→(∃ a c,y=.beg a c)∨y=.bad:=by
  intro y e
  unfold EG at e
  split at e
  ·exact .inl ⟨_,_,e.symm⟩
  ·split at e
   ·exact .inl ⟨_,_,e.symm⟩
   ·exact .inr e.symm
 rcases hk _ rfl with ⟨a,c,e⟩ | e
 ·rw[e] at h ⊢
  exact ⟨rfl,h.1,h.2.other j0 hj (by simp)⟩
 ·rw[e] at h ⊢
  exact h
theorem FO {rest r:List UInt8} {st:List Nd} {ob:Nat} {ids:List Nat} {H H2:List Aa} {cells:List AV} {k:Int} (h:Cf rest st ob ids H) (hs:Ks [] H st cells ids) (l2:H2.length=H.length+3)
  (e0:H2[0]?=some (.box [.d (S r),.lsl (H.length+2) 4 0 (st.length+1)])) (ef:∀ j,j≠0→j<H.length→j≠ob→H2[j]?=H[j]?) (e1:H2[H.length]?=some (.box zN))
  (e2:H2[H.length+2]?=some (.box (cells++(.d (.int .i64 k)::.d (.str ByteArray.empty)::.d (.sl 0 true [])::.d (.sl 0 true [])::[])))) (hx:NoX H2) :
  Cf r (.mk k [] [] []::st) (H.length+2) ids H2∧Cj (ob::ids) H ((H.length+2)::ids) H2∧H2[H.length]?=some (.box zN):=by
 have hnd:=AfI.1 h.stack.nd
 have hlt:=h.stack.lt
 have h0:0<H.length:=(AdW.1 h.box).1
 have P:=Cf.mk_top (r1:=r) (t:=.mk k [] [] []) (ik:=[]) (iq:=[]) (ka:=.d (.sl 0 true [])) (qa:=.d (.sl 0 true [])) (junk:=[]) e0 e2 hs (fun b hb=>ef b (fun e=>by have:=h.pos b (AcB _ hb);omega) (hlt b (AcB _ hb)) fun e=>hnd.1 (e▸hb)) (.inl ⟨rfl,rfl,rfl⟩) (.inl ⟨rfl,rfl,rfl⟩)
  (by rw[AfX,AfX];exact AfI.2 ⟨fun q=>by have:=hlt _ (AcB _ q);omega,hnd.2⟩) (fun b hb=>by
   rw[AfX,AfX] at hb
   rcases Ad0.1 hb with hb | hb
   ·omega
   ·exact h.pos b (AcB _ hb)) hx
 rw[AfX,AfX] at P
 refine ⟨P,⟨by omega,fun i i0 il hn=>ef i (by omega) il fun e=>hn (by rw[e];simp),fun i hi=>?_⟩,e1⟩
 rcases Ad0.1 hi with hi | hi
 ·exact .inr (by omega)
 ·exact .inl (AcB _ hi)
theorem Cj.not_mem {F F':List Nat} {H H':List Aa} (k:Cj F H F' H') {j:Nat} (hj:j∉F) (hl:j<H.length):j∉F':=fun q=>by
 rcases k.old j q with q | q
 ·exact hj q
 ·omega
theorem Vo {rest:List UInt8} {st:List Nd} {ob:Nat} {ids:List Nat} {H:List Aa} (h:Cf rest st ob ids H) (hst:st.length≤900000000) (hr:rest.length≤1000000000) :
  ∃ n c b ob' ids' H',Ctr TP G 79 [.ptr 0 0] H (.d (.tup [NdD n,.bool c,.bool b])) H'∧NoX H'∧Cj (ob::ids) H (ob'::ids') H'∧Aa7 (Eh rest st) n c b ob' ids' H':=by
 have hsig:=fun (c:UInt8) (r:List UInt8) (hr:r.length≤1000000000) v=>Fx (G:=G) c r (by omega) v
 have q0:=h.box
 have l0:0<H.length:=(AdW.1 q0).1
 have lb:ob<H.length:=h.stack.lt ob (by simp)
 have n0b:¬0=ob:=h.ne (by simp)
 have nb0:¬ob=0:=fun e=>n0b e.symm
 obtain ⟨P1,K1⟩:=h.app (E:=[.box zN]) (by simp[NoX])
 have s1:=P1.lift (G:=G) (r':=(sgn 91 rest).1) (fun v=>hsig 91 rest hr v) (by simp)
 obtain ⟨P2,K2⟩:=P1.rest (r':=(sgn 91 rest).1)
 have hl1:=A5 91 rest
 obtain ⟨cf,hcf⟩:=CZ [0,ob,H.length,H.length+1,H.length+2] (by simp only[AfI,Ad0,Af6,or_false,not_or,Aga,and_true,not_false_eq_true];omega)
 have c0:=hcf 0 _ rfl
 have c1:=hcf 1 _ rfl
 have c2:=hcf 2 _ rfl
 have c3:=hcf 3 _ rfl
 have c4:=hcf 4 _ rfl
 cases h91:(sgn 91 rest).2 with
 | true =>
  obtain ⟨cells,ho,hs⟩:=h.stack.stk
  rcases ho with ⟨junk,ho⟩ | ⟨ho1,ho⟩
  ·have hcl:=hs.len
   simp only[Ae3,Af8] at hcl
   have htk:(cells++junk).take (st.length*4)=cells:=by rw[←hcl,Af1]
   have htk2:∀ x,Ago (st.length*4) (cells++x)=cells:=fun x=>by rw[←hcl,Af1]
   have hdr2:∀ x y z w:AV,Agp (st.length*4+4) (cells++[x,y,z,w])=[]:=fun x y z w=>AfW (by simp[hcl])
   obtain ⟨cs,hcs⟩:∃ cs,cs=cells++junk:=⟨_,rfl⟩
   rw[←hcs] at ho htk
   obtain ⟨r,hr1⟩:∃ r,r=(sgn 91 rest).1:=⟨_,rfl⟩
   have hrl:r.length≤1000000000:=by rw[hr1];omega
   obtain ⟨H2,hH2⟩:∃ H2,H2=((H.set 0 (.box [.d (S r),.lsl ob 4 0 st.length])).set ob .dead).set 0 (.box [.d (S r),.lsl (H.length+2) 4 0 (st.length+1)])++[.box zN,.box [.d (.int .i64 0),.d (.str {data:=#[]}),.d (.sl 0 true []),.d (.sl 0 true [])],.box (cells++(.d (.int .i64 5)::.d (.str ByteArray.empty)::.d (.sl 0 true [])::.d (.sl 0 true [])::[]))]:=⟨_,rfl⟩
   obtain ⟨P3,K3,e3⟩:Cf r (.mk 5 [] [] []::st) (H.length+2) ids H2∧Cj (ob::ids) H ((H.length+2)::ids) H2∧H2[H.length]?=some (.box zN):=FO h hs (by rw[hH2];simp) (by rw[hH2,Az (by simpa using l0),Bt (by simpa using l0)]<;>rfl) (fun j j0 jl jo=>by rw[hH2,Az (by simpa using jl),An (Ne.symm j0),An (Ne.symm jo),An (Ne.symm j0)]) (by rw[hH2,AQ (by simp)];simp) (by rw[hH2,AQ (by simp)];simp) (by rw[hH2];exact (((h.nox.set _ (by simp)).set _ (by simp)).set _ (by simp)).app (by simp[NoX]))
   have s3:=P3.lift (G:=G) (r':=(sgn (AO 5) r).1) (fun v=>hsig (AO 5) r hrl v) (by simp)
   obtain ⟨P4,K4⟩:=P3.rest (r':=(sgn (AO 5) r).1)
   have hl4:=A5 (AO 5) r
   have lH2:H2.length=H.length+3:=by rw[hH2];simp
   have hF0:H.length∉(H.length+2)::ids:=fun q=>by rcases Ad0.1 q with q | q;omega;have:=h.stack.lt _ (AcB _ q);omega
   have e4:(H2.set 0 (.box [.d (S (sgn (AO 5) r).1),.lsl (H.length+2) 4 0 (st.length+1)]))[H.length]?=some (.box zN):=by rw[An (by omega)];exact e3
   have hbp:Eh rest st=He 5 r st:=by unfold Eh;rw[if_pos h91];rw[hr1]
   rw[hbp]
   unfold He
   cases hcl2:(sgn (AO 5) r).2 with
   | true =>
    obtain ⟨ids5,H5,c5,P5,K5⟩:=GZ (G:=G) P4 (by omega)
    have e5:H5[H.length]?=some (.box zN):=by rw[K5.keep H.length (by omega) (by simp;omega) hF0];exact e4
    have l5:H.length<H5.length:=(AdW.1 e5).1
    have hF:=(K4.trans K5).not_mem hF0 (by omega)
    refine ⟨(.mk 5 [] [] []),true,true,H.length+2,ids5,H5.set H.length (.box [.d (.int .i64 5),.d (S []),.d (.sl 0 false []),.d (.sl 0 false [])]),Ctr.bodyI (M:=MB7) Am Tryz.func79 rfl OJ ?h1 ?h2,?h3,((K3.trans K4).trans K5).set (AdZ _) _,?h4⟩
    case h1=>exact (P5.nox.set _ (by simp)).ok
    case h3=>exact P5.nox.set _ (by simp)
    case h4 =>
     rw[if_pos rfl]
     exact ⟨rfl,rfl,rfl,P5.other (by omega) hF (by simp)⟩
    case h2 =>
     simp(maxSteps:=1000000)(disch:=(try simp only[awL]);omega)only[awS,Ae,Ac,MBX,q0,ho,htk,htk2,hdr2,hcl,Tryz.f79,awH,↓awU,awY,↓reduceIte,↓reduceDIte,↓Qe,Qu,Qv,Qw,Qx,Qy,Qz,QA,QB,QC,QD,QE,QF,QG,QH,QI,QK]
     refine Ap.go s1 ⟨.inl rfl,.inl rfl,trivial⟩ (by simp) ?_
     rw[h91]
     simp(maxSteps:=1000000)(disch:=(try simp only[awL]);omega)only[awS,Ae,Ac,MBX,q0,ho,htk,htk2,hdr2,hcl,awH,↓awU,awY,↓reduceIte,↓reduceDIte,↓Qe,Qu,Qv,Qw,Qx,Qy,Qz,QA,QB,QC,QD,QE,QF,QG,QH,QI,QK]
     refine ⟨AE cf (by simp (disch:=omega) only[Bd,AN,AM,A8,A7,and_self]) (by simp only[AfP,AfQ,c0,c1,c2,c3,c4];rfl),?_⟩
     refine Ab.of (Bp 5) (by rfl) ?_
     simp(maxSteps:=1000000)(disch:=(try simp only[awL]);omega)only[awS,Ae,Ac,MBX,awH,↓awU,awY,↓reduceIte,↓reduceDIte,↓Qe,Qu,Qv,Qw,Qx,Qy,Qz,QA,QB,QC,QD,QE,QF,QG,QH,QI,QK]
     rw[←hr1,←hH2]
     refine Ap.go s3 ⟨.inl rfl,.inl rfl,trivial⟩ (by simp) ?_
     rw[hcl2]
     simp(maxSteps:=1000000)(disch:=(try simp only[awL]);omega)only[awS,Ae,Ac,MBX,awH,↓awU,awY,↓reduceIte,↓reduceDIte,↓Qe,Qu,Qv,Qw,Qx,Qy,Qz,QA,QB,QC,QD,QE,QF,QG,QH,QI,QK]
     refine Ap.go c5 ⟨.inl rfl,trivial⟩ K5.len ?_
     simp(maxSteps:=1000000)(disch:=(try simp only[awL]);omega)only[QR,QS,QT,QU,QV,QW,QX,QY,QZ,Q0,Q1,Q2,Ae,Ac,MBX,e5,show ndC (.mk 5 [] [] [])=[.int .i64 5,S [],.sl 0 false [],.sl 0 false []] from rfl,Bt,An,Az,AQ,BO,B6,Ad1,AdY,AfN,Afs,AfS,AfJ,AfO,↓awU,awV,awF,Qa,Qb,Qc,Qd,forall_const,↓reduceIte,↓reduceDIte,↓Qe,Qf,Qg,Qh,Qi,Qj,Qk,Ql,Qm,Qn,Qo,Qp,Qq,Qr,Qs,implies_true,Qt,Qu,Qv,Qw,Qx,Qy,Qz,QA,QB,QC,QD,QE,QF,QG,QH,QI,QJ,QK,QL,QM,QN,QO,QP,QQ]
     first
     | exact .inr ⟨rfl,.inr ⟨_,rfl,rfl,rfl⟩⟩
     | exact ⟨by rfl,.inr ⟨rfl,.inr ⟨_,rfl,rfl,rfl⟩⟩⟩
   | false =>
    obtain ⟨b5,ids5,H5,c5,X5,K5,Q5⟩:=G5 (G:=G) P4 (by omega) (by omega) (by simp[Nd.keys])
    have e5:H5[H.length]?=some (.box zN):=by rw[K5.keep H.length (by omega) (by simp;omega) hF0];exact e4
    have l5:H.length<H5.length:=(AdW.1 e5).1
    have hF:=(K4.trans K5).not_mem hF0 (by omega)
    refine ⟨noN,false,b5,H.length+2,ids5,H5.set H.length (.box zN),Ctr.bodyI (M:=MB7) Am Tryz.func79 rfl OJ ?h1 ?h2,?h3,((K3.trans K4).trans K5).set (AdZ _) _,?h4⟩
    case h1=>exact (X5.set _ (by simp)).ok
    case h3=>exact X5.set _ (by simp)
    case h4 =>
     rw[if_neg (by simp)]
     exact I5 Q5 (by omega) hF
    case h2 =>
     simp(maxSteps:=1000000)(disch:=(try simp only[awL]);omega)only[awS,Ae,Ac,MBX,q0,ho,htk,htk2,hdr2,hcl,Tryz.f79,awH,↓awU,awY,↓reduceIte,↓reduceDIte,↓Qe,Qu,Qv,Qw,Qx,Qy,Qz,QA,QB,QC,QD,QE,QF,QG,QH,QI,QK]
     refine Ap.go s1 ⟨.inl rfl,.inl rfl,trivial⟩ (by simp) ?_
     rw[h91]
     simp(maxSteps:=1000000)(disch:=(try simp only[awL]);omega)only[awS,Ae,Ac,MBX,q0,ho,htk,htk2,hdr2,hcl,awH,↓awU,awY,↓reduceIte,↓reduceDIte,↓Qe,Qu,Qv,Qw,Qx,Qy,Qz,QA,QB,QC,QD,QE,QF,QG,QH,QI,QK]
     refine ⟨AE cf (by simp (disch:=omega) only[Bd,AN,AM,A8,A7,and_self]) (by simp only[AfP,AfQ,c0,c1,c2,c3,c4];rfl),?_⟩
     refine Ab.of (Bp 5) (by rfl) ?_
     simp(maxSteps:=1000000)(disch:=(try simp only[awL]);omega)only[awS,Ae,Ac,MBX,awH,↓awU,awY,↓reduceIte,↓reduceDIte,↓Qe,Qu,Qv,Qw,Qx,Qy,Qz,QA,QB,QC,QD,QE,QF,QG,QH,QI,QK]
     rw[←hr1,←hH2]
     refine Ap.go s3 ⟨.inl rfl,.inl rfl,trivial⟩ (by simp) ?_
     rw[hcl2]
     simp(maxSteps:=1000000)(disch:=(try simp only[awL]);omega)only[awS,Ae,Ac,MBX,awH,↓awU,awY,↓reduceIte,↓reduceDIte,↓Qe,Qu,Qv,Qw,Qx,Qy,Qz,QA,QB,QC,QD,QE,QF,QG,QH,QI,QK]
     refine Ap.go c5 ⟨.inl rfl,trivial⟩ K5.len ?_
     simp(maxSteps:=1000000)(disch:=(try simp only[awL]);omega)only[QR,QS,QT,QU,QV,QW,QX,QY,QZ,Q0,Q1,Q2,Ae,Ac,MBX,e5,show ndC (.mk 5 [] [] [])=[.int .i64 5,S [],.sl 0 false [],.sl 0 false []] from rfl,Bt,An,Az,AQ,BO,B6,Ad1,AdY,AfN,Afs,AfS,AfJ,AfO,↓awU,awV,awF,Qa,Qb,Qc,Qd,forall_const,↓reduceIte,↓reduceDIte,↓Qe,Qf,Qg,Qh,Qi,Qj,Qk,Ql,Qm,Qn,Qo,Qp,Qq,Qr,Qs,implies_true,Qt,Qu,Qv,Qw,Qx,Qy,Qz,QA,QB,QC,QD,QE,QF,QG,QH,QI,QJ,QK,QL,QM,QN,QO,QP,QQ]
     first
     | exact .inr ⟨rfl,.inr ⟨_,rfl,rfl,rfl⟩⟩
     | exact ⟨by rfl,.inr ⟨rfl,.inr ⟨_,rfl,rfl,rfl⟩⟩⟩
  ·have hst0:st=[]:=by
    have:=hs.len
    rw[ho1] at this
    simp only[Ae3,Af8] at this
    exact Af0.1 (by omega)
   subst hst0
   subst ho1
   obtain ⟨r,hr1⟩:∃ r,r=(sgn 91 rest).1:=⟨_,rfl⟩
   have hrl:r.length≤1000000000:=by rw[hr1];omega
   obtain ⟨H2,hH2⟩:∃ H2,H2=((H.set 0 (.box [.d (S r),.lsl ob 4 0 0])).set ob .dead).set 0 (.box [.d (S r),.lsl (H.length+2) 4 0 1])++[.box zN,.box [.d (.int .i64 0),.d (.str {data:=#[]}),.d (.sl 0 true []),.d (.sl 0 true [])],.box ((.d (.int .i64 5)::.d (.str ByteArray.empty)::.d (.sl 0 true [])::.d (.sl 0 true [])::[]))]:=⟨_,rfl⟩
   obtain ⟨P3,K3,e3⟩:Cf r (.mk 5 [] [] []::[]) (H.length+2) ids H2∧Cj (ob::ids) H ((H.length+2)::ids) H2∧H2[H.length]?=some (.box zN):=FO (cells:=[]) h hs (by rw[hH2];simp) (by rw[hH2,Az (by simpa using l0),Bt (by simpa using l0)]<;>rfl) (fun j j0 jl jo=>by rw[hH2,Az (by simpa using jl),An (Ne.symm j0),An (Ne.symm jo),An (Ne.symm j0)]) (by rw[hH2,AQ (by simp)];simp) (by rw[hH2,AQ (by simp)];simp) (by rw[hH2];exact (((h.nox.set _ (by simp)).set _ (by simp)).set _ (by simp)).app (by simp[NoX]))
   have s3:=P3.lift (G:=G) (r':=(sgn (AO 5) r).1) (fun v=>hsig (AO 5) r hrl v) (by simp)
   obtain ⟨P4,K4⟩:=P3.rest (r':=(sgn (AO 5) r).1)
   have hl4:=A5 (AO 5) r
   have lH2:H2.length=H.length+3:=by rw[hH2];simp
   have hF0:H.length∉(H.length+2)::ids:=fun q=>by rcases Ad0.1 q with q | q;omega;have:=h.stack.lt _ (AcB _ q);omega
   have e4:(H2.set 0 (.box [.d (S (sgn (AO 5) r).1),.lsl (H.length+2) 4 0 1]))[H.length]?=some (.box zN):=by rw[An (by omega)];exact e3
   have hbp:Eh rest []=He 5 r []:=by unfold Eh;rw[if_pos h91];rw[hr1]
   rw[hbp]
   unfold He
   cases hcl2:(sgn (AO 5) r).2 with
   | true =>
    obtain ⟨ids5,H5,c5,P5,K5⟩:=GZ (G:=G) P4 (by omega)
    have e5:H5[H.length]?=some (.box zN):=by rw[K5.keep H.length (by omega) (by simp;omega) hF0];exact e4
    have l5:H.length<H5.length:=(AdW.1 e5).1
    have hF:=(K4.trans K5).not_mem hF0 (by omega)
    refine ⟨(.mk 5 [] [] []),true,true,H.length+2,ids5,H5.set H.length (.box [.d (.int .i64 5),.d (S []),.d (.sl 0 false []),.d (.sl 0 false [])]),Ctr.bodyI (M:=MB7) Am Tryz.func79 rfl OJ ?h1 ?h2,?h3,((K3.trans K4).trans K5).set (AdZ _) _,?h4⟩
    case h1=>exact (P5.nox.set _ (by simp)).ok
    case h3=>exact P5.nox.set _ (by simp)
    case h4 =>
     rw[if_pos rfl]
     exact ⟨rfl,rfl,rfl,P5.other (by omega) hF (by simp)⟩
    case h2 =>
     simp(maxSteps:=1000000)(disch:=(try simp only[awL]);omega)only[awS,Ae,Ac,MBX,q0,ho,Tryz.f79,awH,↓awU,awY,↓reduceIte,↓reduceDIte,↓Qe,Qu,Qv,Qw,Qx,Qy,Qz,QA,QB,QC,QD,QE,QF,QG,QH,QI,QK]
     refine Ap.go s1 ⟨.inl rfl,.inl rfl,trivial⟩ (by simp) ?_
     rw[h91]
     simp(maxSteps:=1000000)(disch:=(try simp only[awL]);omega)only[awS,Ae,Ac,MBX,q0,ho,awH,↓awU,awY,↓reduceIte,↓reduceDIte,↓Qe,Qu,Qv,Qw,Qx,Qy,Qz,QA,QB,QC,QD,QE,QF,QG,QH,QI,QK]
     refine ⟨AE cf (by simp (disch:=omega) only[Bd,AN,AM,A8,A7,and_self]) (by simp only[AfP,AfQ,c0,c1,c2,c3,c4];rfl),?_⟩
     refine Ab.of (Bp 5) (by rfl) ?_
     simp(maxSteps:=1000000)(disch:=(try simp only[awL]);omega)only[awS,Ae,Ac,MBX,awH,↓awU,awY,↓reduceIte,↓reduceDIte,↓Qe,Qu,Qv,Qw,Qx,Qy,Qz,QA,QB,QC,QD,QE,QF,QG,QH,QI,QK]
     rw[←hr1,←hH2]
     refine Ap.go s3 ⟨.inl rfl,.inl rfl,trivial⟩ (by simp) ?_
     rw[hcl2]
     simp(maxSteps:=1000000)(disch:=(try simp only[awL]);omega)only[awS,Ae,Ac,MBX,awH,↓awU,awY,↓reduceIte,↓reduceDIte,↓Qe,Qu,Qv,Qw,Qx,Qy,Qz,QA,QB,QC,QD,QE,QF,QG,QH,QI,QK]
     refine Ap.go c5 ⟨.inl rfl,trivial⟩ K5.len ?_
     simp(maxSteps:=1000000)(disch:=(try simp only[awL]);omega)only[QR,QS,QT,QU,QV,QW,QX,QY,QZ,Q0,Q1,Q2,Ae,Ac,MBX,e5,show ndC (.mk 5 [] [] [])=[.int .i64 5,S [],.sl 0 false [],.sl 0 false []] from rfl,Bt,An,Az,AQ,BO,B6,Ad1,AdY,AfN,Afs,AfS,AfJ,AfO,↓awU,awV,awF,Qa,Qb,Qc,Qd,forall_const,↓reduceIte,↓reduceDIte,↓Qe,Qf,Qg,Qh,Qi,Qj,Qk,Ql,Qm,Qn,Qo,Qp,Qq,Qr,Qs,implies_true,Qt,Qu,Qv,Qw,Qx,Qy,Qz,QA,QB,QC,QD,QE,QF,QG,QH,QI,QJ,QK,QL,QM,QN,QO,QP,QQ]
     first
     | exact .inr ⟨rfl,.inr ⟨_,rfl,rfl,rfl⟩⟩
     | exact ⟨by rfl,.inr ⟨rfl,.inr ⟨_,rfl,rfl,rfl⟩⟩⟩
   | false =>
    obtain ⟨b5,ids5,H5,c5,X5,K5,Q5⟩:=G5 (G:=G) P4 (by omega) (by omega) (by simp[Nd.keys])
    have e5:H5[H.length]?=some (.box zN):=by rw[K5.keep H.length (by omega) (by simp;omega) hF0];exact e4
    have l5:H.length<H5.length:=(AdW.1 e5).1
    have hF:=(K4.trans K5).not_mem hF0 (by omega)
    refine ⟨noN,false,b5,H.length+2,ids5,H5.set H.length (.box zN),Ctr.bodyI (M:=MB7) Am Tryz.func79 rfl OJ ?h1 ?h2,?h3,((K3.trans K4).trans K5).set (AdZ _) _,?h4⟩
    case h1=>exact (X5.set _ (by simp)).ok
    case h3=>exact X5.set _ (by simp)
    case h4 =>
     rw[if_neg (by simp)]
     exact I5 Q5 (by omega) hF
    case h2 =>
     simp(maxSteps:=1000000)(disch:=(try simp only[awL]);omega)only[awS,Ae,Ac,MBX,q0,ho,Tryz.f79,awH,↓awU,awY,↓reduceIte,↓reduceDIte,↓Qe,Qu,Qv,Qw,Qx,Qy,Qz,QA,QB,QC,QD,QE,QF,QG,QH,QI,QK]
     refine Ap.go s1 ⟨.inl rfl,.inl rfl,trivial⟩ (by simp) ?_
     rw[h91]
     simp(maxSteps:=1000000)(disch:=(try simp only[awL]);omega)only[awS,Ae,Ac,MBX,q0,ho,awH,↓awU,awY,↓reduceIte,↓reduceDIte,↓Qe,Qu,Qv,Qw,Qx,Qy,Qz,QA,QB,QC,QD,QE,QF,QG,QH,QI,QK]
     refine ⟨AE cf (by simp (disch:=omega) only[Bd,AN,AM,A8,A7,and_self]) (by simp only[AfP,AfQ,c0,c1,c2,c3,c4];rfl),?_⟩
     refine Ab.of (Bp 5) (by rfl) ?_
     simp(maxSteps:=1000000)(disch:=(try simp only[awL]);omega)only[awS,Ae,Ac,MBX,awH,↓awU,awY,↓reduceIte,↓reduceDIte,↓Qe,Qu,Qv,Qw,Qx,Qy,Qz,QA,QB,QC,QD,QE,QF,QG,QH,QI,QK]
     rw[←hr1,←hH2]
     refine Ap.go s3 ⟨.inl rfl,.inl rfl,trivial⟩ (by simp) ?_
     rw[hcl2]
     simp(maxSteps:=1000000)(disch:=(try simp only[awL]);omega)only[awS,Ae,Ac,MBX,awH,↓awU,awY,↓reduceIte,↓reduceDIte,↓Qe,Qu,Qv,Qw,Qx,Qy,Qz,QA,QB,QC,QD,QE,QF,QG,QH,QI,QK]
     refine Ap.go c5 ⟨.inl rfl,trivial⟩ K5.len ?_
     simp(maxSteps:=1000000)(disch:=(try simp only[awL]);omega)only[QR,QS,QT,QU,QV,QW,QX,QY,QZ,Q0,Q1,Q2,Ae,Ac,MBX,e5,show ndC (.mk 5 [] [] [])=[.int .i64 5,S [],.sl 0 false [],.sl 0 false []] from rfl,Bt,An,Az,AQ,BO,B6,Ad1,AdY,AfN,Afs,AfS,AfJ,AfO,↓awU,awV,awF,Qa,Qb,Qc,Qd,forall_const,↓reduceIte,↓reduceDIte,↓Qe,Qf,Qg,Qh,Qi,Qj,Qk,Ql,Qm,Qn,Qo,Qp,Qq,Qr,Qs,implies_true,Qt,Qu,Qv,Qw,Qx,Qy,Qz,QA,QB,QC,QD,QE,QF,QG,QH,QI,QJ,QK,QL,QM,QN,QO,QP,QQ]
     first
     | exact .inr ⟨rfl,.inr ⟨_,rfl,rfl,rfl⟩⟩
     | exact ⟨by rfl,.inr ⟨rfl,.inr ⟨_,rfl,rfl,rfl⟩⟩⟩
 | false =>
  have hl2:=A5 123 (sgn 91 rest).1
  have s2:=P2.lift (G:=G) (r':=(sgn 123 (sgn 91 rest).1).1) (fun v=>hsig 123 (sgn 91 rest).1 (by omega) v) (by simp)
  simp only[BO,l0,Ad1] at s2
  obtain ⟨P3,K3⟩:=P2.rest (r':=(sgn 123 (sgn 91 rest).1).1)
  cases h123:(sgn 123 (sgn 91 rest).1).2 with
  | true =>
   clear P3 K3
   obtain ⟨cells,ho,hs⟩:=h.stack.stk
   rcases ho with ⟨junk,ho⟩ | ⟨ho1,ho⟩
   ·have hcl:=hs.len
    simp only[Ae3,Af8] at hcl
    have htk:(cells++junk).take (st.length*4)=cells:=by rw[←hcl,Af1]
    have htk2:∀ x,Ago (st.length*4) (cells++x)=cells:=fun x=>by rw[←hcl,Af1]
    have hdr2:∀ x y z w:AV,Agp (st.length*4+4) (cells++[x,y,z,w])=[]:=fun x y z w=>AfW (by simp[hcl])
    obtain ⟨cs,hcs⟩:∃ cs,cs=cells++junk:=⟨_,rfl⟩
    rw[←hcs] at ho htk
    obtain ⟨r,hr1⟩:∃ r,r=(sgn 123 (sgn 91 rest).1).1:=⟨_,rfl⟩
    have hrl:r.length≤1000000000:=by rw[hr1];omega
    obtain ⟨H2,hH2⟩:∃ H2,H2=(((H.set 0 (.box [.d (S (sgn 91 rest).1),.lsl ob 4 0 st.length])).set 0 (.box [.d (S r),.lsl ob 4 0 st.length])).set ob .dead).set 0 (.box [.d (S r),.lsl (H.length+2) 4 0 (st.length+1)])++[.box zN,.box [.d (.int .i64 0),.d (.str {data:=#[]}),.d (.sl 0 true []),.d (.sl 0 true [])],.box (cells++(.d (.int .i64 6)::.d (.str ByteArray.empty)::.d (.sl 0 true [])::.d (.sl 0 true [])::[]))]:=⟨_,rfl⟩
    obtain ⟨P3,K3,e3⟩:Cf r (.mk 6 [] [] []::st) (H.length+2) ids H2∧Cj (ob::ids) H ((H.length+2)::ids) H2∧H2[H.length]?=some (.box zN):=FO h hs (by rw[hH2];simp) (by rw[hH2,Az (by simpa using l0),Bt (by simpa using l0)]<;>rfl) (fun j j0 jl jo=>by rw[hH2,Az (by simpa using jl),An (Ne.symm j0),An (Ne.symm jo),An (Ne.symm j0),An (Ne.symm j0)]) (by rw[hH2,AQ (by simp)];simp) (by rw[hH2,AQ (by simp)];simp) (by rw[hH2];exact ((((h.nox.set _ (by simp)).set _ (by simp)).set _ (by simp)).set _ (by simp)).app (by simp[NoX]))
    have s3:=P3.lift (G:=G) (r':=(sgn (AO 6) r).1) (fun v=>hsig (AO 6) r hrl v) (by simp)
    obtain ⟨P4,K4⟩:=P3.rest (r':=(sgn (AO 6) r).1)
    have hl4:=A5 (AO 6) r
    have lH2:H2.length=H.length+3:=by rw[hH2];simp
    have hF0:H.length∉(H.length+2)::ids:=fun q=>by rcases Ad0.1 q with q | q;omega;have:=h.stack.lt _ (AcB _ q);omega
    have e4:(H2.set 0 (.box [.d (S (sgn (AO 6) r).1),.lsl (H.length+2) 4 0 (st.length+1)]))[H.length]?=some (.box zN):=by rw[An (by omega)];exact e3
    have hbp:Eh rest st=He 6 r st:=by unfold Eh;rw[if_neg (by rw[h91];simp),if_pos h123];rw[hr1]
    rw[hbp]
    unfold He
    cases hcl2:(sgn (AO 6) r).2 with
    | true =>
     obtain ⟨ids5,H5,c5,P5,K5⟩:=GZ (G:=G) P4 (by omega)
     have e5:H5[H.length]?=some (.box zN):=by rw[K5.keep H.length (by omega) (by simp;omega) hF0];exact e4
     have l5:H.length<H5.length:=(AdW.1 e5).1
     have hF:=(K4.trans K5).not_mem hF0 (by omega)
     refine ⟨(.mk 6 [] [] []),true,true,H.length+2,ids5,H5.set H.length (.box [.d (.int .i64 6),.d (S []),.d (.sl 0 false []),.d (.sl 0 false [])]),Ctr.bodyI (M:=MB7) Am Tryz.func79 rfl OJ ?h1 ?h2,?h3,((K3.trans K4).trans K5).set (AdZ _) _,?h4⟩
     case h1=>exact (P5.nox.set _ (by simp)).ok
     case h3=>exact P5.nox.set _ (by simp)
     case h4 =>
      rw[if_pos rfl]
      exact ⟨rfl,rfl,rfl,P5.other (by omega) hF (by simp)⟩
     case h2 =>
      simp(maxSteps:=1000000)(disch:=(try simp only[awL]);omega)only[awS,Ae,Ac,MBX,q0,ho,htk,htk2,hdr2,hcl,Tryz.f79,awH,↓awU,awY,↓reduceIte,↓reduceDIte,↓Qe,Qu,Qv,Qw,Qx,Qy,Qz,QA,QB,QC,QD,QE,QF,QG,QH,QI,QK]
      refine Ap.go s1 ⟨.inl rfl,.inl rfl,trivial⟩ (by simp) ?_
      rw[h91]
      simp(maxSteps:=1000000)(disch:=(try simp only[awL]);omega)only[awS,Ae,Ac,MBX,q0,ho,htk,htk2,hdr2,hcl,awH,↓awU,awY,↓reduceIte,↓reduceDIte,↓Qe,Qu,Qv,Qw,Qx,Qy,Qz,QA,QB,QC,QD,QE,QF,QG,QH,QI,QK]
      refine Ap.go s2 ⟨.inl rfl,.inl rfl,trivial⟩ (by simp) ?_
      rw[h123]
      simp(maxSteps:=1000000)(disch:=(try simp only[awL]);omega)only[awS,Ae,Ac,MBX,q0,ho,htk,htk2,hdr2,hcl,awH,↓awU,awY,↓reduceIte,↓reduceDIte,↓Qe,Qu,Qv,Qw,Qx,Qy,Qz,QA,QB,QC,QD,QE,QF,QG,QH,QI,QK]
      refine ⟨AE cf (by simp (disch:=omega) only[Bd,AN,AM,A8,A7,and_self]) (by simp only[AfP,AfQ,c0,c1,c2,c3,c4];rfl),?_⟩
      refine Ab.of (Bp 6) (by rfl) ?_
      simp(maxSteps:=1000000)(disch:=(try simp only[awL]);omega)only[awS,Ae,Ac,MBX,awH,↓awU,awY,↓reduceIte,↓reduceDIte,↓Qe,Qu,Qv,Qw,Qx,Qy,Qz,QA,QB,QC,QD,QE,QF,QG,QH,QI,QK]
      rw[←hr1,←hH2]
      refine Ap.go s3 ⟨.inl rfl,.inl rfl,trivial⟩ (by simp) ?_
      rw[hcl2]
      simp(maxSteps:=1000000)(disch:=(try simp only[awL]);omega)only[awS,Ae,Ac,MBX,awH,↓awU,awY,↓reduceIte,↓reduceDIte,↓Qe,Qu,Qv,Qw,Qx,Qy,Qz,QA,QB,QC,QD,QE,QF,QG,QH,QI,QK]
      refine Ap.go c5 ⟨.inl rfl,trivial⟩ K5.len ?_
      simp(maxSteps:=1000000)(disch:=(try simp only[awL]);omega)only[QR,QS,QT,QU,QV,QW,QX,QY,QZ,Q0,Q1,Q2,Ae,Ac,MBX,e5,show ndC (.mk 6 [] [] [])=[.int .i64 6,S [],.sl 0 false [],.sl 0 false []] from rfl,Bt,An,Az,AQ,BO,B6,Ad1,AdY,AfN,Afs,AfS,AfJ,AfO,↓awU,awV,awF,Qa,Qb,Qc,Qd,forall_const,↓reduceIte,↓reduceDIte,↓Qe,Qf,Qg,Qh,Qi,Qj,Qk,Ql,Qm,Qn,Qo,Qp,Qq,Qr,Qs,implies_true,Qt,Qu,Qv,Qw,Qx,Qy,Qz,QA,QB,QC,QD,QE,QF,QG,QH,QI,QJ,QK,QL,QM,QN,QO,QP,QQ]
      first
      | exact .inr ⟨rfl,.inr ⟨_,rfl,rfl,rfl⟩⟩
      | exact ⟨by rfl,.inr ⟨rfl,.inr ⟨_,rfl,rfl,rfl⟩⟩⟩
    | false =>
     obtain ⟨b5,ids5,H5,c5,X5,K5,Q5⟩:=G5 (G:=G) P4 (by omega) (by omega) (by simp[Nd.keys])
     have e5:H5[H.length]?=some (.box zN):=by rw[K5.keep H.length (by omega) (by simp;omega) hF0];exact e4
     have l5:H.length<H5.length:=(AdW.1 e5).1
     have hF:=(K4.trans K5).not_mem hF0 (by omega)
     refine ⟨noN,false,b5,H.length+2,ids5,H5.set H.length (.box zN),Ctr.bodyI (M:=MB7) Am Tryz.func79 rfl OJ ?h1 ?h2,?h3,((K3.trans K4).trans K5).set (AdZ _) _,?h4⟩
     case h1=>exact (X5.set _ (by simp)).ok
     case h3=>exact X5.set _ (by simp)
     case h4 =>
      rw[if_neg (by simp)]
      exact I5 Q5 (by omega) hF
     case h2 =>
      simp(maxSteps:=1000000)(disch:=(try simp only[awL]);omega)only[awS,Ae,Ac,MBX,q0,ho,htk,htk2,hdr2,hcl,Tryz.f79,awH,↓awU,awY,↓reduceIte,↓reduceDIte,↓Qe,Qu,Qv,Qw,Qx,Qy,Qz,QA,QB,QC,QD,QE,QF,QG,QH,QI,QK]
      refine Ap.go s1 ⟨.inl rfl,.inl rfl,trivial⟩ (by simp) ?_
      rw[h91]
      simp(maxSteps:=1000000)(disch:=(try simp only[awL]);omega)only[awS,Ae,Ac,MBX,q0,ho,htk,htk2,hdr2,hcl,awH,↓awU,awY,↓reduceIte,↓reduceDIte,↓Qe,Qu,Qv,Qw,Qx,Qy,Qz,QA,QB,QC,QD,QE,QF,QG,QH,QI,QK]
      refine Ap.go s2 ⟨.inl rfl,.inl rfl,trivial⟩ (by simp) ?_
      rw[h123]
      simp(maxSteps:=1000000)(disch:=(try simp only[awL]);omega)only[awS,Ae,Ac,MBX,q0,ho,htk,htk2,hdr2,hcl,awH,↓awU,awY,↓reduceIte,↓reduceDIte,↓Qe,Qu,Qv,Qw,Qx,Qy,Qz,QA,QB,QC,QD,QE,QF,QG,QH,QI,QK]
      refine ⟨AE cf (by simp (disch:=omega) only[Bd,AN,AM,A8,A7,and_self]) (by simp only[AfP,AfQ,c0,c1,c2,c3,c4];rfl),?_⟩
      refine Ab.of (Bp 6) (by rfl) ?_
      simp(maxSteps:=1000000)(disch:=(try simp only[awL]);omega)only[awS,Ae,Ac,MBX,awH,↓awU,awY,↓reduceIte,↓reduceDIte,↓Qe,Qu,Qv,Qw,Qx,Qy,Qz,QA,QB,QC,QD,QE,QF,QG,QH,QI,QK]
      rw[←hr1,←hH2]
      refine Ap.go s3 ⟨.inl rfl,.inl rfl,trivial⟩ (by simp) ?_
      rw[hcl2]
      simp(maxSteps:=1000000)(disch:=(try simp only[awL]);omega)only[awS,Ae,Ac,MBX,awH,↓awU,awY,↓reduceIte,↓reduceDIte,↓Qe,Qu,Qv,Qw,Qx,Qy,Qz,QA,QB,QC,QD,QE,QF,QG,QH,QI,QK]
      refine Ap.go c5 ⟨.inl rfl,trivial⟩ K5.len ?_
      simp(maxSteps:=1000000)(disch:=(try simp only[awL]);omega)only[QR,QS,QT,QU,QV,QW,QX,QY,QZ,Q0,Q1,Q2,Ae,Ac,MBX,e5,show ndC (.mk 6 [] [] [])=[.int .i64 6,S [],.sl 0 false [],.sl 0 false []] from rfl,Bt,An,Az,AQ,BO,B6,Ad1,AdY,AfN,Afs,AfS,AfJ,AfO,↓awU,awV,awF,Qa,Qb,Qc,Qd,forall_const,↓reduceIte,↓reduceDIte,↓Qe,Qf,Qg,Qh,Qi,Qj,Qk,Ql,Qm,Qn,Qo,Qp,Qq,Qr,Qs,implies_true,Qt,Qu,Qv,Qw,Qx,Qy,Qz,QA,QB,QC,QD,QE,QF,QG,QH,QI,QJ,QK,QL,QM,QN,QO,QP,QQ]
      first
      | exact .inr ⟨rfl,.inr ⟨_,rfl,rfl,rfl⟩⟩
      | exact ⟨by rfl,.inr ⟨rfl,.inr ⟨_,rfl,rfl,rfl⟩⟩⟩
   ·have hst0:st=[]:=by
     have:=hs.len
     rw[ho1] at this
     simp only[Ae3,Af8] at this
     exact Af0.1 (by omega)
    subst hst0
    subst ho1
    obtain ⟨r,hr1⟩:∃ r,r=(sgn 123 (sgn 91 rest).1).1:=⟨_,rfl⟩
    have hrl:r.length≤1000000000:=by rw[hr1];omega
    obtain ⟨H2,hH2⟩:∃ H2,H2=(((H.set 0 (.box [.d (S (sgn 91 rest).1),.lsl ob 4 0 0])).set 0 (.box [.d (S r),.lsl ob 4 0 0])).set ob .dead).set 0 (.box [.d (S r),.lsl (H.length+2) 4 0 1])++[.box zN,.box [.d (.int .i64 0),.d (.str {data:=#[]}),.d (.sl 0 true []),.d (.sl 0 true [])],.box ((.d (.int .i64 6)::.d (.str ByteArray.empty)::.d (.sl 0 true [])::.d (.sl 0 true [])::[]))]:=⟨_,rfl⟩
    obtain ⟨P3,K3,e3⟩:Cf r (.mk 6 [] [] []::[]) (H.length+2) ids H2∧Cj (ob::ids) H ((H.length+2)::ids) H2∧H2[H.length]?=some (.box zN):=FO (cells:=[]) h hs (by rw[hH2];simp) (by rw[hH2,Az (by simpa using l0),Bt (by simpa using l0)]<;>rfl) (fun j j0 jl jo=>by rw[hH2,Az (by simpa using jl),An (Ne.symm j0),An (Ne.symm jo),An (Ne.symm j0),An (Ne.symm j0)]) (by rw[hH2,AQ (by simp)];simp) (by rw[hH2,AQ (by simp)];simp) (by rw[hH2];exact ((((h.nox.set _ (by simp)).set _ (by simp)).set _ (by simp)).set _ (by simp)).app (by simp[NoX]))
    have s3:=P3.lift (G:=G) (r':=(sgn (AO 6) r).1) (fun v=>hsig (AO 6) r hrl v) (by simp)
    obtain ⟨P4,K4⟩:=P3.rest (r':=(sgn (AO 6) r).1)
    have hl4:=A5 (AO 6) r
    have lH2:H2.length=H.length+3:=by rw[hH2];simp
    have hF0:H.length∉(H.length+2)::ids:=fun q=>by rcases Ad0.1 q with q | q;omega;have:=h.stack.lt _ (AcB _ q);omega
    have e4:(H2.set 0 (.box [.d (S (sgn (AO 6) r).1),.lsl (H.length+2) 4 0 1]))[H.length]?=some (.box zN):=by rw[An (by omega)];exact e3
    have hbp:Eh rest []=He 6 r []:=by unfold Eh;rw[if_neg (by rw[h91];simp),if_pos h123];rw[hr1]
    rw[hbp]
    unfold He
    cases hcl2:(sgn (AO 6) r).2 with
    | true =>
     obtain ⟨ids5,H5,c5,P5,K5⟩:=GZ (G:=G) P4 (by omega)
     have e5:H5[H.length]?=some (.box zN):=by rw[K5.keep H.length (by omega) (by simp;omega) hF0];exact e4
     have l5:H.length<H5.length:=(AdW.1 e5).1
     have hF:=(K4.trans K5).not_mem hF0 (by omega)
     refine ⟨(.mk 6 [] [] []),true,true,H.length+2,ids5,H5.set H.length (.box [.d (.int .i64 6),.d (S []),.d (.sl 0 false []),.d (.sl 0 false [])]),Ctr.bodyI (M:=MB7) Am Tryz.func79 rfl OJ ?h1 ?h2,?h3,((K3.trans K4).trans K5).set (AdZ _) _,?h4⟩
     case h1=>exact (P5.nox.set _ (by simp)).ok
     case h3=>exact P5.nox.set _ (by simp)
     case h4 =>
      rw[if_pos rfl]
      exact ⟨rfl,rfl,rfl,P5.other (by omega) hF (by simp)⟩
     case h2 =>
      simp(maxSteps:=1000000)(disch:=(try simp only[awL]);omega)only[awS,Ae,Ac,MBX,q0,ho,Tryz.f79,awH,↓awU,awY,↓reduceIte,↓reduceDIte,↓Qe,Qu,Qv,Qw,Qx,Qy,Qz,QA,QB,QC,QD,QE,QF,QG,QH,QI,QK]
      refine Ap.go s1 ⟨.inl rfl,.inl rfl,trivial⟩ (by simp) ?_
      rw[h91]
      simp(maxSteps:=1000000)(disch:=(try simp only[awL]);omega)only[awS,Ae,Ac,MBX,q0,ho,awH,↓awU,awY,↓reduceIte,↓reduceDIte,↓Qe,Qu,Qv,Qw,Qx,Qy,Qz,QA,QB,QC,QD,QE,QF,QG,QH,QI,QK]
      refine Ap.go s2 ⟨.inl rfl,.inl rfl,trivial⟩ (by simp) ?_
      rw[h123]
      simp(maxSteps:=1000000)(disch:=(try simp only[awL]);omega)only[awS,Ae,Ac,MBX,q0,ho,awH,↓awU,awY,↓reduceIte,↓reduceDIte,↓Qe,Qu,Qv,Qw,Qx,Qy,Qz,QA,QB,QC,QD,QE,QF,QG,QH,QI,QK]
      refine ⟨AE cf (by simp (disch:=omega) only[Bd,AN,AM,A8,A7,and_self]) (by simp only[AfP,AfQ,c0,c1,c2,c3,c4];rfl),?_⟩
      refine Ab.of (Bp 6) (by rfl) ?_
      simp(maxSteps:=1000000)(disch:=(try simp only[awL]);omega)only[awS,Ae,Ac,MBX,awH,↓awU,awY,↓reduceIte,↓reduceDIte,↓Qe,Qu,Qv,Qw,Qx,Qy,Qz,QA,QB,QC,QD,QE,QF,QG,QH,QI,QK]
      rw[←hr1,←hH2]
      refine Ap.go s3 ⟨.inl rfl,.inl rfl,trivial⟩ (by simp) ?_
      rw[hcl2]
      simp(maxSteps:=1000000)(disch:=(try simp only[awL]);omega)only[awS,Ae,Ac,MBX,awH,↓awU,awY,↓reduceIte,↓reduceDIte,↓Qe,Qu,Qv,Qw,Qx,Qy,Qz,QA,QB,QC,QD,QE,QF,QG,QH,QI,QK]
      refine Ap.go c5 ⟨.inl rfl,trivial⟩ K5.len ?_
      simp(maxSteps:=1000000)(disch:=(try simp only[awL]);omega)only[QR,QS,QT,QU,QV,QW,QX,QY,QZ,Q0,Q1,Q2,Ae,Ac,MBX,e5,show ndC (.mk 6 [] [] [])=[.int .i64 6,S [],.sl 0 false [],.sl 0 false []] from rfl,Bt,An,Az,AQ,BO,B6,Ad1,AdY,AfN,Afs,AfS,AfJ,AfO,↓awU,awV,awF,Qa,Qb,Qc,Qd,forall_const,↓reduceIte,↓reduceDIte,↓Qe,Qf,Qg,Qh,Qi,Qj,Qk,Ql,Qm,Qn,Qo,Qp,Qq,Qr,Qs,implies_true,Qt,Qu,Qv,Qw,Qx,Qy,Qz,QA,QB,QC,QD,QE,QF,QG,QH,QI,QJ,QK,QL,QM,QN,QO,QP,QQ]
      first
      | exact .inr ⟨rfl,.inr ⟨_,rfl,rfl,rfl⟩⟩
      | exact ⟨by rfl,.inr ⟨rfl,.inr ⟨_,rfl,rfl,rfl⟩⟩⟩
    | false =>
     obtain ⟨b5,ids5,H5,c5,X5,K5,Q5⟩:=G5 (G:=G) P4 (by omega) (by omega) (by simp[Nd.keys])
     have e5:H5[H.length]?=some (.box zN):=by rw[K5.keep H.length (by omega) (by simp;omega) hF0];exact e4
     have l5:H.length<H5.length:=(AdW.1 e5).1
     have hF:=(K4.trans K5).not_mem hF0 (by omega)
     refine ⟨noN,false,b5,H.length+2,ids5,H5.set H.length (.box zN),Ctr.bodyI (M:=MB7) Am Tryz.func79 rfl OJ ?h1 ?h2,?h3,((K3.trans K4).trans K5).set (AdZ _) _,?h4⟩
     case h1=>exact (X5.set _ (by simp)).ok
     case h3=>exact X5.set _ (by simp)
     case h4 =>
      rw[if_neg (by simp)]
      exact I5 Q5 (by omega) hF
     case h2 =>
      simp(maxSteps:=1000000)(disch:=(try simp only[awL]);omega)only[awS,Ae,Ac,MBX,q0,ho,Tryz.f79,awH,↓awU,awY,↓reduceIte,↓reduceDIte,↓Qe,Qu,Qv,Qw,Qx,Qy,Qz,QA,QB,QC,QD,QE,QF,QG,QH,QI,QK]
      refine Ap.go s1 ⟨.inl rfl,.inl rfl,trivial⟩ (by simp) ?_
      rw[h91]
      simp(maxSteps:=1000000)(disch:=(try simp only[awL]);omega)only[awS,Ae,Ac,MBX,q0,ho,awH,↓awU,awY,↓reduceIte,↓reduceDIte,↓Qe,Qu,Qv,Qw,Qx,Qy,Qz,QA,QB,QC,QD,QE,QF,QG,QH,QI,QK]
      refine Ap.go s2 ⟨.inl rfl,.inl rfl,trivial⟩ (by simp) ?_
      rw[h123]
      simp(maxSteps:=1000000)(disch:=(try simp only[awL]);omega)only[awS,Ae,Ac,MBX,q0,ho,awH,↓awU,awY,↓reduceIte,↓reduceDIte,↓Qe,Qu,Qv,Qw,Qx,Qy,Qz,QA,QB,QC,QD,QE,QF,QG,QH,QI,QK]
      refine ⟨AE cf (by simp (disch:=omega) only[Bd,AN,AM,A8,A7,and_self]) (by simp only[AfP,AfQ,c0,c1,c2,c3,c4];rfl),?_⟩
      refine Ab.of (Bp 6) (by rfl) ?_
      simp(maxSteps:=1000000)(disch:=(try simp only[awL]);omega)only[awS,Ae,Ac,MBX,awH,↓awU,awY,↓reduceIte,↓reduceDIte,↓Qe,Qu,Qv,Qw,Qx,Qy,Qz,QA,QB,QC,QD,QE,QF,QG,QH,QI,QK]
      rw[←hr1,←hH2]
      refine Ap.go s3 ⟨.inl rfl,.inl rfl,trivial⟩ (by simp) ?_
      rw[hcl2]
      simp(maxSteps:=1000000)(disch:=(try simp only[awL]);omega)only[awS,Ae,Ac,MBX,awH,↓awU,awY,↓reduceIte,↓reduceDIte,↓Qe,Qu,Qv,Qw,Qx,Qy,Qz,QA,QB,QC,QD,QE,QF,QG,QH,QI,QK]
      refine Ap.go c5 ⟨.inl rfl,trivial⟩ K5.len ?_
      simp(maxSteps:=1000000)(disch:=(try simp only[awL]);omega)only[QR,QS,QT,QU,QV,QW,QX,QY,QZ,Q0,Q1,Q2,Ae,Ac,MBX,e5,show ndC (.mk 6 [] [] [])=[.int .i64 6,S [],.sl 0 false [],.sl 0 false []] from rfl,Bt,An,Az,AQ,BO,B6,Ad1,AdY,AfN,Afs,AfS,AfJ,AfO,↓awU,awV,awF,Qa,Qb,Qc,Qd,forall_const,↓reduceIte,↓reduceDIte,↓Qe,Qf,Qg,Qh,Qi,Qj,Qk,Ql,Qm,Qn,Qo,Qp,Qq,Qr,Qs,implies_true,Qt,Qu,Qv,Qw,Qx,Qy,Qz,QA,QB,QC,QD,QE,QF,QG,QH,QI,QJ,QK,QL,QM,QN,QO,QP,QQ]
      first
      | exact .inr ⟨rfl,.inr ⟨_,rfl,rfl,rfl⟩⟩
      | exact ⟨by rfl,.inr ⟨rfl,.inr ⟨_,rfl,rfl,rfl⟩⟩⟩
  | false =>
   obtain ⟨r,hr1⟩:∃ r,r=(sgn 123 (sgn 91 rest).1).1:=⟨_,rfl⟩
   have hbp:Eh rest st=if (Fd r).2.2=true then .got (Fd r).1 st (Fd r).2.1 else .bad:=by unfold Eh;rw[if_neg (by rw[h91];simp),if_neg (by rw[h123];simp),hr1]
   rw[hbp]
   rw[←hr1] at P3 K3
   have s3:=P3.lift (G:=G) (r':=(Fd r).1) (fun v=>Om (G:=G) r (by rw[hr1];omega) v) (by simp)
   obtain ⟨P4,K4⟩:=P3.rest (r':=(Fd r).1)
   generalize Fd r=x at *
   obtain ⟨x1,⟨k,tx,ks,l⟩,x3⟩:=x
   simp only at s3 P4 K4 ⊢
   have hF:H.length∉ob::ids:=fun q=>by have:=h.stack.lt _ q;omega
   have P5:=P4.other (j:=H.length) (b:=.box ((ndC (.mk k tx ks l)).map .d)) (by omega) hF (by simp)
   have K5:=(((K1.trans K2).trans K3).trans K4).set (j:=H.length) (AdZ _) (.box ((ndC (.mk k tx ks l)).map .d))
   have eH:((((H++[Aa.box zN]).set 0 (.box [.d (S (sgn 91 rest).1),.lsl ob 4 0 st.length])).set 0 (.box [.d (S r),.lsl ob 4 0 st.length])).set 0 (.box [.d (S x1),.lsl ob 4 0 st.length])).set H.length (.box ((ndC (.mk k tx ks l)).map .d)) =
     ((H.set 0 (.box [.d (S (sgn 91 rest).1),.lsl ob 4 0 st.length])).set 0 (.box [.d (S r),.lsl ob 4 0 st.length])).set 0 (.box [.d (S x1),.lsl ob 4 0 st.length])++[.box ((ndC (.mk k tx ks l)).map .d)]:=by
    simp only[BO,B6,l0,Ad1,AdZ,AfS,AfJ]
   simp only[BO,l0,Ad1] at s3
   refine ⟨.mk k tx ks l,x3,x3,ob,ids,_,Ctr.bodyI (M:=MB7) Am Tryz.func79 rfl OJ P5.nox.ok ?_,P5.nox,K5,?_⟩
   ·simp(maxSteps:=1000000)(disch:=(try simp only[awL]);omega)only[awS,Ae,Ac,MBX,q0,Tryz.f79,awH,↓awU,awY,↓reduceIte,↓reduceDIte,↓Qe,Qu,Qv,Qw,Qx,Qy,Qz,QA,QB,QC,QD,QE,QF,QG,QH,QI,QK]
    refine Ap.go s1 ⟨.inl rfl,.inl rfl,trivial⟩ (by simp) ?_
    rw[h91]
    simp(maxSteps:=1000000)(disch:=(try simp only[awL]);omega)only[awS,Ae,Ac,MBX,q0,awH,↓awU,awY,↓reduceIte,↓reduceDIte,↓Qe,Qu,Qv,Qw,Qx,Qy,Qz,QA,QB,QC,QD,QE,QF,QG,QH,QI,QK]
    refine Ap.go s2 ⟨.inl rfl,.inl rfl,trivial⟩ (by simp) ?_
    rw[h123]
    simp(maxSteps:=1000000)(disch:=(try simp only[awL]);omega)only[awS,Ae,Ac,MBX,q0,awH,↓awU,awY,↓reduceIte,↓reduceDIte,↓Qe,Qu,Qv,Qw,Qx,Qy,Qz,QA,QB,QC,QD,QE,QF,QG,QH,QI,QK]
    rw[←hr1]
    refine Ap.go s3 ⟨.inl rfl,trivial⟩ (by simp) ?_
    simp(maxSteps:=1000000)(disch:=(try simp only[awL]);omega)only[awS,Ae,Ac,MBX,q0,ndC,awH,↓awU,awY,↓reduceIte,↓reduceDIte,↓Qe,Qu,Qv,Qw,Qx,Qy,Qz,QA,QB,QC,QD,QE,QF,QG,QH,QI,QK]
    first
    | exact .inr ⟨rfl,.inr ⟨_,rfl,rfl,rfl⟩⟩
    | exact ⟨by rfl,.inr ⟨rfl,.inr ⟨_,rfl,rfl,rfl⟩⟩⟩
   ·cases x3 with
    | true=>exact ⟨rfl,rfl,rfl,P5⟩
    | false=>rfl
theorem TN {N:Nat} {rest:List UInt8} {t:Nd} {st:List Nd} (h1:st.length+1+rest.length≤N) (h2:t.keys.length+rest.length≤N∧t.kids.length+rest.length≤N) (h3:∀ s∈st,s.keys.length+rest.length≤N∧s.kids.length+rest.length≤N):okP N (EG rest t st):=by
 unfold EG
 split
 ·refine ⟨by simp only[Afv];omega,fun s hs=>?_⟩
  rcases Ad0.1 hs with rfl | hs
  ·exact h2
  ·exact h3 s hs
 ·split
  ·rename_i h
   have q1:=Wb h.1
   have q2:=Em h.2
   refine ⟨by simp only[Afv];omega,fun s hs=>?_⟩
   rcases Ad0.1 hs with rfl | hs
   ·exact ⟨by simp only[ED,Nd.keys,AdY,Afv,Ae3];have:=h2.1;unfold Nd.keys at this;omega,by have:=h2.2;show t.kids.length+_≤N;omega⟩
   ·have:=h3 s hs;omega
  ·trivial
theorem TM {N:Nat} {k:Int} {rest:List UInt8} {st:List Nd} (h1:st.length+1+rest.length≤N) (h3:∀ s∈st,s.keys.length+rest.length≤N∧s.kids.length+rest.length≤N):okP N (He k rest st):=by
 have hl:=A5 (AO k) rest
 unfold He
 split
 ·rename_i h
  have q:=Em h
  exact ⟨by omega,fun s hs=>by have:=h3 s hs;omega⟩
 ·exact TN (by omega) ⟨by simp[Nd.keys];omega,by simp[Nd.kids];omega⟩ fun s hs=>by have:=h3 s hs;omega
theorem TO {N:Nat} {rest:List UInt8} {st:List Nd} (h:okP N (.beg rest st)):okP N (Eh rest st):=by
 obtain ⟨h1,h2⟩:=h
 have l1:=A5 91 rest
 have l2:=A5 123 (sgn 91 rest).1
 unfold Eh
 split
 ·rename_i e
  have:=Em e
  exact TM (by omega) fun s hs=>by have:=h2 s hs;omega
 ·split
  ·rename_i e
   have:=Em e
   exact TM (by omega) fun s hs=>by have:=h2 s hs;omega
  ·split
   ·rename_i e
    have:=TB e
    exact ⟨by omega,fun s hs=>by have:=h2 s hs;omega⟩
   ·trivial
theorem Ox {N:Nat} {rest:List UInt8} {t:Nd} {st:List Nd} {n:Nd} (h:okP N (.got rest (t::st) n)):okP N (Km rest t st n):=by
 obtain ⟨h1,h2⟩:=h
 have h3:=h2 t (by simp)
 simp only[Afv] at h1
 have l1:=A5 44 rest
 unfold Km
 split
 ·rename_i e
  have:=Em e
  exact TN (by omega) ⟨by show t.keys.length+_≤N;omega,by simp only[Co,Nd.kids,AdY,Afv,Ae3];have:=h3.2;unfold Nd.kids at this;omega⟩ fun s hs=>by have:=h2 s (AcB _ hs);omega
 ·split
  ·rename_i e
   have:=Em e
   exact ⟨by omega,fun s hs=>by have:=h2 s (AcB _ hs);omega⟩
  ·trivial
def PV (o:Option (List UInt8 × Nd)):D:=match o with
 | none=>.tup [NdD noN,.bool false]
 | some x=>.tup [NdD x.2,.bool true]
def LE (o:Option (List UInt8 × Nd)):Aa:=match o with
 | none=>.dead
 | some x=>.box [.d (S x.1),.undef]
structure NX where
 rest:List UInt8
 st:List Nd
 ob:Nat
 ids:List Nat
 H:List Aa
structure NodI (o:Option (List UInt8 × Nd)) (N:Nat) (x:NX):Prop where
 par:Cf x.rest x.st x.ob x.ids x.H
 b1:x.H[1]?=some (.box zN)
 n1:1∉x.ob::x.ids
 res:HF (.beg x.rest x.st)=o
 ok:okP N (.beg x.rest x.st)
def IxP (x:NX × Option Nd):PSt:=match x.2 with
 | none=>.beg x.1.rest x.1.st
 | some m=>.got x.1.rest x.1.st m
structure InI (o:Option (List UInt8 × Nd)) (N L R:Nat) (x:NX × Option Nd):Prop where
 par:Cf x.1.rest x.1.st x.1.ob x.1.ids x.1.H
 b1:x.1.H[1]?=some (.box zN)
 n1:1∉x.1.ob::x.1.ids
 bL:∃ n:Nd,x.1.H[L]?=some (.box ((ndC n).map .d))∧∀ m,x.2=some m→m=n
 nL:L∉x.1.ob::x.1.ids
 lt:x.1.rest.length<R
 res:HF (IxP x)=o
 ok:okP N (IxP x)
def MN7:BZ:=fun k=>Af5 k 4000079 || (Af5 k 4000080 || (Af5 k 4000082 || Af5 k 4000081))
theorem Cx:MN7 4000079=true:=rfl
theorem Cw:MN7 4000080=true:=rfl
theorem Cv:MN7 4000082=true:=rfl
theorem Cu:MN7 4000081=true:=rfl
theorem Ct {k:Nat} (h:¬(k=4000079∨k=4000080∨k=4000082∨k=4000081)):MN7 k=false:=by
 cases e:MN7 k with
 | false=>rfl
 | true =>
  unfold MN7 at e
  simp only[Agj] at e
  rcases e with e | e | e | e
  ·exact absurd (.inl (Ae2 e)) h
  ·exact absurd (.inr (.inl (Ae2 e))) h
  ·exact absurd (.inr (.inr (.inl (Ae2 e)))) h
  ·exact absurd (.inr (.inr (.inr (Ae2 e)))) h
theorem LN (r:List UInt8) (t:Nd) (st:List Nd):EG r t st=.bad∨∃ a c,EG r t st=.beg a c:=by
 unfold EG
 split
 ·exact .inr ⟨_,_,rfl⟩
 ·split
  ·exact .inr ⟨_,_,rfl⟩
  ·exact .inl rfl
theorem FA {H:List Aa} (h:0<H.length):Hi 1 H (.tup [.agg [.d (.int .i64 0),.d (.str ByteArray.empty),.d (.sl 0 true []),.d (.sl 0 true [])],.d (.bool false)]) (.d (PV none)) [LE none] :=
 ⟨[some 0],rfl,by simp,by simp[HW,LE,AfR h,BW],.inr ⟨_,rfl,rfl,rfl⟩⟩
theorem AaH {H:List Aa} {r:List UInt8} {k:Int} {t:List UInt8} {ks:List (List UInt8)} {l:List Nd} {x:AV} (h:H[0]?=some (.box [.d (S r),x])) :
  Hi 1 H (.tup [.agg [.d (.int .i64 k),.d (S t),.d (Ss ks false),.d (.sl l.length false (AY l))],.d (.bool true)]) (.d (PV (some (r,.mk k t ks l)))) [LE (some (r,.mk k t ks l))] :=
 ⟨[some 0],rfl,by simp,by simp[HW,LE,h,BW,SW,AW],.inr ⟨_,rfl,rfl,rfl⟩⟩
theorem Wt (data:List UInt8) (hd:data.length≤100000000) :
  Ctr TP G 47 [.ptr 0 0] [.box [.d (S data),.d (.sl 0 true [])]] (.d (PV (HF (.beg data [])))) [LE (HF (.beg data []))]:=by
 have hsig:=fun (c:UInt8) (r:List UInt8) (hr:r.length≤1000000000) v=>Fx (G:=G) c r (by omega) v
 obtain ⟨o,ho⟩:∃ o,o=HF (.beg data []):=⟨_,rfl⟩
 rw[←ho]
 refine Ctr.body (M:=MN7) Am Tryz.func47 rfl go47 ?_ (hx:=by cases o<;>rfl)
 simp(maxSteps:=1000000)(disch:=(try simp only[awL]);omega)only[awS,Ct,Cx,Cw,Cv,Cu,Tryz.f47,awH,↓awU,awY,↓reduceIte,↓reduceDIte,↓Qe,Qu,Qv,Qw,Qx,Qy,Qz,QA,QB,QC,QD,QE,QF,QG,QH,QI,QK]
 refine Au.frI 5 (α:=NX) (fun x=>x.rest.length) (fun x=>[]) (fun x=>x.H) (NodI o data.length) ⟨data,[],2,[],[.box [.d (S data),.lsl 2 4 0 0],.box zN,.row false []]⟩ ⟨⟨rfl,⟨⟨[],.inr ⟨rfl,rfl⟩,rfl,rfl⟩,by simp⟩,by simp,by simp[NoX]⟩,rfl,by simp,ho.symm,by simp[okP]⟩ ?_ ?_
 ·first
  | exact .weak ⟨[some 0,some 1,none],rfl,by simp,by simp[sA,Aw,SW,AW],by simp[HW,BW,SW,AW]⟩
 ·rintro ⟨rest,st,ob,ids,H⟩ ⟨h,b1,n1,hres,hok⟩
  simp only at h b1 n1 hres hok
  simp only[awK,AfU,AfV,reduceIte]
  obtain ⟨ok1,ok2⟩:=hok
  have q0:=h.box
  obtain ⟨n,c,b,ob',ids',H',cb,xb,Kb,hQb⟩:=Vo (G:=G) h (by omega) (by omega)
  have okb:=TO (N:=data.length) (rest:=rest) (st:=st) ⟨ok1,ok2⟩
  have mub:=O3 rest st
  rw[V9] at hres
  have lH:1<H.length:=(AdW.1 b1).1
  have b1':H'[1]?=some (.box zN):=by rw[Kb.keep 1 (by omega) lH n1];exact b1
  have n1':=Kb.not_mem n1 lH
  have lH':=Kb.len
  obtain ⟨nk,nt,nks,nl⟩:=n
  cases b with
  | false =>
   have hbad:Eh rest st=.bad:=by
    cases e:Eh rest st with
    | bad=>rfl
    | beg r s=>rw[e] at hQb;exact absurd hQb.2.1 (by simp)
    | got r s m=>rw[e] at hQb;exact absurd hQb.2.2.1 (by simp)
   rw[hbad,Gl] at hres
   subst hres
   simp(maxSteps:=1000000)(disch:=(try simp only[awL]);omega)only[awS,Ct,Cx,Cw,Cv,Cu,awH,↓awU,awY,↓reduceIte,↓reduceDIte,↓Qe,Qu,Qv,Qw,Qx,Qy,Qz,QA,QB,QC,QD,QE,QF,QG,QH,QI,QK]
   refine Ap.go cb ⟨.inl rfl,trivial⟩ Kb.len ?_
   simp(maxSteps:=1000000)(disch:=(try simp only[awL]);omega)only[awS,Ct,Cx,Cw,Cv,Cu,ndC,b1',awH,↓awU,awY,↓reduceIte,↓reduceDIte,↓Qe,Qu,Qv,Qw,Qx,Qy,Qz,QA,QB,QC,QD,QE,QF,QG,QH,QI,QK]
   exact FA (by simp)
  | true =>
   simp(maxSteps:=1000000)(disch:=(try simp only[awL]);omega)only[awS,Ct,Cx,Cw,Cv,Cu,awH,↓awU,awY,↓reduceIte,↓reduceDIte,↓Qe,Qu,Qv,Qw,Qx,Qy,Qz,QA,QB,QC,QD,QE,QF,QG,QH,QI,QK]
   refine Ap.go cb ⟨.inl rfl,trivial⟩ Kb.len ?_
   simp(maxSteps:=1000000)(disch:=(try simp only[awL]);omega)only[awS,Ct,Cx,Cw,Cv,Cu,ndC,b1',awH,↓awU,awY,↓reduceIte,↓reduceDIte,↓Qe,Qu,Qv,Qw,Qx,Qy,Qz,QA,QB,QC,QD,QE,QF,QG,QH,QI,QK]
   have lH'':1<H'.length:=by omega
   have key:∃ x:NX × Option Nd,InI o data.length H'.length rest.length x∧x.1.H=H'++[.box [.d (.int .i64 nk),.d (S nt),.d (Ss nks false),.d (.sl nl.length false (AY nl))]]∧x.2.isSome=c:=by
    have fin:∀ r s,Cf r s ob' ids' H'→r.length+2<rest.length+2→∀ m:Option Nd,HF (IxP (⟨r,s,ob',ids',H'++[.box [.d (.int .i64 nk),.d (S nt),.d (Ss nks false),.d (.sl nl.length false (AY nl))]]⟩,m))=o →
      okP data.length (IxP (⟨r,s,ob',ids',H'++[.box [.d (.int .i64 nk),.d (S nt),.d (Ss nks false),.d (.sl nl.length false (AY nl))]]⟩,m))→(∀ y,m=some y→y=.mk nk nt nks nl)→m.isSome=c →
      ∃ x:NX × Option Nd,InI o data.length H'.length rest.length x∧x.1.H=H'++[.box [.d (.int .i64 nk),.d (S nt),.d (Ss nks false),.d (.sl nl.length false (AY nl))]]∧x.2.isSome=c:=by
     intro r s P hl m hm1 hm2 hm3 hm4
     exact ⟨_,⟨(P.app (by simp[NoX])).1,by rw[Az lH''];exact b1',n1',⟨.mk nk nt nks nl,by rw[AQ (AdZ _),AfS];rfl,hm3⟩,fun q=>by have:=P.stack.lt _ q;omega,by show r.length<rest.length;omega,hm1,hm2⟩,rfl,hm4⟩
    cases e:Eh rest st with
    | bad=>rw[e] at hQb;exact absurd hQb (by simp[Aa7])
    | beg r s =>
     rw[e] at hQb hres okb mub
     exact fin r s hQb.2.2 mub none hres okb (fun y hy=>by cases hy) hQb.1.symm
    | got r s m =>
     rw[e] at hQb hres okb mub
     exact fin r s hQb.2.2.2 mub (some m) hres okb (fun y hy=>by cases hy;exact hQb.1.symm) hQb.2.1.symm
   obtain ⟨x0,i0,hH0,hc0⟩:=key
   refine Au.frI 21 (α:=NX × Option Nd) (fun x=>x.1.rest.length) (fun x=>[(5,.d (.bool x.2.isSome))]) (fun x=>x.1.H) (InI o data.length H'.length rest.length) x0 i0 ?_ ?_
   ·rw[hH0,hc0]
    exact .slots (by simp[sA,Aw,CH])
   ·rintro ⟨⟨r,s,ob2,ids2,H2⟩,nm⟩ ⟨P,e1,m1,⟨n,eL,hnm⟩,nL,hlt,hres2,hok2⟩
    simp only at P e1 m1 eL hnm nL hlt
    have p0:=P.box
    have l2:0<H2.length:=(AdW.1 p0).1
    have lL:H'.length<H2.length:=(AdW.1 eL).1
    obtain ⟨nk2,nt2,nks2,nl2⟩:=n
    simp only[awK,AfU,AfV,reduceIte]
    cases nm with
    | none =>
     simp(maxSteps:=1000000)(disch:=(try simp only[awL]);omega)only[awS,Ct,Cx,Cw,Cv,Cu,awH,↓awU,awY,↓reduceIte,↓reduceDIte,↓Qe,Qu,Qv,Qw,Qx,Qy,Qz,QA,QB,QC,QD,QE,QF,QG,QH,QI,QK]
     first
     | exact ⟨⟨r,s,ob2,ids2,H2⟩,⟨P,e1,m1,hres2,hok2⟩,hlt,.inl ⟨rfl,by simp[sA,Aw,CH]⟩⟩
    | some m =>
     obtain rfl:=hnm m rfl
     have eL':H2[H'.length]?=some (.box [.d (.int .i64 nk2),.d (S nt2),.d (Ss nks2 false),.d (.sl nl2.length false (AY nl2))]):=eL
     have q0':H2[0]?=some (.box [.d (S r),.lsl ob2 4 0 s.length]):=p0
     clear p0 eL
     have his:(some (Nd.mk nk2 nt2 nks2 nl2)).isSome=true:=rfl
     cases s with
     | nil =>
      simp(maxSteps:=1000000)(disch:=(try simp only[awL]);omega)only[awS,Ct,Cx,Cw,Cv,Cu,his,Ae3,q0',e1,eL',awH,↓awU,awY,↓reduceIte,↓reduceDIte,↓Qe,Qu,Qv,Qw,Qx,Qy,Qz,QA,QB,QC,QD,QE,QF,QG,QH,QI,QK]
      have ho2:some (r,Nd.mk nk2 nt2 nks2 nl2)=o:=hres2
      rw[←ho2]
      first
      | exact AaH (by rw[An (by decide)];exact q0')
     | cons t s =>
      obtain ⟨c,junk,i,ka,ik,qa,iq,hb,hc,hs,hk,hq,hids⟩:=P.top
      have p0:H2[0]?=some (.box [.d (S r),.lsl ob2 4 0 (s.length+1)]):=q0'
      replace q0':=p0
      have lb2:ob2<H2.length:=P.stack.lt ob2 (by simp)
      have hnd:=P.stack.nd
      have hpos:=P.pos
      have hlt2:=P.stack.lt
      rw[hids] at hnd hpos hlt2
      have ob0:=hpos ob2 (by simp)
      have g0:=Ir hc (.d (.int .i64 t.kind)) (.d (S t.text)) ka qa junk
      have g3:=VI hc (.d (.int .i64 t.kind)) (.d (S t.text)) ka qa junk
      have gl:=Iq hc (.d (.int .i64 t.kind)) (.d (S t.text)) ka qa junk
      have gs:=fun x=>VG hc (.d (.int .i64 t.kind)) (.d (S t.text)) ka qa x junk
      obtain ⟨cs,hcs⟩:∃ cs,cs=c++(.d (.int .i64 t.kind)::.d (S t.text)::ka::qa::junk):=⟨_,rfl⟩
      rw[←hcs] at hb g0 g3 gl gs
      have ndl:=BK t.kids
      have htk3:∀ x,Ago (t.kids.length*4) (AY t.kids++x)=AY t.kids:=fun x=>by rw[show t.kids.length*4=(AY t.kids).length by omega,Af1]
      have hdr3:∀ x y z w:D,Agp (t.kids.length*4+4) (AY t.kids++[x,y,z,w])=[]:=fun x y z w=>AfW (by simp;omega)
      have okk:=hok2.2 t (by simp)
      have oks:=hok2.1
      simp only[Afv] at oks
      have hLo:¬H'.length=ob2:=fun e=>nL (by rw[e];simp)
      have hcut:cut [D.int .i64 0,.str {data:=#[]},.sl 0 false [],.sl 0 false []] 0 4=[D.int .i64 0,.str {data:=#[]},.sl 0 false [],.sl 0 false []]:=rfl
      obtain ⟨cf,hcf⟩:=CZ [0,ob2,H2.length,H2.length+1,H'.length] (by simp only[AfI,Ad0,Af6,or_false,not_or,Aga,and_true,not_false_eq_true];omega)
      have c0:=hcf 0 _ rfl
      have c1:=hcf 1 _ rfl
      have c2:=hcf 2 _ rfl
      have c3:=hcf 3 _ rfl
      have c4:=hcf 4 _ rfl
      rcases hq with ⟨kn,qa0,iq0⟩ | ⟨kn,qb,qa0,iq0,hqb⟩
      ·subst qa0
       obtain ⟨H3,hH3⟩:∃ H3,H3=H2.set ob2 (.box (c++(.d (.int .i64 t.kind)::.d (S t.text)::ka::.lsl (H2.length+1) 4 0 1::junk)))++[.row false [.int .i64 0,.str {data:=#[]},.sl 0 false [],.sl 0 false []],.row false [.int .i64 nk2,S nt2,Ss nks2 false,.sl nl2.length false (AY nl2)]]:=⟨_,rfl⟩
       have l3:H3.length=H2.length+2:=by rw[hH3];simp
       have x3:NoX H3:=by rw[hH3];exact (P.nox.set _ (by simp)).app (by simp[NoX])
       have f3:∀ b,b<H2.length→¬b=ob2→H3[b]?=H2[b]?:=fun b hb1 hb3=>by
        rw[hH3,Az (by simpa using hb1),An (fun e=>hb3 e.symm)]
       have e30:H3[0]?=some (.box [.d (S r),.lsl ob2 4 0 (s.length+1)]):=by rw[f3 0 l2 (by omega)];exact p0
       have e3b:H3[ob2]?=some (.box (c++(.d (.int .i64 t.kind)::.d (S t.text)::ka::.lsl (H2.length+1) 4 0 (t.kids.length+1)::junk))):=by rw[hH3,Az (by simpa using lb2),Bt (by simpa using lb2),kn]
       have e3n:H3[H2.length+1]?=some (.row false (AY (t.kids++[.mk nk2 nt2 nks2 nl2]))):=by
        rw[hH3,AQ (by simp)]
        simp[Gv,AY,ndC,Af0.1 kn]
       have hne:∀ b,b∈ob2::(i++(ik++iq))→¬b=H2.length+1:=fun b hb=>by have:=hlt2 b hb;omega
       have hnd2:(ob2::(i++(ik++[H2.length+1]))).Nodup:=by
        have u1:=AfI.1 hnd
        have u2:=Afw.1 u1.2
        have u3:=Afw.1 u2.2.1
        refine AfI.2 ⟨fun q=>?_,Afw.2 ⟨u2.1,Afw.2 ⟨u3.1,by simp,fun x hx y hy e=>?_⟩,fun x hx y hy e=>?_⟩⟩
        ·rcases AdX.1 q with q | q
         ·exact u1.1 (AdT _ q)
         ·rcases AdX.1 q with q | q
          ·exact u1.1 (AdU _ (AdT _ q))
          ·exact hne ob2 (by simp) (AdV.1 q)
        ·rw[AdV.1 hy] at e
         exact hne x (AcB _ (AdU _ (AdT _ hx))) e
        ·subst e
         rcases AdX.1 hy with hy | hy
         ·exact u2.2.2 x hx x (AdT _ hy) rfl
         ·exact hne x (AcB _ (AdT _ hx)) (AdV.1 hy)
       have hold:∀ b,b∈i++ik→b<H2.length∧¬b=ob2:=fun b hb=>by
        have hm:b∈i++(ik++iq):=by rcases AdX.1 hb with hb | hb;exact AdT _ hb;exact AdU _ (AdT _ hb)
        refine ⟨hlt2 b (AcB _ hm),fun e=>(AfI.1 hnd).1 (e▸hm)⟩
       have P3:Cf r (Co t (.mk nk2 nt2 nks2 nl2)::s) ob2 (i++(ik++[H2.length+1])) H3:=by
        refine Cf.mk_top (t:=Co t (.mk nk2 nt2 nks2 nl2)) e30 e3b hs (fun b hb=>f3 b (hold b (AdT _ hb)).1 (hold b (AdT _ hb)).2) (hk.frame fun b hb=>f3 b (hold b (AdU _ hb)).1 (hold b (AdU _ hb)).2) (.inr ⟨by simp[Co,Nd.kids],_,by simp[Co,Nd.kids],rfl,e3n⟩) hnd2 (fun b hb=>?_) x3
        rcases Ad0.1 hb with hb | hb
        ·rw[hb];exact hpos ob2 (by simp)
        ·rcases AdX.1 hb with hb | hb
         ·exact hpos b (AcB _ (AdT _ hb))
         ·rcases AdX.1 hb with hb | hb
          ·exact hpos b (AcB _ (AdU _ (AdT _ hb)))
          ·rw[AdV.1 hb];omega
       have K3:Cj (ob2::ids2) H2 (ob2::(i++(ik++[H2.length+1]))) H3:=by
        rw[hids]
        refine ⟨by omega,fun j j0 jl jn=>f3 j jl (fun e=>jn (by rw[e];simp)),fun j hj=>?_⟩
        rcases Ad0.1 hj with hj | hj
        ·rw[hj];simp
        ·rcases AdX.1 hj with hj | hj
         ·exact .inl (AcB _ (AdT _ hj))
         ·rcases AdX.1 hj with hj | hj
          ·exact .inl (AcB _ (AdU _ (AdT _ hj)))
          ·rw[AdV.1 hj];exact .inr (by omega)
       obtain ⟨b3,n3,L3⟩:H3[1]?=some (.box zN)∧1∉ob2::(i++(ik++[H2.length+1]))∧(H3[H'.length]?=some (.box [.d (.int .i64 nk2),.d (S nt2),.d (Ss nks2 false),.d (.sl nl2.length false (AY nl2))])∧H'.length∉ob2::(i++(ik++[H2.length+1]))) :=
        ⟨by rw[K3.keep 1 (by omega) (by omega) m1];exact e1,K3.not_mem m1 (by omega),by rw[K3.keep H'.length (by omega) lL nL];exact eL',K3.not_mem nL lL⟩
       have g30:=Ir hc (.d (.int .i64 t.kind)) (.d (S t.text)) ka (.lsl (H2.length+1) 4 0 (t.kids.length+1)) junk
       have gl3:=Iq hc (.d (.int .i64 t.kind)) (.d (S t.text)) ka (.lsl (H2.length+1) 4 0 (t.kids.length+1)) junk
       skip
       have s4:=P3.lift (G:=G) (r':=(sgn 44 r).1) (fun v=>hsig 44 r (by omega) v) (by simp)
       obtain ⟨P4,K4⟩:=P3.rest (r':=(sgn 44 r).1)
       have hl44:=A5 44 r
       have hres3:=hres2
       have hok3:=hok2
       rw[show IxP ((⟨r,t::s,ob2,ids2,H2⟩:NX),some (.mk nk2 nt2 nks2 nl2))=.got r (t::s) (.mk nk2 nt2 nks2 nl2) from rfl,PF] at hres3
       replace hok3:=Ox hok3
       have mu3:=KM r t s (.mk nk2 nt2 nks2 nl2)
       unfold Km at hres3 hok3 mu3
       simp(maxSteps:=1000000)(disch:=(try simp only[awL]);omega)only[awS,Ct,Cx,Cw,Cv,Cu,his,q0',e1,eL',hb,g0,g3,gl,gs,ndl,htk3,hdr3,hcut,awH,↓awU,awY,↓reduceIte,↓reduceDIte,↓Qe,Qu,Qv,Qw,Qx,Qy,Qz,QA,QB,QC,QD,QE,QF,QG,QH,QI,QK]
       refine ⟨by rfl,?_⟩
       refine ⟨AE cf (by simp (disch:=omega) only[Bd,AN,AM,A8,A7,and_self]) (by simp only[AfP,AfQ,c0,c1,c2,c3,c4];rfl),?_⟩
       rw[←hH3]
       refine Ap.go s4 ⟨.inl rfl,.inl rfl,trivial⟩ (by simp) ?_
       cases h44:(sgn 44 r).2 with
       | true =>
        rw[if_pos h44] at hres3 hok3 mu3
        obtain ⟨kb,ids5,H5,d5,X5,K5,hQ5⟩:=G5 (G:=G) P4 (by omega) (by omega) (by show t.keys.length≤_;omega)
        have KK:=K4.trans K5
        have e5:H5[1]?=some (.box zN):=by rw[KK.keep 1 (by omega) (by omega) n3];exact b3
        have n5:=KK.not_mem n3 (by omega)
        have L5:H5[H'.length]?=some (.box [.d (.int .i64 nk2),.d (S nt2),.d (Ss nks2 false),.d (.sl nl2.length false (AY nl2))]):=by rw[KK.keep H'.length (by omega) (by omega) L3.2];exact L3.1
        have m5:=KK.not_mem L3.2 (by omega)
        have l5:=K5.len
        rw[Ad1] at l5
        simp(maxSteps:=1000000)(disch:=(try simp only[awL]);omega)only[awS,Ct,Cx,Cw,Cv,Cu,his,awH,↓awU,awY,↓reduceIte,↓reduceDIte,↓Qe,Qu,Qv,Qw,Qx,Qy,Qz,QA,QB,QC,QD,QE,QF,QG,QH,QI,QK]
        refine Ap.go d5 ⟨.inl rfl,trivial⟩ K5.len ?_
        rcases LN (sgn 44 r).1 (Co t (.mk nk2 nt2 nks2 nl2)) s with hkp | ⟨ra,rc,hkp⟩
        ·rw[hkp] at hQ5 hres3
         have hkb:kb=false:=hQ5
         subst hkb
         rw[Gl] at hres3
         subst hres3
         simp(maxSteps:=1000000)(disch:=(try simp only[awL]);omega)only[awS,Ct,Cx,Cw,Cv,Cu,his,e5,awH,↓awU,awY,↓reduceIte,↓reduceDIte,↓Qe,Qu,Qv,Qw,Qx,Qy,Qz,QA,QB,QC,QD,QE,QF,QG,QH,QI,QK]
         first
         | exact FA (by rw[Ad1];omega)
        ·rw[hkp] at hQ5 hres3 hok3 mu3
         obtain ⟨hkb,P5⟩:=hQ5
         subst hkb
         simp(maxSteps:=1000000)(disch:=(try simp only[awL]);omega)only[awS,Ct,Cx,Cw,Cv,Cu,his,e5,awH,↓awU,awY,↓reduceIte,↓reduceDIte,↓Qe,Qu,Qv,Qw,Qx,Qy,Qz,QA,QB,QC,QD,QE,QF,QG,QH,QI,QK]
         first
         | exact ⟨(⟨ra,rc,ob2,ids5,H5⟩,none),⟨P5,e5,n5,⟨.mk nk2 nt2 nks2 nl2,L5,fun m hm=>by cases hm⟩,m5,by have:ra.length+2<r.length+2:=mu3;show ra.length<rest.length;omega,hres3,hok3⟩,by have:ra.length+2<r.length+2:=mu3;show ra.length<r.length;omega,.inl ⟨rfl,by simp[sA,Aw,CH]⟩⟩
       | false =>
        rw[if_neg (by rw[h44];simp)] at hres3 hok3 mu3
        have s5:=P4.lift (G:=G) (r':=(sgn (AO t.kind) (sgn 44 r).1).1) (fun v=>hsig (AO t.kind) (sgn 44 r).1 (by omega) v) (by simp)
        obtain ⟨P5,K5⟩:=P4.rest (r':=(sgn (AO t.kind) (sgn 44 r).1).1)
        have hl55:=A5 (AO t.kind) (sgn 44 r).1
        have KK:=K4.trans K5
        simp(maxSteps:=1000000)(disch:=(try simp only[awL]);omega)only[awS,Ct,Cx,Cw,Cv,Cu,his,e3b,g30,gl3,awH,↓awU,awY,↓reduceIte,↓reduceDIte,↓Qe,Qu,Qv,Qw,Qx,Qy,Qz,QA,QB,QC,QD,QE,QF,QG,QH,QI,QK]
        refine Ab.of (Bp t.kind) (by rfl) ?_
        simp(maxSteps:=1000000)(disch:=(try simp only[awL]);omega)only[awS,Ct,Cx,Cw,Cv,Cu,his,e3b,g30,gl3,awH,↓awU,awY,↓reduceIte,↓reduceDIte,↓Qe,Qu,Qv,Qw,Qx,Qy,Qz,QA,QB,QC,QD,QE,QF,QG,QH,QI,QK]
        refine Ap.go s5 ⟨.inl rfl,.inl rfl,trivial⟩ (by simp) ?_
        have ek:(Co t (.mk nk2 nt2 nks2 nl2)).kind=t.kind:=rfl
        cases hcl5:(sgn (AO t.kind) (sgn 44 r).1).2 with
        | true =>
         rw[if_pos hcl5] at hres3 hok3 mu3
         obtain ⟨ids6,H6,d6,P6,K6⟩:=GZ (G:=G) P5 (by omega)
         have d6:Ctr TP G 82 [.ptr 0 0] _ (.d (NdD (.mk t.kind t.text t.keys (t.kids++[.mk nk2 nt2 nks2 nl2])))) H6:=d6
         have K7:=KK.trans K6
         have e6:H6[1]?=some (.box zN):=by rw[K7.keep 1 (by omega) (by omega) n3];exact b3
         have n6:=K7.not_mem n3 (by omega)
         have L6:H6[H'.length]?=some (.box [.d (.int .i64 nk2),.d (S nt2),.d (Ss nks2 false),.d (.sl nl2.length false (AY nl2))]):=by rw[K7.keep H'.length (by omega) (by omega) L3.2];exact L3.1
         have m6:=K7.not_mem L3.2 (by omega)
         have l6:=K7.len
         simp(maxSteps:=1000000)(disch:=(try simp only[awL]);omega)only[awS,Ct,Cx,Cw,Cv,Cu,his,awH,↓awU,awY,↓reduceIte,↓reduceDIte,↓Qe,Qu,Qv,Qw,Qx,Qy,Qz,QA,QB,QC,QD,QE,QF,QG,QH,QI,QK]
         refine Ap.go d6 ⟨.inl rfl,trivial⟩ K6.len ?_
         generalize hkk:t.kids++[Nd.mk nk2 nt2 nks2 nl2]=kk at *
         have hak:Co t (.mk nk2 nt2 nks2 nl2)=.mk t.kind t.text t.keys kk:=by rw[←hkk];rfl
         simp(maxSteps:=1000000)(disch:=(try simp only[awL]);omega)only[awS,Ct,Cx,Cw,Cv,Cu,his,L6,ndC,awH,↓awU,awY,↓reduceIte,↓reduceDIte,↓Qe,Qu,Qv,Qw,Qx,Qy,Qz,QA,QB,QC,QD,QE,QF,QG,QH,QI,QK]
         rw[hak] at hres3 hok3
         first
         | exact ⟨(⟨(sgn (AO t.kind) (sgn 44 r).1).1,s,ob2,ids6,H6.set H'.length (.box [.d (.int .i64 t.kind),.d (S t.text),.d (Ss t.keys false),.d (.sl kk.length false (AY kk))])⟩,some (.mk t.kind t.text t.keys kk)),⟨P6.other (by omega) m6 (by simp),by show (H6.set _ _)[1]?=_;rw[An (by omega)];exact e6,n6,⟨.mk t.kind t.text t.keys kk,Bt (by omega),fun m hm=>by cases hm;rfl⟩,m6,by have:=mu3;simp only[muP] at this;show (sgn (AO t.kind) (sgn 44 r).1).1.length<rest.length;omega,hres3,hok3⟩,by have:=mu3;simp only[muP] at this;show (sgn (AO t.kind) (sgn 44 r).1).1.length<r.length;omega,.inl ⟨rfl,by simp[sA,Aw,CH]⟩⟩
        | false =>
         rw[if_neg (by rw[hcl5];simp),Gl] at hres3
         subst hres3
         simp(maxSteps:=1000000)(disch:=(try simp only[awL]);omega)only[awS,Ct,Cx,Cw,Cv,Cu,his,b3,awH,↓awU,awY,↓reduceIte,↓reduceDIte,↓Qe,Qu,Qv,Qw,Qx,Qy,Qz,QA,QB,QC,QD,QE,QF,QG,QH,QI,QK]
         first
         | exact FA (by simp;omega)
         | exact FA (by simp)
      ·subst qa0
       have hqm:qb∈i++(ik++iq):=AdU _ (AdU _ (by rw[iq0];simp))
       have lqb:qb<H2.length:=hlt2 qb (AcB _ hqm)
       have qb0:=hpos qb (AcB _ hqm)
       have nqo:¬qb=ob2:=fun e=>(AfI.1 hnd).1 (e▸hqm)
       have noq:¬ob2=qb:=fun e=>nqo e.symm
       obtain ⟨H3,hH3⟩:∃ H3,H3=(H2.set qb .dead).set ob2 (.box (c++(.d (.int .i64 t.kind)::.d (S t.text)::ka::.lsl (H2.length+1) 4 0 (t.kids.length+1)::junk)))++[.row false [.int .i64 0,.str {data:=#[]},.sl 0 false [],.sl 0 false []],.row false (AY t.kids++[.int .i64 nk2,S nt2,Ss nks2 false,.sl nl2.length false (AY nl2)])]:=⟨_,rfl⟩
       have l3:H3.length=H2.length+2:=by rw[hH3];simp
       have x3:NoX H3:=by rw[hH3];exact ((P.nox.set _ (by simp)).set _ (by simp)).app (by simp[NoX])
       have f3:∀ b,b<H2.length→¬b=ob2→¬b=qb→H3[b]?=H2[b]?:=fun b hb1 hb3 hb4=>by
        rw[hH3,Az (by simpa using hb1),An (fun e=>hb3 e.symm),An (fun e=>hb4 e.symm)]
       have e30:H3[0]?=some (.box [.d (S r),.lsl ob2 4 0 (s.length+1)]):=by rw[f3 0 l2 (by omega) (by omega)];exact p0
       have e3b:H3[ob2]?=some (.box (c++(.d (.int .i64 t.kind)::.d (S t.text)::ka::.lsl (H2.length+1) 4 0 (t.kids.length+1)::junk))):=by rw[hH3,Az (by simpa using lb2),Bt (by simpa using lb2)]
       have e3n:H3[H2.length+1]?=some (.row false (AY (t.kids++[.mk nk2 nt2 nks2 nl2]))):=by
        rw[hH3,AQ (by simp)]
        simp[Gv,AY,ndC]
       have hne:∀ b,b∈ob2::(i++(ik++iq))→¬b=H2.length+1:=fun b hb=>by have:=hlt2 b hb;omega
       have hnd2:(ob2::(i++(ik++[H2.length+1]))).Nodup:=by
        have u1:=AfI.1 hnd
        have u2:=Afw.1 u1.2
        have u3:=Afw.1 u2.2.1
        refine AfI.2 ⟨fun q=>?_,Afw.2 ⟨u2.1,Afw.2 ⟨u3.1,by simp,fun x hx y hy e=>?_⟩,fun x hx y hy e=>?_⟩⟩
        ·rcases AdX.1 q with q | q
         ·exact u1.1 (AdT _ q)
         ·rcases AdX.1 q with q | q
          ·exact u1.1 (AdU _ (AdT _ q))
          ·exact hne ob2 (by simp) (AdV.1 q)
        ·rw[AdV.1 hy] at e
         exact hne x (AcB _ (AdU _ (AdT _ hx))) e
        ·subst e
         rcases AdX.1 hy with hy | hy
         ·exact u2.2.2 x hx x (AdT _ hy) rfl
         ·exact hne x (AcB _ (AdT _ hx)) (AdV.1 hy)
       have hold:∀ b,b∈i++ik→b<H2.length∧¬b=ob2∧¬b=qb:=fun b hb=>by
        have hm:b∈i++(ik++iq):=by rcases AdX.1 hb with hb | hb;exact AdT _ hb;exact AdU _ (AdT _ hb)
        refine ⟨hlt2 b (AcB _ hm),fun e=>(AfI.1 hnd).1 (e▸hm),fun e=>?_⟩
        subst e
        have u2:=Afw.1 (AfI.1 hnd).2
        have u3:=Afw.1 u2.2.1
        rcases AdX.1 hb with hb | hb
        ·exact u2.2.2 b hb b (AdU _ (by rw[iq0];simp)) rfl
        ·exact u3.2.2 b hb b (by rw[iq0];simp) rfl
       have P3:Cf r (Co t (.mk nk2 nt2 nks2 nl2)::s) ob2 (i++(ik++[H2.length+1])) H3:=by
        refine Cf.mk_top (t:=Co t (.mk nk2 nt2 nks2 nl2)) e30 e3b hs (fun b hb=>f3 b (hold b (AdT _ hb)).1 (hold b (AdT _ hb)).2.1 (hold b (AdT _ hb)).2.2) (hk.frame fun b hb=>f3 b (hold b (AdU _ hb)).1 (hold b (AdU _ hb)).2.1 (hold b (AdU _ hb)).2.2) (.inr ⟨by simp[Co,Nd.kids],_,by simp[Co,Nd.kids],rfl,e3n⟩) hnd2 (fun b hb=>?_) x3
        rcases Ad0.1 hb with hb | hb
        ·rw[hb];exact hpos ob2 (by simp)
        ·rcases AdX.1 hb with hb | hb
         ·exact hpos b (AcB _ (AdT _ hb))
         ·rcases AdX.1 hb with hb | hb
          ·exact hpos b (AcB _ (AdU _ (AdT _ hb)))
          ·rw[AdV.1 hb];omega
       have K3:Cj (ob2::ids2) H2 (ob2::(i++(ik++[H2.length+1]))) H3:=by
        rw[hids]
        refine ⟨by omega,fun j j0 jl jn=>f3 j jl (fun e=>jn (by rw[e];simp)) (fun e=>jn (by rw[e,iq0];simp)),fun j hj=>?_⟩
        rcases Ad0.1 hj with hj | hj
        ·rw[hj];simp
        ·rcases AdX.1 hj with hj | hj
         ·exact .inl (AcB _ (AdT _ hj))
         ·rcases AdX.1 hj with hj | hj
          ·exact .inl (AcB _ (AdU _ (AdT _ hj)))
          ·rw[AdV.1 hj];exact .inr (by omega)
       obtain ⟨b3,n3,L3⟩:H3[1]?=some (.box zN)∧1∉ob2::(i++(ik++[H2.length+1]))∧(H3[H'.length]?=some (.box [.d (.int .i64 nk2),.d (S nt2),.d (Ss nks2 false),.d (.sl nl2.length false (AY nl2))])∧H'.length∉ob2::(i++(ik++[H2.length+1]))) :=
        ⟨by rw[K3.keep 1 (by omega) (by omega) m1];exact e1,K3.not_mem m1 (by omega),by rw[K3.keep H'.length (by omega) lL nL];exact eL',K3.not_mem nL lL⟩
       have g30:=Ir hc (.d (.int .i64 t.kind)) (.d (S t.text)) ka (.lsl (H2.length+1) 4 0 (t.kids.length+1)) junk
       have gl3:=Iq hc (.d (.int .i64 t.kind)) (.d (S t.text)) ka (.lsl (H2.length+1) 4 0 (t.kids.length+1)) junk
       skip
       have s4:=P3.lift (G:=G) (r':=(sgn 44 r).1) (fun v=>hsig 44 r (by omega) v) (by simp)
       obtain ⟨P4,K4⟩:=P3.rest (r':=(sgn 44 r).1)
       have hl44:=A5 44 r
       have hres3:=hres2
       have hok3:=hok2
       rw[show IxP ((⟨r,t::s,ob2,ids2,H2⟩:NX),some (.mk nk2 nt2 nks2 nl2))=.got r (t::s) (.mk nk2 nt2 nks2 nl2) from rfl,PF] at hres3
       replace hok3:=Ox hok3
       have mu3:=KM r t s (.mk nk2 nt2 nks2 nl2)
       unfold Km at hres3 hok3 mu3
       simp(maxSteps:=1000000)(disch:=(try simp only[awL]);omega)only[awS,Ct,Cx,Cw,Cv,Cu,his,q0',e1,eL',hb,g0,g3,gl,gs,ndl,htk3,hdr3,hcut,hqb,awH,↓awU,awY,↓reduceIte,↓reduceDIte,↓Qe,Qu,Qv,Qw,Qx,Qy,Qz,QA,QB,QC,QD,QE,QF,QG,QH,QI,QK]
       refine ⟨by rfl,?_⟩
       refine ⟨AE cf (by simp (disch:=omega) only[Bd,AN,AM,A8,A7,and_self]) (by simp only[AfP,AfQ,c0,c1,c2,c3,c4];rfl),?_⟩
       rw[←hH3]
       refine Ap.go s4 ⟨.inl rfl,.inl rfl,trivial⟩ (by simp) ?_
       cases h44:(sgn 44 r).2 with
       | true =>
        rw[if_pos h44] at hres3 hok3 mu3
        obtain ⟨kb,ids5,H5,d5,X5,K5,hQ5⟩:=G5 (G:=G) P4 (by omega) (by omega) (by show t.keys.length≤_;omega)
        have KK:=K4.trans K5
        have e5:H5[1]?=some (.box zN):=by rw[KK.keep 1 (by omega) (by omega) n3];exact b3
        have n5:=KK.not_mem n3 (by omega)
        have L5:H5[H'.length]?=some (.box [.d (.int .i64 nk2),.d (S nt2),.d (Ss nks2 false),.d (.sl nl2.length false (AY nl2))]):=by rw[KK.keep H'.length (by omega) (by omega) L3.2];exact L3.1
        have m5:=KK.not_mem L3.2 (by omega)
        have l5:=K5.len
        rw[Ad1] at l5
        simp(maxSteps:=1000000)(disch:=(try simp only[awL]);omega)only[awS,Ct,Cx,Cw,Cv,Cu,his,awH,↓awU,awY,↓reduceIte,↓reduceDIte,↓Qe,Qu,Qv,Qw,Qx,Qy,Qz,QA,QB,QC,QD,QE,QF,QG,QH,QI,QK]
        refine Ap.go d5 ⟨.inl rfl,trivial⟩ K5.len ?_
        rcases LN (sgn 44 r).1 (Co t (.mk nk2 nt2 nks2 nl2)) s with hkp | ⟨ra,rc,hkp⟩
        ·rw[hkp] at hQ5 hres3
         have hkb:kb=false:=hQ5
         subst hkb
         rw[Gl] at hres3
         subst hres3
         simp(maxSteps:=1000000)(disch:=(try simp only[awL]);omega)only[awS,Ct,Cx,Cw,Cv,Cu,his,e5,awH,↓awU,awY,↓reduceIte,↓reduceDIte,↓Qe,Qu,Qv,Qw,Qx,Qy,Qz,QA,QB,QC,QD,QE,QF,QG,QH,QI,QK]
         first
         | exact FA (by rw[Ad1];omega)
        ·rw[hkp] at hQ5 hres3 hok3 mu3
         obtain ⟨hkb,P5⟩:=hQ5
         subst hkb
         simp(maxSteps:=1000000)(disch:=(try simp only[awL]);omega)only[awS,Ct,Cx,Cw,Cv,Cu,his,e5,awH,↓awU,awY,↓reduceIte,↓reduceDIte,↓Qe,Qu,Qv,Qw,Qx,Qy,Qz,QA,QB,QC,QD,QE,QF,QG,QH,QI,QK]
         first
         | exact ⟨(⟨ra,rc,ob2,ids5,H5⟩,none),⟨P5,e5,n5,⟨.mk nk2 nt2 nks2 nl2,L5,fun m hm=>by cases hm⟩,m5,by have:ra.length+2<r.length+2:=mu3;show ra.length<rest.length;omega,hres3,hok3⟩,by have:ra.length+2<r.length+2:=mu3;show ra.length<r.length;omega,.inl ⟨rfl,by simp[sA,Aw,CH]⟩⟩
       | false =>
        rw[if_neg (by rw[h44];simp)] at hres3 hok3 mu3
        have s5:=P4.lift (G:=G) (r':=(sgn (AO t.kind) (sgn 44 r).1).1) (fun v=>hsig (AO t.kind) (sgn 44 r).1 (by omega) v) (by simp)
        obtain ⟨P5,K5⟩:=P4.rest (r':=(sgn (AO t.kind) (sgn 44 r).1).1)
        have hl55:=A5 (AO t.kind) (sgn 44 r).1
        have KK:=K4.trans K5
        simp(maxSteps:=1000000)(disch:=(try simp only[awL]);omega)only[awS,Ct,Cx,Cw,Cv,Cu,his,e3b,g30,gl3,awH,↓awU,awY,↓reduceIte,↓reduceDIte,↓Qe,Qu,Qv,Qw,Qx,Qy,Qz,QA,QB,QC,QD,QE,QF,QG,QH,QI,QK]
        refine Ab.of (Bp t.kind) (by rfl) ?_
        simp(maxSteps:=1000000)(disch:=(try simp only[awL]);omega)only[awS,Ct,Cx,Cw,Cv,Cu,his,e3b,g30,gl3,awH,↓awU,awY,↓reduceIte,↓reduceDIte,↓Qe,Qu,Qv,Qw,Qx,Qy,Qz,QA,QB,QC,QD,QE,QF,QG,QH,QI,QK]
        refine Ap.go s5 ⟨.inl rfl,.inl rfl,trivial⟩ (by simp) ?_
        have ek:(Co t (.mk nk2 nt2 nks2 nl2)).kind=t.kind:=rfl
        cases hcl5:(sgn (AO t.kind) (sgn 44 r).1).2 with
        | true =>
         rw[if_pos hcl5] at hres3 hok3 mu3
         obtain ⟨ids6,H6,d6,P6,K6⟩:=GZ (G:=G) P5 (by omega)
         have d6:Ctr TP G 82 [.ptr 0 0] _ (.d (NdD (.mk t.kind t.text t.keys (t.kids++[.mk nk2 nt2 nks2 nl2])))) H6:=d6
         have K7:=KK.trans K6
         have e6:H6[1]?=some (.box zN):=by rw[K7.keep 1 (by omega) (by omega) n3];exact b3
         have n6:=K7.not_mem n3 (by omega)
         have L6:H6[H'.length]?=some (.box [.d (.int .i64 nk2),.d (S nt2),.d (Ss nks2 false),.d (.sl nl2.length false (AY nl2))]):=by rw[K7.keep H'.length (by omega) (by omega) L3.2];exact L3.1
         have m6:=K7.not_mem L3.2 (by omega)
         have l6:=K7.len
         simp(maxSteps:=1000000)(disch:=(try simp only[awL]);omega)only[awS,Ct,Cx,Cw,Cv,Cu,his,awH,↓awU,awY,↓reduceIte,↓reduceDIte,↓Qe,Qu,Qv,Qw,Qx,Qy,Qz,QA,QB,QC,QD,QE,QF,QG,QH,QI,QK]
         refine Ap.go d6 ⟨.inl rfl,trivial⟩ K6.len ?_
         generalize hkk:t.kids++[Nd.mk nk2 nt2 nks2 nl2]=kk at *
         have hak:Co t (.mk nk2 nt2 nks2 nl2)=.mk t.kind t.text t.keys kk:=by rw[←hkk];rfl
         simp(maxSteps:=1000000)(disch:=(try simp only[awL]);omega)only[awS,Ct,Cx,Cw,Cv,Cu,his,L6,ndC,awH,↓awU,awY,↓reduceIte,↓reduceDIte,↓Qe,Qu,Qv,Qw,Qx,Qy,Qz,QA,QB,QC,QD,QE,QF,QG,QH,QI,QK]
         rw[hak] at hres3 hok3
         first
         | exact ⟨(⟨(sgn (AO t.kind) (sgn 44 r).1).1,s,ob2,ids6,H6.set H'.length (.box [.d (.int .i64 t.kind),.d (S t.text),.d (Ss t.keys false),.d (.sl kk.length false (AY kk))])⟩,some (.mk t.kind t.text t.keys kk)),⟨P6.other (by omega) m6 (by simp),by show (H6.set _ _)[1]?=_;rw[An (by omega)];exact e6,n6,⟨.mk t.kind t.text t.keys kk,Bt (by omega),fun m hm=>by cases hm;rfl⟩,m6,by have:=mu3;simp only[muP] at this;show (sgn (AO t.kind) (sgn 44 r).1).1.length<rest.length;omega,hres3,hok3⟩,by have:=mu3;simp only[muP] at this;show (sgn (AO t.kind) (sgn 44 r).1).1.length<r.length;omega,.inl ⟨rfl,by simp[sA,Aw,CH]⟩⟩
        | false =>
         rw[if_neg (by rw[hcl5];simp),Gl] at hres3
         subst hres3
         simp(maxSteps:=1000000)(disch:=(try simp only[awL]);omega)only[awS,Ct,Cx,Cw,Cv,Cu,his,b3,awH,↓awU,awY,↓reduceIte,↓reduceDIte,↓Qe,Qu,Qv,Qw,Qx,Qy,Qz,QA,QB,QC,QD,QE,QF,QG,QH,QI,QK]
         first
         | exact FA (by simp;omega)
         | exact FA (by simp)
def szW (t:Nd):Prop:=t.text.length≤1000000000∧(∀ s∈t.keys,s.length≤1000000000)∧∀ k∈t.kids,szN k
theorem Tr:∀ {l:List Nd},(∀ n∈l,szN n)→VS l
 | [],_=>trivial
 | n::r,h=>⟨h n (by simp),Tr fun x hx=>h x (AcB _ hx)⟩
theorem Oe {t:Nd} (h:szW t) (h1:t.keys.length≤100000) (h2:t.kids.length≤100000):szN t:=by
 cases t
 exact ⟨h.1,h1,h.2.1,h2,Tr h.2.2⟩
def szP:PSt→Prop
 | .beg _ st=>∀ t∈st,szW t
 | .got _ st n=>szN n∧∀ t∈st,szW t
 | .bad=>True
theorem To (k:Int):szW (.mk k [] [] []):=⟨by simp[Nd.text],(fun s hs=>by cases hs),(fun s hs=>by cases hs)⟩
theorem Tq {rest:List UInt8} {t:Nd} {st:List Nd} (hl:rest.length≤100000) (h:szW t) (h2:∀ s∈st,szW s):szP (EG rest t st):=by
 unfold EG
 split
 ·intro s hs
  rcases Ad0.1 hs with rfl | hs
  ·exact h
  ·exact h2 s hs
 ·split
  ·intro s hs
   rcases Ad0.1 hs with rfl | hs
   ·refine ⟨h.1,fun x hx=>?_,h.2.2⟩
    rcases AdX.1 (show x∈t.keys++[(quo rest).2.1] from hx) with hx | hx
    ·exact h.2.1 x hx
    ·rw[AdV.1 hx];have:=TE rest;omega
   ·exact h2 s hs
  ·trivial
theorem Tp {k:Int} {rest:List UInt8} {st:List Nd} (hl:rest.length≤100000) (h2:∀ s∈st,szW s):szP (He k rest st):=by
 have:=A5 (AO k) rest
 unfold He
 split
 ·exact ⟨Oe (To k) (by simp[Nd.keys]) (by simp[Nd.kids]),h2⟩
 ·exact Tq (by omega) (To k) h2
theorem Y2 (s:List UInt8) (hl:s.length≤100000):szN (Fd s).2.1:=by
 have hw:=Ej s
 have leaf:∀ (k:Int) (t:List UInt8),t.length≤1000000000→szN (.mk k t [] []):=fun k t ht=>Oe (t:=.mk k t [] []) ⟨ht,(fun s hs=>by cases hs),(fun s hs=>by cases hs)⟩ (by simp[Nd.keys]) (by simp[Nd.kids])
 unfold Fd
 split
 ·exact leaf _ _ (by have:=TE (BR s);omega)
 ·split
  ·exact leaf _ _ (by simp)
  ·split
   ·exact leaf _ _ (by decide)
   ·split
    ·exact leaf _ _ (by decide)
    ·exact leaf _ _ (by rw[List.length_take];omega)
theorem XS {rest:List UInt8} {st:List Nd} (hl:rest.length≤100000) (h:szP (.beg rest st)):szP (Eh rest st):=by
 have l1:=A5 91 rest
 have l2:=A5 123 (sgn 91 rest).1
 unfold Eh
 split
 ·exact Tp (by omega) h
 ·split
  ·exact Tp (by omega) h
  ·split
   ·exact ⟨Y2 _ (by omega),h⟩
   ·trivial
theorem XR {N:Nat} (hN:N≤100000) {rest:List UInt8} {t:Nd} {st:List Nd} {n:Nd} (ho:okP N (.got rest (t::st) n)) (h:szP (.got rest (t::st) n)):szP (Km rest t st n):=by
 obtain ⟨h1,h2⟩:=h
 have h3:=h2 t (by simp)
 have o3:=ho.2 t (by simp)
 have ol:=ho.1
 have l1:=A5 44 rest
 have hw:szW (Co t n):=⟨h3.1,h3.2.1,fun k hk=>by
  rcases AdX.1 (show k∈t.kids++[n] from hk) with hk | hk
  ·exact h3.2.2 k hk
  ·rw[AdV.1 hk];exact h1⟩
 unfold Km
 split
 ·exact Tq (by omega) hw fun s hs=>h2 s (AcB _ hs)
 ·split
  ·exact ⟨Oe hw (by show t.keys.length≤_;omega) (by show (t.kids++[n]).length≤_;rw[AdY];simp only[Afv,Ae3];omega),fun s hs=>h2 s (AcB _ hs)⟩
  ·trivial
theorem Sf {N:Nat} (hN:N≤100000):∀ (k:Nat) (x:PSt) (r:List UInt8) (n:Nd),okP N x→szP x→UE k x=some (r,n)→szN n∧r.length≤N
 | 0,x,r,n,_,_,h=>by cases x<;>cases h
 | k+1,x,r,n,ho,hs,h=>by
   cases x with
   | bad=>cases h
   | beg rest st=>exact Sf hN k _ r n (TO ho) (XS (by have:=ho.1;omega) hs) h
   | got rest st m =>
    cases st with
    | nil =>
     have e:some (rest,m)=some (r,n):=h
     cases e
     exact ⟨hs.1,by have:=ho.1;omega⟩
    | cons t st=>exact Sf hN k _ r n (Ox ho) (XR hN ho hs) h
theorem AaI {data r:List UInt8} {n:Nd} (hd:data.length≤100000) (h:HF (.beg data [])=some (r,n)):szN n∧r.length≤data.length :=
 Sf hd _ (.beg data []) r n ⟨by simp,fun t ht=>by cases ht⟩ (fun t ht=>by cases ht) h
theorem Xe (p:UInt8→Bool) (b:UInt8):∀ l:List UInt8,b∈l→p b=false→b∈l.dropWhile p
 | [],h,_=>by cases h
 | x::l,h,hc=>by
   rw[Agc]
   split
   ·rename_i hx
    rcases Ad0.1 h with rfl | h2
    ·rw[hc] at hx;cases hx
    ·exact Xe p b l h2 hc
   ·exact h
theorem Pm (s:List UInt8):(Num.trimL Hz (Num.trimR Hz s)=[])↔BR s=[]:=by
 have key:∀ l:List UInt8,l.dropWhile Hz.contains=[]↔∀ b∈l,Hz.contains b=true:=by
  intro l
  induction l with
  | nil=>simp
  | cons b l ih =>
   rw[Agc]
   split
   ·rename_i h
    rw[ih]
    simp only[Ad0,forall_eq_or_imp,h,true_and]
   ·rename_i h
    simp only[reduceCtorEq,Ad0,forall_eq_or_imp,false_iff,not_and]
    exact fun q=>absurd q h
 unfold BR Num.trimL Num.trimR
 rw[key,key]
 constructor
 ·intro h b hb
  cases hc:Hz.contains b with
  | true=>rfl
  | false =>
   have:b∈(s.reverse.dropWhile Hz.contains).reverse:=by
    rw[Agi]
    exact Xe _ _ _ (by simpa using hb) hc
   rw[h b this] at hc;cases hc
 ·intro h b hb
  rw[Agi] at hb
  have:=(List.dropWhile_sublist _).subset hb
  exact h b (by simpa using this)
def Wj (x:Nd × Int):D:=.tup [NdD x.1,.int .i64 x.2]
theorem PQ (hT:HT G) (hG:Num.HG G) (data:List UInt8) (hd:data.length≤100000):Ctr TP G 23 [.d (S data)] [] (.d (Wj (Ls data))) []:=by
 obtain ⟨r,hr⟩:∃ r,r=Ls data:=⟨_,rfl⟩
 rw[←hr]
 unfold Ls at hr
 have hn:=Wt (G:=G) data (by omega)
 have hsz:=fun r n=>AaI (r:=r) (n:=n) hd
 have hv:=DX (G:=G) hT data (by omega)
 refine Ctr.pure (M:=M0) Am Tryz.func23 rfl go23 ?_
 simp(maxSteps:=1000000)(disch:=(try simp only[awL]);omega)only[awS,Tryz.f23,↓awU,awY,↓reduceIte,↓reduceDIte,↓Qe,Qu,Qv,Qw,Qx,Qy,Qz,QA,QB,QC,QD,QE,QF,QG,QH,QI,QK]
 refine Ab.by hn (by rfl) (by rfl) (by simp) ?_
 cases hx:HF (.beg data []) with
 | none =>
  rw[hx] at hr
  simp only at hr
  subst hr
  simp(maxSteps:=1000000)(disch:=(try simp only[awL]);omega)only[awS,LE,PV,ndC,noN,↓awU,awY,↓reduceIte,↓reduceDIte,↓Qe,Qu,Qv,Qw,Qx,Qy,Qz,QA,QB,QC,QD,QE,QF,QG,QH,QI,QK]
  first | done | rfl
 | some x =>
  obtain ⟨q,m⟩:=x
  obtain ⟨sz1,sz2⟩:=hsz q m hx
  rw[hx] at hr
  simp only at hr
  have hm:=Ii (G:=G) hT hG m sz1
  have htr:Ctr TP G 48 [.d (S q),.d (S Hz)] [] (.d (S (Num.trimL Hz (Num.trimR Hz q)))) []:=Num.trim_spec q Hz (by omega) (by decide) (by decide) (by decide)
  have hbl:=Pm q
  generalize Num.trimL Hz (Num.trimR Hz q)=tq at *
  generalize Ba m 0=okm at *
  obtain ⟨mk,mt,mks,ml⟩:=m
  simp(maxSteps:=1000000)(disch:=(try simp only[awL]);omega)only[awS,LE,PV,ndC,↓awU,awY,↓reduceIte,↓reduceDIte,↓Qe,Qu,Qv,Qw,Qx,Qy,Qz,QA,QB,QC,QD,QE,QF,QG,QH,QI,QK]
  refine Ab.of hv (by rfl) ?_
  cases hvd:Lib.validD data
  ·rw[if_neg (by rw[hvd];simp)] at hr
   subst hr
   simp(maxSteps:=1000000)(disch:=(try simp only[awL]);omega)only[awS,↓awU,awY,↓reduceIte,↓reduceDIte,↓Qe,Qu,Qv,Qw,Qx,Qy,Qz,QA,QB,QC,QD,QE,QF,QG,QH,QI,QK]
   first | done | rfl
  ·simp(maxSteps:=1000000)(disch:=(try simp only[awL]);omega)only[awS,↓awU,awY,↓reduceIte,↓reduceDIte,↓Qe,Qu,Qv,Qw,Qx,Qy,Qz,QA,QB,QC,QD,QE,QF,QG,QH,QI,QK]
   refine Ab.of htr (by rfl) ?_
   by_cases hq0:tq=[]
   ·rw[if_pos ⟨hvd,hbl.1 hq0⟩] at hr
    simp(maxSteps:=1000000)(disch:=(try simp only[awL]);omega)only[awS,hq0,↓awU,awY,↓reduceIte,↓reduceDIte,↓Qe,Qu,Qv,Qw,Qx,Qy,Qz,QA,QB,QC,QD,QE,QF,QG,QH,QI,QK]
    refine Ab.of hm (by rfl) ?_
    cases okm
    ·rw[if_neg (by simp)] at hr
     subst hr
     simp(maxSteps:=1000000)(disch:=(try simp only[awL]);omega)only[awS,↓awU,awY,↓reduceIte,↓reduceDIte,↓Qe,Qu,Qv,Qw,Qx,Qy,Qz,QA,QB,QC,QD,QE,QF,QG,QH,QI,QK]
     first | done | rfl
    ·rw[if_pos rfl] at hr
     subst hr
     simp(maxSteps:=1000000)(disch:=(try simp only[awL]);omega)only[awS,ndC,↓awU,awY,↓reduceIte,↓reduceDIte,↓Qe,Qu,Qv,Qw,Qx,Qy,Qz,QA,QB,QC,QD,QE,QF,QG,QH,QI,QK]
     first | done | rfl
   ·rw[if_neg (fun c=>hq0 (hbl.2 c.2))] at hr
    subst hr
    have hq1:(tq=[])=False:=eq_false hq0
    simp(maxSteps:=1000000)(disch:=(try simp only[awL]);omega)only[awS,hq1,↓awU,awY,↓reduceIte,↓reduceDIte,↓Qe,Qu,Qv,Qw,Qx,Qy,Qz,QA,QB,QC,QD,QE,QF,QG,QH,QI,QK]
    first | done | rfl
def exB:List UInt8:=[91,123,34,97,34,58,49,44,34,98,34,58,91,50,44,51,93,125,44,123,34,97,34,58,52,125,93]
def exN:Nd:=.mk 5 [] [] [.mk 6 [] [[97],[98]] [.mk 3 [49] [] [],.mk 5 [] [] [.mk 3 [50] [] [],.mk 3 [51] [] []]],.mk 6 [] [[97]] [.mk 3 [52] [] []]]
theorem AaW:HF (.beg exB [])=some ([],exN):=by rfl
theorem Z3:Ba exN 0=true:=by decide
theorem W7:Lib.validD exB=true:=by decide
theorem AaX:Lib.decDigits 0=[48]:=Lib.decDigits_one (by omega)
theorem W8:Ls exB=(exN,0):=by
 unfold Ls
 rw[AaW]
 simp only
 rw[if_pos ⟨W7,rfl⟩,if_pos Z3]
def SK:Tab:=⟨5,[],[⟨[97],[([49],false),([52],false)]⟩]⟩
def U3:Tab:=⟨6,[46,98],[⟨Mv,[([48],false),([48],false)]⟩,⟨DA,[([50],false),([51],false)]⟩]⟩
def exE:List Elm:=[(0,.mk 3 [50] [] []),(0,.mk 3 [51] [] [])]
theorem Zq:Eb (Ai false (Dp exN)) (5+(0:Nat)) []=(SK,true):=by rfl
theorem Zp:Eb (Ai true exE) (5+(1:Nat)) [46,98]=(U3,true):=by
 have hr:CB (Ai true exE).above=⟨Mv,[([48],false),([48],false)]⟩:=by
  show CB [0,0]=_
  simp[CB,AaX]
 have ht:Ca (Ai true exE) (5+(1:Nat)) [46,98]=U3:=by
  unfold Ca CW
  rw[if_pos (show (Ai true exE).further=true from rfl),hr]
  rfl
 unfold Eb
 rw[if_neg (by decide),ht]
 rfl
theorem Zr:GC 17 [] 5 exN=([SK,U3],0):=by
 unfold GC
 rw[if_pos ⟨Z3,by decide,by decide⟩]
 have h2:Cp 16 (Ai true exE) 5 [46,98] [SK]=([SK,U3],true):=by
  unfold Cp
  rw[show ((5:Int)+([SK]:List Tab).length)=5+(1:Nat) from rfl,Zp,if_pos ⟨rfl,by decide⟩]
  rw[show (Ai true exE).lists=[] from rfl]
  rfl
 have h:Cp 17 (Ai false (Dp exN)) 5 [] []=([SK,U3],true):=by
  unfold Cp
  rw[show ((5:Int)+([]:List Tab).length)=5+(0:Nat) from rfl,Zq,if_pos ⟨rfl,by decide⟩]
  rw[show (Ai false (Dp exN)).lists=[[98]] from rfl]
  rw[AfZ,Agb,if_pos rfl]
  rw[show (Ai false (Dp exN)).it [98]=exE from rfl]
  exact h2
 rw[h,if_pos rfl]
theorem W9:Ra ([SK,U3],0)=.tup [.sl 2 false [.int .i64 5,S [],.sl 1 false [S [97],.sl 2 false [.bool false,S [49],.bool false,S [52]]],
  .int .i64 6,S [46,98],.sl 2 false [S Mv,.sl 2 false [.bool false,S [48],.bool false,S [48]],S DA,.sl 2 false [.bool false,S [50],.bool false,S [51]]]],.int .i64 0]:=rfl
theorem Ae4:szN exN:=by
 simp[exN,szN,VS]
theorem Sd (hT:HT G) (hP:HP G) (hG:Num.HG G):Ctr TP G 7 [] [] (.d (.bool true)) []:=by
 have hp:=PQ (G:=G) hT hG exB (by decide)
 rw[W8] at hp
 have hf:=Hs (G:=G) hT hP hG 17 [] 5 exN Ae4 (by simp) (by decide) (by decide) (fun h=>T3 (by decide) (by decide) h)
 rw[Zr,W9] at hf
 generalize exN=n at *
 obtain ⟨k,t,ks,l⟩:=n
 refine Ctr.pure (M:=M0) Am Tryz.func7 rfl go7 ?_
 simp(maxSteps:=1000000)(disch:=(try simp only[awL]);omega)only[awS,Tryz.f7,↓awU,awY,↓reduceIte,↓reduceDIte,↓Qe,Qu,Qv,Qw,Qx,Qy,Qz,QA,QB,QC,QD,QE,QF,QG,QH,QI,QK]
 refine Ab.of hp (by rfl) ?_
 simp(maxSteps:=1000000)(disch:=(try simp only[awL]);omega)only[awS,Wj,ndC,↓awU,awY,↓reduceIte,↓reduceDIte,↓Qe,Qu,Qv,Qw,Qx,Qy,Qz,QA,QB,QC,QD,QE,QF,QG,QH,QI,QK]
 refine Ab.of hf (by rfl) ?_
 simp(maxSteps:=1000000)(disch:=(try simp only[awL]);omega)only[awS,↓awU,awY,↓reduceIte,↓reduceDIte,↓Qe,Qu,Qv,Qw,Qx,Qy,Qz,QA,QB,QC,QD,QE,QF,QG,QH,QI,QK]
 first | done | rfl
def Uh (G:Ad) (t:List Int) (d:Nat):Prop:=∀ k:Nat,Ctr TP G 11 [.ptr 0 0,.d (.int .i64 d)] [DiceM t k] (.d (NdD (CO t d k).1)) [DiceM t (CO t d k).2]
theorem M4:[D.str (bs [97]),D.str (bs [98]),D.str (bs [97,46,98]),D.str (bs [99]),D.str (bs []),D.str (bs [114,111,119])]=strs EP:=rfl
theorem UY {t:List Int} {f:Nat→Nd × Nat} {m:Nat} {ks:List (List UInt8)} {l:List Nd} {k:Nat} (h:IM t k∈ks):CU t f (m+1) ks l k=CU t f m ks l (k+1):=by rw[CU,if_pos h]
theorem WV {t:List Int} {f:Nat→Nd × Nat} {m:Nat} {ks:List (List UInt8)} {l:List Nd} {k:Nat} (h:¬IM t k∈ks):CU t f (m+1) ks l k=CU t f m (ks++[IM t k]) (l++[(f (k+1)).1]) (f (k+1)).2:=by rw[CU,if_neg h]
abbrev zN7:List AV:=[.d (.int .i64 0),.d (.str ByteArray.empty),.d (.sl 0 true []),.d (.sl 0 true [])]
structure FldS where
 m:Nat
 ks:List (List UInt8)
 l:List Nd
 k:Nat
theorem FB (t:List Int) (ht:OkM t) (d:Nat) (hd:d≤1000) (hn:Uh G t d) (k:Nat) :
  Ctr TP G 16 [.ptr 0 0,.d (.int .i64 (d+1:Nat))] [DiceM t k] (.d (NdD (Gn t (CO t d) k).1)) [DiceM t (Gn t (CO t d) k).2]:=by
 obtain ⟨m0,hm0,hm1⟩:=pk_nat t k 4 (by decide)
 obtain ⟨r,hr⟩:∃ r,r=Gn t (CO t d) k:=⟨_,rfl⟩
 rw[←hr]
 unfold Gn at hr
 rw[hm0,Af2] at hr
 refine Ctr.body (M:=M0) Am Tryz.func16 rfl go16 ?_
 simp(maxSteps:=1000000)(disch:=(try simp only[awL]);omega)only[awS,Tryz.f16,↓awU,awY,↓reduceIte,↓reduceDIte,↓Qe,Qu,Qv,Qw,Qx,Qy,Qz,QA,QB,QC,QD,QE,QF,QG,QH,QI,QK]
 refine Ab.by (pick_spec t k 4 ht (by decide) (by decide)) (by rfl) (by rfl) (AdZ _) ?_
 rw[hm0]
 simp(maxSteps:=1000000)(disch:=(try simp only[awL]);omega)only[awS,↓awU,awY,↓reduceIte,↓reduceDIte,↓Qe,Qu,Qv,Qw,Qx,Qy,Qz,QA,QB,QC,QD,QE,QF,QG,QH,QI,QK]
 refine Au.fr 51 (α:=FldS) (fun x=>x.m) (fun x=>[(6,.d (.int .i64 (x.m:Nat)))]) (fun x=>[DiceM t x.k,.box zN7,.box [.d (.int .i64 6),.d (.str ByteArray.empty),.lsl 3 1 0 x.ks.length,.lsl 4 4 0 x.l.length],.row false (strs x.ks),.row false (AY x.l)])
  (fun x=>CU t (CO t d) x.m x.ks x.l x.k=CU t (CO t d) m0 [] [] (k+1)∧x.ks.length=x.l.length∧x.l.length+x.m≤3) ⟨m0,[],[],k+1⟩ ⟨rfl,rfl,by simp;omega⟩ ?_ ?_
 ·first
  | exact ⟨[some 0,some 1,some 2,none,none],rfl,by simp,by simp[sA,Aw,SW,AW],by simp[HW,BW,SW,AW,strs,AY]⟩
 ·rintro ⟨m,ks,l,k2⟩ ⟨b1,b2,b3⟩
  simp only at b1 b2 b3
  simp only[awK,AfU,AfV,reduceIte]
  have sl:=@strs_length ks
  have nl:=BK l
  cases m with
  | zero =>
   rw[CU] at b1
   rw[←b1] at hr
   subst hr
   simp(maxSteps:=1000000)(disch:=(try simp only[awL]);omega)only[awS,sl,nl,↓awU,awY,↓reduceIte,↓reduceDIte,↓Qe,Qu,Qv,Qw,Qx,Qy,Qz,QA,QB,QC,QD,QE,QF,QG,QH,QI,QK]
   have q1:cut (strs ks) 0 (ks.length*1)=strs ks:=IX (by rw[sl,Nat.mul_one])
   have q2:cut (AY l) 0 (l.length*4)=AY l:=IX (by omega)
   refine ⟨[some 0],rfl,by simp,by simp[HW,BW,SW,AW],.inr ⟨.agg [.int .i64 6,.str ByteArray.empty,.sl ks.length false (cut (strs ks) 0 (ks.length*1)),.sl l.length false (cut (AY l) 0 (l.length*4))],rfl,?_,rfl⟩⟩
   rw[q1,q2]
   rfl
  | succ m =>
   obtain ⟨c,hc,hc2⟩:=pk_nat t k2 6 (by decide)
   have hky:IM t k2=EP.getD c []:=by unfold IM;rw[hc,Af2]
   have lk:=@strs_length EP
   have lk':EP.length=6:=rfl
   have gs:=strs_getD (l:=EP) (i:=c) (by omega)
   simp(maxSteps:=1000000)(disch:=(try simp only[awL]);omega)only[awS,sl,nl,M4,strs_unf,lk,lk',↓awU,awY,↓reduceIte,↓reduceDIte,↓Qe,Qu,Qv,Qw,Qx,Qy,Qz,QA,QB,QC,QD,QE,QF,QG,QH,QI,QK]
   refine Ab.by (pick_spec t k2 6 ht (by decide) (by decide)) (by rfl) (by rfl) (AdZ _) ?_
   rw[hc]
   rw[←hky] at gs
   simp(maxSteps:=1000000)(disch:=(try simp only[awL]);omega)only[awS,sl,nl,M4,strs_unf,lk,lk',gs,↓awU,awY,↓reduceIte,↓reduceDIte,↓Qe,Qu,Qv,Qw,Qx,Qy,Qz,QA,QB,QC,QD,QE,QF,QG,QH,QI,QK]
   have cu:cut (strs ks) 0 ks.length=Dst.strs ks:=by unfold cut strs Dst.strs;rw[List.drop_zero,List.take_of_length_le (by simp)]
   refine Ab.frozenE (Dst.has_spec ks false (IM t k2) (by omega)) (by rw[cu]) ?_
   by_cases hm:IM t k2∈ks
   ·rw[UY hm] at b1
    rw[decide_eq_true hm]
    simp(maxSteps:=1000000)(disch:=(try simp only[awL]);omega)only[awS,sl,nl,↓awU,awY,↓reduceIte,↓reduceDIte,↓Qe,Qu,Qv,Qw,Qx,Qy,Qz,QA,QB,QC,QD,QE,QF,QG,QH,QI,QK]
    first
    | exact ⟨⟨m,ks,l,k2+1⟩,⟨b1,b2,by simp only;omega⟩,by simp only;omega,⟨[some 0,some 1,some 2,some 3,some 4],rfl,by simp,by simp[sA,Aw,SW,AW],by simp[HW,BW,SW,AW]⟩⟩
   ·rw[WV hm] at b1
    rw[decide_eq_false hm]
    have hnd:=hn (k2+1)
    generalize CO t d (k2+1)=nn at *
    obtain ⟨⟨na,nb,nc,ne⟩,k3⟩:=nn
    simp only at hnd b1
    simp(maxSteps:=1000000)(disch:=(try simp only[awL]);omega)only[awS,sl,nl,↓awU,awY,↓reduceIte,↓reduceDIte,↓Qe,Qu,Qv,Qw,Qx,Qy,Qz,QA,QB,QC,QD,QE,QF,QG,QH,QI,QK]
    refine Ab.by hnd (by rfl) (by rfl) (AdZ _) ?_
    simp(maxSteps:=1000000)(disch:=(try simp only[awL]);omega)only[awS,sl,nl,ndC,↓awU,awY,↓reduceIte,↓reduceDIte,↓Qe,Qu,Qv,Qw,Qx,Qy,Qz,QA,QB,QC,QD,QE,QF,QG,QH,QI,QK]
    have hs1:strs (ks++[IM t k2])=strs ks++[.str (bs (IM t k2))]:=by simp[strs]
    have hs2:AY (l++[.mk na nb nc ne])=AY l++[.int .i64 na,.str (bs nb),.sl nc.length false (strs nc),.sl ne.length false (AY ne)]:=by rw[Gv];rfl
    first
    | exact ⟨by rfl,by rfl,⟨m,ks++[IM t k2],l++[.mk na nb nc ne],k3⟩,⟨b1,by simp[b2],by simp;omega⟩,by simp only;omega,⟨[some 0,some 1,some 2,some 7,some 9],rfl,by simp,by simp[sA,Aw,SW,AW],by simp[HW,BW,SW,AW,hs1,hs2,cut]⟩⟩
theorem Sw (f:Nat→Nd × Nat) (m:Nat) (l:List Nd) (k:Nat):FW f (m+1) l k=FW f m (l++[(f k).1]) (f k).2:=rfl
theorem AaG:[D.str (bs Hd),D.str (bs Hf)]=strs [Hd,Hf]:=rfl
structure KidS where
 m:Nat
 l:List Nd
 k:Nat
theorem LC (t:List Int) (ht:OkM t) (d:Nat) (hd:d≤1000) (hn:d=0∨Uh G t d):Uh G t (d+1):=by
 intro k
 obtain ⟨c,hc,hc2⟩:=pk_nat t k 8 (by decide)
 obtain ⟨r,hr⟩:∃ r,r=CO t (d+1) k:=⟨_,rfl⟩
 rw[←hr]
 unfold CO at hr
 rw[hc] at hr
 refine Ctr.body (M:=M0) Am Tryz.func11 rfl go11 ?_
 simp(maxSteps:=1000000)(disch:=(try simp only[awL]);omega)only[awS,Tryz.f11,↓awU,awY,↓reduceIte,↓reduceDIte,↓Qe,Qu,Qv,Qw,Qx,Qy,Qz,QA,QB,QC,QD,QE,QF,QG,QH,QI,QK]
 refine Ab.by (pick_spec t k 8 ht (by decide) (by decide)) (by rfl) (by rfl) (AdZ _) ?_
 rw[hc]
 by_cases c0:c=0
 ·subst c0
  rw[if_pos (by omega)] at hr
  subst hr
  simp(maxSteps:=1000000)(disch:=(try simp only[awL]);omega)only[awS,↓awU,awY,↓reduceIte,↓reduceDIte,↓Qe,Qu,Qv,Qw,Qx,Qy,Qz,QA,QB,QC,QD,QE,QF,QG,QH,QI,QK]
  first
  | (refine ⟨[some 0],rfl,by simp,by simp[HW,BW,SW,AW],.inr ⟨_,rfl,?_,rfl⟩⟩;rfl)
 ·rw[if_neg (by omega)] at hr
  have i0:¬((c:Int)=0):=by omega
  by_cases c1:c=1
  ·subst c1
   rw[if_pos (by omega)] at hr
   obtain ⟨a,ha,ha2⟩:=pk_nat t (k+1) 2 (by decide)
   simp(maxSteps:=1000000)(disch:=(try simp only[awL]);omega)only[awS,AaG,strs_unf,↓awU,awY,↓reduceIte,↓reduceDIte,↓Qe,Qu,Qv,Qw,Qx,Qy,Qz,QA,QB,QC,QD,QE,QF,QG,QH,QI,QK]
   refine Ab.by (pick_spec t (k+1) 2 ht (by decide) (by decide)) (by rfl) (by rfl) (AdZ _) ?_
   rw[ha]
   rw[ha] at hr
   rcases (by omega:a=0∨a=1) with rfl | rfl
   ·rw[if_pos (by omega)] at hr
    subst hr
    simp(maxSteps:=1000000)(disch:=(try simp only[awL]);omega)only[awS,↓awU,awY,↓reduceIte,↓reduceDIte,↓Qe,Qu,Qv,Qw,Qx,Qy,Qz,QA,QB,QC,QD,QE,QF,QG,QH,QI,QK]
    first
    | (refine ⟨[some 0],rfl,by simp,by simp[HW,BW,SW,AW],.inr ⟨_,rfl,?_,rfl⟩⟩;rfl)
   ·rw[if_neg (by omega)] at hr
    subst hr
    simp(maxSteps:=1000000)(disch:=(try simp only[awL]);omega)only[awS,↓awU,awY,↓reduceIte,↓reduceDIte,↓Qe,Qu,Qv,Qw,Qx,Qy,Qz,QA,QB,QC,QD,QE,QF,QG,QH,QI,QK]
    first
    | (refine ⟨[some 0],rfl,by simp,by simp[HW,BW,SW,AW],.inr ⟨_,rfl,?_,rfl⟩⟩;rfl)
  ·rw[if_neg (by omega)] at hr
   have i1:¬((c:Int)=1):=by omega
   by_cases c2:c=2
   ·subst c2
    rw[if_pos (by omega)] at hr
    simp(maxSteps:=1000000)(disch:=(try simp only[awL]);omega)only[awS,↓awU,awY,↓reduceIte,↓reduceDIte,↓Qe,Qu,Qv,Qw,Qx,Qy,Qz,QA,QB,QC,QD,QE,QF,QG,QH,QI,QK]
    refine Ab.by (Gr t (k+1) ht) (by rfl) (by rfl) (AdZ _) ?_
    subst hr
    generalize HL t (k+1)=q
    simp(maxSteps:=1000000)(disch:=(try simp only[awL]);omega)only[awS,↓awU,awY,↓reduceIte,↓reduceDIte,↓Qe,Qu,Qv,Qw,Qx,Qy,Qz,QA,QB,QC,QD,QE,QF,QG,QH,QI,QK]
    first
    | (refine ⟨[some 0],rfl,by simp,by simp[HW,BW,SW,AW],.inr ⟨_,rfl,?_,rfl⟩⟩;rfl)
   ·rw[if_neg (by omega)] at hr
    have i2:¬((c:Int)=2):=by omega
    by_cases c5:c<5∨d=0
    ·rw[if_pos (by omega)] at hr
     obtain ⟨a,ha,ha2⟩:=pk_nat t (k+1) 8 (by decide)
     rw[ha,Af2] at hr
     rcases (by omega:c<5∨(¬c<5∧d=0)) with c5' | ⟨c5',d0⟩
     ·have i5:(c:Int)<5:=by omega
      simp(maxSteps:=1000000)(disch:=(try simp only[awL]);omega)only[awS,i0,i1,i2,i5,↓awU,awY,↓reduceIte,↓reduceDIte,↓Qe,Qu,Qv,Qw,Qx,Qy,Qz,QA,QB,QC,QD,QE,QF,QG,QH,QI,QK]
      refine Ab.by (pick_spec t (k+1) 8 ht (by decide) (by decide)) (by rfl) (by rfl) (AdZ _) ?_
      rw[ha]
      simp(maxSteps:=1000000)(disch:=(try simp only[awL]);omega)only[awS,↓awU,awY,↓reduceIte,↓reduceDIte,↓Qe,Qu,Qv,Qw,Qx,Qy,Qz,QA,QB,QC,QD,QE,QF,QG,QH,QI,QK]
      refine Ab.by (J6 t (k+1+1) a ht (by omega)) (by rfl) (by rfl) (AdZ _) ?_
      subst hr
      generalize Ex t (k+1+1) a=q
      simp(maxSteps:=1000000)(disch:=(try simp only[awL]);omega)only[awS,↓awU,awY,↓reduceIte,↓reduceDIte,↓Qe,Qu,Qv,Qw,Qx,Qy,Qz,QA,QB,QC,QD,QE,QF,QG,QH,QI,QK]
      first
      | (refine ⟨[some 0],rfl,by simp,by simp[HW,BW,SW,AW],.inr ⟨_,rfl,?_,rfl⟩⟩;rfl)
     ·subst d0
      have i5:¬((c:Int)<5):=by omega
      simp(maxSteps:=1000000)(disch:=(try simp only[awL]);omega)only[awS,i0,i1,i2,i5,↓awU,awY,↓reduceIte,↓reduceDIte,↓Qe,Qu,Qv,Qw,Qx,Qy,Qz,QA,QB,QC,QD,QE,QF,QG,QH,QI,QK]
      refine Ab.by (pick_spec t (k+1) 8 ht (by decide) (by decide)) (by rfl) (by rfl) (AdZ _) ?_
      rw[ha]
      simp(maxSteps:=1000000)(disch:=(try simp only[awL]);omega)only[awS,↓awU,awY,↓reduceIte,↓reduceDIte,↓Qe,Qu,Qv,Qw,Qx,Qy,Qz,QA,QB,QC,QD,QE,QF,QG,QH,QI,QK]
      refine Ab.by (J6 t (k+1+1) a ht (by omega)) (by rfl) (by rfl) (AdZ _) ?_
      subst hr
      generalize Ex t (k+1+1) a=q
      simp(maxSteps:=1000000)(disch:=(try simp only[awL]);omega)only[awS,↓awU,awY,↓reduceIte,↓reduceDIte,↓Qe,Qu,Qv,Qw,Qx,Qy,Qz,QA,QB,QC,QD,QE,QF,QG,QH,QI,QK]
      first
      | (refine ⟨[some 0],rfl,by simp,by simp[HW,BW,SW,AW],.inr ⟨_,rfl,?_,rfl⟩⟩;rfl)
    ·rw[if_neg (by omega)] at hr
     have hn:=hn.resolve_left (by omega)
     have i5:¬((c:Int)<5):=by omega
     have id:¬(((d+1:Nat):Int)<2):=by omega
     by_cases c6:c=5
     ·subst c6
      rw[if_pos (by omega)] at hr
      obtain ⟨m0,hm0,hm1⟩:=pk_nat t (k+1) 4 (by decide)
      rw[hm0,Af2] at hr
      simp(maxSteps:=1000000)(disch:=(try simp only[awL]);omega)only[awS,i0,i1,i2,i5,id,↓awU,awY,↓reduceIte,↓reduceDIte,↓Qe,Qu,Qv,Qw,Qx,Qy,Qz,QA,QB,QC,QD,QE,QF,QG,QH,QI,QK]
      refine Ab.by (pick_spec t (k+1) 4 ht (by decide) (by decide)) (by rfl) (by rfl) (AdZ _) ?_
      rw[hm0]
      simp(maxSteps:=1000000)(disch:=(try simp only[awL]);omega)only[awS,↓awU,awY,↓reduceIte,↓reduceDIte,↓Qe,Qu,Qv,Qw,Qx,Qy,Qz,QA,QB,QC,QD,QE,QF,QG,QH,QI,QK]
      refine Au.fr 83 (α:=KidS) (fun x=>x.m) (fun x=>[(7,.d (.int .i64 (x.m:Nat)))]) (fun x=>[DiceM t x.k,.box zN7,.box [.d (.int .i64 5),.d (.str ByteArray.empty),.d (.sl 0 true []),.lsl 3 4 0 x.l.length],.row false (AY x.l)])
       (fun x=>FW (CO t d) x.m x.l x.k=FW (CO t d) m0 [] (k+2)∧x.l.length+x.m≤3) ⟨m0,[],k+2⟩ ⟨rfl,by simp;omega⟩ ?_ ?_
      ·first
       | exact ⟨[some 0,some 1,some 2,none],rfl,by simp,by simp[sA,Aw,SW,AW],by simp[HW,BW,SW,AW,AY]⟩
      ·rintro ⟨m,l,k2⟩ ⟨b1,b3⟩
       simp only at b1 b3
       simp only[awK,AfU,AfV,reduceIte]
       have nl:=BK l
       cases m with
       | zero =>
        rw[FW] at b1
        rw[←b1] at hr
        subst hr
        simp(maxSteps:=1000000)(disch:=(try simp only[awL]);omega)only[awS,nl,↓awU,awY,↓reduceIte,↓reduceDIte,↓Qe,Qu,Qv,Qw,Qx,Qy,Qz,QA,QB,QC,QD,QE,QF,QG,QH,QI,QK]
        have q2:cut (AY l) 0 (l.length*4)=AY l:=IX (by omega)
        refine ⟨[some 0],rfl,by simp,by simp[HW,BW,SW,AW],.inr ⟨.agg [.int .i64 5,.str ByteArray.empty,.sl 0 true [],.sl l.length false (cut (AY l) 0 (l.length*4))],rfl,?_,rfl⟩⟩
        rw[q2]
        rfl
       | succ m =>
        rw[Sw] at b1
        have hnd:=hn k2
        generalize CO t d k2=nn at *
        obtain ⟨⟨na,nb,nc,ne⟩,k3⟩:=nn
        simp only at hnd b1
        simp(maxSteps:=1000000)(disch:=(try simp only[awL]);omega)only[awS,nl,↓awU,awY,↓reduceIte,↓reduceDIte,↓Qe,Qu,Qv,Qw,Qx,Qy,Qz,QA,QB,QC,QD,QE,QF,QG,QH,QI,QK]
        refine Ab.by hnd (by rfl) (by rfl) (AdZ _) ?_
        simp(maxSteps:=1000000)(disch:=(try simp only[awL]);omega)only[awS,nl,ndC,↓awU,awY,↓reduceIte,↓reduceDIte,↓Qe,Qu,Qv,Qw,Qx,Qy,Qz,QA,QB,QC,QD,QE,QF,QG,QH,QI,QK]
        have hs2:AY (l++[.mk na nb nc ne])=AY l++[.int .i64 na,.str (bs nb),.sl nc.length false (strs nc),.sl ne.length false (AY ne)]:=by rw[Gv];rfl
        first
        | exact ⟨by rfl,by rfl,⟨m,l++[.mk na nb nc ne],k3⟩,⟨b1,by simp;omega⟩,by simp only;omega,⟨[some 0,some 1,some 2,some 5],rfl,by simp,by simp[sA,Aw,SW,AW],by simp[HW,BW,SW,AW,hs2,cut]⟩⟩
     ·rw[if_neg (by omega)] at hr
      have i6:¬((c:Int)=5):=by omega
      have hrec:=FB (G:=G) t ht d hd hn (k+1)
      rw[←hr] at hrec
      obtain ⟨⟨na,nb,nc,ne⟩,k3⟩:=r
      simp(maxSteps:=1000000)(disch:=(try simp only[awL]);omega)only[awS,i0,i1,i2,i5,i6,id,↓awU,awY,↓reduceIte,↓reduceDIte,↓Qe,Qu,Qv,Qw,Qx,Qy,Qz,QA,QB,QC,QD,QE,QF,QG,QH,QI,QK]
      refine Ab.by hrec (by rfl) (by rfl) (AdZ _) ?_
      simp(maxSteps:=1000000)(disch:=(try simp only[awL]);omega)only[awS,ndC,↓awU,awY,↓reduceIte,↓reduceDIte,↓Qe,Qu,Qv,Qw,Qx,Qy,Qz,QA,QB,QC,QD,QE,QF,QG,QH,QI,QK]
      first
      | (refine ⟨[some 0],rfl,by simp,by simp[HW,BW,SW,AW],.inr ⟨_,rfl,?_,rfl⟩⟩;rfl)
theorem LD (t:List Int) (ht:OkM t):∀ d:Nat,d≤1000→Uh G t (d+1)
 | 0,h=>LC t ht 0 (by omega) (.inl rfl)
 | d+1,h=>LC t ht (d+1) (by omega) (.inr (LD t ht d (by omega)))
theorem Lc (c:Col) (fa fb:Bool) (hc:c.cells.length≤1000000):Ctr TP G 67 [.d (.agg [S c.name,RS c.cells fa]),.d (.agg [S c.name,RS c.cells fb])] [] (.d (.bool true)) []:=by
 refine Ctr.pure (M:=M0) Am Tryz.func67 rfl go67 ?_
 have lc:=Bv c.cells
 simp(maxSteps:=1000000)(disch:=(try simp only[awL]);omega)only[awS,lc,Tryz.f67,↓awU,awY,↓reduceIte,↓reduceDIte,↓Qe,Qu,Qv,Qw,Qx,Qy,Qz,QA,QB,QC,QD,QE,QF,QG,QH,QI,QK]
 refine Au.fr 4194316 (α:=Nat) (fun i=>c.cells.length-i) (fun i=>[(23,.d (.int .i64 (i:Nat)))]) (fun _=>[.box [.d (S c.name),.d (RS c.cells fa)],.box [.d (S c.name),.d (RS c.cells fb)]]) (fun i=>i≤c.cells.length) 0 (Af4 _) ?_ ?_
 ·exact ⟨[some 0,some 1],rfl,by simp,by simp[sA,Aw,SW,AW],by simp[HW,BW,SW,AW]⟩
 ·intro i hi
  simp only[awK,AfU,AfV,reduceIte]
  rcases Af3 i c.cells.length with h6 | h6
  ·have gc:=JB h6
   generalize c.cells.getD i noC=x at *
   simp(maxSteps:=1000000)(disch:=(try simp only[awL]);omega)only[awS,lc,gc,beq_self_eq_true,↓awU,awY,↓reduceIte,↓reduceDIte,↓Qe,Qu,Qv,Qw,Qx,Qy,Qz,QA,QB,QC,QD,QE,QF,QG,QH,QI,QK]
   exact ⟨by rfl,i+1,h6,by simp only;omega,⟨[some 0,some 1],rfl,by simp,by simp[sA,Aw,SW,AW],by simp[HW,BW,SW,AW]⟩⟩
  ·simp(maxSteps:=1000000)(disch:=(try simp only[awL]);omega)only[awS,lc,↓awU,awY,↓reduceIte,↓reduceDIte,↓Qe,Qu,Qv,Qw,Qx,Qy,Qz,QA,QB,QC,QD,QE,QF,QG,QH,QI,QK]
   first | done | rfl | exact ⟨by rfl,by rfl⟩
theorem UB (t:Tab) (fa fb:Bool) (ht:UR t):Ctr TP G 36 [.d (RG t fa),.d (RG t fb)] [] (.d (.bool true)) []:=by
 obtain ⟨id,name,cols⟩:=t
 obtain ⟨s1,s2,s3⟩:=ht
 simp only at s1 s2 s3 ⊢
 have cl:=A9 cols
 refine Ctr.pure (M:=M0) Am Tryz.func36 rfl go36 ?_
 simp(maxSteps:=1000000)(disch:=(try simp only[awL]);omega)only[awS,cl,Tryz.f36,↓awU,awY,↓reduceIte,↓reduceDIte,↓Qe,Qu,Qv,Qw,Qx,Qy,Qz,QA,QB,QC,QD,QE,QF,QG,QH,QI,QK]
 refine Au.fr 536870924 (α:=Nat) (fun i=>cols.length-i) (fun i=>[(30,.d (.int .i64 (i:Nat)))]) (fun _=>[.box [.d (.int .i64 id),.d (S name),.d (Kw cols fa)],.box [.d (.int .i64 id),.d (S name),.d (Kw cols fb)]]) (fun i=>i≤cols.length) 0 (Af4 _) ?_ ?_
 ·exact ⟨[some 0,some 1],rfl,by simp,by simp[sA,Aw,SW,AW],by simp[HW,BW,SW,AW]⟩
 ·intro i hi
  simp only[awK,AfU,AfV,reduceIte]
  rcases Af3 i cols.length with h6 | h6
  ·have gc:=Fp h6
   obtain ⟨y1,y2,y3⟩:=s3 _ (EF (d:=LF) h6)
   generalize cols.getD i LF=x at *
   simp(maxSteps:=1000000)(disch:=(try simp only[awL]);omega)only[awS,cl,gc,↓awU,awY,↓reduceIte,↓reduceDIte,↓Qe,Qu,Qv,Qw,Qx,Qy,Qz,QA,QB,QC,QD,QE,QF,QG,QH,QI,QK]
   refine Ab.of (Lc x false false y2) (by rfl) ?_
   simp(maxSteps:=1000000)(disch:=(try simp only[awL]);omega)only[awS,cl,gc,↓awU,awY,↓reduceIte,↓reduceDIte,↓Qe,Qu,Qv,Qw,Qx,Qy,Qz,QA,QB,QC,QD,QE,QF,QG,QH,QI,QK]
   exact ⟨by rfl,i+1,h6,by simp only;omega,⟨[some 0,some 1],rfl,by simp,by simp[sA,Aw,SW,AW],by simp[HW,BW,SW,AW]⟩⟩
  ·simp(maxSteps:=1000000)(disch:=(try simp only[awL]);omega)only[awS,cl,↓awU,awY,↓reduceIte,↓reduceDIte,↓Qe,Qu,Qv,Qw,Qx,Qy,Qz,QA,QB,QC,QD,QE,QF,QG,QH,QI,QK]
   first | done | rfl | exact ⟨by rfl,by rfl⟩
def noT:Tab:=⟨0,[],[]⟩
theorem MN:∀ {l:List Tab} {k:Nat},k<l.length→((B7 l).drop (k*3)).take 3=JK (l.getD k noT)
 | [],k,h=>absurd h (Nat.not_lt_zero _)
 | o::l,0,_=>by simp[B7]
 | o::l,k+1,h=>by
   have ih:=MN (l:=l) (k:=k) (by simpa using h)
   have e2:B7 (o::l)=JK o++B7 l:=rfl
   rw[e2,List.drop_append,show (JK o).length=3 from rfl,AfW (by simp;omega),Agk,show (k+1)*3-3=k*3 by omega,ih]
   simp
theorem Mu (l:List Tab) (fa fb:Bool) (hl:l.length≤1000000) (hs:∀ t∈l,UR t):Ctr TP G 15 [.d (.sl l.length fa (B7 l)),.d (.sl l.length fb (B7 l))] [] (.d (.bool true)) []:=by
 have tl:=Dl l
 refine Ctr.pure (M:=M0) Am Tryz.func15 rfl go15 ?_
 simp(maxSteps:=1000000)(disch:=(try simp only[awL]);omega)only[awS,tl,Tryz.f15,↓awU,awY,↓reduceIte,↓reduceDIte,↓Qe,Qu,Qv,Qw,Qx,Qy,Qz,QA,QB,QC,QD,QE,QF,QG,QH,QI,QK]
 refine Au.fr 4099 (α:=Nat) (fun i=>l.length-i) (fun i=>[(13,.d (.int .i64 i))]) (fun _=>[]) (fun i=>i≤l.length) 0 (Af4 _) ?_ ?_
 ·exact ⟨[],rfl,by simp,by simp[sA,Aw,SW,AW],by simp[HW,BW,SW,AW]⟩
 ·intro i hi
  simp only[awK,AfU,AfV,reduceIte]
  rcases Af3 i l.length with h | h
  ·have g:=MN h
   have hm:=hs _ (EF (d:=noT) h)
   generalize l.getD i noT=t at *
   simp(maxSteps:=1000000)(disch:=(try simp only[awL]);omega)only[awS,tl,g,↓awU,awY,↓reduceIte,↓reduceDIte,↓Qe,Qu,Qv,Qw,Qx,Qy,Qz,QA,QB,QC,QD,QE,QF,QG,QH,QI,QK]
   refine Ab.of (UB t false false hm) (by rfl) ?_
   simp(maxSteps:=1000000)(disch:=(try simp only[awL]);omega)only[awS,↓awU,awY,↓reduceIte,↓reduceDIte,↓Qe,Qu,Qv,Qw,Qx,Qy,Qz,QA,QB,QC,QD,QE,QF,QG,QH,QI,QK]
   first
   | exact ⟨by rfl,i+1,h,by simp only;omega,⟨[],rfl,by simp,by simp[sA,Aw,SW,AW],by simp[HW,BW,SW,AW]⟩⟩
   | exact ⟨i+1,h,by simp only;omega,⟨[],rfl,by simp,by simp[sA,Aw,SW,AW],by simp[HW,BW,SW,AW]⟩⟩
  ·simp(maxSteps:=1000000)(disch:=(try simp only[awL]);omega)only[awS,tl,↓awU,awY,↓reduceIte,↓reduceDIte,↓Qe,Qu,Qv,Qw,Qx,Qy,Qz,QA,QB,QC,QD,QE,QF,QG,QH,QI,QK]
theorem TX {P:Nd→Prop} {f:Nat→Nd × Nat} (hf:∀ k,P (f k).1):∀ (m:Nat) (l:List Nd) (k:Nat),(∀ n∈l,P n)→(∀ n∈(FW f m l k).1,P n)∧(FW f m l k).1.length=l.length+m
 | 0,l,k,h=>⟨h,rfl⟩
 | m+1,l,k,h=>by
   obtain ⟨h1,h2⟩:=TX hf m (l++[(f k).1]) (f k).2 fun n hn=>by
    rcases AdX.1 hn with hn | hn
    ·exact h n hn
    ·rw[AdV.1 hn];exact hf k
   refine ⟨h1,?_⟩
   rw[FW,h2,AdY]
   simp only[Afv,Ae3]
   omega
theorem OL {P:Nd→Prop} {t:List Int} {f:Nat→Nd × Nat} (hf:∀ k,P (f k).1):∀ (m:Nat) (ks:List (List UInt8)) (l:List Nd) (k:Nat),(∀ n∈l,P n)→ks.Nodup→(∀ s∈ks,s∈EP∨s=[])→ks.length=l.length →
  (∀ n∈(CU t f m ks l k).1.2,P n)∧(CU t f m ks l k).1.1.Nodup∧(∀ s∈(CU t f m ks l k).1.1,s∈EP∨s=[])∧(CU t f m ks l k).1.1.length=(CU t f m ks l k).1.2.length∧(CU t f m ks l k).1.2.length≤l.length+m
 | 0,ks,l,k,h,h2,h3,h4=>⟨h,h2,h3,h4,AdZ _⟩
 | m+1,ks,l,k,h,h2,h3,h4=>by
   rw[CU]
   split
   ·obtain ⟨a1,a2,a3,a4,a5⟩:=OL hf m ks l (k+1) h h2 h3 h4
    exact ⟨a1,a2,a3,a4,by omega⟩
   ·rename_i hk
    obtain ⟨a1,a2,a3,a4,a5⟩:=OL (t:=t) hf m (ks++[IM t k]) (l++[(f (k+1)).1]) (f (k+1)).2 (fun n hn=>by
     rcases AdX.1 hn with hn | hn
     ·exact h n hn
     ·rw[AdV.1 hn];exact hf _) (Afw.2 ⟨h2,by simp,fun x hx y hy e=>hk (by rw[AdV.1 hy] at e;rw[←e];exact hx)⟩) (fun s hs=>by
     rcases AdX.1 hs with hs | hs
     ·exact h3 s hs
     ·rw[AdV.1 hs]
      unfold IM
      rcases Af3 (pk t k 6).toNat EP.length with q | q
      ·exact .inl (EF q)
      ·right;rw[Ae1,Af9 q];rfl) (by simp[h4])
    refine ⟨a1,a2,a3,a4,?_⟩
    rw[AdY] at a5
    simp only[Afv,Ae3] at a5
    omega
mutual
def txN:Nd→Prop
 | .mk _ t ks l=>t.length≤40∧(∀ s∈ks,s.length≤40)∧Aac l
def Aac:List Nd→Prop
 | []=>True
 | n::r=>txN n∧Aac r
end
theorem Oc:∀ {l:List Nd},(∀ n∈l,txN n)→Aac l
 | [],_=>trivial
 | n::r,h=>⟨h n (by simp),Oc fun x hx=>h x (AcB _ hx)⟩
def zM:Nat→Nat
 | 0=>0
 | d+1=>1+3*zM d
structure GN (d:Nat) (n:Nd):Prop where
 ok:∀ a,a+d≤16→Ba n a=true
 sz:nsz n≤zM d
 ka:kA n
 w:wN n≤3^(d-1)
 q:qN n≤nsz n
 tx:txN n
theorem Ady:∀ s∈EP,AL s∧s.length≤3:=by
 intro s hs
 simp only[EP,Ad0,Af6,or_false] at hs
 rcases hs with rfl | rfl | rfl | rfl | rfl | rfl<;>exact ⟨by unfold AL;decide,by decide⟩
theorem WK {s:List UInt8} (h:s∈EP∨s=[]):AL s∧s.length≤3:=by
 rcases h with h | h
 ·exact Ady s h
 ·subst h;exact ⟨CA,by decide⟩
theorem N7 {w:Nat}:∀ {l:List Nd},(∀ n∈l,wN n≤w)→wNs l≤w*l.length
 | [],_=>Af4 _
 | n::r,h=>by
   have h1:=h n (by simp)
   have h2:=N7 (l:=r) fun x hx=>h x (AcB _ hx)
   rw[wNs,Afv,Nat.mul_succ]
   omega
theorem Ov:∀ {l:List Nd},(∀ n∈l,qN n≤nsz n)→qNs l≤Cc l
 | [],_=>Af4 _
 | n::r,h=>by
   have h1:=h n (by simp)
   have h2:=Ov (l:=r) fun x hx=>h x (AcB _ hx)
   rw[qNs,Cc]
   omega
theorem SI (t:List Int) (k c:Nat):Bb (Ex t k c)=true:=by
 have num:=fun k=>L8 (Ng t k)
 have asc:∀ s:List UInt8,AL s→s.length≤40→(∀ b∈s,Kq b=false)→Bb s=true:=fun s h1 h2 h3=>by
  unfold Bb
  rw[decide_eq_true (show s.length≤1024 by omega),CI s h1,Agf.2 fun b hb=>by rw[h3 b hb];simp];rfl
 have fall:∀ (l:List (List UInt8)) (i:Nat),(∀ s∈l,Bb s=true)→Bb (l.getD i [])=true:=fun l i h=>by
  rcases Af3 i l.length with q | q
  ·exact h _ (EF q)
  ·rw[Ae1,Af9 q];rfl
 have fapp:∀ a b:List UInt8,Bb a=true→Bb b=true→a.length+b.length≤1024→Bb (a++b)=true:=fun a b h1 h2 h3=>by
  unfold Bb at h1 h2 ⊢
  simp only[AfT,decide_eq_true_eq,Bool.not_eq_true'] at h1 h2 ⊢
  refine ⟨by rw[AdY];omega,Uk h1.2.1 h2.2.1,?_⟩
  rw[List.any_append,h1.2.2,h2.2.2];rfl
 have one:Bb [45]=true∧Bb [47]=true∧Bb [46]=true:=by decide
 have fy:∀ s∈DD,Bb s=true:=by decide
 have fm:∀ s∈CR,Bb s=true:=by decide
 have fd:∀ s∈Fo,Bb s=true:=by decide
 have fu:∀ s∈E1,Bb s=true:=by decide
 have ly:=fun i=>BX (l:=DD) (m:=4) (by decide) i
 have lm:=fun i=>BX (l:=CR) (m:=2) (by decide) i
 have ld:=fun i=>BX (l:=Fo) (m:=2) (by decide) i
 unfold Ex
 repeat' split
 ·exact fall _ _ SG
 ·exact num k
 ·unfold J8
  simp only
  have y:=fall DD (pk t k 6).toNat fy
  have m:=fall CR (pk t (k+1) 5).toNat fm
  have d:=fall Fo (pk t (k+2) 5).toNat fd
  have y2:=ly (pk t k 6).toNat
  have m2:=lm (pk t (k+1) 5).toNat
  have d2:=ld (pk t (k+2) 5).toNat
  generalize DD.getD (pk t k 6).toNat []=ys at *
  generalize CR.getD (pk t (k+1) 5).toNat []=ms at *
  generalize Fo.getD (pk t (k+2) 5).toNat []=ds at *
  have join:∀ (a b c:List UInt8) (x:UInt8),Bb a=true→Bb b=true→Bb c=true→Bb [x]=true→a.length≤4→b.length≤4→c.length≤4→Bb (a++[x]++b++[x]++c)=true:=fun a b c x h1 h2 h3 h4 l1 l2 l3 =>
   fapp _ _ (fapp _ _ (fapp _ _ (fapp _ _ h1 h4 (by simp;omega)) h2 (by simp;omega)) h4 (by simp;omega)) h3 (by simp;omega)
  split
  ·exact join ys ms ds 45 y m d one.1 (by omega) (by omega) (by omega)
  ·split
   ·exact join ys ms ds 47 y m d one.2.1 (by omega) (by omega) (by omega)
   ·exact join ds ms ys 46 d m y one.2.2 (by omega) (by omega) (by omega)
 ·exact fall _ _ SJ
 ·have:=(Gs t k).2
  have l2:=BX (l:=E1) (m:=4) (by decide) (pk t (Mw t k) 7).toNat
  exact fapp _ _ (num k) (fall _ _ fu) (by omega)
 ·exact fall _ _ SH
 ·exact fall _ _ UZ
theorem IL {d:Nat} {k:Int} {t:List UInt8} (h1:1≤k∧k≤4) (h2:DC k t=true) (h3:t.length≤40):GN (d+1) (.mk k t [] []):=by
 refine ⟨fun a ha=>?_,?_,⟨fun s hs=>(by cases hs),trivial⟩,?_,?_,⟨h3,fun s hs=>(by cases hs),trivial⟩⟩
 ·rw[Ba,h2,decide_eq_true (show 1≤k∧k≤6 by omega),decide_eq_true (show a<16 by omega)]
  unfold EO
  rw[if_neg (by omega)]
  simp[Dg]
 ·rw[nsz,zM,Cc];omega
 ·rw[wN,if_neg (by omega)];exact Nat.one_le_pow _ _ (by omega)
 ·rw[qN,if_neg (by omega),qNs];omega
theorem Sj {d:Nat} {t:List Int} {f:Nat→Nd × Nat} (hf:∀ k,GN (d+1) (f k).1) (k:Nat):GN (d+2) (Gn t f k).1∧(Gn t f k).1.kind=6∧(Gn t f k).1.text=[]:=by
 have hr:=@pk_range t k 4 (by decide)
 obtain ⟨a1,a2,a3,a4,a5⟩:=OL (P:=GN (d+1)) (t:=t) hf (pk t k 4).toNat [] [] (k+1) (fun n hn=>by cases hn) Aga (fun s hs=>by cases hs) rfl
 unfold Gn
 generalize CU t f (pk t k 4).toNat [] [] (k+1)=r at *
 obtain ⟨⟨ks,l⟩,k2⟩:=r
 simp only at a1 a2 a3 a4 a5 ⊢
 simp only[Ae3] at a5
 have h3:l.length≤3:=by omega
 refine ⟨⟨fun a ha=>?_,?_,⟨fun s hs=>WK (a3 s hs),SA fun n hn=>(a1 n hn).ka⟩,?_,?_,⟨by simp,fun s hs=>by have:=(WK (a3 s hs)).2;omega,Oc fun n hn=>(a1 n hn).tx⟩⟩,rfl,rfl⟩
 ·rw[Ba,DH fun n hn=>(a1 n hn).ok (a+1) (by omega)]
  have e1:EO 6 ks l.length=true:=by
   rw[EO,if_pos rfl,a4,decide_eq_true rfl,decide_eq_true a2,Af7.2 fun s hs=>U0 (a3 s hs)]
   rfl
  rw[e1,decide_eq_true (show a<16 by omega)]
  rfl
 ·rw[nsz,zM]
  have:=KG (l:=l) (z:=zM (d+1)) fun n hn=>(a1 n hn).sz
  have:=AfY (zM (d+1)) h3
  omega
 ·rw[wN,if_pos (.inr rfl)]
  have h1:=N7 (l:=l) (w:=3^d) fun n hn=>(a1 n hn).w
  have h2:=AfY (3^d) h3
  show wNs l≤3^(d+1)
  rw[Agq]
  omega
 ·rw[qN,if_neg (by decide),nsz]
  have:=Ov (l:=l) fun n hn=>(a1 n hn).q
  omega
theorem KH (t:List Int):∀ (d k:Nat),GN (d+1) (CO t (d+1) k).1
 | d,k=>by
   have hk:=@pk_range t k 8 (by decide)
   rw[CO]
   split
   ·exact IL (by decide) rfl (by simp)
   ·split
    ·split
     ·exact IL (by decide) (by decide) (by decide)
     ·exact IL (by decide) (by decide) (by decide)
    ·split
     ·exact IL (by decide) (by show DC 3 _=true;unfold DC;rw[if_neg (by decide),if_pos rfl];exact Ng t (k+1)) (by have:=(Gs t (k+1)).2;show (HL t (k+1)).length≤40;omega)
     ·split
      ·refine IL (by decide) ?_ (by have:=(U1 t (k+2) (pk t (k+1) 8).toNat).2;show (Ex t (k+2) (pk t (k+1) 8).toNat).length≤40;omega)
       show DC 4 _=true
       unfold DC
       rw[if_neg (by decide),if_neg (by decide),if_pos rfl]
       exact SI _ _ _
      ·rename_i hd
       obtain ⟨e,rfl⟩:∃ e,d=e+1:=⟨d-1,by omega⟩
       split
       ·have hr:=@pk_range t (k+1) 4 (by decide)
        obtain ⟨a1,a2⟩:=TX (P:=GN (e+1)) (KH t e) (pk t (k+1) 4).toNat [] (k+2) fun n hn=>by cases hn
        generalize FW (CO t (e+1)) (pk t (k+1) 4).toNat [] (k+2)=r at *
        obtain ⟨l,k2⟩:=r
        simp only at a1 a2 ⊢
        simp only[Ae3] at a2
        have h3:l.length≤3:=by omega
        refine ⟨fun a ha=>?_,?_,⟨fun s hs=>(by cases hs),SA fun n hn=>(a1 n hn).ka⟩,?_,?_,⟨by simp,fun s hs=>(by cases hs),Oc fun n hn=>(a1 n hn).tx⟩⟩
        ·rw[Ba,DH fun n hn=>(a1 n hn).ok (a+1) (by omega),decide_eq_true (show a<16 by omega)]
         rfl
        ·rw[nsz,zM]
         have:=KG (l:=l) (z:=zM (e+1)) fun n hn=>(a1 n hn).sz
         have:=AfY (zM (e+1)) h3
         omega
        ·rw[wN,if_pos (.inl rfl)]
         have h1:=N7 (l:=l) (w:=3^e) fun n hn=>(a1 n hn).w
         have h2:=AfY (3^e) h3
         show wNs l≤3^(e+1)
         rw[Agq]
         omega
        ·rw[qN,if_pos rfl,nsz]
         have:=Ov (l:=l) fun n hn=>(a1 n hn).q
         omega
       ·exact (Sj (t:=t) (KH t e) (k+1)).1
theorem VT:∀ (N:Nat) (n:Nd) (a:Nat),nsz n≤N→Ba n a=true→nsz n≤100000→szN n
 | 0,n,_,h,_,_=>by have:=EM n;omega
 | N+1,n,a,hN,h,hz=>by
   have o:=E3 h
   have e:=FF n
   have hl:=Fh n.kids
   have hk:∀ k∈n.kids,szN k:=fun k hk=>by
    have:=IG hk
    exact VT N k (a+1) (by omega) (o.kids k hk) (by omega)
   refine Oe ⟨by have:=o.text;omega,fun s hs=>?_,hk⟩ ?_ (by omega)
   ·by_cases k6:n.kind=6
    ·have:=GD ((o.recd k6).2.2 s hs);omega
    ·rw[o.nrecd k6] at hs;cases hs
   ·by_cases k6:n.kind=6
    ·have:=(o.recd k6).1;omega
    ·rw[o.nrecd k6];simp
end Go.Proofs.YtmidaophnbdcdaaGreatDoor
namespace Go.Proofs.YtmidaophnbdcdaaGreatDoor
open Go Go.Proofs Go.Abs
variable {G:Ad}
theorem Mn:∀ (n:Nat) (s:Ly) (id:Int) (name:List UInt8) (ts:List Tab),(Cp n s id name ts).2=true→(∀ t∈ts,DZ t=true)→∀ t∈(Cp n s id name ts).1,DZ t=true
 | 0,s,id,name,ts,_,h=>h
 | n+1,s,id,name,ts,h1,h=>by
   rw[Cp] at h1 ⊢
   split at h1
   ·rename_i hc
    rw[if_pos hc]
    have ht:DZ (Eb s (id+ts.length) name).1=true:=by
     have:=hc.1
     unfold Eb at this ⊢
     split at this
     ·cases this
     ·rename_i q;rw[if_neg q];exact this
    have fold:∀ (ls:List (List UInt8)) (a:List Tab × Bool),(∀ t∈a.1,DZ t=true)→(ls.foldl (fun a p=>if a.2=true then Cp n (Ai true (s.it p)) id (name++[46]++p) a.1 else a) a).2=true →
      ∀ t∈(ls.foldl (fun a p=>if a.2=true then Cp n (Ai true (s.it p)) id (name++[46]++p) a.1 else a) a).1,DZ t=true:=by
     intro ls
     induction ls with
     | nil=>intro a ha _;exact ha
     | cons p ls ih =>
      intro a ha hb
      rw[AfZ] at hb ⊢
      have stay:∀ (ls:List (List UInt8)) (a:List Tab × Bool),a.2=false→(ls.foldl (fun a p=>if a.2=true then Cp n (Ai true (s.it p)) id (name++[46]++p) a.1 else a) a).2=false:=by
       intro ls
       induction ls with
       | nil=>intro a h;exact h
       | cons q ls ih=>intro a h;rw[AfZ,if_neg (by rw[h];simp)];exact ih a h
      by_cases ha2:a.2=true
      ·rw[if_pos ha2] at hb ⊢
       refine ih _ ?_ hb
       cases hr:(Cp n (Ai true (s.it p)) id (name++[46]++p) a.1).2 with
       | true=>exact Mn n _ id _ a.1 hr ha
       | false=>rw[stay ls _ hr] at hb;cases hb
      ·rw[if_neg ha2] at hb ⊢
       exact ih a ha hb
    exact fold s.lists _ (fun t htm=>by
     rcases AdX.1 htm with htm | htm
     ·exact h t htm
     ·rw[AdV.1 htm];exact ht) h1
   ·cases h1
theorem Wn {t:Tab} (h:DZ t=true):UR t:=by
 unfold DZ at h
 simp only[AfT,decide_eq_true_eq,Af7] at h
 obtain ⟨h1,h2,h3⟩:=h
 have fb:∀ s,Dq s=true→s.length≤1024:=fun s hs=>by
  unfold Dq at hs
  rw[AfT] at hs
  exact of_decide_eq_true hs.1
 unfold PS at h1
 rw[AfT] at h1
 refine ⟨by have:=fb _ h1.2;omega,by omega,fun c hc=>?_⟩
 have:=h3 c hc
 unfold Lz at this
 simp only[AfT,decide_eq_true_eq,Af7] at this
 obtain ⟨q1,q2,q3,q4⟩:=this
 refine ⟨by have:=fb _ q1;omega,by omega,fun x hx=>?_⟩
 have:=q4 x hx
 unfold CN at this
 rw[AfT] at this
 have:=fb _ this.1
 omega
theorem J2 {α:Type} (f:α→α) (r:α):∀ A:List α,(A++[r]).modify A.length f=A++[f r]
 | []=>rfl
 | a::A=>by
   have ih:=J2 f r A
   show a::(A++[r]).modify A.length f=_
   rw[ih];rfl
theorem UL (s:Ly) (A:List (List UInt8→Option Cel)) (r:List UInt8→Option Cel) (h:s.rows=A++[r]) (q:Pt):∃ r' ext,(s.part q).rows=A++[r']∧(s.part q).paths=s.paths++ext:=by
 cases q with
 | c p x =>
  refine ⟨Ib r p x,if p∈s.paths then [] else [p],?_,?_⟩
  ·show s.rows.modify (s.rows.length-1) _=_
   rw[h,AdY]
   simp only[Afv,Ae3,Nat.add_sub_cancel]
   exact J2 _ _ _
  ·show (if p∈s.paths then s.paths else s.paths++[p])=_
   split<;>simp
 | l p kids =>
  refine ⟨r,[],?_,?_⟩
  ·show (s.list p kids).rows=_
   rw[s.list_rows,h]
  ·show (s.list p kids).paths=_
   unfold Ly.list
   split<;>simp
theorem HK:∀ (l:List Pt) (s:Ly) (A:List (List UInt8→Option Cel)) (r:List UInt8→Option Cel),s.rows=A++[r]→∃ r' ext,(s.parts l).rows=A++[r']∧(s.parts l).paths=s.paths++ext
 | [],s,A,r,h=>⟨r,[],h,by simp[Ly.parts]⟩
 | q::l,s,A,r,h=>by
   obtain ⟨r1,e1,h1,h2⟩:=UL s A r h q
   obtain ⟨r2,e2,h3,h4⟩:=HK l (s.part q) A r1 h1
   exact ⟨r2,e1++e2,h3,by show ((s.part q).parts l).paths=_;rw[h4,h2,AfN]⟩
theorem DS:∀ (l:List Pt) (s:Ly),(s.parts l).further=s.further
 | [],s=>rfl
 | q::l,s=>by
   have e:(s.part q).further=s.further:=by
    cases q with
    | c p x=>rfl
    | l p k =>
     show (s.list p k).further=_
     unfold Ly.list
     split<;>rfl
   show ((s.part q).parts l).further=_
   rw[DS l (s.part q),e]
def mB:List UInt8:=[109]
theorem S8 {x y:Nd} (hx:x.kind=6) (hy:y.kind=6) :
  ∃ (r0 r1:List UInt8→Option Cel) (ps ext:List (List UInt8)),(Ca (Ai false [(0,x)]) 1 mB).cols=ps.map (Cl [r0])∧(Ca (Ai false [(0,x),(0,y)]) 1 mB).cols=(ps++ext).map (Cl [r0,r1]):=by
 have n1:B2 ((0:Int),x)=false:=by simp[B2,Es,hx]
 have n2:B2 ((0:Int),y)=false:=by simp[B2,Es,hy]
 have e1:Ai false [((0:Int),x)]=((ly0 false).row 0).parts (Bi x []):=by
  unfold Ai
  simp only[Agn,Agr,n1,Ags,Agm,AfZ,Agb]
  rfl
 have e2:Ai false [((0:Int),x),(0,y)]=((((ly0 false).row 0).parts (Bi x [])).row 0).parts (Bi y []):=by
  unfold Ai
  simp only[Agn,Agr,n1,n2,Ags,Agm,AfZ,Agb]
  rfl
 obtain ⟨r0,ps,h1,h2⟩:=HK (Bi x []) ((ly0 false).row 0) [] (fun _=>none) rfl
 obtain ⟨r1,ext,h3,h4⟩:=HK (Bi y []) ((((ly0 false).row 0).parts (Bi x [])).row 0) [r0] (fun _=>none) (by show (((ly0 false).row 0).parts (Bi x [])).rows++_=_;rw[h1];rfl)
 refine ⟨r0,r1,ps,ext,?_,?_⟩
 ·rw[e1]
  unfold Ca CW
  rw[DS,h1,h2]
  rfl
 ·rw[e2]
  unfold Ca CW
  rw[DS,h3,h4]
  show (if (((ly0 false).row 0).parts (Bi x [])).further=true then _ else _)++_=_
  rw[DS]
  show []++((((ly0 false).row 0).parts (Bi x [])).paths++ext).map _=_
  rw[h2]
  rfl
theorem Nx {l:List Nd} (hl:l.length≤2) (h:∀ n∈l,GN 4 n∧n.kind=6):∃ r,GC 5 mB 1 (.mk 5 [] [] l)=(Ca (Ai false (l.map fun k=>((0:Int),k))) 1 mB::r,0)∧(∀ t∈Ca (Ai false (l.map fun k=>((0:Int),k))) 1 mB::r,DZ t=true)∧r.length≤1000:=by
 have z4:zM 4=40:=rfl
 have hz:Cc l≤80:=by
  have:=KG (l:=l) (z:=40) fun n hn=>by have:=(h n hn).1.sz;rw[z4] at this;exact this
  omega
 have hw:wNs l≤54:=by
  have:=N7 (l:=l) (w:=27) fun n hn=>(h n hn).1.w
  omega
 have hq:qNs l≤80:=Nat.le_trans (Ov fun n hn=>(h n hn).1.q) hz
 have he:∀ e∈l.map (fun k=>((0:Int),k)),Ba e.2 12=true∧0≤e.1∧e.1<1000000:=fun e he=>by
  obtain ⟨k,hk,rfl⟩:=Agg.1 he
  exact ⟨(h k hk).1.ok 12 (by omega),by simp,by simp⟩
 have hk:∀ e∈l.map (fun k=>((0:Int),k)),kA e.2:=fun e he=>by
  obtain ⟨k,hk,rfl⟩:=Agg.1 he
  exact (h k hk).1.ka
 obtain ⟨a1,a2,r,a3⟩:=N3 4 12 false (l.map fun k=>((0:Int),k)) 1 mB [] (by omega) he hk (by rw[IV];omega) (by rw[SN];omega) (by unfold AL mB;decide) (by decide) (by decide) (by rw[JA];simp;omega) (by rw[JA];simp;omega)
 rw[JA] at a2
 simp only[Agk,Ae3,Int.natCast_zero,Int.add_zero] at a2 a3
 have hok:Ba (.mk 5 [] [] l) 0=true:=by
  rw[Ba,DH fun n hn=>(h n hn).1.ok 1 (by omega)]
  rfl
 have hrec:(Ew (.mk 5 [] [] l)).any Es=false:=Agf.2 fun n hn=>by simp[Es,(h n hn).2]
 refine ⟨r,?_,?_,?_⟩
 ·unfold GC
  rw[if_pos ⟨hok,hrec,by decide⟩]
  have e:Dp (.mk 5 [] [] l)=l.map fun k=>((0:Int),k):=rfl
  rw[e,if_pos a1,a3]
 ·rw[←a3]
  exact Mn 5 _ 1 mB [] a1 fun t ht=>by cases ht
 ·rw[a3] at a2
  simp only[Afv] at a2
  omega
theorem WW {x:Nd} (h:GN 4 x) (h6:x.kind=6):GC 5 mB 1 x=GC 5 mB 1 (.mk 5 [] [] [x]):=by
 have e1:Ew x=[x]:=by unfold Ew;rw[if_neg (by omega)]
 have e2:Ew (.mk 5 [] [] [x])=[x]:=rfl
 have o1:=h.ok 0 (by omega)
 have o2:Ba (.mk 5 [] [] [x]) 0=true:=by
  rw[Ba,DH fun n hn=>by rw[AdV.1 hn];exact h.ok 1 (by omega)]
  rfl
 unfold GC Dp
 rw[e1,e2,o1,o2]
theorem Vq (hT:HT G) (hP:HP G) (hG:Num.HG G) (t0:List Int) (hu:OkS t0) (hl:t0.length≤9223372036854775807) :
  Ctr TP G 4 [.d (.sl t0.length false (Ax .u8 t0))] [] (.d (.bool true)) []:=by
 have ht:OkM (t0.take 300):=hu.take
 refine Ctr.pure (M:=M0) Am Tryz.func4 rfl go4 ?_
 simp(maxSteps:=1000000)(disch:=(try simp only[awL]);omega)only[awS,Tryz.f4,↓awU,awY,↓reduceIte,↓reduceDIte,↓Qe,Qu,Qv,Qw,Qx,Qy,Qz,QA,QB,QC,QD,QE,QF,QG,QH,QI,QK]
 refine Ab.pure (Sd hT hP hG) ?_
 simp(maxSteps:=1000000)(disch:=(try simp only[awL]);omega)only[awS,↓awU,awY,↓reduceIte,↓reduceDIte,↓Qe,Qu,Qv,Qw,Qx,Qy,Qz,QA,QB,QC,QD,QE,QF,QG,QH,QI,QK]
 refine Ab.by (L:=[]) (new_spec t0 hl) (by rfl) (by rfl) (by simp) ?_
 generalize t0.take 300=t at *
 have hn:=LD (G:=G) t ht 2 (by omega)
 have hr1:=FB (G:=G) t ht 3 (by omega) hn 0
 obtain ⟨gx,kx,tx⟩:=Sj (t:=t) (f:=CO t 3) (KH t 2) 0
 generalize Gn t (CO t 3) 0=x at *
 obtain ⟨x,k1⟩:=x
 simp only at gx kx tx hr1
 have hr2:=FB (G:=G) t ht 3 (by omega) hn k1
 obtain ⟨gy,ky,ty⟩:=Sj (t:=t) (f:=CO t 3) (KH t 2) k1
 generalize Gn t (CO t 3) k1=y at *
 obtain ⟨y,k2⟩:=y
 simp only at gy ky ty hr2
 have one6:∀ n∈[x],GN 4 n∧n.kind=6:=fun n hn=>by rw[AdV.1 hn];exact ⟨gx,kx⟩
 have two6:∀ n∈[x,y],GN 4 n∧n.kind=6:=fun n hn=>by
  rcases Ad0.1 hn with rfl | hn
  ·exact ⟨gx,kx⟩
  ·rw[AdV.1 hn];exact ⟨gy,ky⟩
 obtain ⟨ra,fa,oa,la⟩:=Nx (l:=[x]) (by simp) one6
 obtain ⟨rc,fc,oc,lc⟩:=Nx (l:=[x,y]) (by simp) two6
 obtain ⟨q0,q1,ps,ext,ca,cc⟩:=S8 kx ky
 have z4:zM (2+2)=40:=rfl
 have sx:=gx.sz
 have sy:=gy.sz
 rw[z4] at sx sy
 have big:∀ n:Nd,nsz n≤100→Ba n 0=true→(∀ k∈Ew n,Ba k 12=true)→Ctr TP G 13 [.d (S mB),.d (.int .i64 1),.d (NdD n)] [] (.d (Ra (GC 5 mB 1 n))) []:=fun n hz ho h12=>by
  obtain ⟨f1,f2,_⟩:=T3 (n:=n) (by omega) (m:=mB.length) (by decide) ho
  refine Hs (G:=G) hT hP hG 5 mB 1 n (VT _ n 0 (AdZ _) ho (by omega)) (by decide) (by decide) (by decide) fun _=>⟨f1,f2,JH 4 12 false _ _ (by omega) f2 (fun e he=>?_) (by decide)⟩
  obtain ⟨k,hk,rfl⟩:=Agg.1 he
  exact ⟨h12 k hk,by simp,by simp⟩
 have fx:Ew x=[x]:=by unfold Ew;rw[if_neg (by omega)]
 have hfa:=big x (by omega) (gx.ok 0 (by omega)) fun k hk=>by rw[fx] at hk;rw[AdV.1 hk];exact gx.ok 12 (by omega)
 have hfb:=big (.mk 5 [] [] [x]) (by rw[nsz,Cc,Cc];omega) (by rw[Ba,DH fun n hn=>(one6 n hn).1.ok 1 (by omega)];rfl) fun k hk=>(one6 k hk).1.ok 12 (by omega)
 have hfc:=big (.mk 5 [] [] [x,y]) (by rw[nsz,Cc,Cc,Cc];omega) (by rw[Ba,DH fun n hn=>(two6 n hn).1.ok 1 (by omega)];rfl) fun k hk=>(two6 k hk).1.ok 12 (by omega)
 rw[WW gx kx] at hfa
 rw[fa] at hfa hfb
 rw[fc] at hfc
 simp only[AfP,AfQ] at hfa hfb hfc oa oc
 generalize Ca (Ai false [((0:Int),x)]) 1 mB=Ta at *
 generalize Ca (Ai false [((0:Int),x),(0,y)]) 1 mB=Tc at *
 obtain ⟨ia,na,colsA⟩:=Ta
 obtain ⟨ic,nc,colsC⟩:=Tc
 simp only at ca cc
 have hsame:=fun fa fb=>Mu (G:=G) (⟨ia,na,colsA⟩::ra) fa fb (by simp;omega) fun t ht=>Wn (oa t ht)
 obtain ⟨xk,xt,xks,xl⟩:=x
 obtain ⟨yk,yt,yks,yl⟩:=y
 have dA:Ra (⟨ia,na,colsA⟩::ra,0)=.tup [.sl (ra.length+1) false (.int .i64 ia::S na::Kw colsA false::B7 ra),.int .i64 0]:=rfl
 have dC:Ra (⟨ic,nc,colsC⟩::rc,0)=.tup [.sl (rc.length+1) false (.int .i64 ic::S nc::Kw colsC false::B7 rc),.int .i64 0]:=rfl
 rw[dA] at hfa hfb
 rw[dC] at hfc
 simp(maxSteps:=1000000)(disch:=(try simp only[awL]);omega)only[awS,↓awU,awY,↓reduceIte,↓reduceDIte,↓Qe,Qu,Qv,Qw,Qx,Qy,Qz,QA,QB,QC,QD,QE,QF,QG,QH,QI,QK]
 refine Ab.by hr1 (by rfl) (by rfl) (AdZ _) ?_
 simp(maxSteps:=1000000)(disch:=(try simp only[awL]);omega)only[awS,ndC,↓awU,awY,↓reduceIte,↓reduceDIte,↓Qe,Qu,Qv,Qw,Qx,Qy,Qz,QA,QB,QC,QD,QE,QF,QG,QH,QI,QK]
 refine Ab.by hr2 (by rfl) (by rfl) (AdZ _) ?_
 simp(maxSteps:=1000000)(disch:=(try simp only[awL]);omega)only[awS,ndC,↓awU,awY,↓reduceIte,↓reduceDIte,↓Qe,Qu,Qv,Qw,Qx,Qy,Qz,QA,QB,QC,QD,QE,QF,QG,QH,QI,QK]
 refine Ab.of hfa (by rfl) ?_
 simp(maxSteps:=1000000)(disch:=(try simp only[awL]);omega)only[awS,ndC,↓awU,awY,↓reduceIte,↓reduceDIte,↓Qe,Qu,Qv,Qw,Qx,Qy,Qz,QA,QB,QC,QD,QE,QF,QG,QH,QI,QK]
 refine Ab.frozenE hfb (by rfl) ?_
 simp(maxSteps:=1000000)(disch:=(try simp only[awL]);omega)only[awS,ndC,↓awU,awY,↓reduceIte,↓reduceDIte,↓Qe,Qu,Qv,Qw,Qx,Qy,Qz,QA,QB,QC,QD,QE,QF,QG,QH,QI,QK]
 refine Ab.frozenE hfc (by rfl) ?_
 have lca:colsA.length=ps.length:=by rw[ca,Agl]
 have lcc:colsC.length=ps.length+ext.length:=by rw[cc,Agl,AdY]
 have hcl:ps.length≤64:=by
  have:=oa ⟨ia,na,colsA⟩ (by simp)
  unfold DZ at this
  simp only[AfT,decide_eq_true_eq] at this
  have:=this.2.1
  omega
 have lda:=A9 colsA
 have ldc:=A9 colsC
 simp(maxSteps:=1000000)(disch:=(try simp only[awL]);omega)only[awS,↓awU,awY,↓reduceIte,↓reduceDIte,↓Qe,Qu,Qv,Qw,Qx,Qy,Qz,QA,QB,QC,QD,QE,QF,QG,QH,QI,QK]
 refine Ab.of (hsame false false) (by rfl) ?_
 simp(maxSteps:=1000000)(disch:=(try simp only[awL]);omega)only[awS,lca,lcc,lda,ldc,↓awU,awY,↓reduceIte,↓reduceDIte,↓Qe,Qu,Qv,Qw,Qx,Qy,Qz,QA,QB,QC,QD,QE,QF,QG,QH,QI,QK]
 refine ⟨by rfl,?_⟩
 refine Au.fr 58028439341502200385897472 (α:=Nat) (fun i=>ps.length-i) (fun i=>[(86,.d (.int .i64 i))]) (fun _=>[]) (fun i=>i≤ps.length) 0 (Af4 _) ?_ ?_
 ·first
  | exact ⟨[],rfl,by simp,by simp[sA,Aw,SW,AW],by simp[HW,BW,SW,AW]⟩
 ·intro i hi
  simp only[awK,AfU,AfV,reduceIte]
  rcases Af3 i ps.length with h | h
  ·have ga:=Fp (l:=colsA) (k:=i) (by omega)
   have gc:=Fp (l:=colsC) (k:=i) (by omega)
   have ea:colsA.getD i LF=⟨ps.getD i [],[Dd q0 (ps.getD i [])]⟩:=by
    rw[ca,Ae1,Agh,AfR h,Ae1,AfR h]
    rfl
   have ec:colsC.getD i LF=⟨ps.getD i [],[Dd q0 (ps.getD i []),Dd q1 (ps.getD i [])]⟩:=by
    rw[cc,Ae1,Agh,List.getElem?_append_left h,AfR h,Ae1,AfR h]
    rfl
   rw[ea] at ga
   rw[ec] at gc
   generalize ps.getD i []=p at *
   generalize Dd q0 p=d0 at *
   generalize Dd q1 p=d1 at *
   obtain ⟨t0,b0⟩:=d0
   obtain ⟨t1,b1⟩:=d1
   have ga2:((BG colsA).drop (i*2)).take 2=[S p,.sl 1 false [.bool b0,S t0]]:=ga
   have gc2:((BG colsC).drop (i*2)).take 2=[S p,.sl 2 false [.bool b0,S t0,.bool b1,S t1]]:=gc
   have gc0:(BG colsC).getD (i*2) .nilp=S p:=by
    have:=congrArg (fun l=>l.getD 0 .nilp) gc2
    simp only[Ae1,Agd,Age] at this ⊢
    simpa using this
   have gc1:(BG colsC).getD (i*2+1) .nilp=.sl 2 false [.bool b0,S t0,.bool b1,S t1]:=by
    have:=congrArg (fun l=>l.getD 1 .nilp) gc2
    simp only[Ae1,Agd,Age] at this ⊢
    simpa using this
   simp(maxSteps:=1000000)(disch:=(try simp only[awL]);omega)only[awS,lca,lcc,lda,ldc,ga2,gc2,gc0,gc1,↓awU,awY,↓reduceIte,↓reduceDIte,↓Qe,Qu,Qv,Qw,Qx,Qy,Qz,QA,QB,QC,QD,QE,QF,QG,QH,QI,QK]
   first
   | exact ⟨by rfl,i+1,h,by simp only;omega,⟨[],rfl,by simp,by simp[sA,Aw,SW,AW],by simp[HW,BW,SW,AW]⟩⟩
   | exact ⟨i+1,h,by simp only;omega,⟨[],rfl,by simp,by simp[sA,Aw,SW,AW],by simp[HW,BW,SW,AW]⟩⟩
  ·simp(maxSteps:=1000000)(disch:=(try simp only[awL]);omega)only[awS,lca,lcc,lda,ldc,↓awU,awY,↓reduceIte,↓reduceDIte,↓Qe,Qu,Qv,Qw,Qx,Qy,Qz,QA,QB,QC,QD,QE,QF,QG,QH,QI,QK]
   first | done | rfl
end Go.Proofs.YtmidaophnbdcdaaGreatDoor
