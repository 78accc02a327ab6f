/-
  Contracts of the functions, one after another.
-/
import Derived.Test.YtmidaophnbdcdaaGreatDoorZbZx2
set_option linter.all false
open Go.Abs renaming A4→HW,Dx→BW,Ci→SW,Aq→AW,BI→sA
open Go.Proofs.Tryz renaming prog→TP
set_option maxHeartbeats 16000000
set_option maxRecDepth 100000
open Go.Abs renaming Eq→Qe
open Nat renaming reduceAdd→Qu,reduceSub→Qv,reduceMul→Qw,reducePow→Qx,reduceDiv→Qy,reduceMod→Qz,reduceEqDiff→QI,reduceBEq→QK
open Int renaming reduceAdd→QA,reduceSub→QB,reduceMul→QC,reducePow→QD,reduceNeg→QE,reduceToNat→QF,reduceLT→QG,reduceLE→QH
open List renaming length_cons→AcB,mem_append_right→AdT,mem_cons_of_mem→AdU,mem_singleton→AdV,mem_append_left→AdW,mem_append→AdX,length_append→AdY,length_nil→AdZ,nodup_cons→Ae1,nodup_append→Ae2,getElem?_eq_some_iff→Ae3,length_drop→Afs,getD_eq_getElem?_getD→Afv,mem_cons→Afw,getElem?_eq_getElem→AfI,map_cons→AfO,getElem?_append_right→AfP,length_set→AfQ,cons_append→AfS,length_map→AfT,length_eq_zero_iff→AfU,getElem_mem→AfV,map_nil→AfW,nodup_nil→AfY,mem_map→Af3,all_eq_true→Af4,drop_eq_getElem_cons→Af9,take_add_one→Aga,not_mem_nil→Agc,take_length→Agd,dropWhile_sublist→Age,append_nil→Agf,set_append_right→Agg,mem_of_mem_tail→Agj,getElem_of_mem→Agk,getElem_modify→Agl,mem_cons_self→Agm,any_eq_false→Ago
open Nat renaming le_refl→Ad0,le_trans→AfJ,le_add_right→AfN,zero_le→AfR,eq_of_beq_eq_true→AfX,zero_add→AfZ,reduceMod→Af0,reduceDiv→Af1,reduceAdd→Af2,lt_or_ge→Af5,lt_of_lt_of_le→Af6,eq_zero_or_pos→Af7,beq→Agr,succ_mul→Ags,mul_comm→Agt,mul_one→Agu
open Bool renaming and_eq_true→Ad1,false_eq_true→Af8,true_and→Agb,not_eq_true'→Agn,or_eq_true→Agq
open Or renaming inr→Agh,inl→Agi
open Option renaming getD_some→Agp
namespace Go.Proofs.YtmidaophnbdcdaaGreatDoor
open Go Go.Proofs Go.Abs
variable {G:Ad}
theorem RA {n:Nat} {L:Rl→Nat} {s:Ly} {F:Nat} {id:Int} {name:List UInt8} {ts:List Tab} {f:Nat→List Aa} (fT:∀ k,k<s.lists.length→XI G n L s F id name ts k (f k) (f (k+1))) {k:Nat} (hf:(C6 n s id name ts k).2=false):∀ m,k+m≤s.lists.length→f (k+m)=f k
 | 0,_=>rfl
 | m+1,h=>((fT (k+m) (by omega)).1 (by rw[JJ n s id name ts hf m (by omega)];exact hf)).trans (RA fT hf m (by omega))
theorem KO {n:Nat} {L:Rl→Nat} {s:Ly} {F:Nat} {id:Int} {name:List UInt8} {ts:List Tab} {f:Nat→List Aa} (fT:∀ k,k<s.lists.length→XI G n L s F id name ts k (f k) (f (k+1))) {k:Nat} (hk:k≤s.lists.length) (hf:(C6 n s id name ts k).2=false) :
  f s.lists.length=f k∧(C6 n s id name ts s.lists.length).2=false:=by
 have e:=RA fT hf (s.lists.length-k) (by omega)
 have e2:=JJ n s id name ts hf (s.lists.length-k) (by omega)
 rw[show k+(s.lists.length-k)=s.lists.length by omega] at e e2
 exact ⟨e,by rw[e2];exact hf⟩
theorem Ub (hT:HT G) (hP:HP G):∀ n:Nat,AddC G n:=by
 intro n
 induction n with
 | zero=>intro L s F j id name ts H hok _;cases hok
 | succ n IH =>
  intro L s F j id name ts H hok hA0
  obtain ⟨h,h0,i1,i2,ht,hF,hj,hFj,hr⟩:=hA0
  obtain ⟨hs,hn,hll,hnd,hok⟩:=hok
  have fl:=(Ae3.1 hF).1
  have tl:=Dl ts
  have q0:=h.box
  have ok:∀ k,k<8+s.rows.length→Bj s (.n k):=fun k hk=>hk
  have rF:∀ k,k<8+s.rows.length→¬L (.n k)=F:=fun k hk=>(hr _ (ok k hk)).1
  have rj:∀ k,k<8+s.rows.length→some (L (.n k))≠j:=fun k hk=>(hr _ (ok k hk)).2
  have b0:=h.lt _ (ok 0 (by omega))
  have F0:=rF 0 (by omega)
  obtain ⟨r,hrr⟩:∃ r,r=Eb s (id+ts.length) name:=⟨_,rfl⟩
  have hA:=Uc n s id name ts
  rw[←hrr] at hA
  have hcv:∀ b∈Hw L s.rows.length,b<H.length:=fun b hb=>(VQ h hb).1
  have hcl:=VR L s.rows.length
  have sl:=@strs_length s.lists
  cases j with
  | some j =>
   replace hj:H[j]?=some (.row false (B7 ts)):=hj
   have jl:=(Ae3.1 hj).1
   have Fj:¬F=j:=fun c=>hFj (by rw[c])
   have J0:¬L (.n 0)=j:=fun c=>rj 0 (by omega) (by rw[c])
   have hF2:=hF
   unfold flB JQ at hF
   simp only at hF
   obtain ⟨HA,hHA⟩:∃ HA,HA=(H.set j .dead).set F (flB id (some (H.length+2)) (ts.length+1))++[.box [.d (.int .i64 r.1.id),.d (S r.1.name),.d (Kw r.1.cols false)],.row false (JK r.1),.row false (B7 (ts++[r.1]))]:=⟨_,rfl⟩
   have hsame:∀ i,i<H.length→i≠F→some i≠(some j)→HA[i]?=H[i]?:=by
    intro i hi c1 c2
    rw[hHA,Az (by simpa using hi),An (fun c=>c1 c.symm)]
    exact An fun c=>c2 (by rw[c])
   have hAP:ZL L s F (some j) id (ts++[r.1]) H HA:=by
    refine ⟨by rw[hHA];simp,?_,⟨H.length+2,by omega,?_,?_⟩,fun i hi c1 c2 c3=>hsame i hi c1 c2⟩<;>rw[hHA]
    ·exact ((h0.set _ (by simp)).set _ (by simp)).app (by simp[NoX])
    ·simp only[Az,Bt,AfQ,fl,AdY,AcB,AdZ]
    ·rw[AfP (by simp)]
     simp
   obtain ⟨cf,hcf⟩:=CZ [F,j,H.length,H.length+1,H.length+2] (by simp only[Ae1,Afw,Agc,or_false,not_or,AfY,and_true,not_false_eq_true];omega)
   have c0:=hcf 0 _ rfl
   have c1:=hcf 1 _ rfl
   have c2:=hcf 2 _ rfl
   have c3:=hcf 3 _ rfl
   have c4:=hcf 4 _ rfl
   cases hr2:r.2 with
   | false =>
    rw[hr2,if_neg (by simp)] at hA
    refine ⟨HA,?_,by rw[hA];exact hAP⟩
    refine Ctr.bodyI (M:=MA) Am Tryz.func31 rfl WR hAP.nox.ok ?_
    simp(maxSteps:=1000000)(disch:=(try simp only[awL]);omega)only[awS,Tryz.f31,Dz,ME,tl,hF,hj,q0,sl,awH,↓awU,awY,↓reduceIte,↓reduceDIte,↓Qe,Qu,Qv,Qw,Qx,Qy,Qz,QA,QB,QC,QD,QE,QF,QG,QH,QI,QK]
    refine El hT hP h hs (id+ts.length) (by omega) (by omega) name hn ?_
    rw[←hrr,hr2,hA]
    simp(maxSteps:=1000000)(disch:=(try simp only[awL]);omega)only[awS,Dz,ME,tl,hF,hj,q0,sl,awH,↓awU,awY,↓reduceIte,↓reduceDIte,↓Qe,Qu,Qv,Qw,Qx,Qy,Qz,QA,QB,QC,QD,QE,QF,QG,QH,QI,QK]
    refine ⟨Dr (fun x=>if x<H.length then 0 else 1) [([],[]),([],[]),([],[]),([],[]),([0],[]),([],[]),([],[]),([],[]),([0],[]),([],[]),([],[]),([],[]),([0],[]),([],[]),([],[]),([],[]),([1],[1]),([1],[1]),([],[])] (by simp[Kv,AN,AM,hcl,fl];exact hcv) (by rfl),by simp[cut],AE cf (by simp (disch:=omega) only[Bd,AN,AM,A8,A7,and_self]) (by simp only[AfO,AfW,c0,c1,c2,c3,c4];rfl),?_⟩
    first
    | exact Or.inr ⟨by rw[hHA];simp[cut,flB,JQ,B7,JK],Or.inl rfl⟩
   | true =>
    by_cases hc:ts.length+1≤1024
    ·rw[hr2,if_pos ⟨rfl,hc⟩] at hA
     obtain ⟨TS,hTS⟩:∃ TS,TS=ts++[r.1]:=⟨_,rfl⟩
     rw[←hTS] at hA hAP
     have hTl:TS.length≤1024:=by rw[hTS];simp only[AdY,AcB,AdZ];omega
     obtain ⟨f,f0,fI,fT⟩:=Ji (ZM n L s F (some j) id name TS H) (XI G n L s F id name TS) s.lists.length HA
      ⟨hAP,fun q _ hq=>by rw[hsame _ (h.lt (.i q) hq) (hr (.i q) hq).1 (hr (.i q) hq).2];exact h.item q hq,fun _=>hTl⟩ (fun k hk x hx=>RC IH h i1 i2 fl hr hnd hok hk hx)
     have fE:=fI _ (Ad0 _)
     refine ⟨f s.lists.length,?_,by rw[hA];exact fE.p⟩
     refine Ctr.bodyI (M:=MA) Am Tryz.func31 rfl WR fE.p.nox.ok ?_
     simp(maxSteps:=1000000)(disch:=(try simp only[awL]);omega)only[awS,Tryz.f31,Dz,ME,tl,hF,hj,q0,sl,awH,↓awU,awY,↓reduceIte,↓reduceDIte,↓Qe,Qu,Qv,Qw,Qx,Qy,Qz,QA,QB,QC,QD,QE,QF,QG,QH,QI,QK]
     refine El hT hP h hs (id+ts.length) (by omega) (by omega) name hn ?_
     rw[←hrr,hr2,hA]
     simp(maxSteps:=1000000)(disch:=(try simp only[awL]);omega)only[awS,Dz,ME,tl,hF,hj,q0,sl,awH,↓awU,awY,↓reduceIte,↓reduceDIte,↓Qe,Qu,Qv,Qw,Qx,Qy,Qz,QA,QB,QC,QD,QE,QF,QG,QH,QI,QK]
     refine ⟨Dr (fun x=>if x<H.length then 0 else 1) [([],[]),([],[]),([],[]),([],[]),([0],[]),([],[]),([],[]),([],[]),([0],[]),([],[]),([],[]),([],[]),([0],[]),([],[]),([],[]),([],[]),([1],[1]),([1],[1]),([],[])] (by simp[Kv,AN,AM,hcl,fl];exact hcv) (by rfl),by simp[cut],AE cf (by simp (disch:=omega) only[Bd,AN,AM,A8,A7,and_self]) (by simp only[AfO,AfW,c0,c1,c2,c3,c4];rfl),?_⟩
     refine Au.frI 3377699720527879 (α:=Nat) (fun k=>s.lists.length-k) (fun k=>[(52,.d (.int .i64 k))]) (fun k=>f k) (fun k=>k≤s.lists.length∧(C6 n s id name TS k).2=true) 0 ⟨AfR _,rfl⟩ ?_ ?_
     ·have htb:B7 (ts++[r.1])=B7 ts++JK r.1:=by simp[B7]
      have hce:cut [.int .i64 r.1.id,.str (bs r.1.name),.sl r.1.cols.length false (BG r.1.cols)] 0 3=JK r.1:=by simp[cut]
      rw[f0,hHA,htb,hce]
      first
      | exact .slots (by simp[sA,Aw,CH])
     ·rintro k ⟨hkk,ha2⟩
      simp only[awK,Af0,Af1,reduceIte]
      rcases Af5 k s.lists.length with hlt | hge
      ·obtain ⟨_,t2⟩:=fT k hlt
       obtain ⟨H',g1,g2,g3,g4⟩:=t2 ha2
       obtain ⟨⟨p1,p2,_,p4⟩,prest,_⟩:=fI k hkk
       have hpm:s.lists.getD k []∈s.lists:=EF hlt
       have hpd:s.lists.getD k []∈s.lists.drop k:=by
        rw[Afv,AfI hlt,Agp,Af9 hlt]
        exact Agm
       have hpl:name.length+1+(s.lists.getD k []).length≤1000000000:=by
        cases n with
        | zero=>exact (hok _ hpm).2.2.elim
        | succ n=>exact (hok _ hpm).2.2.2.1
       have g:=strs_getD hlt
       have pit:=prest _ hpd
       have at':∀ a,a<8+s.rows.length→(f k)[L (.n a)]?=H[L (.n a)]?:=fun a ha=>p4 _ (h.lt _ (ok a ha)) (rF a ha) (rj a ha) fun p hp=>h.ne (ok a ha) hp (by simp)
       have e0:=(at' 0 (by omega)).trans h.box
       have e5:=(at' 5 (by omega)).trans h.lists
       obtain ⟨m,m1,m2,m3⟩:=h.items
       have e6:=(at' 6 (by omega)).trans m1
       have kr:=m2.ok
       have pl:=fun a ha=>Af6 (h.lt a ha) p1
       generalize f k=Hk at *
       generalize s.lists.getD k []=p at *
       have hnm:name++[46]++p=name++46::p:=by simp
       rw[hnm] at g4
       generalize hρ:outN [] Hk.length=ρ at *
       by_cases hit:s.it p=[]
       ·have v2:FI (.sl 0 true []) m (S p) false=.d (.sl 0 true []):=by rw[DI,m3,if_pos hit]
        rw[hit] at g1 g4
        unfold IP at g4
        rw[if_pos rfl] at g4
        simp(maxSteps:=1000000)(disch:=(try simp only[awL]);omega)only[awS,Dz,F4,e0,e5,e6,g,kr,v2,sl,awH,↓awU,awY,↓reduceIte,↓reduceDIte,↓Qe,Qu,Qv,Qw,Qx,Qy,Qz,QA,QB,QC,QD,QE,QF,QG,QH,QI,QK]
        refine Ab.newgo g1 (by rfl) g2 (by intro p hp;simp[frz] at hp) (by rfl) ?_
        intro t
        rw[hρ,Ff]
        simp(maxSteps:=1000000)(disch:=(try simp only[awL]);omega)only[awS,Dz,F4,awH,↓awU,awY,↓reduceIte,↓reduceDIte,↓Qe,Qu,Qv,Qw,Qx,Qy,Qz,QA,QB,QC,QD,QE,QF,QG,QH,QI,QK]
        refine Ap.go g4 ⟨.inl rfl,.inl rfl,.inr (.inr ⟨_,rfl,rfl,.inl rfl⟩),trivial⟩ (by simp only[AdY,AfQ,AfT];exact g3) ?_
        cases e:(C6 n s id name TS (k+1)).2 with
        | false =>
         obtain ⟨z1,z2⟩:=KO fT (by omega:k+1≤s.lists.length) e
         simp(maxSteps:=1000000)(disch:=(try simp only[awL]);omega)only[awS,Dz,F4,awH,↓awU,awY,↓reduceIte,↓reduceDIte,↓Qe,Qu,Qv,Qw,Qx,Qy,Qz,QA,QB,QC,QD,QE,QF,QG,QH,QI,QK]
         rw[z1,z2]
         first
         | exact Or.inr ⟨rfl,Or.inl rfl⟩
        | true =>
         simp(maxSteps:=1000000)(disch:=(try simp only[awL]);omega)only[awS,Dz,F4,awH,↓awU,awY,↓reduceIte,↓reduceDIte,↓Qe,Qu,Qv,Qw,Qx,Qy,Qz,QA,QB,QC,QD,QE,QF,QG,QH,QI,QK]
         first
         | exact ⟨k+1,⟨hlt,e⟩,by simp only;omega,.inl ⟨rfl,by simp[sA,Aw,CH]⟩⟩
       ·have v2:FI (.sl 0 true []) m (S p) false=.lsl (L (.i p)) 5 0 (s.it p).length:=by rw[DI,m3,if_neg hit]
        have pit:=pit hit
        unfold IP at g4
        rw[if_neg hit] at g4
        have el:=Bu (s.it p)
        have lp:=pl (.i p) hit
        have cu:cut (Bl (s.it p)) 0 ((s.it p).length*5)=Bl (s.it p):=cut_all (by omega)
        simp(maxSteps:=1000000)(disch:=(try simp only[awL]);omega)only[awS,Dz,F4,e0,e5,e6,g,kr,v2,sl,pit,cu,el,awH,↓awU,awY,↓reduceIte,↓reduceDIte,↓Qe,Qu,Qv,Qw,Qx,Qy,Qz,QA,QB,QC,QD,QE,QF,QG,QH,QI,QK]
        have fz:frz Hk [L (.i p)]=[(L (.i p),.row true (Bl (s.it p)))]:=by simp[frz,pit]
        refine Ab.newgo g1 (by rfl) g2 (by rw[fz];intro p hp;rw[AdV.1 hp];exact lp) (by rw[fz]) ?_
        intro t
        rw[hρ,Ff]
        simp(maxSteps:=1000000)(disch:=(try simp only[awL]);omega)only[awS,Dz,F4,awH,↓awU,awY,↓reduceIte,↓reduceDIte,↓Qe,Qu,Qv,Qw,Qx,Qy,Qz,QA,QB,QC,QD,QE,QF,QG,QH,QI,QK]
        refine Ap.go g4 ⟨.inl rfl,.inl rfl,.inr (.inr ⟨_,rfl,rfl,.inl rfl⟩),trivial⟩ (by simp only[AdY,AfQ,AfT];exact g3) ?_
        cases e:(C6 n s id name TS (k+1)).2 with
        | false =>
         obtain ⟨z1,z2⟩:=KO fT (by omega:k+1≤s.lists.length) e
         simp(maxSteps:=1000000)(disch:=(try simp only[awL]);omega)only[awS,Dz,F4,awH,↓awU,awY,↓reduceIte,↓reduceDIte,↓Qe,Qu,Qv,Qw,Qx,Qy,Qz,QA,QB,QC,QD,QE,QF,QG,QH,QI,QK]
         rw[z1,z2]
         first
         | exact Or.inr ⟨rfl,Or.inl rfl⟩
        | true =>
         simp(maxSteps:=1000000)(disch:=(try simp only[awL]);omega)only[awS,Dz,F4,awH,↓awU,awY,↓reduceIte,↓reduceDIte,↓Qe,Qu,Qv,Qw,Qx,Qy,Qz,QA,QB,QC,QD,QE,QF,QG,QH,QI,QK]
         first
         | exact ⟨k+1,⟨hlt,e⟩,by simp only;omega,.inl ⟨rfl,by simp[sA,Aw,CH]⟩⟩
      ·obtain rfl:k=s.lists.length:=by omega
       simp(maxSteps:=1000000)(disch:=(try simp only[awL]);omega)only[awS,Dz,F4,sl,awH,↓awU,awY,↓reduceIte,↓reduceDIte,↓Qe,Qu,Qv,Qw,Qx,Qy,Qz,QA,QB,QC,QD,QE,QF,QG,QH,QI,QK]
       rw[ha2]
       first
       | exact Or.inr ⟨rfl,Or.inl rfl⟩
    ·rw[hr2,if_neg (by omega)] at hA
     refine ⟨HA,?_,by rw[hA];exact hAP⟩
     refine Ctr.bodyI (M:=MA) Am Tryz.func31 rfl WR hAP.nox.ok ?_
     simp(maxSteps:=1000000)(disch:=(try simp only[awL]);omega)only[awS,Tryz.f31,Dz,ME,tl,hF,hj,q0,sl,awH,↓awU,awY,↓reduceIte,↓reduceDIte,↓Qe,Qu,Qv,Qw,Qx,Qy,Qz,QA,QB,QC,QD,QE,QF,QG,QH,QI,QK]
     refine El hT hP h hs (id+ts.length) (by omega) (by omega) name hn ?_
     rw[←hrr,hr2,hA]
     simp(maxSteps:=1000000)(disch:=(try simp only[awL]);omega)only[awS,Dz,ME,tl,hF,hj,q0,sl,awH,↓awU,awY,↓reduceIte,↓reduceDIte,↓Qe,Qu,Qv,Qw,Qx,Qy,Qz,QA,QB,QC,QD,QE,QF,QG,QH,QI,QK]
     refine ⟨Dr (fun x=>if x<H.length then 0 else 1) [([],[]),([],[]),([],[]),([],[]),([0],[]),([],[]),([],[]),([],[]),([0],[]),([],[]),([],[]),([],[]),([0],[]),([],[]),([],[]),([],[]),([1],[1]),([1],[1]),([],[])] (by simp[Kv,AN,AM,hcl,fl];exact hcv) (by rfl),by simp[cut],AE cf (by simp (disch:=omega) only[Bd,AN,AM,A8,A7,and_self]) (by simp only[AfO,AfW,c0,c1,c2,c3,c4];rfl),?_⟩
     first
     | exact Or.inr ⟨by rw[hHA];simp[cut,flB,JQ,B7,JK],Or.inl rfl⟩
  | none =>
   obtain rfl:ts=[]:=hj
   have hF2:=hF
   unfold flB JQ at hF
   simp only at hF
   obtain ⟨HA,hHA⟩:∃ HA,HA=H.set F (flB id (some (H.length+2)) 1)++[.box [.d (.int .i64 r.1.id),.d (S r.1.name),.d (Kw r.1.cols false)],.row false (JK r.1),.row false (B7 (([]:List Tab)++[r.1]))]:=⟨_,rfl⟩
   have hsame:∀ i,i<H.length→i≠F→some i≠none→HA[i]?=H[i]?:=by
    intro i hi c1 c2
    rw[hHA,Az (by simpa using hi),An (fun c=>c1 c.symm)]
   have hAP:ZL L s F none id (([]:List Tab)++[r.1]) H HA:=by
    refine ⟨by rw[hHA];simp,?_,⟨H.length+2,by omega,?_,?_⟩,fun i hi c1 c2 c3=>hsame i hi c1 c2⟩<;>rw[hHA]
    ·exact (h0.set _ (by simp)).app (by simp[NoX])
    ·simp only[Az,Bt,AfQ,fl,AdY,AcB,AdZ]
    ·rw[AfP (by simp)]
     simp
   obtain ⟨cf,hcf⟩:=CZ [F,H.length,H.length+1,H.length+2] (by simp only[Ae1,Afw,Agc,or_false,not_or,AfY,and_true,not_false_eq_true];omega)
   have c0:=hcf 0 _ rfl
   have c1:=hcf 1 _ rfl
   have c2:=hcf 2 _ rfl
   have c3:=hcf 3 _ rfl
   cases hr2:r.2 with
   | false =>
    rw[hr2,if_neg (by simp)] at hA
    refine ⟨HA,?_,by rw[hA];exact hAP⟩
    refine Ctr.bodyI (M:=MA) Am Tryz.func31 rfl WR hAP.nox.ok ?_
    simp(maxSteps:=1000000)(disch:=(try simp only[awL]);omega)only[awS,Tryz.f31,Dz,ME,hF,q0,sl,awH,↓awU,awY,↓reduceIte,↓reduceDIte,↓Qe,Qu,Qv,Qw,Qx,Qy,Qz,QA,QB,QC,QD,QE,QF,QG,QH,QI,QK]
    refine El hT hP h hs (id+([]:List Tab).length) (by simp;omega) (by simp;omega) name hn ?_
    rw[←hrr,hr2,hA]
    simp(maxSteps:=1000000)(disch:=(try simp only[awL]);omega)only[awS,Dz,ME,hF,q0,sl,awH,↓awU,awY,↓reduceIte,↓reduceDIte,↓Qe,Qu,Qv,Qw,Qx,Qy,Qz,QA,QB,QC,QD,QE,QF,QG,QH,QI,QK]
    refine ⟨Dr (fun x=>if x<H.length then 0 else 1) [([],[]),([],[]),([],[]),([],[]),([0],[]),([],[]),([],[]),([],[]),([0],[]),([],[]),([],[]),([],[]),([0],[]),([],[]),([],[]),([],[]),([1],[1]),([1],[1]),([],[])] (by simp[Kv,AN,AM,hcl,fl];exact hcv) (by rfl),by simp[cut],AE cf (by simp (disch:=omega) only[Bd,AN,AM,A8,A7,and_self]) (by simp only[AfO,AfW,c0,c1,c2,c3];rfl),?_⟩
    first
    | exact Or.inr ⟨by rw[hHA];simp[cut,flB,JQ,B7,JK],Or.inl rfl⟩
   | true =>
    rw[hr2,if_pos ⟨rfl,by simp⟩] at hA
    obtain ⟨TS,hTS⟩:∃ TS,TS=([]:List Tab)++[r.1]:=⟨_,rfl⟩
    rw[←hTS] at hA hAP
    have hTl:TS.length≤1024:=by rw[hTS];simp only[AdY,AcB,AdZ];omega
    obtain ⟨f,f0,fI,fT⟩:=Ji (ZM n L s F none id name TS H) (XI G n L s F id name TS) s.lists.length HA
     ⟨hAP,fun q _ hq=>by rw[hsame _ (h.lt (.i q) hq) (hr (.i q) hq).1 (hr (.i q) hq).2];exact h.item q hq,fun _=>hTl⟩ (fun k hk x hx=>RC IH h i1 i2 fl hr hnd hok hk hx)
    have fE:=fI _ (Ad0 _)
    refine ⟨f s.lists.length,?_,by rw[hA];exact fE.p⟩
    refine Ctr.bodyI (M:=MA) Am Tryz.func31 rfl WR fE.p.nox.ok ?_
    simp(maxSteps:=1000000)(disch:=(try simp only[awL]);omega)only[awS,Tryz.f31,Dz,ME,hF,q0,sl,awH,↓awU,awY,↓reduceIte,↓reduceDIte,↓Qe,Qu,Qv,Qw,Qx,Qy,Qz,QA,QB,QC,QD,QE,QF,QG,QH,QI,QK]
    refine El hT hP h hs (id+([]:List Tab).length) (by simp;omega) (by simp;omega) name hn ?_
    rw[←hrr,hr2,hA]
    simp(maxSteps:=1000000)(disch:=(try simp only[awL]);omega)only[awS,Dz,ME,hF,q0,sl,awH,↓awU,awY,↓reduceIte,↓reduceDIte,↓Qe,Qu,Qv,Qw,Qx,Qy,Qz,QA,QB,QC,QD,QE,QF,QG,QH,QI,QK]
    refine ⟨Dr (fun x=>if x<H.length then 0 else 1) [([],[]),([],[]),([],[]),([],[]),([0],[]),([],[]),([],[]),([],[]),([0],[]),([],[]),([],[]),([],[]),([0],[]),([],[]),([],[]),([],[]),([1],[1]),([1],[1]),([],[])] (by simp[Kv,AN,AM,hcl,fl];exact hcv) (by rfl),by simp[cut],AE cf (by simp (disch:=omega) only[Bd,AN,AM,A8,A7,and_self]) (by simp only[AfO,AfW,c0,c1,c2,c3];rfl),?_⟩
    refine Au.frI 3377699720527879 (α:=Nat) (fun k=>s.lists.length-k) (fun k=>[(52,.d (.int .i64 k))]) (fun k=>f k) (fun k=>k≤s.lists.length∧(C6 n s id name TS k).2=true) 0 ⟨AfR _,rfl⟩ ?_ ?_
    ·have htb:B7 (([]:List Tab)++[r.1])=B7 ([]:List Tab)++JK r.1:=by simp[B7]
     have hce:cut [.int .i64 r.1.id,.str (bs r.1.name),.sl r.1.cols.length false (BG r.1.cols)] 0 3=JK r.1:=by simp[cut]
     rw[f0,hHA,htb,hce]
     first
     | exact .slots (by simp[sA,Aw,CH])
    ·rintro k ⟨hkk,ha2⟩
     simp only[awK,Af0,Af1,reduceIte]
     rcases Af5 k s.lists.length with hlt | hge
     ·obtain ⟨_,t2⟩:=fT k hlt
      obtain ⟨H',g1,g2,g3,g4⟩:=t2 ha2
      obtain ⟨⟨p1,p2,_,p4⟩,prest,_⟩:=fI k hkk
      have hpm:s.lists.getD k []∈s.lists:=EF hlt
      have hpd:s.lists.getD k []∈s.lists.drop k:=by
       rw[Afv,AfI hlt,Agp,Af9 hlt]
       exact Agm
      have hpl:name.length+1+(s.lists.getD k []).length≤1000000000:=by
       cases n with
       | zero=>exact (hok _ hpm).2.2.elim
       | succ n=>exact (hok _ hpm).2.2.2.1
      have g:=strs_getD hlt
      have pit:=prest _ hpd
      have at':∀ a,a<8+s.rows.length→(f k)[L (.n a)]?=H[L (.n a)]?:=fun a ha=>p4 _ (h.lt _ (ok a ha)) (rF a ha) (rj a ha) fun p hp=>h.ne (ok a ha) hp (by simp)
      have e0:=(at' 0 (by omega)).trans h.box
      have e5:=(at' 5 (by omega)).trans h.lists
      obtain ⟨m,m1,m2,m3⟩:=h.items
      have e6:=(at' 6 (by omega)).trans m1
      have kr:=m2.ok
      have pl:=fun a ha=>Af6 (h.lt a ha) p1
      generalize f k=Hk at *
      generalize s.lists.getD k []=p at *
      have hnm:name++[46]++p=name++46::p:=by simp
      rw[hnm] at g4
      generalize hρ:outN [] Hk.length=ρ at *
      by_cases hit:s.it p=[]
      ·have v2:FI (.sl 0 true []) m (S p) false=.d (.sl 0 true []):=by rw[DI,m3,if_pos hit]
       rw[hit] at g1 g4
       unfold IP at g4
       rw[if_pos rfl] at g4
       simp(maxSteps:=1000000)(disch:=(try simp only[awL]);omega)only[awS,Dz,F4,e0,e5,e6,g,kr,v2,sl,awH,↓awU,awY,↓reduceIte,↓reduceDIte,↓Qe,Qu,Qv,Qw,Qx,Qy,Qz,QA,QB,QC,QD,QE,QF,QG,QH,QI,QK]
       refine Ab.newgo g1 (by rfl) g2 (by intro p hp;simp[frz] at hp) (by rfl) ?_
       intro t
       rw[hρ,Ff]
       simp(maxSteps:=1000000)(disch:=(try simp only[awL]);omega)only[awS,Dz,F4,awH,↓awU,awY,↓reduceIte,↓reduceDIte,↓Qe,Qu,Qv,Qw,Qx,Qy,Qz,QA,QB,QC,QD,QE,QF,QG,QH,QI,QK]
       refine Ap.go g4 ⟨.inl rfl,.inl rfl,.inr (.inr ⟨_,rfl,rfl,.inl rfl⟩),trivial⟩ (by simp only[AdY,AfQ,AfT];exact g3) ?_
       cases e:(C6 n s id name TS (k+1)).2 with
       | false =>
        obtain ⟨z1,z2⟩:=KO fT (by omega:k+1≤s.lists.length) e
        simp(maxSteps:=1000000)(disch:=(try simp only[awL]);omega)only[awS,Dz,F4,awH,↓awU,awY,↓reduceIte,↓reduceDIte,↓Qe,Qu,Qv,Qw,Qx,Qy,Qz,QA,QB,QC,QD,QE,QF,QG,QH,QI,QK]
        rw[z1,z2]
        first
        | exact Or.inr ⟨rfl,Or.inl rfl⟩
       | true =>
        simp(maxSteps:=1000000)(disch:=(try simp only[awL]);omega)only[awS,Dz,F4,awH,↓awU,awY,↓reduceIte,↓reduceDIte,↓Qe,Qu,Qv,Qw,Qx,Qy,Qz,QA,QB,QC,QD,QE,QF,QG,QH,QI,QK]
        first
        | exact ⟨k+1,⟨hlt,e⟩,by simp only;omega,.inl ⟨rfl,by simp[sA,Aw,CH]⟩⟩
      ·have v2:FI (.sl 0 true []) m (S p) false=.lsl (L (.i p)) 5 0 (s.it p).length:=by rw[DI,m3,if_neg hit]
       have pit:=pit hit
       unfold IP at g4
       rw[if_neg hit] at g4
       have el:=Bu (s.it p)
       have lp:=pl (.i p) hit
       have cu:cut (Bl (s.it p)) 0 ((s.it p).length*5)=Bl (s.it p):=cut_all (by omega)
       simp(maxSteps:=1000000)(disch:=(try simp only[awL]);omega)only[awS,Dz,F4,e0,e5,e6,g,kr,v2,sl,pit,cu,el,awH,↓awU,awY,↓reduceIte,↓reduceDIte,↓Qe,Qu,Qv,Qw,Qx,Qy,Qz,QA,QB,QC,QD,QE,QF,QG,QH,QI,QK]
       have fz:frz Hk [L (.i p)]=[(L (.i p),.row true (Bl (s.it p)))]:=by simp[frz,pit]
       refine Ab.newgo g1 (by rfl) g2 (by rw[fz];intro p hp;rw[AdV.1 hp];exact lp) (by rw[fz]) ?_
       intro t
       rw[hρ,Ff]
       simp(maxSteps:=1000000)(disch:=(try simp only[awL]);omega)only[awS,Dz,F4,awH,↓awU,awY,↓reduceIte,↓reduceDIte,↓Qe,Qu,Qv,Qw,Qx,Qy,Qz,QA,QB,QC,QD,QE,QF,QG,QH,QI,QK]
       refine Ap.go g4 ⟨.inl rfl,.inl rfl,.inr (.inr ⟨_,rfl,rfl,.inl rfl⟩),trivial⟩ (by simp only[AdY,AfQ,AfT];exact g3) ?_
       cases e:(C6 n s id name TS (k+1)).2 with
       | false =>
        obtain ⟨z1,z2⟩:=KO fT (by omega:k+1≤s.lists.length) e
        simp(maxSteps:=1000000)(disch:=(try simp only[awL]);omega)only[awS,Dz,F4,awH,↓awU,awY,↓reduceIte,↓reduceDIte,↓Qe,Qu,Qv,Qw,Qx,Qy,Qz,QA,QB,QC,QD,QE,QF,QG,QH,QI,QK]
        rw[z1,z2]
        first
        | exact Or.inr ⟨rfl,Or.inl rfl⟩
       | true =>
        simp(maxSteps:=1000000)(disch:=(try simp only[awL]);omega)only[awS,Dz,F4,awH,↓awU,awY,↓reduceIte,↓reduceDIte,↓Qe,Qu,Qv,Qw,Qx,Qy,Qz,QA,QB,QC,QD,QE,QF,QG,QH,QI,QK]
        first
        | exact ⟨k+1,⟨hlt,e⟩,by simp only;omega,.inl ⟨rfl,by simp[sA,Aw,CH]⟩⟩
     ·obtain rfl:k=s.lists.length:=by omega
      simp(maxSteps:=1000000)(disch:=(try simp only[awL]);omega)only[awS,Dz,F4,sl,awH,↓awU,awY,↓reduceIte,↓reduceDIte,↓Qe,Qu,Qv,Qw,Qx,Qy,Qz,QA,QB,QC,QD,QE,QF,QG,QH,QI,QK]
      rw[ha2]
      first
      | exact Or.inr ⟨rfl,Or.inl rfl⟩
theorem Ii (hT:HT G) (hG:Num.HG G) (n:Nd) (hz:szN n):Ctr TP G 19 [.d (NdD n)] [] (.d (.bool (Ba n 0))) []:=by
 have h:=JO (G:=G) hT hG _ n (Ad0 _) hz 0 (by omega)
 generalize Ba n 0=z at *
 obtain ⟨k,t,ks,l⟩:=n
 refine Ctr.pure (M:=M0) Am Tryz.func19 rfl go19 ?_
 simp(maxSteps:=1000000)(disch:=(try simp only[awL]);omega)only[awS,ndC,Tryz.f19,↓awU,awY,↓reduceIte,↓reduceDIte,↓Qe,Qu,Qv,Qw,Qx,Qy,Qz,QA,QB,QC,QD,QE,QF,QG,QH,QI,QK]
 refine Ab.of h (by rfl) ?_
 simp(maxSteps:=1000000)(disch:=(try simp only[awL]);omega)only[awS,↓awU,awY,↓reduceIte,↓reduceDIte,↓Qe,Qu,Qv,Qw,Qx,Qy,Qz,QA,QB,QC,QD,QE,QF,QG,QH,QI,QK]
def Ew (n:Nd):List Nd:=if n.kind=5 then n.kids else [n]
def Dp (n:Nd):List Elm:=(Ew n).map fun k=>(0,k)
def GC (N:Nat) (name:List UInt8) (id:Int) (n:Nd):List Tab × Int :=
 if Ba n 0=true∧(Ew n).any Es=false∧Lib.validD name=true then
  (if (Cp N (Ai false (Dp n)) id name []).2=true then ((Cp N (Ai false (Dp n)) id name []).1,0) else ([],3))
 else ([],1)
abbrev Aft (l:List Tab) (full:Bool):D:=.sl l.length full (B7 l)
abbrev Ra (r:List Tab × Int):D:=.tup [Aft r.1 false,.int .i64 r.2]
def MF:BZ:=fun k=>Agr k 4000031
theorem Vy:MF 4000031=true:=rfl
theorem Dy {k:Nat} (h:¬(k=4000031)):MF k=false:=by
 cases e:MF k with
 | false=>rfl
 | true=>exact absurd (AfX e) h
def Hh (l:List Nd) (k:Nat):List Elm:=(l.take k).map fun k=>((0:Int),k)
theorem Rk (l:List Nd) (k:Nat) (h:k≤l.length):(Hh l k).length=k:=by simp[Hh];omega
theorem NI (l:List Nd) (k:Nat) (h:k<l.length):Bl (Hh l (k+1))=Bl (Hh l k)++DJ ((0:Int),l.getD k noN):=by
 unfold Hh
 rw[Aga,AfI h,Afv,AfI h,List.map_append,U6]
 simp[Bl]
theorem Rm (l:List Nd):Hh l l.length=l.map fun k=>((0:Int),k):=by unfold Hh;rw[Agd]
theorem Hs (hT:HT G) (hP:HP G) (hG:Num.HG G) (N:Nat) (name:List UInt8) (id:Int) (n:Nd) (hz:szN n) (hn:name.length≤1000000000) (i1:-1000000000000≤id) (i2:id≤1000000000000)
  (hc:Ba n 0=true→(∀ e∈Dp n,Gm e.2)∧CD (Dp n)≤4000∧N2 N (Ai false (Dp n)) name.length) :
  Ctr TP G 13 [.d (S name),.d (.int .i64 id),.d (NdD n)] [] (.d (Ra (GC N name id n))) []:=by
 obtain ⟨r,hr⟩:∃ r,r=GC N name id n:=⟨_,rfl⟩
 rw[←hr]
 unfold GC at hr
 have hV:=Ii (G:=G) hT hG n hz
 have hE:Dp n=(Ew n).map fun k=>((0:Int),k):=rfl
 generalize hok:Ba n 0=okv at *
 generalize Dp n=E at *
 generalize hL:Ew n=L at *
 unfold Ew at hL
 obtain ⟨k,t,ks,l⟩:=n
 obtain ⟨s1,s2,s3,s4,s5⟩:=hz
 unfold Nd.kind Nd.kids at hL
 simp only at hL
 refine Ctr.pure (M:=MF) Am Tryz.func13 rfl go13 ?_
 by_cases k5:k=5
 ·subst k5
  rw[if_pos rfl] at hL
  subst hL
  have sl:=BK l
  simp(maxSteps:=1000000)(disch:=(try simp only[awL]);omega)only[awS,Dy,ndC,sl,Tryz.f13,↓awU,awY,↓reduceIte,↓reduceDIte,↓Qe,Qu,Qv,Qw,Qx,Qy,Qz,QA,QB,QC,QD,QE,QF,QG,QH,QI,QK]
  refine Au.fr 6291747 (α:=Nat) (fun x=>l.length-x) (fun x=>[(9,.lsl 1 5 0 x),(23,.d (.int .i64 x))]) (fun x=>[.box [.d (.int .i64 5),.d (S t),.d (Ss ks false),.d (.sl l.length false (AY l))],.row false (Bl (Hh l x))]) (fun x=>x≤l.length) 0 (AfR _) ?_ ?_
  ·first
   | exact ⟨[some 0,none],rfl,by simp,by simp[sA,Aw,SW,AW],by simp[HW,BW,SW,AW,Hh,Bl]⟩
  ·intro i hkk
   simp only[awK,Af0,Af1,reduceIte]
   rcases Af5 i l.length with hlt | hge
   ·have el:=Bu (Hh l i)
    have ck:=Rk l i hkk
    have cs:=NI l i hlt
    have g:=Et hlt
    generalize l.getD i noN=kid at *
    obtain ⟨ka,kb,kc,kl⟩:=kid
    simp(maxSteps:=1000000)(disch:=(try simp only[awL]);omega)only[awS,Dy,sl,g,ndC,el,ck,↓awU,awY,↓reduceIte,↓reduceDIte,↓Qe,Qu,Qv,Qw,Qx,Qy,Qz,QA,QB,QC,QD,QE,QF,QG,QH,QI,QK]
    first
    | exact ⟨by simp[cut],i+1,hlt,by simp only;omega,⟨[some 0,some 4],rfl,by simp,by simp[sA,Aw,SW,AW],by simp[HW,BW,SW,AW,cs,DJ,ndC,cut]⟩⟩
   ·obtain rfl:i=l.length:=by omega
    have cE:Hh l l.length=E:=by rw[hE];exact Rm l
    rw[cE]
    have eE:=Bu E
    have eL:E.length=l.length:=by rw[hE];simp
    have cu:cut (Bl E) 0 (l.length*5)=Bl E:=cut_all (by omega)
    simp(maxSteps:=1000000)(disch:=(try simp only[awL]);omega)only[awS,Dy,sl,↓awU,awY,↓reduceIte,↓reduceDIte,↓Qe,Qu,Qv,Qw,Qx,Qy,Qz,QA,QB,QC,QD,QE,QF,QG,QH,QI,QK]
    refine Ab.of (EA 29 Es l false (by omega) fun s _=>LQ s) (by rfl) ?_
    cases hnr:l.any Es
    ·simp(maxSteps:=1000000)(disch:=(try simp only[awL]);omega)only[awS,Dy,↓awU,awY,↓reduceIte,↓reduceDIte,↓Qe,Qu,Qv,Qw,Qx,Qy,Qz,QA,QB,QC,QD,QE,QF,QG,QH,QI,QK]
     refine Ab.of hV (by rfl) ?_
     cases okv
     ·rw[if_neg (by simp)] at hr
      subst hr
      simp(maxSteps:=1000000)(disch:=(try simp only[awL]);omega)only[awS,Dy,↓awU,awY,↓reduceIte,↓reduceDIte,↓Qe,Qu,Qv,Qw,Qx,Qy,Qz,QA,QB,QC,QD,QE,QF,QG,QH,QI,QK]
      first
      | done
      | rfl
     ·simp(maxSteps:=1000000)(disch:=(try simp only[awL]);omega)only[awS,Dy,↓awU,awY,↓reduceIte,↓reduceDIte,↓Qe,Qu,Qv,Qw,Qx,Qy,Qz,QA,QB,QC,QD,QE,QF,QG,QH,QI,QK]
      refine Ab.pure (DX hT name (by omega)) ?_
      cases hv:Lib.validD name
      ·rw[if_neg (by rw[hv];simp)] at hr
       subst hr
       simp(maxSteps:=1000000)(disch:=(try simp only[awL]);omega)only[awS,Dy,↓awU,awY,↓reduceIte,↓reduceDIte,↓Qe,Qu,Qv,Qw,Qx,Qy,Qz,QA,QB,QC,QD,QE,QF,QG,QH,QI,QK]
       first
       | done
       | rfl
      ·rw[if_pos ⟨rfl,hnr,hv⟩] at hr
       obtain ⟨c1,c2,c3⟩:=hc rfl
       obtain ⟨L',H',g1,g2,g3,g4⟩:=HO (G:=G) false E false c1 c2
       simp(maxSteps:=1000000)(disch:=(try simp only[awL]);omega)only[awS,Dy,cu,eE,↓awU,awY,↓reduceIte,↓reduceDIte,↓Qe,Qu,Qv,Qw,Qx,Qy,Qz,QA,QB,QC,QD,QE,QF,QG,QH,QI,QK]
       obtain ⟨ρ,hρ⟩:∃ ρ,ρ=outN [] 3:=⟨_,rfl⟩
       have g5:=g2.shift [.box [.d (.int .i64 5),.d (S t),.d (Ss ks false),.d (.sl l.length false (AY l))],.row true (Bl E),.box [.d (.int .i64 id),.d (.sl 0 true [])]]
       obtain ⟨y,y1,⟨y2,y3,⟨q,y4,y5,y6⟩,y7⟩⟩:=Ub hT hP N (F:=2) (j:=none) (ts:=[]) (id:=id) (name:=name) c3 ⟨g5,(show NoX _ by simp[NoX]).app (g3.ren _),i1,i2,by simp,rfl,rfl,by simp,fun a ha=>⟨by rw[C2];simp;omega,by simp⟩⟩
       have hne:H'≠[]:=by
        intro c
        have:=g2.lt (.n 0) (by show 0<8+_;omega)
        rw[c] at this
        simp at this
       simp only[g4,AcB,AdZ,AfZ,Af2,←hρ] at y1
       have y2':=y2
       simp only[AdY,AcB,AdZ,AfT,AfZ,Af2] at y2'
       refine Ab.newgo g1 (by rw[←eL]) hne (by simp[frz]) (by simp[frz,applyW];rfl) ?_
       intro tt
       rw[Ff]
       simp only[AcB,AdZ,AfZ,Af2,←hρ]
       simp(maxSteps:=1000000)(disch:=(try simp only[awL]);omega)only[awS,Dy,Vy,↓awU,awY,↓reduceIte,↓reduceDIte,↓Qe,Qu,Qv,Qw,Qx,Qy,Qz,QA,QB,QC,QD,QE,QF,QG,QH,QI,QK]
       first
       | (refine Ap.go y1 ⟨.inl rfl,.inl rfl,.inr (.inr ⟨_,rfl,rfl,.inl rfl⟩),trivial⟩ (by simp;omega) ?_)
       cases e:(Cp N (Ai false E) id name []).2
       ·rw[if_neg (by rw[e];simp)] at hr
        subst hr
        simp(maxSteps:=1000000)(disch:=(try simp only[awL]);omega)only[awS,Dy,Vy,↓awU,awY,↓reduceIte,↓reduceDIte,↓Qe,Qu,Qv,Qw,Qx,Qy,Qz,QA,QB,QC,QD,QE,QF,QG,QH,QI,QK]
        first
        | done
        | rfl
       ·rw[if_pos e] at hr
        subst hr
        generalize (Cp N (Ai false E) id name []).1=ts at *
        have tl:=Dl ts
        have cu2:cut (B7 ts) 0 (ts.length*3)=B7 ts:=cut_all (by omega)
        simp(maxSteps:=1000000)(disch:=(try simp only[awL]);omega)only[awS,Dy,Vy,y5,y6,tl,cu2,JQ,flB,awH,↓awU,awY,↓reduceIte,↓reduceDIte,↓Qe,Qu,Qv,Qw,Qx,Qy,Qz,QA,QB,QC,QD,QE,QF,QG,QH,QI,QK]
        first
        | done
        | rfl
    ·rw[if_neg (by rw[hnr];simp)] at hr
     subst hr
     simp(maxSteps:=1000000)(disch:=(try simp only[awL]);omega)only[awS,Dy,↓awU,awY,↓reduceIte,↓reduceDIte,↓Qe,Qu,Qv,Qw,Qx,Qy,Qz,QA,QB,QC,QD,QE,QF,QG,QH,QI,QK]
     refine Ab.of hV (by rfl) ?_
     cases okv
     ·simp(maxSteps:=1000000)(disch:=(try simp only[awL]);omega)only[awS,Dy,↓awU,awY,↓reduceIte,↓reduceDIte,↓Qe,Qu,Qv,Qw,Qx,Qy,Qz,QA,QB,QC,QD,QE,QF,QG,QH,QI,QK]
      first
      | done
      | rfl
     ·simp(maxSteps:=1000000)(disch:=(try simp only[awL]);omega)only[awS,Dy,↓awU,awY,↓reduceIte,↓reduceDIte,↓Qe,Qu,Qv,Qw,Qx,Qy,Qz,QA,QB,QC,QD,QE,QF,QG,QH,QI,QK]
      first
      | done
      | rfl
 ·rw[if_neg k5] at hL
  subst hL
  simp(maxSteps:=1000000)(disch:=(try simp only[awL]);omega)only[awS,Dy,ndC,k5,Tryz.f13,↓awU,awY,↓reduceIte,↓reduceDIte,↓Qe,Qu,Qv,Qw,Qx,Qy,Qz,QA,QB,QC,QD,QE,QF,QG,QH,QI,QK]
  refine Au.fr 6291747 (α:=Nat) (fun x=>1-x) (fun x=>[(9,.lsl 2 5 0 x),(23,.d (.int .i64 x))]) (fun x=>[.box [.d (.int .i64 k),.d (S t),.d (Ss ks false),.d (.sl l.length false (AY l))],.row false [.int .i64 k,.str (bs t),.sl ks.length false (strs ks),.sl l.length false (AY l)],.row false (Bl (Hh [Nd.mk k t ks l] x))]) (fun x=>x≤1) 0 (AfR _) ?_ ?_
  ·first
   | exact ⟨[some 0,some 1,none],rfl,by simp,by simp[sA,Aw,SW,AW],by simp[HW,BW,SW,AW,Hh,Bl]⟩
  ·intro i hkk
   simp only[awK,Af0,Af1,reduceIte]
   rcases Af5 i 1 with hlt | hge
   ·have el:=Bu (Hh [Nd.mk k t ks l] i)
    have ck:=Rk [Nd.mk k t ks l] i hkk
    have cs:=NI [Nd.mk k t ks l] i hlt
    obtain rfl:i=0:=by simp at hlt;omega
    simp(maxSteps:=1000000)(disch:=(try simp only[awL]);omega)only[awS,Dy,k5,ndC,el,ck,↓awU,awY,↓reduceIte,↓reduceDIte,↓Qe,Qu,Qv,Qw,Qx,Qy,Qz,QA,QB,QC,QD,QE,QF,QG,QH,QI,QK]
    first
    | exact ⟨by simp[cut],1,Ad0 1,by simp,⟨[some 0,some 1,some 5],rfl,by simp,by simp[sA,Aw,SW,AW],by simp[HW,BW,SW,AW,Hh,Bl,DJ,ndC,cut]⟩⟩
   ·obtain rfl:i=1:=by omega
    have cE:Hh [Nd.mk k t ks l] 1=E:=by rw[hE];exact Rm [Nd.mk k t ks l]
    rw[cE]
    have eE:=Bu E
    have eL:E.length=1:=by rw[hE];simp
    have cu:cut (Bl E) 0 (1*5)=Bl E:=cut_all (by omega)
    simp(maxSteps:=1000000)(disch:=(try simp only[awL]);omega)only[awS,Dy,↓awU,awY,↓reduceIte,↓reduceDIte,↓Qe,Qu,Qv,Qw,Qx,Qy,Qz,QA,QB,QC,QD,QE,QF,QG,QH,QI,QK]
    refine Ab.frozenE (EA 29 Es [Nd.mk k t ks l] false (by simp) fun s _=>LQ s) (by rfl) ?_
    cases hnr:[Nd.mk k t ks l].any Es
    ·simp(maxSteps:=1000000)(disch:=(try simp only[awL]);omega)only[awS,Dy,frz,↓awU,awY,↓reduceIte,↓reduceDIte,↓Qe,Qu,Qv,Qw,Qx,Qy,Qz,QA,QB,QC,QD,QE,QF,QG,QH,QI,QK]
     refine Ab.of hV (by rfl) ?_
     cases okv
     ·rw[if_neg (by simp)] at hr
      subst hr
      simp(maxSteps:=1000000)(disch:=(try simp only[awL]);omega)only[awS,Dy,↓awU,awY,↓reduceIte,↓reduceDIte,↓Qe,Qu,Qv,Qw,Qx,Qy,Qz,QA,QB,QC,QD,QE,QF,QG,QH,QI,QK]
      first
      | done
      | rfl
     ·simp(maxSteps:=1000000)(disch:=(try simp only[awL]);omega)only[awS,Dy,↓awU,awY,↓reduceIte,↓reduceDIte,↓Qe,Qu,Qv,Qw,Qx,Qy,Qz,QA,QB,QC,QD,QE,QF,QG,QH,QI,QK]
      refine Ab.pure (DX hT name (by omega)) ?_
      cases hv:Lib.validD name
      ·rw[if_neg (by rw[hv];simp)] at hr
       subst hr
       simp(maxSteps:=1000000)(disch:=(try simp only[awL]);omega)only[awS,Dy,↓awU,awY,↓reduceIte,↓reduceDIte,↓Qe,Qu,Qv,Qw,Qx,Qy,Qz,QA,QB,QC,QD,QE,QF,QG,QH,QI,QK]
       first
       | done
       | rfl
      ·rw[if_pos ⟨rfl,hnr,hv⟩] at hr
       obtain ⟨c1,c2,c3⟩:=hc rfl
       obtain ⟨L',H',g1,g2,g3,g4⟩:=HO (G:=G) false E false c1 c2
       simp(maxSteps:=1000000)(disch:=(try simp only[awL]);omega)only[awS,Dy,cu,eE,↓awU,awY,↓reduceIte,↓reduceDIte,↓Qe,Qu,Qv,Qw,Qx,Qy,Qz,QA,QB,QC,QD,QE,QF,QG,QH,QI,QK]
       obtain ⟨ρ,hρ⟩:∃ ρ,ρ=outN [] 4:=⟨_,rfl⟩
       have g5:=g2.shift [.box [.d (.int .i64 k),.d (S t),.d (Ss ks false),.d (.sl l.length false (AY l))],.row false [.int .i64 k,.str (bs t),.sl ks.length false (strs ks),.sl l.length false (AY l)],.row true (Bl E),.box [.d (.int .i64 id),.d (.sl 0 true [])]]
       obtain ⟨y,y1,⟨y2,y3,⟨q,y4,y5,y6⟩,y7⟩⟩:=Ub hT hP N (F:=3) (j:=none) (ts:=[]) (id:=id) (name:=name) c3 ⟨g5,(show NoX _ by simp[NoX]).app (g3.ren _),i1,i2,by simp,rfl,rfl,by simp,fun a ha=>⟨by rw[C2];simp;omega,by simp⟩⟩
       have hne:H'≠[]:=by
        intro c
        have:=g2.lt (.n 0) (by show 0<8+_;omega)
        rw[c] at this
        simp at this
       simp only[g4,AcB,AdZ,AfZ,Af2,←hρ] at y1
       have y2':=y2
       simp only[AdY,AcB,AdZ,AfT,AfZ,Af2] at y2'
       refine Ab.newgo g1 (by rw[←eL]) hne (by simp[frz]) (by simp[frz,applyW];rfl) ?_
       intro tt
       rw[Ff]
       simp only[AcB,AdZ,AfZ,Af2,←hρ]
       simp(maxSteps:=1000000)(disch:=(try simp only[awL]);omega)only[awS,Dy,Vy,↓awU,awY,↓reduceIte,↓reduceDIte,↓Qe,Qu,Qv,Qw,Qx,Qy,Qz,QA,QB,QC,QD,QE,QF,QG,QH,QI,QK]
       first
       | (refine Ap.go y1 ⟨.inl rfl,.inl rfl,.inr (.inr ⟨_,rfl,rfl,.inl rfl⟩),trivial⟩ (by simp;omega) ?_)
       cases e:(Cp N (Ai false E) id name []).2
       ·rw[if_neg (by rw[e];simp)] at hr
        subst hr
        simp(maxSteps:=1000000)(disch:=(try simp only[awL]);omega)only[awS,Dy,Vy,↓awU,awY,↓reduceIte,↓reduceDIte,↓Qe,Qu,Qv,Qw,Qx,Qy,Qz,QA,QB,QC,QD,QE,QF,QG,QH,QI,QK]
        first
        | done
        | rfl
       ·rw[if_pos e] at hr
        subst hr
        generalize (Cp N (Ai false E) id name []).1=ts at *
        have tl:=Dl ts
        have cu2:cut (B7 ts) 0 (ts.length*3)=B7 ts:=cut_all (by omega)
        simp(maxSteps:=1000000)(disch:=(try simp only[awL]);omega)only[awS,Dy,Vy,y5,y6,tl,cu2,JQ,flB,awH,↓awU,awY,↓reduceIte,↓reduceDIte,↓Qe,Qu,Qv,Qw,Qx,Qy,Qz,QA,QB,QC,QD,QE,QF,QG,QH,QI,QK]
        first
        | done
        | rfl
    ·rw[if_neg (by rw[hnr];simp)] at hr
     subst hr
     simp(maxSteps:=1000000)(disch:=(try simp only[awL]);omega)only[awS,Dy,frz,↓awU,awY,↓reduceIte,↓reduceDIte,↓Qe,Qu,Qv,Qw,Qx,Qy,Qz,QA,QB,QC,QD,QE,QF,QG,QH,QI,QK]
     refine Ab.of hV (by rfl) ?_
     cases okv
     ·simp(maxSteps:=1000000)(disch:=(try simp only[awL]);omega)only[awS,Dy,↓awU,awY,↓reduceIte,↓reduceDIte,↓Qe,Qu,Qv,Qw,Qx,Qy,Qz,QA,QB,QC,QD,QE,QF,QG,QH,QI,QK]
      first
      | done
      | rfl
     ·simp(maxSteps:=1000000)(disch:=(try simp only[awL]);omega)only[awS,Dy,↓awU,awY,↓reduceIte,↓reduceDIte,↓Qe,Qu,Qv,Qw,Qx,Qy,Qz,QA,QB,QC,QD,QE,QF,QG,QH,QI,QK]
      first
      | done
      | rfl
end Go.Proofs.YtmidaophnbdcdaaGreatDoor
namespace Go.Proofs.YtmidaophnbdcdaaGreatDoor
open Go Go.Proofs Go.Abs
theorem NG (c b:UInt8):∀ s:List UInt8,b∈s→b∈Num.cutL c s∨b=c∨b∈Num.cutR c s
 | [],h=>by cases h
 | x::l,h=>by
   rw[Num.cutL,Num.cutR]
   by_cases e:x=c
   ·rw[if_pos e,if_pos e]
    rcases Afw.1 h with rfl | h
    ·exact .inr (.inl e)
    ·exact .inr (.inr h)
   ·rw[if_neg e,if_neg e]
    rcases Afw.1 h with rfl | h
    ·exact .inl (by simp)
    ·rcases NG c b l h with h | h | h
     ·exact .inl (AdU _ h)
     ·exact .inr (.inl h)
     ·exact .inr (.inr h)
theorem NH (c:UInt8):∀ s:List UInt8,s.length≤(Num.cutL c s).length+1+(Num.cutR c s).length
 | []=>by simp
 | x::l=>by
   have ih:=NH c l
   rw[Num.cutL,Num.cutR]
   by_cases e:x=c
   ·rw[if_pos e,if_pos e];simp;omega
   ·rw[if_neg e,if_neg e];simp only[AcB];omega
theorem dig_range {c:UInt8} (h:Num.isD c):48≤c.toNat∧c.toNat≤57:=h
theorem SS {s:List UInt8} (h:Num.decOk s=true):s.length≤26∧∀ b∈s,43≤b.toNat∧b.toNat≤57:=by
 have hb:(Num.decBody s).length≤25∧∀ b∈Num.decBody s,43≤b.toNat∧b.toNat≤57:=by
  unfold Num.decOk at h
  rw[Ad1] at h
  obtain ⟨h1,h2⟩:=h
  obtain ⟨q1,q2,q3⟩:=Num.digB_iff.1 h1
  by_cases e:(46:UInt8)∈Num.decBody s
  ·rw[decide_eq_true e] at h2
   obtain ⟨p1,p2,p3⟩:=Num.digB_iff.1 (show Num.digB (Num.decB s) 9=true by simpa using h2)
   have hl:=NH 46 (Num.decBody s)
   refine ⟨by unfold Num.decF at q2;unfold Num.decB at p2;omega,fun b hb=>?_⟩
   rcases NG 46 b _ hb with hb | hb | hb
   ·have:=dig_range (q3 b hb);omega
   ·subst hb;decide
   ·have:=dig_range (p3 b hb);omega
  ·have e2:Num.cutL 46 (Num.decBody s)=Num.decBody s:=((Num.cut_index 46 (Num.decBody s)).2 e).2.1
   unfold Num.decF at q2 q3
   rw[e2] at q2 q3
   exact ⟨by omega,fun b hb=>by have:=dig_range (q3 b hb);omega⟩
 have gen:∀ x:UInt8,43≤x.toNat∧x.toNat≤57→Num.hasP s [x]=true→Num.decBody s=s.drop 1→s.length≤26∧∀ b∈s,43≤b.toNat∧b.toNat≤57:=by
  intro x hx hp hd
  rw[hd] at hb
  cases s with
  | nil=>exact ⟨by simp,fun b hb=>by cases hb⟩
  | cons c r =>
   have e:=of_decide_eq_true hp
   simp at e
   subst e
   simp only[List.drop_succ_cons,List.drop_zero] at hb
   refine ⟨by simp;omega,fun b h=>?_⟩
   rcases Afw.1 h with rfl | h
   ·exact hx
   ·exact hb.2 b h
 by_cases c1:Num.hasP s [45]=true
 ·exact gen 45 (by decide) c1 (by unfold Num.decBody;rw[if_pos c1])
 ·by_cases c2:Num.hasP s [43]=true
  ·exact gen 43 (by decide) c2 (by unfold Num.decBody;rw[if_neg c1,if_pos c2])
  ·have:Num.decBody s=s:=by unfold Num.decBody;rw[if_neg c1,if_neg c2]
   rw[this] at hb
   exact ⟨by omega,hb.2⟩
theorem L8 {s:List UInt8} (h:Num.decOk s=true):Bb s=true:=by
 obtain ⟨h1,h2⟩:=SS h
 unfold Bb
 rw[decide_eq_true (show s.length≤1024 by omega),CI s fun b hb=>by have:=h2 b hb;omega,Agb,Agb,Agn]
 refine Ago.2 fun b hb=>?_
 have:=h2 b hb
 unfold Kq OP
 simp;omega
theorem GD {s:List UInt8} (h:Bb s=true):s.length≤1024:=by
 unfold Bb at h
 rw[Ad1] at h
 exact of_decide_eq_true h.1
structure OkN (n:Nd) (a:Nat):Prop where
 kind:1≤n.kind∧n.kind≤6
 deep:a<16
 scal:DC n.kind n.text=true
 text:n.text.length≤1024
 recd:n.kind=6→n.keys.length=n.kids.length∧n.keys.Nodup∧∀ s∈n.keys,Bb s=true
 nrecd:n.kind≠6→n.keys=[]
 leaf:n.kind≠5→n.kind≠6→n.kids=[]
 kids:∀ k∈n.kids,Ba k (a+1)=true
theorem Nb {a:Nat}:∀ {l:List Nd},Dg l a=true→∀ n∈l,Ba n a=true
 | [],_,n,h=>by cases h
 | x::r,h,n,hn=>by
   rw[Dg,Ad1] at h
   rcases Afw.1 hn with rfl | hn
   ·exact h.1
   ·exact Nb h.2 n hn
theorem V3 {k:Int} {t:List UInt8} (h:DC k t=true):t.length≤1024:=by
 unfold DC at h
 split at h
 ·rcases of_decide_eq_true h with rfl | rfl<;>decide
 ·split at h
  ·exact GD (L8 h)
  ·split at h
   ·exact GD h
   ·rw[of_decide_eq_true h];simp
theorem E3 {n:Nd} {a:Nat} (h:Ba n a=true):OkN n a:=by
 obtain ⟨k,t,ks,l⟩:=n
 rw[Ba] at h
 simp only[Ad1,Agq,decide_eq_true_eq] at h
 obtain ⟨h1,h2,h3,h4,h5,h6⟩:=h
 refine ⟨h1,h2,h3,V3 h3,fun k6=>?_,fun k6=>?_,fun k5 k6=>?_,Nb h6⟩
 ·have k6:k=6:=k6
  unfold EO at h4
  rw[if_pos k6] at h4
  simp only[Ad1,decide_eq_true_eq,Af4] at h4
  exact ⟨h4.1,h4.2.1,h4.2.2⟩
 ·have k6:¬k=6:=k6
  unfold EO at h4
  rw[if_neg k6] at h4
  exact AfU.1 (of_decide_eq_true h4)
 ·have k5:¬k=5:=k5
  have k6:¬k=6:=k6
  rcases h5 with h5 | h5
  ·omega
  ·exact AfU.1 h5
mutual
theorem Jq:∀ (n:Nd) (a:Nat),Ba n (a+1)=true→Ba n a=true
 | .mk k t ks l,a,h=>by
   rw[Ba] at h ⊢
   simp only[Ad1,decide_eq_true_eq] at h ⊢
   exact ⟨h.1,by omega,h.2.2.1,h.2.2.2.1,h.2.2.2.2.1,Lx l (a+1) h.2.2.2.2.2⟩
theorem Lx:∀ (l:List Nd) (a:Nat),Dg l (a+1)=true→Dg l a=true
 | [],_,_=>rfl
 | n::r,a,h=>by
   rw[Dg] at h ⊢
   simp only[Ad1] at h ⊢
   exact ⟨Jq n a h.1,Lx r a h.2⟩
end
mutual
theorem Ll:∀ (n:Nd) (a:Nat),Ba n a=true→Gm n
 | .mk k t ks l,a,h=>by
   have o:=E3 h
   rw[Ba] at h
   simp only[Ad1] at h
   refine ⟨fun k6=>(o.recd k6).1,fun s hs=>?_,M6 l (a+1) h.2.2.2.2.2⟩
   by_cases k6:k=6
   ·have:=GD ((o.recd k6).2.2 s hs);omega
   ·have:=o.nrecd k6
    have e:ks=[]:=this
    rw[e] at hs;cases hs
theorem M6:∀ (l:List Nd) (a:Nat),Dg l a=true→Lj l
 | [],_,_=>trivial
 | n::r,a,h=>by
   rw[Dg,Ad1] at h
   exact ⟨Ll n a h.1,M6 r a h.2⟩
end
def Te (a P:Nat):Pt→Prop
 | .c p x=>p.length≤P∧x.1.length≤1024
 | .l p kids=>p.length≤P∧∀ k∈kids,Ba k (a+1)=true
theorem NP {n:Nd} {a:Nat} (h:Ba n a=true):(Bm n).1.length≤1024:=by
 unfold Bm
 split
 ·exact (E3 h).text
 ·simp
mutual
theorem PN:∀ (n:Nd) (a b:Nat) (front:List UInt8),Ba n a=true→b≤a→n.kind=6→∀ q∈Bi n front,Te b (front.length+1025*(16-a)) q
 | .mk k t ks l,a,b,front,h,hb,h6,q,hq=>by
   have o:=E3 h
   have k6:k=6:=h6
   have hd:a<16:=o.deep
   obtain ⟨r1,r2,r3⟩:=o.recd h6
   have r1:ks.length=l.length:=r1
   have r3:∀ s∈ks,Bb s=true:=r3
   have hk:Dg l (a+1)=true:=by
    rw[Ba] at h
    simp only[Ad1] at h
    exact h.2.2.2.2.2
   have:=M9 l (a+1) b front ks hk (by omega) (fun s hs=>GD (r3 s hs)) q hq
   have e:1025+1025*(16-(a+1))≤1025*(16-a):=by omega
   cases q with
   | c p x=>exact ⟨by have:=this.1;omega,this.2⟩
   | l p x=>exact ⟨by have:=this.1;omega,this.2⟩
theorem M9:∀ (l:List Nd) (a b:Nat) (front:List UInt8) (ks:List (List UInt8)),Dg l a=true→b+1≤a→(∀ s∈ks,s.length≤1024)→∀ q∈D2 l front ks,Te b (front.length+1025+1025*(16-a)) q
 | [],_,_,_,_,_,_,_,q,hq=>by cases hq
 | n::r,a,b,front,ks,h,hb,hs,q,hq=>by
   rw[Dg,Ad1] at h
   have o:=E3 h.1
   have hkey:(ks.headD []).length≤1024:=by
    cases ks with
    | nil=>simp
    | cons k kr=>exact hs k (by simp)
   rw[Df] at hq
   rcases AdX.1 hq with hq | hq
   ·split at hq
    ·rename_i k6
     have:=PN n a b (front++ks.headD []++[46]) h.1 (by omega) k6 q hq
     have e:(front++ks.headD []++[46]).length≤front.length+1025:=by simp only[AdY,AcB,AdZ];omega
     cases q with
     | c p x=>exact ⟨by have:=this.1;omega,this.2⟩
     | l p x=>exact ⟨by have:=this.1;omega,this.2⟩
    ·split at hq
     ·rw[AdV.1 hq]
      refine ⟨by rw[AdY];omega,fun k hk=>?_⟩
      have:=o.kids k hk
      have mono:∀ d,Ba k (b+1+d)=true→Ba k (b+1)=true:=by
       intro d
       induction d with
       | zero=>exact id
       | succ d ih=>intro h;exact ih (Jq _ _ h)
      exact mono (a-b) (by rw[show b+1+(a-b)=a+1 by omega];exact this)
     ·rw[AdV.1 hq]
      exact ⟨by rw[AdY];omega,NP h.1⟩
   ·exact M9 r a b front ks.tail h.2 hb (fun s hs'=>hs s (Agj hs')) q hq
end
structure LyV (a P:Nat) (s:Ly):Prop where
 abv:∀ x∈s.above,0≤x∧x<1000000
 ps:∀ p∈s.paths,p.length≤P
 cs:∀ r∈s.rows,∀ p c,r p=some c→c.1.length≤1024
 ls:∀ p∈s.lists,p.length≤P
 sv:∀ p,p∈s.lists↔¬s.sv p=0
 nd:s.lists.Nodup
 it:∀ p,∀ e∈s.it p,Ba e.2 (a+1)=true∧0≤e.1∧e.1<1000000
theorem Te.mono {a P Q:Nat} {q:Pt} (h:Te a P q) (hq:P≤Q):Te a Q q:=by
 cases q with
 | c p x=>exact ⟨AfJ h.1 hq,h.2⟩
 | l p x=>exact ⟨AfJ h.1 hq,h.2⟩
theorem LyV.part {a P:Nat} {s:Ly} (h:LyV a P s) (h0:0<s.rows.length) (h1:s.rows.length≤1000000) {q:Pt} (hq:Te a P q):LyV a P (s.part q):=by
 cases q with
 | c p x =>
  refine ⟨h.abv,fun y hy=>?_,fun r hr y c hc=>?_,h.ls,h.sv,h.nd,h.it⟩
  ·have hy:y∈(if p∈s.paths then s.paths else s.paths++[p]):=hy
   split at hy
   ·exact h.ps y hy
   ·rcases AdX.1 hy with hy | hy
    ·exact h.ps y hy
    ·rw[AdV.1 hy];exact hq.1
  ·have hr:r∈s.rows.modify (s.rows.length-1) fun r=>Ib r p x:=hr
   obtain ⟨i,hi,e⟩:=Agk hr
   rw[Agl] at e
   have hi':i<s.rows.length:=by simpa using hi
   split at e
   ·rw[←e] at hc
    unfold Ib at hc
    split at hc
    ·cases hx:s.rows[i] p with
     | none =>
      rw[hx] at hc
      cases hc
      exact hq.2
     | some d =>
      rw[hx] at hc
      cases hc
      exact h.cs _ (AfV hi') p d hx
    ·exact h.cs _ (AfV hi') y c hc
   ·rw[←e] at hc
    exact h.cs _ (AfV hi') y c hc
 | l p kids =>
  show LyV a P (s.list p kids)
  unfold Ly.list
  split
  ·exact h
  ·rename_i hne
   refine ⟨h.abv,h.ps,h.cs,fun y hy=>?_,fun y=>?_,?_,fun y e he=>?_⟩
   ·have hy:y∈(if s.sv p=0 then s.lists++[p] else s.lists):=hy
    split at hy
    ·rcases AdX.1 hy with hy | hy
     ·exact h.ls y hy
     ·rw[AdV.1 hy];exact hq.1
    ·exact h.ls y hy
   ·show y∈(if s.sv p=0 then s.lists++[p] else s.lists)↔¬Cg s.sv p s.rows.length y=0
    by_cases e:y=p
    ·subst e
     rw[B8]
     split
     ·exact ⟨fun _=>by omega,fun _=>by simp⟩
     ·rename_i c
      exact ⟨fun _=>by omega,fun _=>(h.sv y).2 c⟩
    ·rw[BN _ _ e,←h.sv y]
     split
     ·simp[e]
     ·exact Iff.rfl
   ·show (if s.sv p=0 then s.lists++[p] else s.lists).Nodup
    split
    ·rename_i c
     refine Ae2.2 ⟨h.nd,by simp,fun x hx y hy e=>?_⟩
     rw[AdV.1 hy] at e
     subst e
     exact (h.sv x).1 hx c
    ·exact h.nd
   ·have he:e∈Cg s.it p (s.it p++kids.map fun k=>((s.rows.length:Int)-1,k)) y:=he
    by_cases c:y=p
    ·subst c
     rw[B8] at he
     rcases AdX.1 he with he | he
     ·exact h.it y e he
     ·obtain ⟨k,hk,rfl⟩:=Af3.1 he
      exact ⟨hq.2 k hk,by simp only;omega,by simp only;omega⟩
    ·rw[BN _ _ c] at he
     exact h.it y e he
theorem LyV.parts {a P:Nat}:∀ (l:List Pt) {s:Ly},LyV a P s→0<s.rows.length→s.rows.length≤1000000→(∀ q∈l,Te a P q)→LyV a P (s.parts l)
 | [],s,h,_,_,_=>h
 | q::r,s,h,h0,h1,hq=>by
   have:=s.part_rows q
   exact LyV.parts r (h.part h0 h1 (hq q (by simp))) (by omega) (by omega) fun x hx=>hq x (AdU _ hx)
theorem LyV.row {a P:Nat} {s:Ly} (h:LyV a P s) {x:Int} (h0:0≤x) (h1:x<1000000):LyV a P (s.row x):=by
 refine ⟨fun y hy=>?_,h.ps,fun r hr p c hc=>?_,h.ls,h.sv,h.nd,h.it⟩
 ·rcases AdX.1 hy with hy | hy
  ·exact h.abv y hy
  ·rw[AdV.1 hy];exact ⟨h0,h1⟩
 ·rcases AdX.1 hr with hr | hr
  ·exact h.cs r hr p c hc
  ·rw[AdV.1 hr] at hc;cases hc
theorem LyV.elm {a:Nat} {s:Ly} (h:LyV a 16500 s) (recs:Bool) {e:Elm} (he:Ba e.2 a=true) (h0:0≤e.1) (h1:e.1<1000000) (hr:s.rows.length+1≤1000000) (hk:recs=true→e.2.kind=6):LyV a 16500 (s.elm recs e):=by
 unfold Ly.elm
 refine LyV.parts _ (h.row h0 h1) (by simp[Ly.row]) (by simpa[Ly.row] using hr) fun q hq=>?_
 split at hq
 ·rename_i hrec
  have:=PN e.2 a a [] he (Ad0 _) (hk hrec) q hq
  refine this.mono ?_
  rw[AdZ]
  omega
 ·rw[AdV.1 hq]
  exact ⟨by simp[DA],NP he⟩
theorem Adw (a:Nat) (f:Bool):LyV a 16500 (ly0 f):=⟨(fun x hx=>by cases hx),(fun x hx=>by cases hx),(fun x hx=>by cases hx),(fun x hx=>by cases hx),fun p=>⟨(fun hx=>by cases hx),fun hx=>absurd rfl hx⟩,AfY,fun p e he=>by cases he⟩
theorem gK_V {a:Nat} (recs f:Bool) (l:List Elm) (hl:l.length≤900000) (ho:∀ e∈l,Ba e.2 a=true∧0≤e.1∧e.1<1000000) (hk:recs=true→∀ e∈l,e.2.kind=6):∀ k,k≤l.length→LyV a 16500 (gK recs f l k)
 | 0,_=>Adw a f
 | k+1,h=>by
   have hm:l.getD k noE∈l:=EF (by omega)
   have hr:=FK recs f l k (by omega)
   rw[EQ recs f l (by omega)]
   exact (gK_V recs f l hl ho hk k (by omega)).elm recs (ho _ hm).1 (ho _ hm).2.1 (ho _ hm).2.2 (by omega) fun q=>hk q _ hm
def ptZ:Pt→Nat
 | .c _ _=>0
 | .l _ kids=>Cc kids
def HJ:List Pt→Nat
 | []=>0
 | q::r=>ptZ q+HJ r
theorem Wd (a b:List Pt):HJ (a++b)=HJ a+HJ b:=by
 induction a with
 | nil=>simp[HJ]
 | cons x r ih=>simp only[AfS,HJ,ih];omega
mutual
theorem Lo:∀ (n:Nd) (front:List UInt8),HJ (Bi n front)≤Cc n.kids
 | .mk _ _ ks l,front=>JX l front ks
theorem JX:∀ (l:List Nd) (front:List UInt8) (ks:List (List UInt8)),HJ (D2 l front ks)≤Cc l
 | [],_,_=>Ad0 _
 | n::r,front,ks=>by
   have h2:=JX r front ks.tail
   have e:=FF n
   rw[Df,Wd,Cc]
   have h1:HJ (if n.kind=6 then Bi n (front++ks.headD []++[46]) else if n.kind=5 then [.l (front++ks.headD []) n.kids] else [.c (front++ks.headD []) (Bm n)])≤nsz n:=by
    split
    ·have:=Lo n (front++ks.headD []++[46]);omega
    ·split
     ·simp only[HJ,ptZ];omega
     ·simp only[HJ,ptZ];omega
   omega
end
theorem IV (x:Int):∀ l:List Nd,CD (l.map fun k=>(x,k))=Cc l
 | []=>rfl
 | n::r=>by rw[AfO,CD,Cc,IV x r]
theorem AaM (s:Ly) (q:Pt) (p:List UInt8):CD ((s.part q).it p)≤CD (s.it p)+ptZ q:=by
 cases q with
 | c y x=>exact AfN _ _
 | l y kids =>
  show CD ((s.list y kids).it p)≤_
  unfold Ly.list
  split
  ·exact AfN _ _
  ·show CD (Cg s.it y (s.it y++kids.map fun k=>((s.rows.length:Int)-1,k)) p)≤_
   by_cases e:p=y
   ·subst e;rw[B8,LZ,IV];exact Ad0 _
   ·rw[BN _ _ e];exact AfN _ _
theorem TG:∀ (l:List Pt) (s:Ly) (p:List UInt8),CD ((s.parts l).it p)≤CD (s.it p)+HJ l
 | [],_,_=>Ad0 _
 | q::r,s,p=>by
   have h1:=TG r (s.part q) p
   have h2:=AaM s q p
   have e:s.parts (q::r)=(s.part q).parts r:=rfl
   rw[e,HJ]
   omega
theorem gK_Z (recs f:Bool) (l:List Elm) (p:List UInt8):∀ k,k≤l.length→CD ((gK recs f l k).it p)≤CD (l.take k)
 | 0,_=>AfR _
 | k+1,h=>by
   have ih:=gK_Z recs f l p k (by omega)
   rw[EQ recs f l (by omega),Jz (by omega)]
   unfold Ly.elm
   have h1:=TG (if recs=true then Bi (l.getD k noE).2 [] else [.c DA (Bm (l.getD k noE).2)]) ((gK recs f l k).row (l.getD k noE).1) p
   have h2:HJ (if recs=true then Bi (l.getD k noE).2 [] else [.c DA (Bm (l.getD k noE).2)])≤nsz (l.getD k noE).2:=by
    have e:=FF (l.getD k noE).2
    split
    ·have:=Lo (l.getD k noE).2 [];omega
    ·simp only[HJ,ptZ];omega
   have h3:((gK recs f l k).row (l.getD k noE).1).it p=(gK recs f l k).it p:=rfl
   rw[h3] at h1
   omega
theorem Ni {l:List Elm} (h:(!l.any B2)=true):∀ e∈l,e.2.kind=6:=fun e he=>by
 simp only[Agn,Ago] at h
 have:=h e he
 simpa[B2,Es] using this
theorem LU {a:Nat} (f:Bool) (l:List Elm) (hz:CD l≤4000) (ho:∀ e∈l,Ba e.2 a=true∧0≤e.1∧e.1<1000000) :
  LyV a 16500 (Ai f l)∧LyB (Ai f l) 4000∧(∀ p,CD ((Ai f l).it p)≤CD l)∧(Ai f l).rows.length=l.length∧(Ai f l).above.length=l.length:=by
 have hl:=Fm l
 have h1:=gK_V (a:=a) (!l.any B2) f l (by omega) ho (fun q=>Ni q) l.length (Ad0 _)
 have h2:=OK (!l.any B2) f l (by omega) l.length (Ad0 _)
 have h3:=fun p=>gK_Z (!l.any B2) f l p l.length (Ad0 _)
 have h4:=FK (!l.any B2) f l l.length (Ad0 _)
 have h5:=LW (!l.any B2) f l l.length (Ad0 _)
 rw[SD] at h1 h2 h3 h4 h5
 rw[Agd] at h2 h3
 exact ⟨h1,h2.mono hz,h3,h4,h5⟩
theorem LV {a:Nat} (f:Bool) (l:List Elm) (hz:CD l≤4000) (ho:∀ e∈l,Ba e.2 a=true∧0≤e.1∧e.1<1000000):LyT (Ai f l):=by
 obtain ⟨h1,h2,h3,h4,h5⟩:=LU (a:=a) f l hz ho
 have hl:=Fm l
 exact ⟨fun x hx=>by have:=h1.abv x hx;omega,by omega,by have:=h2.paths;omega,by omega,fun p hp=>by have:=h1.ps p hp;omega,fun r hr p c hc=>by have:=h1.cs r hr p c hc;omega⟩
theorem JH:∀ (n a:Nat) (f:Bool) (l:List Elm) (m:Nat),16≤a+n→CD l≤4000→(∀ e∈l,Ba e.2 a=true∧0≤e.1∧e.1<1000000)→m+n*16501≤1000000000→N2 (n+1) (Ai f l) m
 | 0,a,f,l,m,ha,hz,ho,hm=>by
   have hl:l=[]:=by
    cases l with
    | nil=>rfl
    | cons e r =>
     have:=(E3 (ho e (by simp)).1).deep
     omega
   subst hl
   exact ⟨LV (a:=a) f [] hz ho,by omega,AfR _,AfY,fun p hp=>by cases hp⟩
 | n+1,a,f,l,m,ha,hz,ho,hm=>by
   obtain ⟨h1,h2,h3,h4,h5⟩:=LU (a:=a) f l hz ho
   refine ⟨LV (a:=a) f l hz ho,by omega,by have:=h2.lists;omega,h1.nd,fun p hp=>?_⟩
   have hp3:=h3 p
   have hpl:=h1.ls p hp
   exact ⟨fun e he=>Ll e.2 _ (h1.it p e he).1,by omega,JH n (a+1) true _ _ (by omega) (by omega) (fun e he=>h1.it p e he) (by rw[Ags] at hm;omega)⟩
theorem T3 {n:Nd} (hz:nsz n≤4000) {m:Nat} (hm:m≤1000000) (h:Ba n 0=true):(∀ e∈Dp n,Gm e.2)∧CD (Dp n)≤4000∧N2 17 (Ai false (Dp n)) m:=by
 have o:=E3 h
 have hk:∀ k∈Ew n,Ba k 0=true:=fun k hk=>by
  unfold Ew at hk
  split at hk
  ·exact Jq k 0 (o.kids k hk)
  ·rw[AdV.1 hk];exact h
 have hz2:CD (Dp n)≤4000:=by
  unfold Dp
  rw[IV]
  unfold Ew
  split
  ·have:=FF n;omega
  ·simp only[Cc];omega
 have ho:∀ e∈Dp n,Ba e.2 0=true∧0≤e.1∧e.1<1000000:=fun e he=>by
  obtain ⟨k,hk2,rfl⟩:=Af3.1 he
  exact ⟨hk k hk2,by simp,by simp⟩
 exact ⟨fun e he=>Ll e.2 0 (ho e he).1,hz2,JH 16 0 false _ _ (by omega) hz2 ho (by omega)⟩
end Go.Proofs.YtmidaophnbdcdaaGreatDoor
namespace Go.Proofs.YtmidaophnbdcdaaGreatDoor
open Go Go.Proofs Go.Abs
theorem Wr:∀ a:Fin 5,∀ b:Fin 40,∀ e:Fin 6,(Num.decOk (D5.getD a.val []++Cs b.val) && (Num.decOk (if E4 ((D5.getD a.val []++Cs b.val).getD 0 0)=true then D5.getD a.val []++Cs b.val else 48::(D5.getD a.val []++Cs b.val)) &&
  (Num.decOk ((D5.getD a.val []++Cs b.val)++(46::CX.getD e.val [])) && Num.decOk ((if E4 ((D5.getD a.val []++Cs b.val).getD 0 0)=true then D5.getD a.val []++Cs b.val else 48::(D5.getD a.val []++Cs b.val))++(46::CX.getD e.val [])))))=true:=by decide
theorem Ng (t:List Int) (k:Nat):Num.decOk (HL t k)=true:=by
 have h1:=@pk_range t k 5 (by decide)
 have h2:=@pk_range t (k+1) 40 (by decide)
 have h3:=@pk_range t (k+4) 6 (by decide)
 have:=Wr ⟨(pk t k 5).toNat,by omega⟩ ⟨(pk t (k+1) 40).toNat,by omega⟩ ⟨(pk t (k+4) 6).toNat,by omega⟩
 simp only[Ad1] at this
 obtain ⟨q1,q2,q3,q4⟩:=this
 unfold HL IF Gt
 by_cases c1:pk t (k+3) 3=0
 ·rw[if_pos c1]
  by_cases c2:pk t (k+2) 3=0
  ·rw[if_pos c2];exact q4
  ·rw[if_neg c2];exact q3
 ·rw[if_neg c1]
  by_cases c2:pk t (k+2) 3=0
  ·rw[if_pos c2];exact q2
  ·rw[if_neg c2];exact q1
def EP:List (List UInt8):=[[97],[98],[97,46,98],[99],[],[114,111,119]]
def IM (t:List Int) (k:Nat):List UInt8:=EP.getD (pk t k 6).toNat []
def FW (f:Nat→Nd × Nat):Nat→List Nd→Nat→List Nd × Nat
 | 0,l,k=>(l,k)
 | m+1,l,k=>FW f m (l++[(f k).1]) (f k).2
def CU (t:List Int) (f:Nat→Nd × Nat):Nat→List (List UInt8)→List Nd→Nat→(List (List UInt8) × List Nd) × Nat
 | 0,ks,l,k=>((ks,l),k)
 | m+1,ks,l,k=>if IM t k∈ks then CU t f m ks l (k+1) else CU t f m (ks++[IM t k]) (l++[(f (k+1)).1]) (f (k+1)).2
def Gn (t:List Int) (f:Nat→Nd × Nat) (k:Nat):Nd × Nat :=
 (.mk 6 [] (CU t f (pk t k 4).toNat [] [] (k+1)).1.1 (CU t f (pk t k 4).toNat [] [] (k+1)).1.2,(CU t f (pk t k 4).toNat [] [] (k+1)).2)
def CO (t:List Int):Nat→Nat→Nd × Nat
 | 0,k=>(.mk 1 [] [] [],k)
 | d+1,k =>
  if pk t k 8=0 then (.mk 1 [] [] [],k+1)
  else if pk t k 8=1 then (.mk 2 (if pk t (k+1) 2=0 then Hd else Hf) [] [],k+2)
  else if pk t k 8=2 then (.mk 3 (HL t (k+1)) [] [],Mw t (k+1))
  else if pk t k 8<5∨d=0 then (.mk 4 (Ex t (k+2) (pk t (k+1) 8).toNat) [] [],fieldK t (k+2) (pk t (k+1) 8).toNat)
  else if pk t k 8=5 then (.mk 5 [] [] (FW (CO t d) (pk t (k+1) 4).toNat [] (k+2)).1,(FW (CO t d) (pk t (k+1) 4).toNat [] (k+2)).2)
  else Gn t (CO t d) (k+1)
theorem DH {a:Nat}:∀ {l:List Nd},(∀ n∈l,Ba n a=true)→Dg l a=true
 | [],_=>rfl
 | n::r,h=>by rw[Dg,h n (by simp),DH fun x hx=>h x (AdU _ hx)];rfl
theorem KG {z:Nat}:∀ {l:List Nd},(∀ n∈l,nsz n≤z)→Cc l≤z*l.length
 | [],_=>AfR _
 | n::r,h=>by
   have h1:=h n (by simp)
   have h2:=KG (l:=r) fun x hx=>h x (AdU _ hx)
   rw[Cc,AcB,Nat.mul_succ]
   omega
theorem WY:∀ s∈EP,Bb s=true:=by decide
theorem U0 {s:List UInt8} (h:s∈EP∨s=[]):Bb s=true:=by
 rcases h with h | h
 ·exact WY s h
 ·subst h;rfl
theorem SG:∀ s∈wordsL,Bb s=true:=by decide
theorem SJ:∀ s∈GJ,Bb s=true:=by decide
theorem SH:∀ s∈Gu,Bb s=true:=by decide
theorem UZ:∀ s∈J1,Bb s=true:=by decide
mutual
def kA:Nd→Prop
 | .mk _ _ ks l=>(∀ s∈ks,AL s∧s.length≤3)∧kAs l
def kAs:List Nd→Prop
 | []=>True
 | n::r=>kA n∧kAs r
end
theorem T0:∀ {l:List Nd},kAs l→∀ n∈l,kA n
 | [],_,n,h=>by cases h
 | x::r,h,n,hn=>by
   rcases Afw.1 hn with rfl | hn
   ·exact h.1
   ·exact T0 h.2 n hn
theorem SA:∀ {l:List Nd},(∀ n∈l,kA n)→kAs l
 | [],_=>trivial
 | n::r,h=>⟨h n (by simp),SA fun x hx=>h x (AdU _ hx)⟩
mutual
def wN:Nd→Nat
 | .mk k _ _ l=>if k=5∨k=6 then wNs l else 1
def wNs:List Nd→Nat
 | []=>0
 | n::r=>wN n+wNs r
end
mutual
def qN:Nd→Nat
 | .mk k _ _ l=>(if k=5 then 1 else 0)+qNs l
def qNs:List Nd→Nat
 | []=>0
 | n::r=>qN n+qNs r
end
theorem ZN (n:Nd):wN n=if n.kind=5∨n.kind=6 then wNs n.kids else 1:=by cases n;rw[wN];rfl
theorem ZQ (n:Nd):qN n=(if n.kind=5 then 1 else 0)+qNs n.kids:=by cases n;rw[qN];rfl
def eW:List Elm→Nat
 | []=>0
 | e::r=>wN e.2+eW r
def eQ:List Elm→Nat
 | []=>0
 | e::r=>qN e.2+eQ r
theorem Xc (a b:List Elm):eW (a++b)=eW a+eW b:=by
 induction a with
 | nil=>simp[eW]
 | cons x r ih=>simp only[AfS,eW,ih];omega
theorem Xd (a b:List Elm):eQ (a++b)=eQ a+eQ b:=by
 induction a with
 | nil=>simp[eQ]
 | cons x r ih=>simp only[AfS,eQ,ih];omega
theorem SN (x:Int):∀ l:List Nd,eW (l.map fun k=>(x,k))=wNs l
 | []=>rfl
 | n::r=>by rw[AfO,eW,wNs,SN x r]
theorem JA (x:Int):∀ l:List Nd,eQ (l.map fun k=>(x,k))=qNs l
 | []=>rfl
 | n::r=>by rw[AfO,eQ,qNs,JA x r]
theorem Zs {l:List Elm} {k:Nat} (h:k<l.length):eW (l.take (k+1))=eW (l.take k)+wN (l.getD k noE).2:=by
 rw[Aga,AfI h,Xc,Afv,AfI h]
 simp[eW]
theorem Zt {l:List Elm} {k:Nat} (h:k<l.length):eQ (l.take (k+1))=eQ (l.take k)+qN (l.getD k noE).2:=by
 rw[Aga,AfI h,Xd,Afv,AfI h]
 simp[eQ]
theorem Rb {s:List UInt8} (h:Bb s=true):Dq s=true:=by
 unfold Bb at h
 rw[Ad1,Ad1] at h
 unfold Dq
 rw[h.1,h.2.1];rfl
theorem LA {n:Nd} {a:Nat} (h:Ba n a=true):CN (Bm n)=true:=by
 have o:=E3 h
 have key:∀ t:List UInt8,Dq t=true→CN (t,false)=true:=fun t ht=>by unfold CN;rw[ht];rfl
 unfold Bm
 split
 ·rename_i hk
  refine key _ ?_
  have hs:=o.scal
  unfold DC at hs
  rcases hk with hk | hk | hk
  ·rw[if_pos hk] at hs
   rcases of_decide_eq_true hs with e | e
   ·rw[e];decide
   ·rw[e];decide
  ·rw[if_neg (by omega),if_pos hk] at hs
   exact Rb (L8 hs)
  ·rw[if_neg (by omega),if_neg (by omega),if_pos hk] at hs
   exact Rb hs
 ·rfl
def PtA (P:Nat):Pt→Prop
 | .c p x=>(AL p∧p.length≤P)∧CN x=true
 | .l p kids=>(AL p∧p.length≤P)∧∀ k∈kids,kA k
theorem PtA.mono {P Q:Nat} {q:Pt} (h:PtA P q) (hq:P≤Q):PtA Q q:=by
 cases q with
 | c p x=>exact ⟨⟨h.1.1,AfJ h.1.2 hq⟩,h.2⟩
 | l p x=>exact ⟨⟨h.1.1,AfJ h.1.2 hq⟩,h.2⟩
theorem NY:AL [46]:=by unfold AL;decide
mutual
theorem TH:∀ (n:Nd) (a:Nat) (front:List UInt8),Ba n a=true→kA n→AL front→n.kind=6→∀ q∈Bi n front,PtA (front.length+4*(16-a)) q
 | .mk k t ks l,a,front,h,hA,hf,h6,q,hq=>by
   have hd:a<16:=(E3 h).deep
   have hk:Dg l (a+1)=true:=by
    rw[Ba] at h
    simp only[Ad1] at h
    exact h.2.2.2.2.2
   have:=PO l (a+1) front ks hk hA.2 hf hA.1 q hq
   exact this.mono (by omega)
theorem PO:∀ (l:List Nd) (a:Nat) (front:List UInt8) (ks:List (List UInt8)),Dg l a=true→kAs l→AL front→(∀ s∈ks,AL s∧s.length≤3)→∀ q∈D2 l front ks,PtA (front.length+4+4*(16-a)) q
 | [],_,_,_,_,_,_,_,q,hq=>by cases hq
 | n::r,a,front,ks,h,hA,hf,hs,q,hq=>by
   rw[Dg,Ad1] at h
   have hkey:AL (ks.headD [])∧(ks.headD []).length≤3:=by
    cases ks with
    | nil=>exact ⟨CA,by simp⟩
    | cons k kr=>exact hs k (by simp)
   have hfk:=A2 hf hkey.1
   have hfl:(front++ks.headD []).length≤front.length+3:=by rw[AdY];omega
   rw[Df] at hq
   rcases AdX.1 hq with hq | hq
   ·split at hq
    ·rename_i k6
     have:=TH n a (front++ks.headD []++[46]) h.1 hA.1 (A2 hfk NY) k6 q hq
     exact this.mono (by rw[AdY];simp only[AcB,AdZ];omega)
    ·split at hq
     ·rw[AdV.1 hq]
      refine ⟨⟨hfk,by omega⟩,fun k hk=>?_⟩
      have h1:=hA.1
      cases n
      exact T0 h1.2 k hk
     ·rw[AdV.1 hq]
      exact ⟨⟨hfk,by omega⟩,LA h.1⟩
   ·exact PO r a front ks.tail h.2 hA.2 hf (fun s hs'=>hs s (Agj hs')) q hq
end
def ptW:Pt→Nat
 | .c _ _=>1
 | .l _ kids=>wNs kids
def ptQ:Pt→Nat
 | .c _ _=>0
 | .l _ kids=>1+qNs kids
def Jm:List Pt→Nat
 | []=>0
 | q::r=>ptW q+Jm r
def Jn:List Pt→Nat
 | []=>0
 | q::r=>ptQ q+Jn r
theorem We (a b:List Pt):Jm (a++b)=Jm a+Jm b:=by
 induction a with
 | nil=>simp[Jm]
 | cons x r ih=>simp only[AfS,Jm,ih];omega
theorem Wf (a b:List Pt):Jn (a++b)=Jn a+Jn b:=by
 induction a with
 | nil=>simp[Jn]
 | cons x r ih=>simp only[AfS,Jn,ih];omega
mutual
theorem Lp:∀ (n:Nd) (front:List UInt8),Jm (Bi n front)≤wNs n.kids∧Jn (Bi n front)≤qNs n.kids
 | .mk _ _ ks l,front=>JY l front ks
theorem JY:∀ (l:List Nd) (front:List UInt8) (ks:List (List UInt8)),Jm (D2 l front ks)≤wNs l∧Jn (D2 l front ks)≤qNs l
 | [],_,_=>⟨Ad0 _,Ad0 _⟩
 | n::r,front,ks=>by
   have h2:=JY r front ks.tail
   have e:=ZN n
   have e2:=ZQ n
   rw[Df,We,Wf,wNs,qNs]
   have h1:Jm (if n.kind=6 then Bi n (front++ks.headD []++[46]) else if n.kind=5 then [.l (front++ks.headD []) n.kids] else [.c (front++ks.headD []) (Bm n)])≤wN n ∧
     Jn (if n.kind=6 then Bi n (front++ks.headD []++[46]) else if n.kind=5 then [.l (front++ks.headD []) n.kids] else [.c (front++ks.headD []) (Bm n)])≤qN n:=by
    by_cases k6:n.kind=6
    ·rw[if_pos (.inr k6)] at e
     rw[if_pos k6,e,e2]
     have:=Lp n (front++ks.headD []++[46])
     omega
    ·rw[if_neg k6]
     by_cases k5:n.kind=5
     ·rw[if_pos (.inl k5)] at e
      rw[if_pos k5] at e2
      rw[if_pos k5,e,e2]
      simp only[Jm,Jn,ptW,ptQ]
      omega
     ·rw[if_neg (by omega)] at e
      rw[if_neg k5,e]
      simp only[Jm,Jn,ptW,ptQ]
      omega
   omega
end
def lQ (it:List UInt8→List Elm):List (List UInt8)→Nat
 | []=>0
 | p::r=>1+eQ (it p)+lQ it r
theorem AaQ (it:List UInt8→List Elm) (a b:List (List UInt8)):lQ it (a++b)=lQ it a+lQ it b:=by
 induction a with
 | nil=>simp[lQ]
 | cons x r ih=>simp only[AfS,lQ,ih];omega
theorem OE {it it':List UInt8→List Elm}:∀ {l:List (List UInt8)},(∀ p∈l,it' p=it p)→lQ it' l=lQ it l
 | [],_=>rfl
 | p::r,h=>by rw[lQ,lQ,h p (by simp),OE fun q hq=>h q (AdU _ hq)]
theorem WH {it:List UInt8→List Elm} {p:List UInt8} {x:List Elm}:∀ {l:List (List UInt8)},l.Nodup→p∈l→lQ (Cg it p (it p++x)) l=lQ it l+eQ x
 | [],_,h=>by cases h
 | q::r,hn,h=>by
   have hn:=Ae1.1 hn
   rw[lQ,lQ]
   by_cases e:q=p
   ·subst e
    rw[B8,Xd,OE (it:=it) fun y hy=>BN it _ (fun (e:y=q)=>hn.1 (e▸hy))]
    omega
   ·rw[BN _ _ e,WH hn.2 ((Afw.1 h).resolve_left fun c=>e c.symm)]
    omega
structure LyA (P W Q:Nat) (s:Ly):Prop where
 ps:∀ p∈s.paths,AL p∧p.length≤P
 cs:∀ r∈s.rows,∀ p c,r p=some c→CN c=true
 ls:∀ p∈s.lists,AL p∧p.length≤P
 it:∀ p,∀ e∈s.it p,kA e.2
 pl:s.paths.length≤W
 iw:∀ p,eW (s.it p)≤W
 no:∀ p,p∉s.lists→s.it p=[]
 qs:lQ s.it s.lists≤Q
 sv:∀ p,p∈s.lists↔¬s.sv p=0
 nd:s.lists.Nodup
theorem LyA.mono {P W Q W' Q':Nat} {s:Ly} (h:LyA P W Q s) (hw:W≤W') (hq:Q≤Q'):LyA P W' Q' s :=
 ⟨h.ps,h.cs,h.ls,h.it,AfJ h.pl hw,fun p=>AfJ (h.iw p) hw,h.no,AfJ h.qs hq,h.sv,h.nd⟩
theorem LyA.part {P W Q:Nat} {s:Ly} (h:LyA P W Q s) (h0:0<s.rows.length) {q:Pt} (hq:PtA P q):LyA P (W+ptW q) (Q+ptQ q) (s.part q):=by
 cases q with
 | c p x =>
  refine ⟨fun y hy=>?_,fun r hr y c hc=>?_,h.ls,h.it,?_,fun y=>AfJ (h.iw y) (AfN _ _),h.no,AfJ h.qs (AfN _ _),h.sv,h.nd⟩
  ·have hy:y∈(if p∈s.paths then s.paths else s.paths++[p]):=hy
   split at hy
   ·exact h.ps y hy
   ·rcases AdX.1 hy with hy | hy
    ·exact h.ps y hy
    ·rw[AdV.1 hy];exact hq.1
  ·have hr:r∈s.rows.modify (s.rows.length-1) fun r=>Ib r p x:=hr
   obtain ⟨i,hi,e⟩:=Agk hr
   rw[Agl] at e
   have hi':i<s.rows.length:=by simpa using hi
   split at e
   ·rw[←e] at hc
    unfold Ib at hc
    split at hc
    ·cases hx:s.rows[i] p with
     | none =>
      rw[hx] at hc
      cases hc
      exact hq.2
     | some d =>
      rw[hx] at hc
      cases hc
      exact h.cs _ (AfV hi') p d hx
    ·exact h.cs _ (AfV hi') y c hc
   ·rw[←e] at hc
    exact h.cs _ (AfV hi') y c hc
  ·show (if p∈s.paths then s.paths else s.paths++[p]).length≤W+1
   have:=h.pl
   split
   ·omega
   ·rw[AdY];simp only[AcB,AdZ];omega
 | l p kids =>
  show LyA P _ _ (s.list p kids)
  unfold Ly.list
  split
  ·exact h.mono (AfN _ _) (AfN _ _)
  ·rename_i hne
   have hs:=h.sv p
   refine ⟨h.ps,h.cs,fun y hy=>?_,fun y e he=>?_,AfJ h.pl (AfN _ _),fun y=>?_,fun y hy=>?_,?_,fun y=>?_,?_⟩
   ·have hy:y∈(if s.sv p=0 then s.lists++[p] else s.lists):=hy
    split at hy
    ·rcases AdX.1 hy with hy | hy
     ·exact h.ls y hy
     ·rw[AdV.1 hy];exact hq.1
    ·exact h.ls y hy
   ·have he:e∈Cg s.it p (s.it p++kids.map fun k=>((s.rows.length:Int)-1,k)) y:=he
    by_cases c:y=p
    ·subst c
     rw[B8] at he
     rcases AdX.1 he with he | he
     ·exact h.it y e he
     ·obtain ⟨k,hk,rfl⟩:=Af3.1 he
      exact hq.2 k hk
    ·rw[BN _ _ c] at he
     exact h.it y e he
   ·show eW (Cg s.it p (s.it p++kids.map fun k=>((s.rows.length:Int)-1,k)) y)≤W+wNs kids
    have:=h.iw y
    by_cases c:y=p
    ·subst c;rw[B8,Xc,SN];omega
    ·rw[BN _ _ c];omega
   ·show Cg s.it p (s.it p++kids.map fun k=>((s.rows.length:Int)-1,k)) y=[]
    have hy:y∉(if s.sv p=0 then s.lists++[p] else s.lists):=hy
    have hyp:¬y=p:=fun e=>hy (by
     subst e
     split
     ·simp
     ·rename_i c;exact hs.2 c)
    rw[BN _ _ hyp]
    refine h.no y fun c=>hy ?_
    split
    ·exact AdW _ c
    ·exact c
   ·show lQ (Cg s.it p (s.it p++kids.map fun k=>((s.rows.length:Int)-1,k))) (if s.sv p=0 then s.lists++[p] else s.lists)≤Q+(1+qNs kids)
    have hqs:=h.qs
    split
    ·rename_i c
     have hp:p∉s.lists:=fun q=>hs.1 q c
     rw[AaQ,OE (it:=s.it) fun y hy=>BN s.it _ (fun (e:y=p)=>hp (e▸hy))]
     rw[lQ,lQ,B8,h.no p hp,List.nil_append,JA]
     omega
    ·rename_i c
     rw[WH h.nd (hs.2 c),JA]
     omega
   ·show y∈(if s.sv p=0 then s.lists++[p] else s.lists)↔¬Cg s.sv p s.rows.length y=0
    by_cases e:y=p
    ·subst e
     rw[B8]
     split
     ·exact ⟨fun _=>by omega,fun _=>by simp⟩
     ·rename_i c
      exact ⟨fun _=>by omega,fun _=>(h.sv y).2 c⟩
    ·rw[BN _ _ e,←h.sv y]
     split
     ·simp[e]
     ·exact Iff.rfl
   ·show (if s.sv p=0 then s.lists++[p] else s.lists).Nodup
    split
    ·rename_i c
     refine Ae2.2 ⟨h.nd,by simp,fun x hx y hy e=>?_⟩
     rw[AdV.1 hy] at e
     subst e
     exact (h.sv x).1 hx c
    ·exact h.nd
theorem LyA.parts {P:Nat}:∀ (l:List Pt) {W Q:Nat} {s:Ly},LyA P W Q s→0<s.rows.length→(∀ q∈l,PtA P q)→LyA P (W+Jm l) (Q+Jn l) (s.parts l)
 | [],W,Q,s,h,_,_=>h
 | q::r,W,Q,s,h,h0,hq=>by
   have:=s.part_rows q
   have h2:=LyA.parts r (h.part h0 (hq q (by simp))) (by omega) fun x hx=>hq x (AdU _ hx)
   exact h2.mono (by rw[Jm];omega) (by rw[Jn];omega)
theorem LyA.row {P W Q:Nat} {s:Ly} (h:LyA P W Q s) (x:Int):LyA P W Q (s.row x):=by
 refine ⟨h.ps,fun r hr p c hc=>?_,h.ls,h.it,h.pl,h.iw,h.no,h.qs,h.sv,h.nd⟩
 rcases AdX.1 hr with hr | hr
 ·exact h.cs r hr p c hc
 ·rw[AdV.1 hr] at hc;cases hc
theorem ZS (P:Nat) (f:Bool):LyA P 0 0 (ly0 f):=⟨(fun x hx=>by cases hx),(fun x hx=>by cases hx),(fun x hx=>by cases hx),(fun p e he=>by cases he),AfR _,fun p=>AfR _,fun p _=>rfl,Ad0 _,fun p=>⟨(fun hx=>by cases hx),fun hx=>absurd rfl hx⟩,AfY⟩
theorem gK_A {a P:Nat} (hP:4*(16-a)≤P) (f:Bool) (l:List Elm) (ho:∀ e∈l,Ba e.2 a=true∧kA e.2∧e.2.kind=6):∀ k,k≤l.length→LyA P (eW (l.take k)) (eQ (l.take k)) (gK true f l k)
 | 0,_=>ZS P f
 | k+1,h=>by
   have hm:l.getD k noE∈l:=EF (by omega)
   obtain ⟨o1,o2,o3⟩:=ho _ hm
   have hr:=FK true f l k (by omega)
   rw[EQ true f l (by omega),Zs (by omega),Zt (by omega)]
   unfold Ly.elm
   rw[if_pos rfl]
   have hp:=Lp (l.getD k noE).2 []
   have e:=ZN (l.getD k noE).2
   rw[if_pos (.inr o3)] at e
   have e2:=ZQ (l.getD k noE).2
   rw[if_neg (by omega)] at e2
   refine (LyA.parts (Bi (l.getD k noE).2 []) ((gK_A hP f l ho k (by omega)).row _) (by simp[Ly.row]) fun q hq=>?_).mono (by omega) (by omega)
   have:=TH (l.getD k noE).2 a [] o1 o2 CA o3 q hq
   exact this.mono (by rw[AdZ];omega)
theorem WT (f:Bool) (l:List Elm) (ho:∀ e∈l,CN (Bm e.2)=true):∀ k,k≤l.length→LyA 5 1 0 (gK false f l k)∧((gK false f l k).paths=[]∨(gK false f l k).paths=[DA])∧(gK false f l k).lists=[]∧∀ p,(gK false f l k).it p=[]
 | 0,_=>⟨(ZS 5 f).mono (by omega) (by omega),.inl rfl,rfl,fun _=>rfl⟩
 | k+1,h=>by
   have hm:l.getD k noE∈l:=EF (by omega)
   obtain ⟨h1,h2,h3,h4⟩:=WT f l ho k (by omega)
   rw[EQ false f l (by omega)]
   unfold Ly.elm
   rw[if_neg (by simp),Ly.parts_one]
   have h5:=(h1.row (l.getD k noE).1).part (by simp[Ly.row]) (q:=.c DA (Bm (l.getD k noE).2)) ⟨⟨by unfold AL DA;decide,by decide⟩,ho _ hm⟩
   have hp:((((gK false f l k).row (l.getD k noE).1).part (.c DA (Bm (l.getD k noE).2)))).paths=[DA]:=by
    show (if DA∈(gK false f l k).paths then (gK false f l k).paths else (gK false f l k).paths++[DA])=[DA]
    rcases h2 with e | e
    ·rw[e];rfl
    ·rw[e];rfl
   refine ⟨⟨h5.ps,h5.cs,h5.ls,h5.it,by rw[hp];exact Ad0 _,fun p=>?_,h5.no,?_,h5.sv,h5.nd⟩,.inr hp,h3,h4⟩
   ·show eW ((gK false f l k).it p)≤1
    rw[h4 p];exact AfR _
   ·show lQ (gK false f l k).it (gK false f l k).lists≤0
    rw[h3];exact Ad0 _
theorem WS {a P:Nat} (hP:4*(16-a)≤P) (hP5:5≤P) (f:Bool) (l:List Elm) (ho:∀ e∈l,Ba e.2 a=true∧kA e.2):LyA P (max (eW l) 1) (eQ l) (Ai f l):=by
 rw[←SD]
 cases hr:(!l.any B2) with
 | true =>
  have:=gK_A hP f l (fun e he=>⟨(ho e he).1,(ho e he).2,Ni hr e he⟩) l.length (Ad0 _)
  rw[Agd] at this
  exact this.mono (Nat.le_max_left _ _) (Ad0 _)
 | false =>
  have:=(WT f l (fun e he=>LA (ho e he).1) l.length (Ad0 _)).1
  refine LyA.mono (P:=P) ⟨fun p hp=>⟨(this.ps p hp).1,AfJ (this.ps p hp).2 hP5⟩,this.cs,fun p hp=>⟨(this.ls p hp).1,AfJ (this.ls p hp).2 hP5⟩,this.it,this.pl,this.iw,this.no,this.qs,this.sv,this.nd⟩ (Nat.le_max_right _ _) (AfR _)
theorem GM {s:List UInt8} (h:AL s) (hl:s.length≤1024):Dq s=true:=by
 unfold Dq
 rw[decide_eq_true hl,CI s h];rfl
theorem dec_ascii (n:Nat):AL (Lib.decDigits n):=by
 induction n using Nat.strongRecOn with
 | _ n ih =>
  rcases Af5 n 10 with h | h
  ·rw[Lib.decDigits_one h]
   intro c hc
   rw[AdV.1 hc]
   simp only[UInt8.toNat_ofNat']
   omega
  ·rw[Lib.decDigits,dif_neg (by omega)]
   refine A2 (ih (n / 10) (by omega)) ?_
   intro c hc
   rw[AdV.1 hc]
   simp only[UInt8.toNat_ofNat']
   omega
theorem Vh {r:List UInt8→Option Cel} (h:∀ p c,r p=some c→CN c=true) (p:List UInt8):CN (Dd r p)=true:=by
 unfold Dd
 cases hr:r p with
 | some c=>exact h p c hr
 | none=>rfl
theorem Aad {P W Q:Nat} {s:Ly} (h:LyA P W Q s) (hT:LyT s) (hP:P≤1024) (hW:W≤63) (hr:s.rows.length≤4096) (ha:s.above.length=s.rows.length) {id:Int} (h1:0≤id) (h2:id≤1073741824) {name:List UInt8} (hn:AL name) (hl:name.length≤1024) :
  Eb s id name=(Ca s id name,true):=by
 have hp:=h.pl
 have cols:∀ c∈CW s++s.paths.map (Cl s.rows),Dq c.name=true∧c.cells.length=s.rows.length∧c.cells.all CN=true:=by
  intro c hc
  rcases AdX.1 hc with hc | hc
  ·unfold CW at hc
   split at hc
   ·rw[AdV.1 hc]
    refine ⟨by show Dq Mv=true;decide,by simp[CB,ha],Af4.2 fun x hx=>?_⟩
    obtain ⟨a,ha1,rfl⟩:=Af3.1 hx
    have hb:=hT.above a ha1
    have hd:=Rg (n:=a.toNat) (by omega)
    unfold CN
    rw[GM (dec_ascii _) (by omega)]
    rfl
   ·cases hc
  ·obtain ⟨p,hp1,rfl⟩:=Af3.1 hc
   refine ⟨GM (h.ps p hp1).1 (by have:=(h.ps p hp1).2;show p.length≤1024;omega),by simp[Cl],Af4.2 fun x hx=>?_⟩
   obtain ⟨r,hr1,rfl⟩:=Af3.1 hx
   exact Vh (h.cs r hr1) p
 have hc:(CW s++s.paths.map (Cl s.rows)).length≤64:=by
  rw[AdY,AfT]
  have:(CW s).length≤1:=by unfold CW;split<;>simp
  omega
 have hrow:∀ c∈CW s++s.paths.map (Cl s.rows),c.cells.length=Dm (Ca s id name):=by
  intro c hcm
  unfold Dm Ca
  cases he:CW s++s.paths.map (Cl s.rows) with
  | nil=>rw[he] at hcm;cases hcm
  | cons d l =>
   simp only
   rw[(cols c hcm).2.1,(cols d (by rw[he];simp)).2.1]
 unfold Eb
 rw[if_neg (by omega)]
 have ok:DZ (Ca s id name)=true:=by
  unfold DZ
  rw[show PS (Ca s id name).id (Ca s id name).name=true from by
   unfold PS
   rw[decide_eq_true (show 0≤(Ca s id name).id∧(Ca s id name).id≤1073741824 from ⟨h1,h2⟩),show Dq (Ca s id name).name=true from GM hn hl];rfl]
  rw[decide_eq_true (show (Ca s id name).cols.length≤64 from hc),Agb,Agb]
  refine Af4.2 fun c hcm=>?_
  obtain ⟨q1,q2,q3⟩:=cols c hcm
  unfold Lz
  rw[q1,q3,decide_eq_true (show c.cells.length≤4096 by omega),decide_eq_true (hrow c hcm)]
  rfl
 rw[ok]
theorem N3:∀ (n a:Nat) (f:Bool) (l:List Elm) (id:Int) (name:List UInt8) (ts:List Tab),16≤a+n→(∀ e∈l,Ba e.2 a=true∧0≤e.1∧e.1<1000000)→(∀ e∈l,kA e.2)→CD l≤4000→eW l≤63 →
  AL name→name.length+70*n≤1024→0≤id→id+ts.length+eQ l≤1073741824→ts.length+1+eQ l≤1024 →
  (Cp (n+1) (Ai f l) id name ts).2=true∧(Cp (n+1) (Ai f l) id name ts).1.length≤ts.length+1+eQ l∧∃ r,(Cp (n+1) (Ai f l) id name ts).1=ts++Ca (Ai f l) (id+ts.length) name::r
 | n,a,f,l,id,name,ts,ha,ho,hA,hz,hW,hn,hl,h0,hid,hts=>by
   have hlz:=Fm l
   obtain ⟨v1,v2,v3,v4,v5⟩:=LU (a:=a) f l hz ho
   have hT:=LV (a:=a) f l hz ho
   have hGA:=WS (a:=a) (P:=64) (by omega) (by omega) f l fun e he=>⟨(ho e he).1,hA e he⟩
   have htab:=Aad (id:=id+ts.length) hGA hT (by omega) (by omega) (by omega) (by omega) (by omega) (by omega) hn (by omega)
   rw[Cp,htab]
   simp only
   rw[if_pos ⟨trivial,by omega⟩]
   have hqs:=hGA.qs
   have fold:∀ (ls:List (List UInt8)) (tt:List Tab),(∀ p∈ls,p∈(Ai f l).lists)→tt.length+lQ (Ai f l).it ls≤ts.length+1+eQ l→(∃ r,tt=ts++Ca (Ai f l) (id+ts.length) name::r) →
     (ls.foldl (fun a p=>if a.2=true then Cp n (Ai true ((Ai f l).it p)) id (name++[46]++p) a.1 else a) (tt,true)).2=true ∧
     (ls.foldl (fun a p=>if a.2=true then Cp n (Ai true ((Ai f l).it p)) id (name++[46]++p) a.1 else a) (tt,true)).1.length≤tt.length+lQ (Ai f l).it ls ∧
     ∃ r,(ls.foldl (fun a p=>if a.2=true then Cp n (Ai true ((Ai f l).it p)) id (name++[46]++p) a.1 else a) (tt,true)).1=ts++Ca (Ai f l) (id+ts.length) name::r:=by
    intro ls
    induction ls with
    | nil=>intro tt _ _ hr;exact ⟨rfl,AfN _ _,hr⟩
    | cons p ls ih =>
     intro tt hp hlen hr
     have hpm:=hp p (by simp)
     have hpl:=hGA.ls p hpm
     have hpz:=v3 p
     have hpw:=hGA.iw p
     rw[lQ] at hlen
     rw[List.foldl_cons,if_pos rfl]
     have step:(Cp n (Ai true ((Ai f l).it p)) id (name++[46]++p) tt).2=true∧(Cp n (Ai true ((Ai f l).it p)) id (name++[46]++p) tt).1.length≤tt.length+1+eQ ((Ai f l).it p) ∧
       ∃ r,(Cp n (Ai true ((Ai f l).it p)) id (name++[46]++p) tt).1=ts++Ca (Ai f l) (id+ts.length) name::r:=by
      cases n with
      | zero =>
       exfalso
       have hl0:l=[]:=by
        cases l with
        | nil=>rfl
        | cons e r =>
         have:=(E3 (ho e (by simp)).1).deep
         omega
       subst hl0
       cases hpm
      | succ n =>
       obtain ⟨s1,s2,r,s3⟩:=N3 n (a+1) true ((Ai f l).it p) id (name++[46]++p) tt (by omega) (fun e he=>v1.it p e he) (fun e he=>hGA.it p e he) (by omega) (by omega)
        (A2 (A2 hn NY) hpl.1) (by simp only[AdY,AcB,AdZ];omega) h0 (by omega) (by omega)
       refine ⟨s1,s2,?_⟩
       obtain ⟨r0,hr0⟩:=hr
       rw[s3,hr0]
       exact ⟨_,by rw[List.append_assoc,AfS]⟩
     obtain ⟨s1,s2,s3⟩:=step
     have e:Cp n (Ai true ((Ai f l).it p)) id (name++[46]++p) tt=((Cp n (Ai true ((Ai f l).it p)) id (name++[46]++p) tt).1,true):=Prod.ext rfl s1
     rw[e]
     obtain ⟨i1,i2,i3⟩:=ih _ (fun x hx=>hp x (AdU _ hx)) (by omega) s3
     exact ⟨i1,by rw[lQ];omega,i3⟩
   obtain ⟨f1,f2,f3⟩:=fold (Ai f l).lists (ts++[Ca (Ai f l) (id+ts.length) name]) (fun p hp=>hp) (by rw[AdY];simp only[AcB,AdZ];omega) ⟨[],by simp⟩
   refine ⟨f1,?_,f3⟩
   rw[AdY] at f2
   simp only[AcB,AdZ] at f2
   omega
end Go.Proofs.YtmidaophnbdcdaaGreatDoor
namespace Go.Proofs.YtmidaophnbdcdaaGreatDoor.Num
open Go Go.Proofs Go.Abs
variable {G:Ad}
theorem trimLeftSet_spec (s l:List UInt8) (hs:s.length≤9223372036854775807) (hl:l.length<2^62) (h2:2≤l.length) (ha:∀ b∈l,b.toNat<128):Ctr TP G 114 [.d (S s),.d (S l)] [] (.d (S (trimL l s))) []:=by
 refine Ctr.pure (M:=M0) Am Tryz.func114 rfl AeU ?_
 have q:=@setB_length l
 simp(maxSteps:=1000000)(disch:=(try simp only[awL]);omega)only[awS,setB_refs,setB_pass,setB_sids,setB_ren,Tryz.f114,↓awU,awY,↓reduceIte,↓reduceDIte,↓Qe,Qu,Qv,Qw,Qx,Qy,Qz,QA,QB,QC,QD,QE,QF,QG,QH,QI,QK]
 refine ⟨fun h=>⟨fun h3=>?_,fun h3=>?_⟩,fun h=>?_⟩
 ·subst h3;simp at h2
 ·refine Ab.pure (makeSet_spec l hl ha) ?_
  have tk:(setD l).take 256=setD l:=List.take_of_length_le (by rw[setD_length];omega)
  simp(maxSteps:=1000000)(disch:=(try simp only[awL]);omega)only[awS,↓ setB_putL',setB_putL',setB_fold,q,setB_refs,setB_pass,setB_sids,setB_ren,↓awU,awY,↓reduceIte,↓reduceDIte,↓Qe,Qu,Qv,Qw,Qx,Qy,Qz,QA,QB,QC,QD,QE,QF,QG,QH,QI,QK]
  refine ⟨setB_one,?_⟩
  refine Ab.by (JP l s hs) (by rfl) (by rfl) (Ad0 _) ?_
  simp(maxSteps:=1000000)(disch:=(try simp only[awL]);omega)only[awS,setB_fold,setB_refs,setB_pass,setB_sids,setB_ren,↓awU,awY,↓reduceIte,↓reduceDIte,↓Qe,Qu,Qv,Qw,Qx,Qy,Qz,QA,QB,QC,QD,QE,QF,QG,QH,QI,QK]
 ·subst h;rfl
end Go.Proofs.YtmidaophnbdcdaaGreatDoor.Num
namespace Go.Proofs.YtmidaophnbdcdaaGreatDoor
open Go Go.Proofs Go.Abs
def Hz:List UInt8:=[32,9,10,13]
def BR (s:List UInt8):List UInt8:=Num.trimL Hz s
theorem Ej (s:List UInt8):(BR s).length≤s.length:=(Age _).length_le
def sgn (c:UInt8) (s:List UInt8):List UInt8 × Bool:=match BR s with
 | []=>([],false)
 | x::r=>if x=c then (r,true) else (x::r,false)
theorem Tx {c:UInt8} {s:List UInt8} (h:BR s=[]):sgn c s=([],false):=by unfold sgn;rw[h]
theorem Tw {c:UInt8} {s r:List UInt8} (h:BR s=c::r):sgn c s=(r,true):=by unfold sgn;rw[h];simp
theorem VY {c b:UInt8} {s r:List UInt8} (h:BR s=b::r) (hb:¬b=c):sgn c s=(b::r,false):=by unfold sgn;rw[h];simp[hb]
theorem MQ (c:UInt8) (s:List UInt8):(sgn c s=(BR s,false)∧(BR s).head?≠some c)∨∃ r,BR s=c::r∧sgn c s=(r,true):=by
 cases h:BR s with
 | nil=>exact .inl ⟨Tx h,by simp⟩
 | cons b r =>
  by_cases e:b=c
  ·subst e;exact .inr ⟨r,rfl,Tw h⟩
  ·exact .inl ⟨VY h e,by simpa using e⟩
theorem A5 (c:UInt8) (s:List UInt8):(sgn c s).1.length≤s.length:=by
 have:=Ej s
 rcases MQ c s with ⟨h,_⟩ | ⟨r,h1,h⟩
 ·rw[h];exact this
 ·rw[h];rw[h1,AcB] at this;simp only;omega
theorem Em {c:UInt8} {s:List UInt8} (h:(sgn c s).2=true):(sgn c s).1.length+1≤s.length:=by
 have:=Ej s
 rcases MQ c s with ⟨e,_⟩ | ⟨r,h1,e⟩
 ·rw[e] at h;cases h
 ·rw[e];rw[h1,AcB] at this;simp only;omega
def Hg (b:UInt8):UInt8:=if b=92 then 92 else if b=34 then 34 else if b=110 then 10 else if b=114 then 13 else if b=116 then 9 else 0
def Dn:List UInt8→List UInt8→List UInt8 × List UInt8 × Bool
 | [],_=>([],[],false)
 | [c],out=>if c=34 then ([],out,true) else ([],[],false)
 | c::e::r,out=>if c=34 then (e::r,out,true) else if c<32 then (e::r,[],false) else if c=92 then (if Hg e=0 then (e::r,[],false) else Dn r (out++[Hg e])) else Dn (e::r) (out++[c])
theorem Lm (out:List UInt8):Dn [] out=([],[],false):=by rw[Dn]
theorem PJ (r out:List UInt8):Dn (34::r) out=(r,out,true):=by cases r<;>rw[Dn]<;>simp
theorem PK {c:UInt8} (h:c<32) (h2:¬c=34) (r out:List UInt8):Dn (c::r) out=(r,[],false):=by
 cases r with
 | nil=>rw[Dn,if_neg h2]
 | cons e r=>rw[Dn,if_neg h2,if_pos h]
theorem M7 (out:List UInt8):Dn [92] out=([],[],false):=by rw[Dn,if_neg (by decide)]
theorem PL {e:UInt8} (h:Hg e=0) (r out:List UInt8):Dn (92::e::r) out=(e::r,[],false):=by rw[Dn,if_neg (by decide),if_neg (by decide),if_pos rfl,if_pos h]
theorem PI {e:UInt8} (h:¬Hg e=0) (r out:List UInt8):Dn (92::e::r) out=Dn r (out++[Hg e]):=by rw[Dn,if_neg (by decide),if_neg (by decide),if_pos rfl,if_neg h]
theorem M8 {c:UInt8} (h1:¬c=34) (h2:¬c<32) (h3:¬c=92) (r out:List UInt8):Dn (c::r) out=Dn r (out++[c]):=by
 cases r with
 | nil=>rw[Lm,Dn,if_neg h1]
 | cons e r=>rw[Dn,if_neg h1,if_neg h2,if_neg h3]
theorem FC {P:List UInt8→List UInt8→List UInt8 × List UInt8 × Bool→Prop} (p0:∀ out,P [] out ([],[],false)) (p1:∀ r out,P (34::r) out (r,out,true)) (p2:∀ c r out,P (c::r) out (r,[],false))
  (p3:∀ e r out,P r (out++[Hg e]) (Dn r (out++[Hg e]))→P (92::e::r) out (Dn r (out++[Hg e]))) (p4:∀ c r out,P r (out++[c]) (Dn r (out++[c]))→P (c::r) out (Dn r (out++[c]))) :
  ∀ (n:Nat) (s out:List UInt8),s.length≤n→P s out (Dn s out)
 | _,[],out,_=>by rw[Lm];exact p0 out
 | 0,c::r,out,h=>by simp at h
 | n+1,c::r,out,h=>by
   rw[AcB] at h
   by_cases h34:c=34
   ·subst h34;rw[PJ];exact p1 r out
   ·by_cases h32:c<32
    ·rw[PK h32 h34];exact p2 c r out
    ·by_cases h92:c=92
     ·subst h92
      cases r with
      | nil=>rw[M7];exact p2 92 [] out
      | cons e r2 =>
       rw[AcB] at h
       by_cases e0:Hg e=0
       ·rw[PL e0];exact p2 92 (e::r2) out
       ·rw[PI e0];exact p3 e r2 out (FC p0 p1 p2 p3 p4 n r2 _ (by omega))
     ·rw[M8 h34 h32 h92];exact p4 c r out (FC p0 p1 p2 p3 p4 n r _ (by omega))
theorem PH (n:Nat) (s out:List UInt8) (h:s.length≤n):(Dn s out).1.length≤s.length:=by
 refine FC (P:=fun s out r=>r.1.length≤s.length) (fun _=>Ad0 _) (fun r _=>by simp) (fun c r _=>by simp) (fun e r out ih=>?_) (fun c r out ih=>?_) n s out h
 ·simp only[AcB];omega
 ·simp only[AcB];omega
theorem Wc (n:Nat) (s out:List UInt8) (h:s.length≤n):(Dn s out).2.1.length≤s.length+out.length:=by
 refine FC (P:=fun s out r=>r.2.1.length≤s.length+out.length) (fun out=>by simp) (fun r out=>by simp only[AcB];omega) (fun c r out=>by simp) (fun e r out ih=>?_) (fun c r out ih=>?_) n s out h
 ·simp only[AdY,AcB,AdZ] at ih ⊢;omega
 ·simp only[AdY,AcB,AdZ] at ih ⊢;omega
def quo (s:List UInt8):List UInt8 × List UInt8 × Bool:=if (sgn 34 s).2=true then Dn (sgn 34 s).1 [] else ((sgn 34 s).1,[],false)
theorem TF (s:List UInt8):(quo s).1.length≤s.length:=by
 have:=A5 34 s
 unfold quo
 split
 ·have:=PH _ (sgn 34 s).1 [] (Ad0 _);omega
 ·exact this
theorem Wb {s:List UInt8} (h:(quo s).2.2=true):(quo s).1.length+1≤s.length:=by
 unfold quo at h ⊢
 split at h
 ·rename_i e
  rw[if_pos e]
  have:=Em e
  have:=PH _ (sgn 34 s).1 [] (Ad0 _);omega
 ·cases h
theorem TE (s:List UInt8):(quo s).2.1.length≤s.length:=by
 have:=A5 34 s
 unfold quo
 split
 ·have:=Wc _ (sgn 34 s).1 [] (Ad0 _);simp only[AdZ] at this;omega
 ·simp
def L0:List UInt8:=[48,49,50,51,52,53,54,55,56,57]
def Ef (s:List UInt8):Nat:=s.length-(Num.trimL L0 s).length
theorem ES (s:List UInt8):Ef s≤s.length:=Nat.sub_le _ _
def Ec (s:List UInt8):Nat:=match s with
 | []=>0
 | c::_=>if c=43∨c=45 then 1 else 0
theorem XX (s:List UInt8):Ec s≤s.length:=by
 cases s with
 | nil=>simp[Ec]
 | cons c r=>simp only[Ec,AcB];split<;>omega
def Oz (s:List UInt8):Nat :=
 if Ef (s.drop (Ec s))=0 then 0
 else if hasP (s.drop (Ec s+Ef (s.drop (Ec s)))) [46]=true∧0<Ef (s.drop (Ec s+Ef (s.drop (Ec s))+1)) then
  Ec s+Ef (s.drop (Ec s))+(1+Ef (s.drop (Ec s+Ef (s.drop (Ec s))+1)))
 else Ec s+Ef (s.drop (Ec s))
theorem TQ (s:List UInt8):Oz s≤s.length:=by
 have h1:=XX s
 have h2:=ES (s.drop (Ec s))
 have h3:=ES (s.drop (Ec s+Ef (s.drop (Ec s))+1))
 rw[Afs] at h2 h3
 unfold Oz
 split
 ·omega
 ·split
  ·rename_i h
   omega
  ·omega
def OA:List UInt8:=[110,117,108,108]
def Fd (s:List UInt8):List UInt8 × Nd × Bool :=
 if hasP (BR s) [34]=true then ((quo (BR s)).1,.mk 4 (quo (BR s)).2.1 [] [],(quo (BR s)).2.2)
 else if hasP (BR s) OA=true then ((BR s).drop 4,.mk 1 [] [] [],true)
 else if hasP (BR s) Hd=true then ((BR s).drop 4,.mk 2 Hd [] [],true)
 else if hasP (BR s) Hf=true then ((BR s).drop 5,.mk 2 Hf [] [],true)
 else ((BR s).drop (Oz (BR s)),.mk 3 ((BR s).take (Oz (BR s))) [] [],decide (0<Oz (BR s)))
theorem TB {s:List UInt8} (h:(Fd s).2.2=true):(Fd s).1.length+1≤s.length:=by
 have hw:=Ej s
 unfold Fd at h ⊢
 split at h
 ·rename_i e
  rw[if_pos e]
  have:=Wb (s:=BR s) h
  simp only;omega
 ·rename_i e
  rw[if_neg e]
  split at h
  ·rename_i e2
   rw[if_pos e2]
   have:=hasP_le e2
   simp only[Afs,OA,AcB,AdZ] at this ⊢;omega
  ·rename_i e2
   rw[if_neg e2]
   split at h
   ·rename_i e3
    rw[if_pos e3]
    have:=hasP_le e3
    simp only[Afs,Hd,AcB,AdZ] at this ⊢;omega
   ·rename_i e3
    rw[if_neg e3]
    split at h
    ·rename_i e4
     rw[if_pos e4]
     have:=hasP_le e4
     simp only[Afs,Hf,AcB,AdZ] at this ⊢;omega
    ·rename_i e4
     rw[if_neg e4]
     have:=of_decide_eq_true h
     have:=TQ (BR s)
     simp only[Afs];omega
inductive PSt where
 | beg (rest:List UInt8) (st:List Nd)
 | got (rest:List UInt8) (st:List Nd) (n:Nd)
 | bad
def ED (t:Nd) (k:List UInt8):Nd:=.mk t.kind t.text (t.keys++[k]) t.kids
def Co (t:Nd) (n:Nd):Nd:=.mk t.kind t.text t.keys (t.kids++[n])
def EG (rest:List UInt8) (t:Nd) (st:List Nd):PSt :=
 if t.kind=5 then .beg rest (t::st)
 else if (quo rest).2.2=true∧(sgn 58 (quo rest).1).2=true then .beg (sgn 58 (quo rest).1).1 (ED t (quo rest).2.1::st) else .bad
def AO (k:Int):UInt8:=if k=5 then 93 else 125
def He (k:Int) (rest:List UInt8) (st:List Nd):PSt :=
 if (sgn (AO k) rest).2=true then .got (sgn (AO k) rest).1 st (.mk k [] [] []) else EG (sgn (AO k) rest).1 (.mk k [] [] []) st
def Eh (rest:List UInt8) (st:List Nd):PSt :=
 if (sgn 91 rest).2=true then He 5 (sgn 91 rest).1 st
 else if (sgn 123 (sgn 91 rest).1).2=true then He 6 (sgn 123 (sgn 91 rest).1).1 st
 else if (Fd (sgn 123 (sgn 91 rest).1).1).2.2=true then .got (Fd (sgn 123 (sgn 91 rest).1).1).1 st (Fd (sgn 123 (sgn 91 rest).1).1).2.1 else .bad
def Km (rest:List UInt8) (t:Nd) (st:List Nd) (n:Nd):PSt :=
 if (sgn 44 rest).2=true then EG (sgn 44 rest).1 (Co t n) st
 else if (sgn (AO t.kind) (sgn 44 rest).1).2=true then .got (sgn (AO t.kind) (sgn 44 rest).1).1 st (Co t n) else .bad
def muP:PSt→Nat
 | .beg r _=>r.length+2
 | .got r _ _=>r.length+2
 | .bad=>1
theorem TY (rest:List UInt8) (t:Nd) (st:List Nd):muP (EG rest t st)≤rest.length+2:=by
 unfold EG
 split
 ·exact Ad0 _
 ·split
  ·have h1:=A5 58 (quo rest).1
   have h2:=TF rest
   show (sgn 58 (quo rest).1).1.length+2≤_
   omega
  ·show 1≤_;omega
theorem TL (k:Int) (rest:List UInt8) (st:List Nd):muP (He k rest st)≤rest.length+2:=by
 have h1:=A5 (AO k) rest
 unfold He
 split
 ·show (sgn (AO k) rest).1.length+2≤_;omega
 ·have:=TY (sgn (AO k) rest).1 (.mk k [] [] []) st;omega
theorem O3 (rest:List UInt8) (st:List Nd):muP (Eh rest st)<rest.length+2:=by
 have h1:=A5 91 rest
 have h2:=A5 123 (sgn 91 rest).1
 unfold Eh
 split
 ·rename_i e
  have:=Em e
  have:=TL 5 (sgn 91 rest).1 st;omega
 ·split
  ·rename_i e
   have:=Em e
   have:=TL 6 (sgn 123 (sgn 91 rest).1).1 st;omega
  ·split
   ·rename_i e
    have:=TB e
    show (Fd (sgn 123 (sgn 91 rest).1).1).1.length+2<_
    omega
   ·show 1<_;omega
theorem KM (rest:List UInt8) (t:Nd) (st:List Nd) (n:Nd):muP (Km rest t st n)<rest.length+2:=by
 have h1:=A5 44 rest
 have h2:=A5 (AO t.kind) (sgn 44 rest).1
 unfold Km
 split
 ·rename_i e
  have:=Em e
  have:=TY (sgn 44 rest).1 (Co t n) st;omega
 ·split
  ·rename_i e
   have:=Em e
   show (sgn (AO t.kind) (sgn 44 rest).1).1.length+2<_
   omega
  ·show 1<_;omega
def UE:Nat→PSt→Option (List UInt8 × Nd)
 | 0,_=>none
 | k+1,x=>match x with
   | .bad=>none
   | .beg r st=>UE k (Eh r st)
   | .got r [] n=>some (r,n)
   | .got r (t::st) n=>UE k (Km r t st n)
theorem GW:∀ (a b:Nat) (x:PSt),muP x≤a→muP x≤b→UE a x=UE b x
 | 0,_,x,h,_=>by cases x<;>simp[muP] at h
 | _,0,x,_,h=>by cases x<;>simp[muP] at h
 | a+1,b+1,x,ha,hb=>by
   cases x with
   | bad=>rfl
   | beg r st =>
    have:=O3 r st
    simp only[muP] at ha hb
    exact GW a b (Eh r st) (by omega) (by omega)
   | got r st n =>
    cases st with
    | nil=>rfl
    | cons t st =>
     have:=KM r t st n
     simp only[muP] at ha hb
     exact GW a b (Km r t st n) (by omega) (by omega)
def HF (x:PSt):Option (List UInt8 × Nd):=UE (muP x) x
theorem Gl:HF .bad=none:=rfl
theorem V9 (r:List UInt8) (st:List Nd):HF (.beg r st)=HF (Eh r st):=by
 have:=O3 r st
 exact GW (r.length+1) _ (Eh r st) (by omega) (Ad0 _)
theorem PF (r:List UInt8) (t:Nd) (st:List Nd) (n:Nd):HF (.got r (t::st) n)=HF (Km r t st n):=by
 have:=KM r t st n
 exact GW (r.length+1) _ (Km r t st n) (by omega) (Ad0 _)
def Ls (data:List UInt8):Nd × Int :=
 match HF (.beg data []) with
 | none=>(noN,4)
 | some (r,n)=>if Lib.validD data=true∧BR r=[] then (if Ba n 0=true then (n,0) else (noN,1)) else (noN,4)
def okP (N:Nat):PSt→Prop
 | .beg r st=>st.length+r.length≤N∧∀ t∈st,t.keys.length+r.length≤N∧t.kids.length+r.length≤N
 | .got r st n=>st.length+r.length+1≤N∧∀ t∈st,t.keys.length+r.length+1≤N∧t.kids.length+r.length+1≤N
 | .bad=>True
end Go.Proofs.YtmidaophnbdcdaaGreatDoor
namespace Go.Proofs.YtmidaophnbdcdaaGreatDoor
open Go Go.Proofs Go.Abs
variable {G:Ad}
abbrev psB (s:List UInt8) (v:Value):Aa:=.box [.d (S s),.d (.val v)]
theorem KZ (s:List UInt8) (hs:s.length≤9223372036854775807):Ctr TP G 114 [.d (S s),.d (S Hz)] [] (.d (S (BR s))) [] :=
 Num.trimLeftSet_spec s Hz hs (by decide) (by decide) (by decide)
theorem MM {b c:UInt8} (h:¬b=c):¬((b.toNat:Int)=(c.toNat:Int)):=fun e=>h (UInt8.toNat_inj.1 (by omega))
theorem Fx (c:UInt8) (s:List UInt8) (hs:s.length≤9223372036854775807) (v:Value) :
  Ctr TP G 80 [.ptr 0 0,.d (.int .u8 c.toNat)] [psB s v] (.d (.bool (sgn c s).2)) [psB (sgn c s).1 v]:=by
 have ht:=KZ (G:=G) s hs
 have hlen:=Ej s
 obtain ⟨r,hr⟩:∃ r,r=sgn c s:=⟨_,rfl⟩
 rw[←hr]
 refine Ctr.body (M:=M0) Am Tryz.func80 rfl go80 ?_
 simp(maxSteps:=1000000)(disch:=(try simp only[awL]);omega)only[awS,Tryz.f80,↓awU,awY,↓reduceIte,↓reduceDIte,↓Qe,Qu,Qv,Qw,Qx,Qy,Qz,QA,QB,QC,QD,QE,QF,QG,QH,QI,QK]
 refine Ab.of ht (by rfl) ?_
 rcases hk:BR s with _ | ⟨b,q⟩
 ·rw[Tx hk] at hr
  subst hr
  simp(maxSteps:=1000000)(disch:=(try simp only[awL]);omega)only[awS,↓awU,awY,↓reduceIte,↓reduceDIte,↓Qe,Qu,Qv,Qw,Qx,Qy,Qz,QA,QB,QC,QD,QE,QF,QG,QH,QI,QK]
  first
  | exact ⟨[some 0],rfl,by simp,by simp[HW,BW,SW,AW],.inl (by simp[AW,SW])⟩
 ·rw[hk] at hlen
  have hcn:(b::q=[])=False:=by simp
  by_cases e:b=c
  ·subst e
   rw[Tw hk] at hr
   subst hr
   simp(maxSteps:=1000000)(disch:=(try simp only[awL]);omega)only[awS,hcn,↓awU,awY,↓reduceIte,↓reduceDIte,↓Qe,Qu,Qv,Qw,Qx,Qy,Qz,QA,QB,QC,QD,QE,QF,QG,QH,QI,QK]
   first
   | exact ⟨[some 0],rfl,by simp,by simp[HW,BW,SW,AW],.inl (by simp[AW,SW])⟩
  ·rw[VY hk e] at hr
   have e2:=MM e
   subst hr
   simp(maxSteps:=1000000)(disch:=(try simp only[awL]);omega)only[awS,hcn,e2,↓awU,awY,↓reduceIte,↓reduceDIte,↓Qe,Qu,Qv,Qw,Qx,Qy,Qz,QA,QB,QC,QD,QE,QF,QG,QH,QI,QK]
   first
   | exact ⟨[some 0],rfl,by simp,by simp[HW,BW,SW,AW],.inl (by simp[AW,SW])⟩
def U5:List (D × D):=[(.int .u8 92,.int .u8 92),(.int .u8 34,.int .u8 34),(.int .u8 110,.int .u8 10),(.int .u8 114,.int .u8 13),(.int .u8 116,.int .u8 9)]
theorem E7:Ctr TP G 156 [] [] (.mp 0) [.map U5]:=by
 refine Ctr.body (M:=M0) Am Tryz.func156 rfl Aev ?_
 simp(maxSteps:=1000000)(disch:=(try simp only[awL]);omega)only[awS,Tryz.f156,↓awU,awY,↓reduceIte,↓reduceDIte,↓Qe,Qu,Qv,Qw,Qx,Qy,Qz,QA,QB,QC,QD,QE,QF,QG,QH,QI,QK]
 refine ⟨by rfl,by rfl,by rfl,by rfl,by rfl,?_⟩
 show Hi 0 [.map U5] (.mp 0) (.mp 0) [.map U5]
 first
 | exact ⟨[some 0],rfl,by simp,by simp[HW,BW,SW,AW],.inl (by simp[AW,SW])⟩
theorem U4 (c:UInt8):C4 (.int .u8 0) U5 (.int .u8 c.toNat) false=.int .u8 (Hg c).toNat:=by
 have k:∀ n:Nat,n<256→Ce (.int .u8 c.toNat) (.int .u8 n)=decide (c=UInt8.ofNat n):=fun n hn=>by
  unfold Ce
  by_cases e:c=UInt8.ofNat n
  ·subst e
   have:(UInt8.ofNat n).toNat=n:=by simp;omega
   rw[this];simp
  ·have:¬((c.toNat:Int)=(n:Int)):=fun q=>e (UInt8.toNat_inj.1 (by
    have:(UInt8.ofNat n).toNat=n:=by simp;omega
    omega))
   simp[e,this]
 unfold C4 U5
 simp only[BE]
 unfold Hg
 by_cases e1:c=92
 ·subst e1;rfl
 ·by_cases e2:c=34
  ·subst e2;rfl
  ·by_cases e3:c=110
   ·subst e3;rfl
   ·by_cases e4:c=114
    ·subst e4;rfl
    ·by_cases e5:c=116
     ·subst e5;rfl
     ·have q1:Ce (.int .u8 c.toNat) (.int .u8 92)=false:=by rw[show (92:Int)=((92:Nat):Int) from rfl,k 92 (by omega)];exact decide_eq_false e1
      have q2:Ce (.int .u8 c.toNat) (.int .u8 34)=false:=by rw[show (34:Int)=((34:Nat):Int) from rfl,k 34 (by omega)];exact decide_eq_false e2
      have q3:Ce (.int .u8 c.toNat) (.int .u8 110)=false:=by rw[show (110:Int)=((110:Nat):Int) from rfl,k 110 (by omega)];exact decide_eq_false e3
      have q4:Ce (.int .u8 c.toNat) (.int .u8 114)=false:=by rw[show (114:Int)=((114:Nat):Int) from rfl,k 114 (by omega)];exact decide_eq_false e4
      have q5:Ce (.int .u8 c.toNat) (.int .u8 116)=false:=by rw[show (116:Int)=((116:Nat):Int) from rfl,k 116 (by omega)];exact decide_eq_false e5
      simp[q1,q2,q3,q4,q5,e1,e2,e3,e4,e5]
theorem Gg (used:Bool) (l:List UInt8) (c:UInt8) (hl:l.length≤10000000000000) (y:List UInt8) (hy:l++[c]=y) :
  Ctr TP G 70 [.ptr 0 0,.d (.int .u8 c.toNat)] (BL used l) .undef [.bld 79 true y.length (some 2),.dead,.buf 5 y]:=by
 subst hy;exact KS used l c hl
def MQ7:BZ:=fun k=>Agr k 2000004
theorem AfA:MQ7 2000004=true:=rfl
theorem D8 {k:Nat} (h:¬k=2000004):MQ7 k=false:=by
 cases e:MQ7 k with
 | false=>rfl
 | true=>exact absurd (AfX e) h
theorem OM:Do TP 5 U5=true:=by rfl
theorem IE (s:List UInt8) (hs:s.length≤1000000000) (v:Value) :
  Ctr TP G 115 [.ptr 0 0] [psB s v] (.d (.tup [S (quo s).2.1,.bool (quo s).2.2])) [psB (quo s).1 v]:=by
 have hsg:=Fx (G:=G) 34 s (by omega) v
 have hsl:=A5 34 s
 obtain ⟨r,hr⟩:∃ r,r=quo s:=⟨_,rfl⟩
 rw[←hr]
 unfold quo at hr
 generalize sgn 34 s=g at *
 obtain ⟨g1,g2⟩:=g
 simp only at hr hsl hsg
 refine Ctr.body (M:=MQ7) Am Tryz.func115 rfl AeT ?_
 simp(maxSteps:=1000000)(disch:=(try simp only[awL]);omega)only[awS,D8,Tryz.f115,↓awU,awY,↓reduceIte,↓reduceDIte,↓Qe,Qu,Qv,Qw,Qx,Qy,Qz,QA,QB,QC,QD,QE,QF,QG,QH,QI,QK]
 refine Ab.by hsg (by rfl) (by rfl) (by simp) ?_
 cases g2
 ·rw[if_neg (by simp)] at hr
  subst hr
  simp(maxSteps:=1000000)(disch:=(try simp only[awL]);omega)only[awS,D8,↓awU,awY,↓reduceIte,↓reduceDIte,↓Qe,Qu,Qv,Qw,Qx,Qy,Qz,QA,QB,QC,QD,QE,QF,QG,QH,QI,QK]
  first
  | (refine ⟨[some 0],rfl,by simp,by simp[HW,BW,SW,AW],.inr ⟨_,rfl,?_,rfl⟩⟩;rfl)
  | (refine ⟨by rfl,⟨[some 0],rfl,by simp,by simp[HW,BW,SW,AW],.inr ⟨_,rfl,?_,rfl⟩⟩⟩;rfl)
 ·rw[if_pos rfl] at hr
  simp(maxSteps:=1000000)(disch:=(try simp only[awL]);omega)only[awS,D8,AfA,↓awU,awY,↓reduceIte,↓reduceDIte,↓Qe,Qu,Qv,Qw,Qx,Qy,Qz,QA,QB,QC,QD,QE,QF,QG,QH,QI,QK]
  refine Au.fr 17 (α:=List UInt8 × List UInt8 × Bool) (fun x=>x.1.length) (fun x=>[]) (fun x=>[psB x.1 v,.bld 79 x.2.2 x.2.1.length (some 2),.buf 5 x.2.1])
   (fun x=>Dn x.1 x.2.1=r∧x.1.length+x.2.1.length≤g1.length) (g1,[],false) ⟨hr.symm,by simp⟩ ?_ ?_
  ·exact ⟨[some 0,some 1,none],rfl,by simp,by simp[sA,Aw,SW,AW],by simp[HW,BW,SW,AW]⟩
  ·rintro ⟨rest,out,used⟩ ⟨b1,b2⟩
   simp only at b1 b2
   simp only[awK,Af0,Af1,reduceIte]
   cases rest with
   | nil =>
    rw[Lm] at b1
    subst b1
    simp(maxSteps:=1000000)(disch:=(try simp only[awL]);omega)only[awS,D8,↓awU,awY,↓reduceIte,↓reduceDIte,↓Qe,Qu,Qv,Qw,Qx,Qy,Qz,QA,QB,QC,QD,QE,QF,QG,QH,QI,QK]
    first
    | (refine ⟨[some 0],rfl,by simp,by simp[HW,BW,SW,AW],.inr ⟨_,rfl,?_,rfl⟩⟩;rfl)
    | (refine ⟨by rfl,⟨[some 0],rfl,by simp,by simp[HW,BW,SW,AW],.inr ⟨_,rfl,?_,rfl⟩⟩⟩;rfl)
   | cons c q =>
    rw[AcB] at b2
    have hcn:(c::q=[])=False:=by simp
    by_cases c34:c=34
    ·have hc:(c.toNat:Int)=34:=by rw[c34];rfl
     rw[c34,PJ] at b1
     subst b1
     simp(maxSteps:=1000000)(disch:=(try simp only[awL]);omega)only[awS,hcn,hc,D8,↓awU,awY,↓reduceIte,↓reduceDIte,↓Qe,Qu,Qv,Qw,Qx,Qy,Qz,QA,QB,QC,QD,QE,QF,QG,QH,QI,QK]
     refine Ab.by (Pv used out) (by rfl) (by rfl) (by simp) ?_
     simp(maxSteps:=1000000)(disch:=(try simp only[awL]);omega)only[awS,D8,↓awU,awY,↓reduceIte,↓reduceDIte,↓Qe,Qu,Qv,Qw,Qx,Qy,Qz,QA,QB,QC,QD,QE,QF,QG,QH,QI,QK]
     first
     | (refine ⟨[some 0],rfl,by simp,by simp[HW,BW,SW,AW],.inr ⟨_,rfl,?_,rfl⟩⟩;rfl)
     | (refine ⟨by rfl,⟨[some 0],rfl,by simp,by simp[HW,BW,SW,AW],.inr ⟨_,rfl,?_,rfl⟩⟩⟩;rfl)
    ·have hc:¬(c.toNat:Int)=34:=MM c34
     by_cases c32:c<32
     ·have hc2:(c.toNat:Int)<32:=by have:=UInt8.lt_iff_toNat_lt.1 c32;have e:(32:UInt8).toNat=32:=rfl;rw[e] at this;omega
      rw[PK c32 c34] at b1
      subst b1
      simp(maxSteps:=1000000)(disch:=(try simp only[awL]);omega)only[awS,hcn,hc,hc2,D8,↓awU,awY,↓reduceIte,↓reduceDIte,↓Qe,Qu,Qv,Qw,Qx,Qy,Qz,QA,QB,QC,QD,QE,QF,QG,QH,QI,QK]
      first
      | (refine ⟨[some 0],rfl,by simp,by simp[HW,BW,SW,AW],.inr ⟨_,rfl,?_,rfl⟩⟩;rfl)
      | (refine ⟨by rfl,⟨[some 0],rfl,by simp,by simp[HW,BW,SW,AW],.inr ⟨_,rfl,?_,rfl⟩⟩⟩;rfl)
     ·have hc2:¬(c.toNat:Int)<32:=by
       have:¬c.toNat<32:=fun q=>c32 (UInt8.lt_iff_toNat_lt.2 q)
       omega
      by_cases c92:c=92
      ·have hc3:(c.toNat:Int)=92:=by rw[c92];rfl
       cases q with
       | nil =>
        rw[c92,M7] at b1
        subst b1
        simp(maxSteps:=1000000)(disch:=(try simp only[awL]);omega)only[awS,hcn,hc,hc2,hc3,D8,↓awU,awY,↓reduceIte,↓reduceDIte,↓Qe,Qu,Qv,Qw,Qx,Qy,Qz,QA,QB,QC,QD,QE,QF,QG,QH,QI,QK]
        first
        | (refine ⟨[some 0],rfl,by simp,by simp[HW,BW,SW,AW],.inr ⟨_,rfl,?_,rfl⟩⟩;rfl)
        | (refine ⟨by rfl,⟨[some 0],rfl,by simp,by simp[HW,BW,SW,AW],.inr ⟨_,rfl,?_,rfl⟩⟩⟩;rfl)
       | cons e q2 =>
        rw[AcB] at b2
        have hen:(e::q2=[])=False:=by simp
        have hk:=U4 e
        by_cases e0:Hg e=0
        ·have he:((Hg e).toNat:Int)=0:=by rw[e0];rfl
         rw[c92,PL e0] at b1
         subst b1
         simp(maxSteps:=1000000)(disch:=(try simp only[awL]);omega)only[awS,hcn,hen,hc,hc2,hc3,D8,↓awU,awY,↓reduceIte,↓reduceDIte,↓Qe,Qu,Qv,Qw,Qx,Qy,Qz,QA,QB,QC,QD,QE,QF,QG,QH,QI,QK]
         refine Ab.by (L:=[]) E7 (by rfl) (by rfl) (by simp) ?_
         simp(maxSteps:=1000000)(disch:=(try simp only[awL]);omega)only[awS,hcn,hen,hk,he,OM,D8,↓awU,awY,↓reduceIte,↓reduceDIte,↓Qe,Qu,Qv,Qw,Qx,Qy,Qz,QA,QB,QC,QD,QE,QF,QG,QH,QI,QK]
         first
         | (refine ⟨[some 0],rfl,by simp,by simp[HW,BW,SW,AW],.inr ⟨_,rfl,?_,rfl⟩⟩;rfl)
         | (refine ⟨by rfl,⟨[some 0],rfl,by simp,by simp[HW,BW,SW,AW],.inr ⟨_,rfl,?_,rfl⟩⟩⟩;rfl)
        ·have he:¬((Hg e).toNat:Int)=0:=MM e0
         rw[c92,PI e0] at b1
         simp(maxSteps:=1000000)(disch:=(try simp only[awL]);omega)only[awS,hcn,hen,hc,hc2,hc3,D8,↓awU,awY,↓reduceIte,↓reduceDIte,↓Qe,Qu,Qv,Qw,Qx,Qy,Qz,QA,QB,QC,QD,QE,QF,QG,QH,QI,QK]
         refine Ab.by (L:=[]) E7 (by rfl) (by rfl) (by simp) ?_
         simp(maxSteps:=1000000)(disch:=(try simp only[awL]);omega)only[awS,hcn,hen,hk,he,OM,D8,↓awU,awY,↓reduceIte,↓reduceDIte,↓Qe,Qu,Qv,Qw,Qx,Qy,Qz,QA,QB,QC,QD,QE,QF,QG,QH,QI,QK]
         refine ⟨by rfl,?_⟩
         refine Ab.by (L:=[]) E7 (by rfl) (by rfl) (by simp) ?_
         simp(maxSteps:=1000000)(disch:=(try simp only[awL]);omega)only[awS,hcn,hen,hk,he,OM,D8,↓awU,awY,↓reduceIte,↓reduceDIte,↓Qe,Qu,Qv,Qw,Qx,Qy,Qz,QA,QB,QC,QD,QE,QF,QG,QH,QI,QK]
         refine ⟨by rfl,?_⟩
         generalize hb:out++[Hg e]=out3 at *
         have lb:out3.length=out.length+1:=by rw[←hb,AdY];rfl
         refine Ab.by (Gg used out (Hg e) (by omega) out3 hb) (by rfl) (by rfl) (by simp) ?_
         simp(maxSteps:=1000000)(disch:=(try simp only[awL]);omega)only[awS,D8,↓awU,awY,↓reduceIte,↓reduceDIte,↓Qe,Qu,Qv,Qw,Qx,Qy,Qz,QA,QB,QC,QD,QE,QF,QG,QH,QI,QK]
         first
         | exact ⟨(q2,out3,true),⟨b1,by simp only;omega⟩,by simp only[AcB];omega,⟨[some 0,some 1,some 5],rfl,by simp,by simp[sA,Aw,SW,AW],by simp[HW,BW,SW,AW]⟩⟩
      ·have hc3:¬(c.toNat:Int)=92:=MM c92
       rw[M8 c34 c32 c92] at b1
       simp(maxSteps:=1000000)(disch:=(try simp only[awL]);omega)only[awS,hcn,hc,hc2,hc3,D8,↓awU,awY,↓reduceIte,↓reduceDIte,↓Qe,Qu,Qv,Qw,Qx,Qy,Qz,QA,QB,QC,QD,QE,QF,QG,QH,QI,QK]
       generalize hb:out++[c]=out3 at *
       have lb:out3.length=out.length+1:=by rw[←hb,AdY];rfl
       refine Ab.by (Gg used out c (by omega) out3 hb) (by rfl) (by rfl) (by simp) ?_
       simp(maxSteps:=1000000)(disch:=(try simp only[awL]);omega)only[awS,D8,↓awU,awY,↓reduceIte,↓reduceDIte,↓Qe,Qu,Qv,Qw,Qx,Qy,Qz,QA,QB,QC,QD,QE,QF,QG,QH,QI,QK]
       first
       | exact ⟨(q,out3,true),⟨b1,by simp only;omega⟩,by simp only[AcB];omega,⟨[some 0,some 1,some 3],rfl,by simp,by simp[sA,Aw,SW,AW],by simp[HW,BW,SW,AW]⟩⟩
theorem Bp (k:Int):Ctr TP G 71 [.d (.int .i64 k)] [] (.d (.int .u8 (AO k).toNat)) []:=by
 refine Ctr.pure (M:=M0) Am Tryz.func71 rfl go71 ?_
 unfold AO
 by_cases h:k=5
 ·rw[if_pos h]
  simp(maxSteps:=1000000)(disch:=(try simp only[awL]);omega)only[h,Tryz.f71,↓awU,awY,↓reduceIte,↓reduceDIte,↓Qe,Qu,Qv,Qw,Qx,Qy,Qz,QA,QB,QC,QD,QE,QF,QG,QH,QI,QK]
  first | done | rfl
 ·rw[if_neg h]
  simp(maxSteps:=1000000)(disch:=(try simp only[awL]);omega)only[h,Tryz.f71,↓awU,awY,↓reduceIte,↓reduceDIte,↓Qe,Qu,Qv,Qw,Qx,Qy,Qz,QA,QB,QC,QD,QE,QF,QG,QH,QI,QK]
  first | done | rfl
theorem Cn (s:List UInt8) (hs:s.length≤1000000000):Ctr TP G 185 [.d (S s)] [] (.d (.int .i64 (Ef s:Nat))) []:=by
 have ht:Ctr TP G 114 [.d (S s),.d (S L0)] [] (.d (S (Num.trimL L0 s))) []:=Num.trimLeftSet_spec s L0 (by omega) (by decide) (by decide) (by decide)
 have hl:(Num.trimL L0 s).length≤s.length:=(Age _).length_le
 have e:((Ef s:Nat):Int)=(s.length:Int)-((Num.trimL L0 s).length:Int):=by unfold Ef;omega
 rw[e]
 generalize Num.trimL L0 s=q at *
 refine Ctr.pure (M:=M0) Am Tryz.func185 rfl Aeh ?_
 simp(maxSteps:=1000000)(disch:=(try simp only[awL]);omega)only[awS,Tryz.f185,↓awU,awY,↓reduceIte,↓reduceDIte,↓Qe,Qu,Qv,Qw,Qx,Qy,Qz,QA,QB,QC,QD,QE,QF,QG,QH,QI,QK]
 refine Ab.of ht (by rfl) ?_
 simp(maxSteps:=1000000)(disch:=(try simp only[awL]);omega)only[awS,↓awU,awY,↓reduceIte,↓reduceDIte,↓Qe,Qu,Qv,Qw,Qx,Qy,Qz,QA,QB,QC,QD,QE,QF,QG,QH,QI,QK]
 first | done | rfl
theorem Oy (s:List UInt8) (hs:s.length≤1000000000):Ctr TP G 155 [.d (S s)] [] (.d (.int .i64 (Oz s:Nat))) []:=by
 obtain ⟨r,hr⟩:∃ r,r=Oz s:=⟨_,rfl⟩
 rw[←hr]
 unfold Oz at hr
 refine Ctr.pure (M:=M0) Am Tryz.func155 rfl Aew ?_
 rcases s with _ | ⟨c,q⟩
 ·rw[if_pos (show Ef (List.drop (Ec []) [])=0 from rfl)] at hr
  rw[hr]
  simp(maxSteps:=1000000)(disch:=(try simp only[awL]);omega)only[awS,Tryz.f155,↓awU,awY,↓reduceIte,↓reduceDIte,↓Qe,Qu,Qv,Qw,Qx,Qy,Qz,QA,QB,QC,QD,QE,QF,QG,QH,QI,QK]
  refine Ab.of (Cn [] (by simp)) (by rfl) ?_
  rw[show Ef []=0 from rfl]
  simp(maxSteps:=1000000)(disch:=(try simp only[awL]);omega)only[awS,↓awU,awY,↓reduceIte,↓reduceDIte,↓Qe,Qu,Qv,Qw,Qx,Qy,Qz,QA,QB,QC,QD,QE,QF,QG,QH,QI,QK]
  first | done | rfl
 ·have hcn:(c::q=[])=False:=by simp
  by_cases c43:c=43
  ·have hc:(c.toNat:Int)=43:=by rw[c43];rfl
   have h0:Ec (c::q)=1:=by simp[Ec,c43]
   rw[h0,show (c::q).drop 1=q from rfl] at hr
   have hd:=Cn (G:=G) (q) (by simp only[AcB] at hs ⊢;omega)
   have hdl:=ES (q)
   simp(maxSteps:=1000000)(disch:=(try simp only[awL]);omega)only[awS,hcn,hc,Tryz.f155,↓awU,awY,↓reduceIte,↓reduceDIte,↓Qe,Qu,Qv,Qw,Qx,Qy,Qz,QA,QB,QC,QD,QE,QF,QG,QH,QI,QK]
   refine Ab.of hd (by rfl) ?_
   by_cases hw:Ef (q)=0
   ·rw[if_pos hw] at hr
    rw[hw,hr]
    simp(maxSteps:=1000000)(disch:=(try simp only[awL]);omega)only[awS,↓awU,awY,↓reduceIte,↓reduceDIte,↓Qe,Qu,Qv,Qw,Qx,Qy,Qz,QA,QB,QC,QD,QE,QF,QG,QH,QI,QK]
    first | done | rfl
   ·rw[if_neg hw] at hr
    generalize Ef (q)=w at *
    have hw2:¬((w:Int)=0):=by omega
    have hp:=C8 (G:=G) ((c::q).drop (1+w)) [46]
    have hd2:=Cn (G:=G) (q.drop (1+w)) (by rw[Afs];simp only[AcB] at hs;omega)
    have hdl2:=ES (q.drop (1+w))
    rw[Afs] at hdl2
    have hpl:hasP ((c::q).drop (1+w)) [46]=true→1+w+1≤(c::q).length:=fun q=>by have:=hasP_le q;simp only[Afs,AcB,AdZ] at this ⊢;omega
    rw[show (c::q).drop (1+w+1)=q.drop (1+w) from rfl] at hr
    generalize hw3:Ef (q.drop (1+w))=w2 at *
    generalize hdr:(c::q).drop (1+w)=dr at *
    simp only[AcB] at hdl hs hpl hdl2
    have ht1:((1:Int)+(w:Int)).toNat=1+w:=by omega
    have ht2:((1:Int)+(w:Int)+1).toNat=1+w+1:=by omega
    simp(maxSteps:=1000000)(disch:=(try simp only[awL]);omega)only[awS,hw2,ht1,hdr,↓awU,awY,↓reduceIte,↓reduceDIte,↓Qe,Qu,Qv,Qw,Qx,Qy,Qz,QA,QB,QC,QD,QE,QF,QG,QH,QI,QK]
    refine Ab.of hp (by rfl) ?_
    cases hx:hasP dr [46]
    ·rw[if_neg (by rw[hx];simp)] at hr
     rw[hr]
     simp(maxSteps:=1000000)(disch:=(try simp only[awL]);omega)only[awS,↓awU,awY,↓reduceIte,↓reduceDIte,↓Qe,Qu,Qv,Qw,Qx,Qy,Qz,QA,QB,QC,QD,QE,QF,QG,QH,QI,QK]
     first | done | rfl
    ·have hpl:=hpl hx
     simp(maxSteps:=1000000)(disch:=(try simp only[awL]);omega)only[awS,ht2,↓awU,awY,↓reduceIte,↓reduceDIte,↓Qe,Qu,Qv,Qw,Qx,Qy,Qz,QA,QB,QC,QD,QE,QF,QG,QH,QI,QK]
     refine Ab.of hd2 (by rfl) ?_
     rcases Af7 w2 with w20 | w20
     ·subst w20
      rw[if_neg (by simp)] at hr
      rw[hr]
      simp(maxSteps:=1000000)(disch:=(try simp only[awL]);omega)only[awS,↓awU,awY,↓reduceIte,↓reduceDIte,↓Qe,Qu,Qv,Qw,Qx,Qy,Qz,QA,QB,QC,QD,QE,QF,QG,QH,QI,QK]
      first | done | rfl
     ·rw[if_pos ⟨hx,w20⟩] at hr
      rw[hr]
      simp(maxSteps:=1000000)(disch:=(try simp only[awL]);omega)only[awS,ht2,↓awU,awY,↓reduceIte,↓reduceDIte,↓Qe,Qu,Qv,Qw,Qx,Qy,Qz,QA,QB,QC,QD,QE,QF,QG,QH,QI,QK]
      refine Ab.of hd2 (by rfl) ?_
      simp(maxSteps:=1000000)(disch:=(try simp only[awL]);omega)only[awS,↓awU,awY,↓reduceIte,↓reduceDIte,↓Qe,Qu,Qv,Qw,Qx,Qy,Qz,QA,QB,QC,QD,QE,QF,QG,QH,QI,QK]
      first | done | rfl
  ·have hc:¬(c.toNat:Int)=43:=MM c43
   by_cases c45:c=45
   ·have hc2:(c.toNat:Int)=45:=by rw[c45];rfl
    have h0:Ec (c::q)=1:=by simp[Ec,c45]
    rw[h0,show (c::q).drop 1=q from rfl] at hr
    have hd:=Cn (G:=G) (q) (by simp only[AcB] at hs ⊢;omega)
    have hdl:=ES (q)
    simp(maxSteps:=1000000)(disch:=(try simp only[awL]);omega)only[awS,hcn,hc,hc2,Tryz.f155,↓awU,awY,↓reduceIte,↓reduceDIte,↓Qe,Qu,Qv,Qw,Qx,Qy,Qz,QA,QB,QC,QD,QE,QF,QG,QH,QI,QK]
    refine Ab.of hd (by rfl) ?_
    by_cases hw:Ef (q)=0
    ·rw[if_pos hw] at hr
     rw[hw,hr]
     simp(maxSteps:=1000000)(disch:=(try simp only[awL]);omega)only[awS,↓awU,awY,↓reduceIte,↓reduceDIte,↓Qe,Qu,Qv,Qw,Qx,Qy,Qz,QA,QB,QC,QD,QE,QF,QG,QH,QI,QK]
     first | done | rfl
    ·rw[if_neg hw] at hr
     generalize Ef (q)=w at *
     have hw2:¬((w:Int)=0):=by omega
     have hp:=C8 (G:=G) ((c::q).drop (1+w)) [46]
     have hd2:=Cn (G:=G) (q.drop (1+w)) (by rw[Afs];simp only[AcB] at hs;omega)
     have hdl2:=ES (q.drop (1+w))
     rw[Afs] at hdl2
     have hpl:hasP ((c::q).drop (1+w)) [46]=true→1+w+1≤(c::q).length:=fun q=>by have:=hasP_le q;simp only[Afs,AcB,AdZ] at this ⊢;omega
     rw[show (c::q).drop (1+w+1)=q.drop (1+w) from rfl] at hr
     generalize hw3:Ef (q.drop (1+w))=w2 at *
     generalize hdr:(c::q).drop (1+w)=dr at *
     simp only[AcB] at hdl hs hpl hdl2
     have ht1:((1:Int)+(w:Int)).toNat=1+w:=by omega
     have ht2:((1:Int)+(w:Int)+1).toNat=1+w+1:=by omega
     simp(maxSteps:=1000000)(disch:=(try simp only[awL]);omega)only[awS,hw2,ht1,hdr,↓awU,awY,↓reduceIte,↓reduceDIte,↓Qe,Qu,Qv,Qw,Qx,Qy,Qz,QA,QB,QC,QD,QE,QF,QG,QH,QI,QK]
     refine Ab.of hp (by rfl) ?_
     cases hx:hasP dr [46]
     ·rw[if_neg (by rw[hx];simp)] at hr
      rw[hr]
      simp(maxSteps:=1000000)(disch:=(try simp only[awL]);omega)only[awS,↓awU,awY,↓reduceIte,↓reduceDIte,↓Qe,Qu,Qv,Qw,Qx,Qy,Qz,QA,QB,QC,QD,QE,QF,QG,QH,QI,QK]
      first | done | rfl
     ·have hpl:=hpl hx
      simp(maxSteps:=1000000)(disch:=(try simp only[awL]);omega)only[awS,ht2,↓awU,awY,↓reduceIte,↓reduceDIte,↓Qe,Qu,Qv,Qw,Qx,Qy,Qz,QA,QB,QC,QD,QE,QF,QG,QH,QI,QK]
      refine Ab.of hd2 (by rfl) ?_
      rcases Af7 w2 with w20 | w20
      ·subst w20
       rw[if_neg (by simp)] at hr
       rw[hr]
       simp(maxSteps:=1000000)(disch:=(try simp only[awL]);omega)only[awS,↓awU,awY,↓reduceIte,↓reduceDIte,↓Qe,Qu,Qv,Qw,Qx,Qy,Qz,QA,QB,QC,QD,QE,QF,QG,QH,QI,QK]
       first | done | rfl
      ·rw[if_pos ⟨hx,w20⟩] at hr
       rw[hr]
       simp(maxSteps:=1000000)(disch:=(try simp only[awL]);omega)only[awS,ht2,↓awU,awY,↓reduceIte,↓reduceDIte,↓Qe,Qu,Qv,Qw,Qx,Qy,Qz,QA,QB,QC,QD,QE,QF,QG,QH,QI,QK]
       refine Ab.of hd2 (by rfl) ?_
       simp(maxSteps:=1000000)(disch:=(try simp only[awL]);omega)only[awS,↓awU,awY,↓reduceIte,↓reduceDIte,↓Qe,Qu,Qv,Qw,Qx,Qy,Qz,QA,QB,QC,QD,QE,QF,QG,QH,QI,QK]
       first | done | rfl
   ·have hc2:¬(c.toNat:Int)=45:=MM c45
    have h0:Ec (c::q)=0:=by simp[Ec,c43,c45]
    rw[h0,show (c::q).drop 0=c::q from rfl] at hr
    have hd:=Cn (G:=G) (c::q) (by simp only[AcB] at hs ⊢;omega)
    have hdl:=ES (c::q)
    simp(maxSteps:=1000000)(disch:=(try simp only[awL]);omega)only[awS,hcn,hc,hc2,Tryz.f155,↓awU,awY,↓reduceIte,↓reduceDIte,↓Qe,Qu,Qv,Qw,Qx,Qy,Qz,QA,QB,QC,QD,QE,QF,QG,QH,QI,QK]
    refine Ab.of hd (by rfl) ?_
    by_cases hw:Ef (c::q)=0
    ·rw[if_pos hw] at hr
     rw[hw,hr]
     simp(maxSteps:=1000000)(disch:=(try simp only[awL]);omega)only[awS,↓awU,awY,↓reduceIte,↓reduceDIte,↓Qe,Qu,Qv,Qw,Qx,Qy,Qz,QA,QB,QC,QD,QE,QF,QG,QH,QI,QK]
     first | done | rfl
    ·rw[if_neg hw] at hr
     generalize Ef (c::q)=w at *
     simp only[AfZ] at hr
     have hw2:¬((w:Int)=0):=by omega
     have hp:=C8 (G:=G) ((c::q).drop (w)) [46]
     have hd2:=Cn (G:=G) (q.drop (w)) (by rw[Afs];simp only[AcB] at hs;omega)
     have hdl2:=ES (q.drop (w))
     rw[Afs] at hdl2
     have hpl:hasP ((c::q).drop (w)) [46]=true→w+1≤(c::q).length:=fun q=>by have:=hasP_le q;simp only[Afs,AcB,AdZ] at this ⊢;omega
     rw[show (c::q).drop (w+1)=q.drop (w) from rfl] at hr
     generalize hw3:Ef (q.drop (w))=w2 at *
     generalize hdr:(c::q).drop (w)=dr at *
     simp only[AcB] at hdl hs hpl hdl2
     have ht1:((0:Int)+(w:Int)).toNat=w:=by omega
     have ht2:((0:Int)+(w:Int)+1).toNat=w+1:=by omega
     simp(maxSteps:=1000000)(disch:=(try simp only[awL]);omega)only[awS,hw2,ht1,hdr,↓awU,awY,↓reduceIte,↓reduceDIte,↓Qe,Qu,Qv,Qw,Qx,Qy,Qz,QA,QB,QC,QD,QE,QF,QG,QH,QI,QK]
     refine Ab.of hp (by rfl) ?_
     cases hx:hasP dr [46]
     ·rw[if_neg (by rw[hx];simp)] at hr
      rw[hr]
      simp(maxSteps:=1000000)(disch:=(try simp only[awL]);omega)only[awS,↓awU,awY,↓reduceIte,↓reduceDIte,↓Qe,Qu,Qv,Qw,Qx,Qy,Qz,QA,QB,QC,QD,QE,QF,QG,QH,QI,QK]
      first | done | rfl
     ·have hpl:=hpl hx
      simp(maxSteps:=1000000)(disch:=(try simp only[awL]);omega)only[awS,ht2,↓awU,awY,↓reduceIte,↓reduceDIte,↓Qe,Qu,Qv,Qw,Qx,Qy,Qz,QA,QB,QC,QD,QE,QF,QG,QH,QI,QK]
      refine Ab.of hd2 (by rfl) ?_
      rcases Af7 w2 with w20 | w20
      ·subst w20
       rw[if_neg (by simp)] at hr
       rw[hr]
       simp(maxSteps:=1000000)(disch:=(try simp only[awL]);omega)only[awS,↓awU,awY,↓reduceIte,↓reduceDIte,↓Qe,Qu,Qv,Qw,Qx,Qy,Qz,QA,QB,QC,QD,QE,QF,QG,QH,QI,QK]
       first | done | rfl
      ·rw[if_pos ⟨hx,w20⟩] at hr
       rw[hr]
       simp(maxSteps:=1000000)(disch:=(try simp only[awL]);omega)only[awS,ht2,↓awU,awY,↓reduceIte,↓reduceDIte,↓Qe,Qu,Qv,Qw,Qx,Qy,Qz,QA,QB,QC,QD,QE,QF,QG,QH,QI,QK]
       refine Ab.of hd2 (by rfl) ?_
       simp(maxSteps:=1000000)(disch:=(try simp only[awL]);omega)only[awS,↓awU,awY,↓reduceIte,↓reduceDIte,↓Qe,Qu,Qv,Qw,Qx,Qy,Qz,QA,QB,QC,QD,QE,QF,QG,QH,QI,QK]
       first | done | rfl
abbrev zN:List AV:=[.d (.int .i64 0),.d (.str ByteArray.empty),.d (.sl 0 true []),.d (.sl 0 true [])]
def Pg:List D:=[S OA,.int .i64 1,S [],.sl 0 false [],.sl 0 false [],S Hd,.int .i64 2,S Hd,.sl 0 false [],.sl 0 false [],S Hf,.int .i64 2,S Hf,.sl 0 false [],.sl 0 false []]
def ScaR (s:List UInt8) (i:Nat):Prop:=i≤3∧(0<i→hasP s OA=false)∧(1<i→hasP s Hd=false)∧(2<i→hasP s Hf=false)
theorem Om (s0:List UInt8) (hs0:s0.length≤1000000000) (v:Value) :
  Ctr TP G 113 [.ptr 0 0] [psB s0 v] (.d (.tup [NdD (Fd s0).2.1,.bool (Fd s0).2.2])) [psB (Fd s0).1 v]:=by
 have ht:=KZ (G:=G) s0 (by omega)
 have hlen:=Ej s0
 obtain ⟨r,hr⟩:∃ r,r=Fd s0:=⟨_,rfl⟩
 rw[←hr]
 unfold Fd at hr
 generalize BR s0=s at *
 have hs:s.length≤1000000000:=by omega
 have hq:=IE (G:=G) s hs v
 have hn:=Oy (G:=G) s hs
 have hnl:=TQ s
 have p1:=C8 (G:=G) s [34]
 have c1:Ctr TP G 131 [.d (S s),.d (S OA)] [] (.d (.tup [S (if hasP s OA then s.drop 4 else s),.bool (hasP s OA)])) []:=Num.cutPrefix_spec s OA
 have c2:Ctr TP G 131 [.d (S s),.d (S Hd)] [] (.d (.tup [S (if hasP s Hd then s.drop 4 else s),.bool (hasP s Hd)])) []:=Num.cutPrefix_spec s Hd
 have c3:Ctr TP G 131 [.d (S s),.d (S Hf)] [] (.d (.tup [S (if hasP s Hf then s.drop 5 else s),.bool (hasP s Hf)])) []:=Num.cutPrefix_spec s Hf
 refine Ctr.body (M:=M0) Am Tryz.func113 rfl AeV ?_
 simp(maxSteps:=1000000)(disch:=(try simp only[awL]);omega)only[awS,Tryz.f113,↓awU,awY,↓reduceIte,↓reduceDIte,↓Qe,Qu,Qv,Qw,Qx,Qy,Qz,QA,QB,QC,QD,QE,QF,QG,QH,QI,QK]
 refine Ab.of ht (by rfl) ?_
 simp(maxSteps:=1000000)(disch:=(try simp only[awL]);omega)only[awS,↓awU,awY,↓reduceIte,↓reduceDIte,↓Qe,Qu,Qv,Qw,Qx,Qy,Qz,QA,QB,QC,QD,QE,QF,QG,QH,QI,QK]
 refine Ab.of p1 (by rfl) ?_
 cases e1:hasP s [34]
 ·rw[if_neg (by rw[e1];simp)] at hr
  simp(maxSteps:=1000000)(disch:=(try simp only[awL]);omega)only[awS,↓awU,awY,↓reduceIte,↓reduceDIte,↓Qe,Qu,Qv,Qw,Qx,Qy,Qz,QA,QB,QC,QD,QE,QF,QG,QH,QI,QK]
  refine Au.fr 1649267441669 (α:=Nat) (fun i=>3-i) (fun i=>[(41,.d (.int .i64 i))]) (fun i=>[psB s v,.box zN,.row false Pg])
   (fun i=>ScaR s i) 0 ⟨by omega,by omega,by omega,by omega⟩ ?_ ?_
  ·first
   | exact ⟨[some 0,some 1,some 2],rfl,by simp,by simp[sA,Aw,SW,AW],by simp[HW,BW,SW,AW]<;>rfl⟩
  ·rintro i ⟨b1,b2,b3,b4⟩
   simp only[awK,Af0,Af1,reduceIte]
   rcases (by omega:i=0∨i=1∨i=2∨i=3) with rfl | rfl | rfl | rfl
   ·simp(maxSteps:=1000000)(disch:=(try simp only[awL]);omega)only[awS,Pg,↓awU,awY,↓reduceIte,↓reduceDIte,↓Qe,Qu,Qv,Qw,Qx,Qy,Qz,QA,QB,QC,QD,QE,QF,QG,QH,QI,QK]
    refine Ab.of c1 (by rfl) ?_
    cases e2:hasP s OA
    ·simp(maxSteps:=1000000)(disch:=(try simp only[awL]);omega)only[awS,e2,Af8,if_false,↓awU,awY,↓reduceIte,↓reduceDIte,↓Qe,Qu,Qv,Qw,Qx,Qy,Qz,QA,QB,QC,QD,QE,QF,QG,QH,QI,QK]
     first
     | exact ⟨by rfl,1,⟨by omega,fun h=>e2,fun h=>absurd h (by omega),fun h=>absurd h (by omega)⟩,by simp only;omega,⟨[some 0,some 1,some 2],rfl,by simp,by simp[sA,Aw,SW,AW],by simp[HW,BW,SW,AW]<;>rfl⟩⟩
    ·simp(maxSteps:=1000000)(disch:=(try simp only[awL]);omega)only[awS,e2,if_true,↓awU,awY,↓reduceIte,↓reduceDIte,↓Qe,Qu,Qv,Qw,Qx,Qy,Qz,QA,QB,QC,QD,QE,QF,QG,QH,QI,QK]
     rw[if_pos e2] at hr
     subst hr
     first
     | (refine ⟨[some 0],rfl,by simp,by simp[HW,BW,SW,AW],.inr ⟨_,rfl,?_,rfl⟩⟩;rfl)
     | (refine ⟨by rfl,⟨[some 0],rfl,by simp,by simp[HW,BW,SW,AW],.inr ⟨_,rfl,?_,rfl⟩⟩⟩;rfl)
   ·simp(maxSteps:=1000000)(disch:=(try simp only[awL]);omega)only[awS,Pg,↓awU,awY,↓reduceIte,↓reduceDIte,↓Qe,Qu,Qv,Qw,Qx,Qy,Qz,QA,QB,QC,QD,QE,QF,QG,QH,QI,QK]
    refine Ab.of c2 (by rfl) ?_
    cases e2:hasP s Hd
    ·simp(maxSteps:=1000000)(disch:=(try simp only[awL]);omega)only[awS,e2,Af8,if_false,↓awU,awY,↓reduceIte,↓reduceDIte,↓Qe,Qu,Qv,Qw,Qx,Qy,Qz,QA,QB,QC,QD,QE,QF,QG,QH,QI,QK]
     first
     | exact ⟨by rfl,2,⟨by omega,fun h=>b2 (by omega),fun h=>e2,fun h=>absurd h (by omega)⟩,by simp only;omega,⟨[some 0,some 1,some 2],rfl,by simp,by simp[sA,Aw,SW,AW],by simp[HW,BW,SW,AW]<;>rfl⟩⟩
    ·simp(maxSteps:=1000000)(disch:=(try simp only[awL]);omega)only[awS,e2,if_true,↓awU,awY,↓reduceIte,↓reduceDIte,↓Qe,Qu,Qv,Qw,Qx,Qy,Qz,QA,QB,QC,QD,QE,QF,QG,QH,QI,QK]
     rw[if_neg (by rw[b2 (by omega)];simp)] at hr
     rw[if_pos e2] at hr
     subst hr
     first
     | (refine ⟨[some 0],rfl,by simp,by simp[HW,BW,SW,AW],.inr ⟨_,rfl,?_,rfl⟩⟩;rfl)
     | (refine ⟨by rfl,⟨[some 0],rfl,by simp,by simp[HW,BW,SW,AW],.inr ⟨_,rfl,?_,rfl⟩⟩⟩;rfl)
   ·simp(maxSteps:=1000000)(disch:=(try simp only[awL]);omega)only[awS,Pg,↓awU,awY,↓reduceIte,↓reduceDIte,↓Qe,Qu,Qv,Qw,Qx,Qy,Qz,QA,QB,QC,QD,QE,QF,QG,QH,QI,QK]
    refine Ab.of c3 (by rfl) ?_
    cases e2:hasP s Hf
    ·simp(maxSteps:=1000000)(disch:=(try simp only[awL]);omega)only[awS,e2,Af8,if_false,↓awU,awY,↓reduceIte,↓reduceDIte,↓Qe,Qu,Qv,Qw,Qx,Qy,Qz,QA,QB,QC,QD,QE,QF,QG,QH,QI,QK]
     first
     | exact ⟨by rfl,3,⟨by omega,fun h=>b2 (by omega),fun h=>b3 (by omega),fun h=>e2⟩,by simp only;omega,⟨[some 0,some 1,some 2],rfl,by simp,by simp[sA,Aw,SW,AW],by simp[HW,BW,SW,AW]<;>rfl⟩⟩
    ·simp(maxSteps:=1000000)(disch:=(try simp only[awL]);omega)only[awS,e2,if_true,↓awU,awY,↓reduceIte,↓reduceDIte,↓Qe,Qu,Qv,Qw,Qx,Qy,Qz,QA,QB,QC,QD,QE,QF,QG,QH,QI,QK]
     rw[if_neg (by rw[b2 (by omega)];simp)] at hr
     rw[if_neg (by rw[b3 (by omega)];simp)] at hr
     rw[if_pos e2] at hr
     subst hr
     first
     | (refine ⟨[some 0],rfl,by simp,by simp[HW,BW,SW,AW],.inr ⟨_,rfl,?_,rfl⟩⟩;rfl)
     | (refine ⟨by rfl,⟨[some 0],rfl,by simp,by simp[HW,BW,SW,AW],.inr ⟨_,rfl,?_,rfl⟩⟩⟩;rfl)
   ·rw[if_neg (by rw[b2 (by omega)];simp),if_neg (by rw[b3 (by omega)];simp),if_neg (by rw[b4 (by omega)];simp)] at hr
    simp(maxSteps:=1000000)(disch:=(try simp only[awL]);omega)only[awS,Pg,↓awU,awY,↓reduceIte,↓reduceDIte,↓Qe,Qu,Qv,Qw,Qx,Qy,Qz,QA,QB,QC,QD,QE,QF,QG,QH,QI,QK]
    refine Ab.of hn (by rfl) ?_
    generalize Oz s=n at *
    have hd:decide ((0:Int)<(n:Int))=decide (0<n):=by simp
    simp(maxSteps:=1000000)(disch:=(try simp only[awL]);omega)only[awS,hd,↓awU,awY,↓reduceIte,↓reduceDIte,↓Qe,Qu,Qv,Qw,Qx,Qy,Qz,QA,QB,QC,QD,QE,QF,QG,QH,QI,QK]
    subst hr
    first
    | (refine ⟨[some 0],rfl,by simp,by simp[HW,BW,SW,AW],.inr ⟨_,rfl,?_,rfl⟩⟩;rfl)
    | (refine ⟨by rfl,⟨[some 0],rfl,by simp,by simp[HW,BW,SW,AW],.inr ⟨_,rfl,?_,rfl⟩⟩⟩;rfl)
 ·rw[if_pos e1] at hr
  simp(maxSteps:=1000000)(disch:=(try simp only[awL]);omega)only[awS,↓awU,awY,↓reduceIte,↓reduceDIte,↓Qe,Qu,Qv,Qw,Qx,Qy,Qz,QA,QB,QC,QD,QE,QF,QG,QH,QI,QK]
  refine Ab.by hq (by rfl) (by rfl) (by simp) ?_
  simp(maxSteps:=1000000)(disch:=(try simp only[awL]);omega)only[awS,↓awU,awY,↓reduceIte,↓reduceDIte,↓Qe,Qu,Qv,Qw,Qx,Qy,Qz,QA,QB,QC,QD,QE,QF,QG,QH,QI,QK]
  subst hr
  first
  | (refine ⟨[some 0],rfl,by simp,by simp[HW,BW,SW,AW],.inr ⟨_,rfl,?_,rfl⟩⟩;rfl)
  | (refine ⟨by rfl,⟨[some 0],rfl,by simp,by simp[HW,BW,SW,AW],.inr ⟨_,rfl,?_,rfl⟩⟩⟩;rfl)
end Go.Proofs.YtmidaophnbdcdaaGreatDoor
namespace Go.Proofs.YtmidaophnbdcdaaGreatDoor
open Go Go.Proofs Go.Abs
def Pb (n sz:Nat) (ds:List D) (a:AV) (ids:List Nat) (H:List Aa):Prop :=
 (n=0∧a=.d (.sl 0 true [])∧ids=[])∨(0<n∧∃ b,a=.lsl b sz 0 n∧ids=[b]∧H[b]?=some (.row false ds))
theorem Pb.frame {n sz:Nat} {ds:List D} {a:AV} {ids:List Nat} {H K:List Aa} (h:Pb n sz ds a ids H) (hk:∀ b∈ids,K[b]?=H[b]?):Pb n sz ds a ids K:=by
 rcases h with h | ⟨h0,b,h1,h2,h3⟩
 ·exact .inl h
 ·exact .inr ⟨h0,b,h1,h2,by rw[hk b (by rw[h2];simp)];exact h3⟩
theorem Pb.lt {n sz:Nat} {ds:List D} {a:AV} {ids:List Nat} {H:List Aa} (h:Pb n sz ds a ids H):∀ b∈ids,b<H.length:=by
 intro b hb
 rcases h with ⟨_,_,h⟩ | ⟨h0,c,h1,h2,h3⟩
 ·rw[h] at hb;cases hb
 ·rw[h2,AdV] at hb
  subst hb
  exact (Ae3.1 h3).1
abbrev Aa6 (t:Nd):=Pb t.keys.length 1 (strs t.keys)
abbrev Aa4 (t:Nd):=Pb t.kids.length 4 (AY t.kids)
def Su (ex:List AV) (t:Nd) (ka qa:AV):List AV:=[.d (.int .i64 t.kind),.d (S t.text),ka,qa]++ex
theorem P9 (ex:List AV) (t:Nd) (ka qa:AV):(Su ex t ka qa).length=4+ex.length:=by simp[Su];omega
def Ks (ex:List AV) (H:List Aa):List Nd→List AV→List Nat→Prop
 | [],cells,ids=>cells=[]∧ids=[]
 | t::st,cells,ids=>∃ c i ka ik qa iq,Ks ex H st c i∧Aa6 t ka ik H∧Aa4 t qa iq H∧cells=c++Su ex t ka qa∧ids=i++(ik++iq)
theorem Ks.len {ex:List AV} {H:List Aa}:∀ {st:List Nd} {cells:List AV} {ids:List Nat},Ks ex H st cells ids→cells.length=st.length*(4+ex.length)
 | [],cells,ids,h=>by rw[h.1];simp
 | t::st,cells,ids,⟨c,i,ka,ik,qa,iq,h1,_,_,h4,_⟩=>by
   rw[h4,AdY,h1.len,P9,AcB,Ags]
theorem Ks.frame {ex:List AV} {H K:List Aa}:∀ {st:List Nd} {cells:List AV} {ids:List Nat},Ks ex H st cells ids→(∀ b∈ids,K[b]?=H[b]?)→Ks ex K st cells ids
 | [],cells,ids,h,_=>h
 | t::st,cells,ids,⟨c,i,ka,ik,qa,iq,h1,h2,h3,h4,h5⟩,hk=>by
   subst h5
   exact ⟨c,i,ka,ik,qa,iq,h1.frame fun b hb=>hk b (by simp[hb]),h2.frame fun b hb=>hk b (by simp[hb]),h3.frame fun b hb=>hk b (by simp[hb]),h4,rfl⟩
theorem Ks.lt {ex:List AV} {H:List Aa}:∀ {st:List Nd} {cells:List AV} {ids:List Nat},Ks ex H st cells ids→∀ b∈ids,b<H.length
 | [],cells,ids,h=>fun b hb=>by rw[h.2] at hb;cases hb
 | t::st,cells,ids,⟨c,i,ka,ik,qa,iq,h1,h2,h3,h4,h5⟩=>fun b hb=>by
   subst h5
   rcases AdX.1 hb with hb | hb
   ·exact h1.lt b hb
   ·rcases AdX.1 hb with hb | hb
    ·exact h2.lt b hb
    ·exact h3.lt b hb
def Tf (ob:Nat) (cells:List AV) (H:List Aa):Prop:=(∃ junk,H[ob]?=some (.box (cells++junk)))∨(cells=[]∧H[ob]?=some (.row false []))
theorem Tf.lt {ob:Nat} {cells:List AV} {H:List Aa} (h:Tf ob cells H):ob<H.length:=by
 rcases h with ⟨j,h⟩ | ⟨_,h⟩
 ·exact (Ae3.1 h).1
 ·exact (Ae3.1 h).1
theorem Tf.frame {ob:Nat} {cells:List AV} {H K:List Aa} (h:Tf ob cells H) (hk:K[ob]?=H[ob]?):Tf ob cells K:=by
 unfold Tf
 rw[hk]
 exact h
structure JL (ex:List AV) (st:List Nd) (ob:Nat) (ids:List Nat) (H:List Aa):Prop where
 stk:∃ cells,Tf ob cells H∧Ks ex H st cells ids
 nd:(ob::ids).Nodup
theorem JL.lt {ex:List AV} {st:List Nd} {ob:Nat} {ids:List Nat} {H:List Aa} (h:JL ex st ob ids H):∀ b∈ob::ids,b<H.length:=by
 obtain ⟨cells,h1,h2⟩:=h.stk
 intro b hb
 rcases Afw.1 hb with rfl | hb
 ·exact h1.lt
 ·exact h2.lt b hb
theorem JL.frame {ex:List AV} {st:List Nd} {ob:Nat} {ids:List Nat} {H K:List Aa} (h:JL ex st ob ids H) (hk:∀ b∈ob::ids,K[b]?=H[b]?):JL ex st ob ids K:=by
 obtain ⟨cells,h1,h2⟩:=h.stk
 exact ⟨⟨cells,h1.frame (hk ob (by simp)),h2.frame fun b hb=>hk b (by simp[hb])⟩,h.nd⟩
structure Cf (rest:List UInt8) (st:List Nd) (ob:Nat) (ids:List Nat) (H:List Aa):Prop where
 box:H[0]?=some (.box [.d (S rest),.lsl ob 4 0 st.length])
 stack:JL [] st ob ids H
 pos:∀ b∈ob::ids,0<b
 nox:NoX H
theorem Cf.ne {rest:List UInt8} {st:List Nd} {ob:Nat} {ids:List Nat} {H:List Aa} (h:Cf rest st ob ids H) {b:Nat} (hb:b∈ob::ids):¬0=b:=by
 have:=h.pos b hb
 omega
structure Cj (F:List Nat) (H:List Aa) (F':List Nat) (H':List Aa):Prop where
 len:H.length≤H'.length
 keep:∀ i,0<i→i<H.length→i∉F→H'[i]?=H[i]?
 old:∀ i∈F',i∈F∨H.length≤i
theorem Cj.refl (F:List Nat) (H:List Aa):Cj F H F H:=⟨Ad0 _,fun _ _ _ _=>rfl,fun i hi=>.inl hi⟩
theorem Cj.trans {F1 F2 F3:List Nat} {H1 H2 H3:List Aa} (a:Cj F1 H1 F2 H2) (b:Cj F2 H2 F3 H3):Cj F1 H1 F3 H3:=by
 refine ⟨AfJ a.len b.len,fun i h0 hi hn=>?_,fun i hi=>?_⟩
 ·rw[b.keep i h0 (Af6 hi a.len) fun c=>?_,a.keep i h0 hi hn]
  rcases a.old i c with h | h
  ·exact hn h
  ·omega
 ·rcases b.old i hi with h | h
  ·exact a.old i h
  ·exact .inr (AfJ a.len h)
theorem Cf.rest {rest r':List UInt8} {st:List Nd} {ob:Nat} {ids:List Nat} {H:List Aa} (h:Cf rest st ob ids H):Cf r' st ob ids (H.set 0 (.box [.d (S r'),.lsl ob 4 0 st.length])) ∧
  Cj (ob::ids) H (ob::ids) (H.set 0 (.box [.d (S r'),.lsl ob 4 0 st.length])):=by
 have h0:0<H.length:=(Ae3.1 h.box).1
 exact ⟨⟨Bt h0,h.stack.frame fun b hb=>An (h.ne hb),h.pos,h.nox.set _ (by simp)⟩,⟨by simp,fun i hi _ _=>An (by omega),fun i hi=>.inl hi⟩⟩
theorem Cf.app {rest:List UInt8} {st:List Nd} {ob:Nat} {ids:List Nat} {H E:List Aa} (h:Cf rest st ob ids H) (he:NoX E):Cf rest st ob ids (H++E)∧Cj (ob::ids) H (ob::ids) (H++E):=by
 have h0:0<H.length:=(Ae3.1 h.box).1
 exact ⟨⟨by rw[Az h0];exact h.box,h.stack.frame fun b hb=>Az (h.stack.lt b hb),h.pos,h.nox.app he⟩,⟨by simp,fun i _ hi _=>Az hi,fun i hi=>.inl hi⟩⟩
theorem Cf.lift {G:Ad} {rest r':List UInt8} {st:List Nd} {ob:Nat} {ids:List Nat} {H:List Aa} (h:Cf rest st ob ids H) {f:FuncId} {args:List AV} {res:D}
  (spec:∀ v,Ctr TP G f args [.box [.d (S rest),.d (.val v)]] (.d res) [.box [.d (S r'),.d (.val v)]]) (ha:∀ a∈args,a=.ptr 0 0∨∃ d,a=.d d) :
  Ctr TP G f args H (.d res) (H.set 0 (.box [.d (S r'),.lsl ob 4 0 st.length])):=Ctr.lift1 spec ha h.box
end Go.Proofs.YtmidaophnbdcdaaGreatDoor
namespace Go.Proofs.YtmidaophnbdcdaaGreatDoor
open Go Go.Proofs Go.Abs
variable {G:Ad}
theorem Cf.top {rest:List UInt8} {t:Nd} {st:List Nd} {ob:Nat} {ids:List Nat} {H:List Aa} (h:Cf rest (t::st) ob ids H) :
  ∃ c junk i ka ik qa iq,H[ob]?=some (.box (c++(.d (.int .i64 t.kind)::.d (S t.text)::ka::qa::junk)))∧c.length=st.length*4∧Ks [] H st c i∧Aa6 t ka ik H∧Aa4 t qa iq H∧ids=i++(ik++iq):=by
 obtain ⟨cells,h1,c,i,ka,ik,qa,iq,h2,h3,h4,h5,h6⟩:=h.stack.stk
 rcases h1 with ⟨junk,h1⟩ | ⟨h1,_⟩
 ·refine ⟨c,junk,i,ka,ik,qa,iq,?_,by have:=h2.len;simpa using this,h2,h3,h4,h6⟩
  rw[h1,h5]
  simp[Su]
 ·rw[h5] at h1
  simp[Su] at h1
theorem Ir {c:List AV} {m:Nat} (hc:c.length=m*4) (a b k q:AV) (j:List AV):(c++(a::b::k::q::j)).getD (m*4) .undef=a:=by
 rw[Afv,AfP (by omega),hc];simp
theorem VJ {c:List AV} {m:Nat} (hc:c.length=m*4) (a b k q:AV) (j:List AV):(c++(a::b::k::q::j)).getD (m*4+2) .undef=k:=by
 rw[Afv,AfP (by omega),hc];simp
theorem VI {c:List AV} {m:Nat} (hc:c.length=m*4) (a b k q:AV) (j:List AV):(c++(a::b::k::q::j)).getD (m*4+3) .undef=q:=by
 rw[Afv,AfP (by omega),hc];simp
theorem VF {c:List AV} {m:Nat} (hc:c.length=m*4) (a b k q:AV) (j:List AV):((c++(a::b::k::q::j)).drop (m*4)).take 4=[a,b,k,q]:=by
 rw[List.drop_append,hc,List.drop_of_length_le (by omega)];simp
theorem VH {c:List AV} {m:Nat} (hc:c.length=m*4) (a b k q x:AV) (j:List AV):(c++(a::b::k::q::j)).set (m*4+2) x=c++(a::b::x::q::j):=by
 rw[Agg _ _ (by omega),hc];simp
theorem VG {c:List AV} {m:Nat} (hc:c.length=m*4) (a b k q x:AV) (j:List AV):(c++(a::b::k::q::j)).set (m*4+3) x=c++(a::b::k::x::j):=by
 rw[Agg _ _ (by omega),hc];simp
theorem Iq {c:List AV} {m:Nat} (hc:c.length=m*4) (a b k q:AV) (j:List AV):(c++(a::b::k::q::j)).length=m*4+4+j.length:=by
 simp[hc];omega
theorem Ia {H0:List Aa}:∀ (ids:List Nat) (H:List Aa),(∀ b∈ids,b<H.length)→NoX H→wOK H.length (frz H0 ids)=true∧(applyW H (frz H0 ids)).length=H.length∧(∀ i,i∉ids→(applyW H (frz H0 ids))[i]?=H[i]?)∧NoX (applyW H (frz H0 ids))
 | [],H,_,hx=>⟨rfl,rfl,fun _ _=>rfl,hx⟩
 | b::r,H,hb,hx=>by
   have hb0:=hb b (by simp)
   rw[frz]
   split
   ·rename_i cells hc
    rw[applyW,if_pos hb0,wOK,if_pos hb0]
    obtain ⟨h1,h2,h3,h4⟩:=Ia r (H.set b (.row true cells)) (fun x hx=>by rw[AfQ];exact hb x (AdU _ hx)) (hx.set _ (by simp))
    rw[AfQ] at h1 h2
    refine ⟨h1,h2,fun i hi=>?_,h4⟩
    rw[h3 i fun q=>hi (AdU _ q),An fun e=>hi (by rw[e];simp)]
   ·obtain ⟨h1,h2,h3,h4⟩:=Ia (H0:=H0) r H (fun x hx=>hb x (AdU _ hx)) hx
    exact ⟨h1,h2,fun i hi=>h3 i fun q=>hi (AdU _ q),h4⟩
theorem Pb.shutR {n sz:Nat} {ds:List D} {a:AV} {ids:List Nat} {H:List Aa} (h:Pb n sz ds a ids H) (hl:ds.length=n*sz):∃ f,sealA H a=some (.sl n f ds)∧AJ a=ids∧AV.one a=true:=by
 rcases h with ⟨h1,h2,h3⟩ | ⟨h0,b,h1,h2,h3⟩
 ·subst h1;subst h2;subst h3
  rw[Nat.zero_mul] at hl
  rw[AfU.1 hl]
  exact ⟨true,rfl,rfl,rfl⟩
 ·subst h1;subst h2
  refine ⟨false,?_,rfl,rfl⟩
  rw[sealA,h3]
  simp only
  rw[IX hl]
def XC (p:Nat) (H:List Aa) (v res:AV) (H':List Aa):Prop :=
 (Hi p H v res H'∨∃ d,sealA H v=some d∧wOK H.length (frz H (AJ v))=true∧res=.d (unf d)∧H'=applyW H (frz H (AJ v)))∨(H'=H∧(res=v∨∃ d,sealA H v=some d∧AJ v=[]∧res=.d (unf d)))
theorem Ae {P:Program} {rs:Array ResultVar} {p:Nat} {res:AV} {H':List Aa} {s:List AV} {H:List Aa} :
  Fe P rs p res H' .ret s H=match resVs P s H rs.toList with | some vs=>XC p H (AF vs) res H' | none=>False:=by
 show RN P rs p s H res H'=_
 unfold RN Tb XC Hi
 cases resVs P s H rs.toList with
 | none=>simp
 | some vs=>rfl
theorem Ac {P:Program} {rs:Array ResultVar} {p:Nat} {res:AV} {H':List Aa} {s:List AV} {H:List Aa} :
  Fe P rs p res H' .normal s H=match resVs P s H rs.toList with | some vs=>XC p H (AF vs) res H' | none=>False:=Ae
theorem GZ {rest:List UInt8} {t:Nd} {st:List Nd} {ob:Nat} {ids:List Nat} {H:List Aa} (h:Cf rest (t::st) ob ids H) (hst:st.length≤1000000000) :
  ∃ ids' H',Ctr TP G 82 [.ptr 0 0] H (.d (NdD t)) H'∧Cf rest st ob ids' H'∧Cj (ob::ids) H (ob::ids') H':=by
 obtain ⟨c,junk,i,ka,ik,qa,iq,hb,hc,hs,hk,hq,hids⟩:=h.top
 have q0:=h.box
 rw[AcB] at q0
 have l0:0<H.length:=(Ae3.1 q0).1
 have lb:ob<H.length:=h.stack.lt ob (by simp)
 have n0b:¬0=ob:=h.ne (by simp)
 have g4:=VF hc (.d (.int .i64 t.kind)) (.d (S t.text)) ka qa junk
 have gl:=Iq hc (.d (.int .i64 t.kind)) (.d (S t.text)) ka qa junk
 obtain ⟨cs,hcs⟩:∃ cs,cs=c++(.d (.int .i64 t.kind)::.d (S t.text)::ka::qa::junk):=⟨_,rfl⟩
 rw[←hcs] at hb g4 gl
 have hk1:=hk.shutR (by rw[strs_length,Agu])
 have hq1:=hq.shutR (by rw[BK,Agt])
 obtain ⟨fk,hk1,hk2,hk3⟩:=hk1
 obtain ⟨fq,hq1,hq2,hq3⟩:=hq1
 obtain ⟨cf,hcf⟩:=CZ [0,ob,H.length,H.length+1] (by simp only[Ae1,Afw,Agc,or_false,not_or,AfY,and_true,not_false_eq_true];omega)
 have c0:=hcf 0 _ rfl
 have c1:=hcf 1 _ rfl
 have c2:=hcf 2 _ rfl
 have c3:=hcf 3 _ rfl
 obtain ⟨H1,hH1⟩:∃ H1,H1=H.set 0 (.box [.d (S rest),.lsl ob 4 0 st.length])++[.box [.d (.int .i64 t.kind),.d (S t.text),ka,qa],.box [.d (.int .i64 t.kind),.d (S t.text),ka,qa]]:=⟨_,rfl⟩
 have hlH:H1.length=H.length+2:=by rw[hH1];simp
 have hno:∀ j,j∉ik++iq→j∉AJ (.agg [.d (.int .i64 t.kind),.d (S t.text),ka,qa]):=fun j hj q=>by
  have e:AJ (.agg [.d (.int .i64 t.kind),.d (S t.text),ka,qa])=AJ ka++(AJ qa++[]):=rfl
  rw[e,Agf,hk2,hq2] at q
  exact hj q
 have hap:=Ia (H0:=H1) (AJ (.agg [.d (.int .i64 t.kind),.d (S t.text),ka,qa])) H1 (fun b hb=>by
  have e:AJ (.agg [.d (.int .i64 t.kind),.d (S t.text),ka,qa])=AJ ka++(AJ qa++[]):=rfl
  rw[e,Agf,hk2,hq2] at hb
  have:=h.stack.lt b (by rw[hids];exact AdU _ (AdT _ hb))
  omega) (by rw[hH1];exact (h.nox.set _ (by simp)).app (by simp[NoX]))
 have hkf:∀ b∈ik++iq,H1[b]?=H[b]?:=fun b hb=>by
  have hb':b∈ob::ids:=by rw[hids];exact AdU _ (AdT _ hb)
  rw[hH1,Az (by have:=h.stack.lt b hb';simpa using this),An (h.ne hb')]
 obtain ⟨fk,hsk,hk2',hk3'⟩:=(hk.frame fun b hb=>hkf b (AdW _ hb)).shutR (by rw[strs_length,Agu])
 obtain ⟨fq,hsq,hq2',hq3'⟩:=(hq.frame fun b hb=>hkf b (AdT _ hb)).shutR (by rw[BK,Agt])
 refine ⟨i,applyW H1 (frz H1 (AJ (.agg [.d (.int .i64 t.kind),.d (S t.text),ka,qa]))),Ctr.bodyI (M:=M0) Am Tryz.func82 rfl go82 ?h1 ?h2,?h3⟩
 case h2 =>
  simp(maxSteps:=1000000)(disch:=(try simp only[awL]);omega)only[awS,Ae,Ac,Tryz.f82,q0,hb,g4,gl,hk3,hq3,awH,↓awU,awY,↓reduceIte,↓reduceDIte,↓Qe,Qu,Qv,Qw,Qx,Qy,Qz,QA,QB,QC,QD,QE,QF,QG,QH,QI,QK]
  first
  | refine ⟨by show (AV.one ka && AV.one qa)=true;rw[hk3,hq3];rfl,AE cf (by simp (disch:=omega) only[Bd,AN,AM,A8,A7,and_self]) (by simp only[AfO,AfW,c0,c1,c2,c3];rfl),by rfl,by show (AV.one ka && AV.one qa)=true;rw[hk3,hq3];rfl,?_⟩
  | refine ⟨AE cf (by simp (disch:=omega) only[Bd,AN,AM,A8,A7,and_self]) (by simp only[AfO,AfW,c0,c1,c2,c3];rfl),by rfl,?_⟩
  | refine ⟨AE cf (by simp (disch:=omega) only[Bd,AN,AM,A8,A7,and_self]) (by simp only[AfO,AfW,c0,c1,c2,c3];rfl),?_⟩
  rw[←hH1]
  have hids1:AJ (.agg [.d (.int .i64 t.kind),.d (S t.text),ka,qa])=AJ ka++(AJ qa++[]):=rfl
  refine .inl (.inr ⟨.agg [.int .i64 t.kind,S t.text,.sl t.keys.length fk (strs t.keys),.sl t.kids.length fq (AY t.kids)],?_,hap.1,?_,?_⟩)
  ·simp only[sealA,sealL,hsk,hsq]
  ·rw[show NdD t=.agg (ndC t) from rfl,AaP];rfl
  ·first | done | rfl | (rw[hids1,Agf];done)
 case h1=>exact hap.2.2.2.ok
 case h3 =>
  have hnd:=h.stack.nd
  rw[hids] at hnd
  refine ⟨⟨?_,?_,fun b hb=>h.pos b ?_,hap.2.2.2⟩,⟨?_,fun j j0 jl jn=>?_,fun j hj=>?_⟩⟩
  ·rw[hap.2.2.1 0 (hno 0 fun q=>?_),hH1,Az (by simpa using l0),Bt l0]
   have:=h.pos 0 (by rw[hids];exact AdU _ (AdT _ q))
   omega
  ·refine ⟨⟨c,.inl ⟨.d (.int .i64 t.kind)::.d (S t.text)::ka::qa::junk,?_⟩,hs.frame fun b hb=>?_⟩,?_⟩
   ·rw[hap.2.2.1 ob (hno ob fun q=>?_),hH1,Az (by simpa using lb),An n0b]
    ·rw[←hcs];exact hb
    ·exact (Ae1.1 hnd).1 (AdT _ q)
   ·rw[hap.2.2.1 b (hno b fun q=>?_),hH1,Az (by have:=hs.lt b hb;simpa using this),An (h.ne (by rw[hids];exact AdU _ (AdW _ hb)))]
    exact (Ae2.1 (Ae1.1 hnd).2).2.2 b hb b q rfl
   ·exact Ae1.2 ⟨fun q=>(Ae1.1 hnd).1 (AdW _ q),(Ae2.1 (Ae1.1 hnd).2).1⟩
  ·rw[hids]
   rcases Afw.1 hb with rfl | hb
   ·simp
   ·exact AdU _ (AdW _ hb)
  ·rw[hap.2.1,hH1];simp
  ·rw[hids] at jn
   rw[hap.2.2.1 j (hno j fun q=>jn (AdU _ (AdT _ q))),hH1,Az (by simpa using jl),An (by omega)]
  ·refine .inl ?_
   rw[hids]
   rcases Afw.1 hj with rfl | hj
   ·simp
   ·exact AdU _ (AdW _ hj)
theorem Cf.mk_top {r1:List UInt8} {t:Nd} {st:List Nd} {ob:Nat} {H K:List Aa} {c junk:List AV} {i ik iq:List Nat} {ka qa:AV}
  (k0:K[0]?=some (.box [.d (S r1),.lsl ob 4 0 (st.length+1)])) (kb:K[ob]?=some (.box (c++(.d (.int .i64 t.kind)::.d (S t.text)::ka::qa::junk)))) (hs:Ks [] H st c i) (hf:∀ b∈i,K[b]?=H[b]?)
  (hk:Aa6 t ka ik K) (hq:Aa4 t qa iq K) (hn:(ob::(i++(ik++iq))).Nodup) (hp:∀ b∈ob::(i++(ik++iq)),0<b) (hx:NoX K):Cf r1 (t::st) ob (i++(ik++iq)) K :=
 ⟨k0,⟨⟨c++Su [] t ka qa,.inl ⟨junk,by rw[kb];simp[Su]⟩,c,i,ka,ik,qa,iq,hs.frame hf,hk,hq,rfl,rfl⟩,hn⟩,hp,hx⟩
def MK7:BZ:=fun k=>Agr k 4000115 || Agr k 4000080
theorem Kc:MK7 4000115=true:=rfl
theorem Ka:MK7 4000080=true:=rfl
theorem GP {k:Nat} (h:¬(k=4000115∨k=4000080)):MK7 k=false:=by
 cases e:MK7 k with
 | false=>rfl
 | true =>
  unfold MK7 at e
  simp only[Agq] at e
  rcases e with e | e
  ·exact absurd (.inl (AfX e)) h
  ·exact absurd (.inr (AfX e)) h
theorem WJ (rest:List UInt8) {t:Nd} (st:List Nd) (h:t.kind=5):EG rest t st=.beg rest (t::st):=by unfold EG;rw[if_pos h]
theorem Q3 {rest:List UInt8} {t:Nd} (st:List Nd) (h:¬t.kind=5) (h1:(quo rest).2.2=true) (h2:(sgn 58 (quo rest).1).2=true):EG rest t st=.beg (sgn 58 (quo rest).1).1 (ED t (quo rest).2.1::st):=by unfold EG;rw[if_neg h,if_pos ⟨h1,h2⟩]
theorem KJ {rest:List UInt8} {t:Nd} (st:List Nd) (h:¬t.kind=5) (h1:¬((quo rest).2.2=true∧(sgn 58 (quo rest).1).2=true)):EG rest t st=.bad:=by unfold EG;rw[if_neg h,if_neg h1]
def Aa5 (x:PSt) (ob:Nat) (b:Bool) (ids:List Nat) (H:List Aa):Prop:=match x with
 | .beg r st=>b=true∧Cf r st ob ids H
 | _=>b=false
theorem G5 {rest:List UInt8} {t:Nd} {st:List Nd} {ob:Nat} {ids:List Nat} {H:List Aa} (h:Cf rest (t::st) ob ids H) (hst:st.length≤1000000000) (hr:rest.length≤1000000000) (hkl:t.keys.length≤1000000000) :
  ∃ b ids' H',Ctr TP G 81 [.ptr 0 0] H (.d (.bool b)) H'∧NoX H'∧Cj (ob::ids) H (ob::ids') H'∧Aa5 (EG rest t st) ob b ids' H':=by
 have hsig:=fun (r:List UInt8) (hr:r.length≤1000000000) v=>Fx (G:=G) 58 r (by omega) v
 obtain ⟨c,junk,i,ka,ik,qa,iq,hb,hc,hs,hk,hq,hids⟩:=h.top
 have q0:=h.box
 rw[AcB] at q0
 have l0:0<H.length:=(Ae3.1 q0).1
 have lb:ob<H.length:=h.stack.lt ob (by simp)
 have n0b:¬0=ob:=h.ne (by simp)
 have nb0:¬ob=0:=fun e=>n0b e.symm
 have hnd:=h.stack.nd
 have hpos:=h.pos
 have hlt:=h.stack.lt
 rw[hids] at hnd hpos hlt
 have g0:=Ir hc (.d (.int .i64 t.kind)) (.d (S t.text)) ka qa junk
 have g2:=VJ hc (.d (.int .i64 t.kind)) (.d (S t.text)) ka qa junk
 have gl:=Iq hc (.d (.int .i64 t.kind)) (.d (S t.text)) ka qa junk
 have gs:=fun x=>VH hc (.d (.int .i64 t.kind)) (.d (S t.text)) ka qa x junk
 have hqu:=h.lift (G:=G) (r':=(quo rest).1) (fun v=>IE (G:=G) rest hr v) (by simp)
 rw[AcB] at hqu
 obtain ⟨cs,hcs⟩:∃ cs,cs=c++(.d (.int .i64 t.kind)::.d (S t.text)::ka::qa::junk):=⟨_,rfl⟩
 rw[←hcs] at hb g0 g2 gl gs
 by_cases k5:t.kind=5
 ·refine ⟨true,ids,H,Ctr.bodyI (M:=MK7) Am Tryz.func81 rfl WQ h.nox.ok ?_,h.nox,Cj.refl _ _,?_⟩
  ·simp(maxSteps:=1000000)(disch:=(try simp only[awL]);omega)only[awS,Ae,Ac,GP,Tryz.f81,q0,hb,g0,gl,k5,awH,↓awU,awY,↓reduceIte,↓reduceDIte,↓Qe,Qu,Qv,Qw,Qx,Qy,Qz,QA,QB,QC,QD,QE,QF,QG,QH,QI,QK]
   exact ⟨by rfl,.inr ⟨rfl,.inl rfl⟩⟩
  ·rw[WJ rest st k5]
   exact ⟨rfl,h⟩
 ·have hql:=TF rest
  generalize hqe:quo rest=qr at *
  obtain ⟨q1,q2,q3⟩:=qr
  simp only at hql hqu
  rcases hk with ⟨kn,ka0,ik0⟩ | ⟨kn,kb,ka0,ik0,hkb⟩
  ·subst ka0
   obtain ⟨H2,hH2⟩:∃ H2,H2=(H.set 0 (.box [.d (S q1),.lsl ob 4 0 (st.length+1)])).set ob (.box (c++(.d (.int .i64 t.kind)::.d (S t.text)::.lsl (H.length+1) 1 0 1::qa::junk)))++[.row false [S q2],.row false [S q2]]:=⟨_,rfl⟩
   have hl2:H2.length=H.length+2:=by rw[hH2];simp
   have x2:NoX H2:=by rw[hH2];exact ((h.nox.set _ (by simp)).set _ (by simp)).app (by simp[NoX])
   have f2:∀ b,b<H.length→¬b=0→¬b=ob→H2[b]?=H[b]?:=fun b hb1 hb2 hb3=>by
    rw[hH2,Az (by simpa using hb1),An (fun e=>hb3 e.symm),An (fun e=>hb2 e.symm)]
   have e20:H2[0]?=some (.box [.d (S q1),.lsl ob 4 0 (st.length+1)]):=by rw[hH2,Az (by simpa using l0),An nb0,Bt l0]
   have e2b:H2[ob]?=some (.box (c++(.d (.int .i64 t.kind)::.d (S t.text)::.lsl (H.length+1) 1 0 (t.keys.length+1)::qa::junk))):=by rw[hH2,Az (by simpa using lb),Bt (by simpa using lb),kn]
   have e2n:H2[H.length+1]?=some (.row false (strs (t.keys++[q2]))):=by
    rw[hH2,AQ (by simp)]
    simp[strs,AfU.1 kn]
   have hne:∀ b,b∈ob::(i++(ik++iq))→¬b=H.length+1:=fun b hb=>by have:=hlt b hb;omega
   have hnd2:(ob::(i++([H.length+1]++iq))).Nodup:=by
    have q1:=Ae1.1 hnd
    have q2:=Ae2.1 q1.2
    have q3:=Ae2.1 q2.2.1
    refine Ae1.2 ⟨fun q=>?_,Ae2.2 ⟨q2.1,Ae2.2 ⟨by simp,q3.2.1,fun x hx y hy e=>?_⟩,fun x hx y hy e=>?_⟩⟩
    ·rcases AdX.1 q with q | q
     ·exact q1.1 (AdW _ q)
     ·rcases AdX.1 q with q | q
      ·exact hne ob (by simp) (AdV.1 q)
      ·exact q1.1 (AdT _ (AdT _ q))
    ·rw[AdV.1 hx] at e
     exact hne y (AdU _ (AdT _ (AdT _ hy))) e.symm
    ·subst e
     rcases AdX.1 hy with hy | hy
     ·exact hne x (AdU _ (AdW _ hx)) (AdV.1 hy)
     ·exact q2.2.2 x hx x (AdT _ hy) rfl
   have hold:∀ b,b∈i++iq→b<H.length∧¬b=0∧¬b=ob:=fun b hb=>by
    have hm:b∈i++(ik++iq):=by rcases AdX.1 hb with hb | hb;exact AdW _ hb;exact AdT _ (AdT _ hb)
    refine ⟨hlt b (AdU _ hm),fun e=>by have:=hpos b (AdU _ hm);omega,fun e=>(Ae1.1 hnd).1 (e▸hm)⟩
   have P2:Cf q1 (ED t q2::st) ob (i++([H.length+1]++iq)) H2:=by
    refine Cf.mk_top (t:=ED t q2) e20 e2b hs (fun b hb=>f2 b (hold b (AdW _ hb)).1 (hold b (AdW _ hb)).2.1 (hold b (AdW _ hb)).2.2) (.inr ⟨by simp[ED,Nd.keys],_,by simp[ED,Nd.keys],rfl,e2n⟩) (hq.frame fun b hb=>f2 b (hold b (AdT _ hb)).1 (hold b (AdT _ hb)).2.1 (hold b (AdT _ hb)).2.2) hnd2 (fun b hb=>?_) x2
    rcases Afw.1 hb with hb | hb
    ·rw[hb];exact hpos ob (by simp)
    ·rcases AdX.1 hb with hb | hb
     ·exact hpos b (AdU _ (AdW _ hb))
     ·rcases AdX.1 hb with hb | hb
      ·rw[AdV.1 hb];omega
      ·exact hpos b (AdU _ (AdT _ (AdT _ hb)))
   have K2:Cj (ob::ids) H (ob::(i++([H.length+1]++iq))) H2:=by
    rw[hids]
    refine ⟨by omega,fun j j0 jl jn=>f2 j jl (by omega) (fun e=>jn (by rw[e];simp)),fun j hj=>?_⟩
    rcases Afw.1 hj with hj | hj
    ·rw[hj];simp
    ·rcases AdX.1 hj with hj | hj
     ·exact .inl (AdU _ (AdW _ hj))
     ·rcases AdX.1 hj with hj | hj
      ·rw[AdV.1 hj];exact .inr (by omega)
      ·exact .inl (AdU _ (AdT _ (AdT _ hj)))
   have sl:=@strs_length t.keys
   cases q3 with
   | false =>
    refine ⟨false,_,H2,Ctr.bodyI (M:=MK7) Am Tryz.func81 rfl WQ x2.ok ?_,x2,K2,by rw[KJ st k5 (by rw[hqe];simp)];rfl⟩
    simp(maxSteps:=1000000)(disch:=(try simp only[awL]);omega)only[awS,Ae,Ac,GP,Kc,Ka,Tryz.f81,q0,hb,g0,g2,gl,gs,k5,sl,awH,↓awU,awY,↓reduceIte,↓reduceDIte,↓Qe,Qu,Qv,Qw,Qx,Qy,Qz,QA,QB,QC,QD,QE,QF,QG,QH,QI,QK]
    refine ⟨by rfl,?_⟩
    refine Ap.go hqu ⟨.inl rfl,trivial⟩ (by simp) ?_
    simp(maxSteps:=1000000)(disch:=(try simp only[awL]);omega)only[awS,Ae,Ac,GP,Kc,Ka,Tryz.f81,q0,hb,g0,g2,gl,gs,k5,sl,awH,↓awU,awY,↓reduceIte,↓reduceDIte,↓Qe,Qu,Qv,Qw,Qx,Qy,Qz,QA,QB,QC,QD,QE,QF,QG,QH,QI,QK]
    first
    | exact .inr ⟨hH2,.inl rfl⟩
   | true =>
    have hsg:=P2.lift (G:=G) (r':=(sgn 58 q1).1) (fun v=>hsig q1 (by omega) v) (by simp)
    obtain ⟨P3,K3⟩:=P2.rest (r':=(sgn 58 q1).1)
    refine ⟨(sgn 58 q1).2,_,_,Ctr.bodyI (M:=MK7) Am Tryz.func81 rfl WQ P3.nox.ok ?_,P3.nox,K2.trans K3,?_⟩
    ·simp(maxSteps:=1000000)(disch:=(try simp only[awL]);omega)only[awS,Ae,Ac,GP,Kc,Ka,Tryz.f81,q0,hb,g0,g2,gl,gs,k5,sl,awH,↓awU,awY,↓reduceIte,↓reduceDIte,↓Qe,Qu,Qv,Qw,Qx,Qy,Qz,QA,QB,QC,QD,QE,QF,QG,QH,QI,QK]
     refine ⟨by rfl,?_⟩
     refine Ap.go hqu ⟨.inl rfl,trivial⟩ (by simp) ?_
     simp(maxSteps:=1000000)(disch:=(try simp only[awL]);omega)only[awS,Ae,Ac,GP,Kc,Ka,Tryz.f81,q0,hb,g0,g2,gl,gs,k5,sl,awH,↓awU,awY,↓reduceIte,↓reduceDIte,↓Qe,Qu,Qv,Qw,Qx,Qy,Qz,QA,QB,QC,QD,QE,QF,QG,QH,QI,QK]
     rw[←hH2]
     refine Ap.go hsg ⟨.inl rfl,.inl rfl,trivial⟩ (by simp) ?_
     simp(maxSteps:=1000000)(disch:=(try simp only[awL]);omega)only[awS,Ae,Ac,GP,awH,↓awU,awY,↓reduceIte,↓reduceDIte,↓Qe,Qu,Qv,Qw,Qx,Qy,Qz,QA,QB,QC,QD,QE,QF,QG,QH,QI,QK]
     first
     | exact .inr ⟨rfl,.inl rfl⟩
    ·cases hs2:(sgn 58 q1).2 with
     | false=>rw[KJ st k5 (by rw[hqe];simp[hs2])];rfl
     | true =>
      rw[Q3 st k5 (by rw[hqe]) (by rw[hqe];exact hs2),hqe]
      exact ⟨rfl,P3⟩
  ·subst ka0
   have hkm:kb∈i++(ik++iq):=AdT _ (AdW _ (by rw[ik0];simp))
   have nkb0:¬kb=0:=fun e=>by have:=hpos kb (AdU _ hkm);omega
   have n0kb:¬0=kb:=fun e=>nkb0 e.symm
   have lkb:kb<H.length:=hlt kb (AdU _ hkm)
   have nkbo:¬kb=ob:=fun e=>(Ae1.1 hnd).1 (e▸hkm)
   have nokb:¬ob=kb:=fun e=>nkbo e.symm
   obtain ⟨H2,hH2⟩:∃ H2,H2=((H.set 0 (.box [.d (S q1),.lsl ob 4 0 (st.length+1)])).set kb .dead).set ob (.box (c++(.d (.int .i64 t.kind)::.d (S t.text)::.lsl (H.length+1) 1 0 (t.keys.length+1)::qa::junk)))++[.row false [S q2],.row false (strs t.keys++[S q2])]:=⟨_,rfl⟩
   have hl2:H2.length=H.length+2:=by rw[hH2];simp
   have x2:NoX H2:=by rw[hH2];exact (((h.nox.set _ (by simp)).set _ (by simp)).set _ (by simp)).app (by simp[NoX])
   have f2:∀ b,b<H.length→¬b=0→¬b=ob→¬b=kb→H2[b]?=H[b]?:=fun b hb1 hb2 hb3 hb4=>by
    rw[hH2,Az (by simpa using hb1),An (fun e=>hb3 e.symm),An (fun e=>hb4 e.symm),An (fun e=>hb2 e.symm)]
   have e20:H2[0]?=some (.box [.d (S q1),.lsl ob 4 0 (st.length+1)]):=by rw[hH2,Az (by simpa using l0),An nb0,An nkb0,Bt l0]
   have e2b:H2[ob]?=some (.box (c++(.d (.int .i64 t.kind)::.d (S t.text)::.lsl (H.length+1) 1 0 (t.keys.length+1)::qa::junk))):=by rw[hH2,Az (by simpa using lb),Bt (by simpa using lb)]
   have e2n:H2[H.length+1]?=some (.row false (strs (t.keys++[q2]))):=by
    rw[hH2,AQ (by simp)]
    simp[strs]
   have hne:∀ b,b∈ob::(i++(ik++iq))→¬b=H.length+1:=fun b hb=>by have:=hlt b hb;omega
   have hnd2:(ob::(i++([H.length+1]++iq))).Nodup:=by
    have q1:=Ae1.1 hnd
    have q2:=Ae2.1 q1.2
    have q3:=Ae2.1 q2.2.1
    refine Ae1.2 ⟨fun q=>?_,Ae2.2 ⟨q2.1,Ae2.2 ⟨by simp,q3.2.1,fun x hx y hy e=>?_⟩,fun x hx y hy e=>?_⟩⟩
    ·rcases AdX.1 q with q | q
     ·exact q1.1 (AdW _ q)
     ·rcases AdX.1 q with q | q
      ·exact hne ob (by simp) (AdV.1 q)
      ·exact q1.1 (AdT _ (AdT _ q))
    ·rw[AdV.1 hx] at e
     exact hne y (AdU _ (AdT _ (AdT _ hy))) e.symm
    ·subst e
     rcases AdX.1 hy with hy | hy
     ·exact hne x (AdU _ (AdW _ hx)) (AdV.1 hy)
     ·exact q2.2.2 x hx x (AdT _ hy) rfl
   have hold:∀ b,b∈i++iq→b<H.length∧¬b=0∧¬b=ob∧¬b=kb:=fun b hb=>by
    have hm:b∈i++(ik++iq):=by rcases AdX.1 hb with hb | hb;exact AdW _ hb;exact AdT _ (AdT _ hb)
    refine ⟨hlt b (AdU _ hm),fun e=>by have:=hpos b (AdU _ hm);omega,fun e=>(Ae1.1 hnd).1 (e▸hm),fun e=>?_⟩
    subst e
    have q2:=Ae2.1 (Ae1.1 hnd).2
    have q3:=Ae2.1 q2.2.1
    rcases AdX.1 hb with hb | hb
    ·exact q2.2.2 b hb b (AdW _ (by rw[ik0];simp)) rfl
    ·exact q3.2.2 b (by rw[ik0];simp) b hb rfl
   have P2:Cf q1 (ED t q2::st) ob (i++([H.length+1]++iq)) H2:=by
    refine Cf.mk_top (t:=ED t q2) e20 e2b hs (fun b hb=>f2 b (hold b (AdW _ hb)).1 (hold b (AdW _ hb)).2.1 (hold b (AdW _ hb)).2.2.1 (hold b (AdW _ hb)).2.2.2) (.inr ⟨by simp[ED,Nd.keys],_,by simp[ED,Nd.keys],rfl,e2n⟩) (hq.frame fun b hb=>f2 b (hold b (AdT _ hb)).1 (hold b (AdT _ hb)).2.1 (hold b (AdT _ hb)).2.2.1 (hold b (AdT _ hb)).2.2.2) hnd2 (fun b hb=>?_) x2
    rcases Afw.1 hb with hb | hb
    ·rw[hb];exact hpos ob (by simp)
    ·rcases AdX.1 hb with hb | hb
     ·exact hpos b (AdU _ (AdW _ hb))
     ·rcases AdX.1 hb with hb | hb
      ·rw[AdV.1 hb];omega
      ·exact hpos b (AdU _ (AdT _ (AdT _ hb)))
   have K2:Cj (ob::ids) H (ob::(i++([H.length+1]++iq))) H2:=by
    rw[hids]
    refine ⟨by omega,fun j j0 jl jn=>f2 j jl (by omega) (fun e=>jn (by rw[e];simp)) (fun e=>jn (by rw[e,ik0];simp)),fun j hj=>?_⟩
    rcases Afw.1 hj with hj | hj
    ·rw[hj];simp
    ·rcases AdX.1 hj with hj | hj
     ·exact .inl (AdU _ (AdW _ hj))
     ·rcases AdX.1 hj with hj | hj
      ·rw[AdV.1 hj];exact .inr (by omega)
      ·exact .inl (AdU _ (AdT _ (AdT _ hj)))
   have sl:=@strs_length t.keys
   cases q3 with
   | false =>
    refine ⟨false,_,H2,Ctr.bodyI (M:=MK7) Am Tryz.func81 rfl WQ x2.ok ?_,x2,K2,by rw[KJ st k5 (by rw[hqe];simp)];rfl⟩
    simp(maxSteps:=1000000)(disch:=(try simp only[awL]);omega)only[awS,Ae,Ac,GP,Kc,Ka,Tryz.f81,q0,hb,g0,g2,gl,gs,k5,sl,awH,↓awU,awY,↓reduceIte,↓reduceDIte,↓Qe,Qu,Qv,Qw,Qx,Qy,Qz,QA,QB,QC,QD,QE,QF,QG,QH,QI,QK]
    refine ⟨by rfl,?_⟩
    refine Ap.go hqu ⟨.inl rfl,trivial⟩ (by simp) ?_
    simp(maxSteps:=1000000)(disch:=(try simp only[awL]);omega)only[awS,Ae,Ac,GP,Kc,Ka,Tryz.f81,q0,hb,g0,g2,gl,gs,k5,sl,hkb,awH,↓awU,awY,↓reduceIte,↓reduceDIte,↓Qe,Qu,Qv,Qw,Qx,Qy,Qz,QA,QB,QC,QD,QE,QF,QG,QH,QI,QK]
    first
    | exact .inr ⟨hH2,.inl rfl⟩
   | true =>
    have hsg:=P2.lift (G:=G) (r':=(sgn 58 q1).1) (fun v=>hsig q1 (by omega) v) (by simp)
    obtain ⟨P3,K3⟩:=P2.rest (r':=(sgn 58 q1).1)
    refine ⟨(sgn 58 q1).2,_,_,Ctr.bodyI (M:=MK7) Am Tryz.func81 rfl WQ P3.nox.ok ?_,P3.nox,K2.trans K3,?_⟩
    ·simp(maxSteps:=1000000)(disch:=(try simp only[awL]);omega)only[awS,Ae,Ac,GP,Kc,Ka,Tryz.f81,q0,hb,g0,g2,gl,gs,k5,sl,awH,↓awU,awY,↓reduceIte,↓reduceDIte,↓Qe,Qu,Qv,Qw,Qx,Qy,Qz,QA,QB,QC,QD,QE,QF,QG,QH,QI,QK]
     refine ⟨by rfl,?_⟩
     refine Ap.go hqu ⟨.inl rfl,trivial⟩ (by simp) ?_
     simp(maxSteps:=1000000)(disch:=(try simp only[awL]);omega)only[awS,Ae,Ac,GP,Kc,Ka,Tryz.f81,q0,hb,g0,g2,gl,gs,k5,sl,hkb,awH,↓awU,awY,↓reduceIte,↓reduceDIte,↓Qe,Qu,Qv,Qw,Qx,Qy,Qz,QA,QB,QC,QD,QE,QF,QG,QH,QI,QK]
     rw[←hH2]
     refine Ap.go hsg ⟨.inl rfl,.inl rfl,trivial⟩ (by simp) ?_
     simp(maxSteps:=1000000)(disch:=(try simp only[awL]);omega)only[awS,Ae,Ac,GP,awH,↓awU,awY,↓reduceIte,↓reduceDIte,↓Qe,Qu,Qv,Qw,Qx,Qy,Qz,QA,QB,QC,QD,QE,QF,QG,QH,QI,QK]
     first
     | exact .inr ⟨rfl,.inl rfl⟩
    ·cases hs2:(sgn 58 q1).2 with
     | false=>rw[KJ st k5 (by rw[hqe];simp[hs2])];rfl
     | true =>
      rw[Q3 st k5 (by rw[hqe]) (by rw[hqe];exact hs2),hqe]
      exact ⟨rfl,P3⟩
end Go.Proofs.YtmidaophnbdcdaaGreatDoor
