/-
  Contracts of the functions, one after another.
-/
import Derived.Test.YtkgbbdoeodmkgaaGreatDoorZbBv1
set_option linter.all false
open Go.Abs renaming ofVal→Qa,ofVal0→Qb,isShift→Qc,aggK→Qd,purePost→Qe,combine→Qf,idsA→Qg,cellsA→Qh,numsOf→Qi,srcA→Qj,calleeA→Qk,refsA→Ql,isScalar→Qm,scalarD→Qn,scalar0→Qo,putL→Qr,unfA→Qs,sidsB→QJ,keyKD→QL,isIntK→QM,aggD→QN,aggL→QO,eqKs→QP,boxRow→QQ,nextC_more→QT,nextC_over→QU,bs_size→QV,bs_extract→QW,bs_toList→QX,bs_append→QY,byteAt_bs→QZ,bs_cells→Q0,nums_length→Q1,nums_getD→Q2
open Go.Abs.AV renaming one→Qp
open Go.Abs.D renaming one→Qq
open Go.IntKind renaming signed→Qt
open Nat renaming reduceAdd→Qu,reduceSub→Qv,reduceMul→Qw,reducePow→Qx,reduceDiv→Qy,reduceMod→Qz,reduceEqDiff→QI,reduceBEq→QK
open Int renaming reduceAdd→QA,reduceSub→QB,reduceMul→QC,reducePow→QD,reduceNeg→QE,reduceToNat→QF,reduceLT→QG,reduceLE→QH
open Option renaming toList_some→QR,toList_none→QS
namespace Go.Proofs.YtkgbbdoeodmkgaaGreatDoor
open Go Go.Proofs Go.Abs
variable {G:Globals}
set_option maxHeartbeats 32000000 in
set_option maxRecDepth 100000 in
theorem nsteps_law (hG:Num.HG G) (hT:HT G) (hK:HK G) (t:List Int) (ht:OkS t) (hl:t.length≤9223372036854775807)
  (raw:List Cel) (hraw:raw.length≤9223372036854775807∧∀ x∈raw,x.1.length≤1048576) (mk:Row) (hmk:mk.length≤9223372036854775807∧∀ s∈mk,s.length≤1048576)
  (tx:List UInt8) (htx:tx.length≤1048576) (lo:List OZ) (hlo:lo.length≤9223372036854775807∧∀ o∈lo,o.1.length≤1048576) :
  Ctr Tryz.prog G 4 [.d (.sl t.length false (ints .u8 t)),.d (CelS raw false),.d (Ss mk false),.d (S tx),.d (.sl lo.length false (ozC lo))] [] (.d (.bool true)) []:=by
 refine Ctr.pure (M:=M0) hmix Tryz.func4 rfl go4 ?_
 have hmm:=ht.take
 have rl:=celsD_length raw
 have ml:=@strs_length mk
 have ll:=ozC_length lo
 simp (config:={maxSteps:=1000000}) (disch:=((try simp only [awL]);omega)) only [QR,QS,QT,QU,QV,QW,QX,QY,QZ,Q0,Q1,Q2,rl,ml,ll,Tryz.f4,↓awU,awV,awF,Qa,Qb,Qc,Qd,forall_const,↓reduceIte,↓reduceDIte,↓Qe,Qf,Qg,Qh,Qi,Qj,Qk,Ql,Qm,Qn,Qo,Qp,Qq,Qr,Qs,implies_true,Qt,Qu,Qv,Qw,Qx,Qy,Qz,QA,QB,QC,QD,QE,QF,QG,QH,QI,QJ,QK,QL,QM,QN,QO,QP,QQ]
 refine CallC.pure (nsane_spec hG hT hK) ?_
 by_cases h1:20<raw.length
 ·simp (config:={maxSteps:=1000000}) (disch:=((try simp only [awL]);omega)) only [QR,QS,QT,QU,QV,QW,QX,QY,QZ,Q0,Q1,Q2,↓awU,awV,awF,Qa,Qb,Qc,Qd,forall_const,↓reduceIte,↓reduceDIte,↓Qe,Qf,Qg,Qh,Qi,Qj,Qk,Ql,Qm,Qn,Qo,Qp,Qq,Qr,Qs,implies_true,Qt,Qu,Qv,Qw,Qx,Qy,Qz,QA,QB,QC,QD,QE,QF,QG,QH,QI,QJ,QK,QL,QM,QN,QO,QP,QQ]
 by_cases h2:20<mk.length
 ·simp (config:={maxSteps:=1000000}) (disch:=((try simp only [awL]);omega)) only [QR,QS,QT,QU,QV,QW,QX,QY,QZ,Q0,Q1,Q2,↓awU,awV,awF,Qa,Qb,Qc,Qd,forall_const,↓reduceIte,↓reduceDIte,↓Qe,Qf,Qg,Qh,Qi,Qj,Qk,Ql,Qm,Qn,Qo,Qp,Qq,Qr,Qs,implies_true,Qt,Qu,Qv,Qw,Qx,Qy,Qz,QA,QB,QC,QD,QE,QF,QG,QH,QI,QJ,QK,QL,QM,QN,QO,QP,QQ]
 by_cases h3:20<lo.length
 ·simp (config:={maxSteps:=1000000}) (disch:=((try simp only [awL]);omega)) only [QR,QS,QT,QU,QV,QW,QX,QY,QZ,Q0,Q1,Q2,↓awU,awV,awF,Qa,Qb,Qc,Qd,forall_const,↓reduceIte,↓reduceDIte,↓Qe,Qf,Qg,Qh,Qi,Qj,Qk,Ql,Qm,Qn,Qo,Qp,Qq,Qr,Qs,implies_true,Qt,Qu,Qv,Qw,Qx,Qy,Qz,QA,QB,QC,QD,QE,QF,QG,QH,QI,QJ,QK,QL,QM,QN,QO,QP,QQ]
 by_cases h4:200<tx.length
 ·simp (config:={maxSteps:=1000000}) (disch:=((try simp only [awL]);omega)) only [QR,QS,QT,QU,QV,QW,QX,QY,QZ,Q0,Q1,Q2,↓awU,awV,awF,Qa,Qb,Qc,Qd,forall_const,↓reduceIte,↓reduceDIte,↓Qe,Qf,Qg,Qh,Qi,Qj,Qk,Ql,Qm,Qn,Qo,Qp,Qq,Qr,Qs,implies_true,Qt,Qu,Qv,Qw,Qx,Qy,Qz,QA,QB,QC,QD,QE,QF,QG,QH,QI,QJ,QK,QL,QM,QN,QO,QP,QQ]
 simp (config:={maxSteps:=1000000}) (disch:=((try simp only [awL]);omega)) only [QR,QS,QT,QU,QV,QW,QX,QY,QZ,Q0,Q1,Q2,↓awU,awV,awF,Qa,Qb,Qc,Qd,forall_const,↓reduceIte,↓reduceDIte,↓Qe,Qf,Qg,Qh,Qi,Qj,Qk,Ql,Qm,Qn,Qo,Qp,Qq,Qr,Qs,implies_true,Qt,Qu,Qv,Qw,Qx,Qy,Qz,QA,QB,QC,QD,QE,QF,QG,QH,QI,QJ,QK,QL,QM,QN,QO,QP,QQ]
 refine CallC.by (new_spec t hl) (by rfl) (by rfl) (Nat.zero_le _) ?_
 generalize t.take 300=s at *
 simp (config:={maxSteps:=1000000}) (disch:=((try simp only [awL]);omega)) only [QR,QS,QT,QU,QV,QW,QX,QY,QZ,Q0,Q1,Q2,↓awU,awV,awF,Qa,Qb,Qc,Qd,forall_const,↓reduceIte,↓reduceDIte,↓Qe,Qf,Qg,Qh,Qi,Qj,Qk,Ql,Qm,Qn,Qo,Qp,Qq,Qr,Qs,implies_true,Qt,Qu,Qv,Qw,Qx,Qy,Qz,QA,QB,QC,QD,QE,QF,QG,QH,QI,QJ,QK,QL,QM,QN,QO,QP,QQ]
 refine CallC.by (made_spec s 0 hmm) (by rfl) (by rfl) (Nat.le_refl _) ?_
 have ok:=madeL_okL s 0
 generalize madeL s 0=c0 at *
 generalize madeK s 0=k0 at *
 have hjo:(Lib.join (takeZ lo) [124]).length≤1000000000:=by
  have h5:=join_len [124] 1048576 (Nat.le_refl _) (takeZ lo) fun s hs=>by
   obtain ⟨o,ho,rfl⟩:=List.mem_map.1 hs
   exact hlo.2 o (List.mem_filter.1 ho).1
  have h6:=takeZ_len lo
  have:(takeZ lo).length*(1048576+1)≤20*(1048576+1):=Nat.mul_le_mul_right _ (by omega)
  omega
 have okR:okL raw:=⟨by omega,fun x hx=>by have:=hraw.2 x hx;omega⟩
 simp (config:={maxSteps:=1000000}) (disch:=((try simp only [awL]);omega)) only [QR,QS,QT,QU,QV,QW,QX,QY,QZ,Q0,Q1,Q2,↓awU,awV,awF,Qa,Qb,Qc,Qd,forall_const,↓reduceIte,↓reduceDIte,↓Qe,Qf,Qg,Qh,Qi,Qj,Qk,Ql,Qm,Qn,Qo,Qp,Qq,Qr,Qs,implies_true,Qt,Qu,Qv,Qw,Qx,Qy,Qz,QA,QB,QC,QD,QE,QF,QG,QH,QI,QJ,QK,QL,QM,QN,QO,QP,QQ]
 have hCx:∀ i,i<2→∃ (nm:List UInt8) (c:List Cel),([D.str (bs [99]),D.sl c0.length false (celsD c0),D.str ⟨#[114]⟩,D.sl raw.length false (celsD raw)].drop (i*2)).take 2=[S nm,CelS c false]∧okL c:=by
  intro i hi
  rcases (by omega:i=0∨i=1) with rfl | rfl
  ·exact ⟨[99],c0,rfl,ok⟩
  ·exact ⟨[114],raw,rfl,okR⟩
 generalize hC:[D.str (bs [99]),D.sl c0.length false (celsD c0),D.str ⟨#[114]⟩,D.sl raw.length false (celsD raw)]=C at *
 have hCl:C.length=4:=by rw [← hC];rfl
 clear hC
 refine LoopC.fr 27021597764225052 (α:=Nat × Nat) (fun x=>2 - x.1) (fun x=>[(55,.d (.int .i64 (x.1:Nat)))]) (fun x=>[DiceM s x.2,.row false C]) (fun x=>x.1≤2) (0,k0) (Nat.zero_le _) ?_ ?_
 ·exact ⟨[some 0,some 1],rfl,by simp,by simp [setsA,keepA,SWeak,AWeak],by simp [HWeak,BWeak,SWeak,AWeak]⟩
 ·rintro ⟨i,k⟩ hi
  simp only at hi
  simp only [awK,Nat.reduceMod,Nat.reduceDiv,reduceIte]
  rcases Nat.lt_or_ge i 2 with h5 | h5
  ·obtain ⟨nm,c,gc,okc⟩:=hCx i h5
   have vO:=noptions_spec hG hK nm c false okc
   have vR:=rnoptions_spec (G:=G) nm c false okc
   have oL:=nullO_len c
   have jl:=few_join_len c
   have vT:=ntakeO_spec (G:=G) (nullO c) false (by omega) (by omega)
   have vU:=rntakeO_spec (G:=G) (nullO c) false (by omega) (by omega)
   have vS:=sameOpt_spec (G:=G) (nullO c) false false (by omega)
   generalize Lib.join (takeZ (toZ (nullO c))) [124]=jt at *
   generalize nullO c=oc at *
   simp (config:={maxSteps:=1000000}) (disch:=((try simp only [awL]);omega)) only [QR,QS,QT,QU,QV,QW,QX,QY,QZ,Q0,Q1,Q2,hCl,gc,↓awU,awV,awF,Qa,Qb,Qc,Qd,forall_const,↓reduceIte,↓reduceDIte,↓Qe,Qf,Qg,Qh,Qi,Qj,Qk,Ql,Qm,Qn,Qo,Qp,Qq,Qr,Qs,implies_true,Qt,Qu,Qv,Qw,Qx,Qy,Qz,QA,QB,QC,QD,QE,QF,QG,QH,QI,QJ,QK,QL,QM,QN,QO,QP,QQ]
   refine CallC.of vO (by rfl) ?_
   simp (config:={maxSteps:=1000000}) (disch:=((try simp only [awL]);omega)) only [QR,QS,QT,QU,QV,QW,QX,QY,QZ,Q0,Q1,Q2,↓awU,awV,awF,Qa,Qb,Qc,Qd,forall_const,↓reduceIte,↓reduceDIte,↓Qe,Qf,Qg,Qh,Qi,Qj,Qk,Ql,Qm,Qn,Qo,Qp,Qq,Qr,Qs,implies_true,Qt,Qu,Qv,Qw,Qx,Qy,Qz,QA,QB,QC,QD,QE,QF,QG,QH,QI,QJ,QK,QL,QM,QN,QO,QP,QQ]
   refine CallC.of vR (by rfl) ?_
   simp (config:={maxSteps:=1000000}) (disch:=((try simp only [awL]);omega)) only [QR,QS,QT,QU,QV,QW,QX,QY,QZ,Q0,Q1,Q2,↓awU,awV,awF,Qa,Qb,Qc,Qd,forall_const,↓reduceIte,↓reduceDIte,↓Qe,Qf,Qg,Qh,Qi,Qj,Qk,Ql,Qm,Qn,Qo,Qp,Qq,Qr,Qs,implies_true,Qt,Qu,Qv,Qw,Qx,Qy,Qz,QA,QB,QC,QD,QE,QF,QG,QH,QI,QJ,QK,QL,QM,QN,QO,QP,QQ]
   refine CallC.of vS (by rfl) ?_
   simp (config:={maxSteps:=1000000}) (disch:=((try simp only [awL]);omega)) only [QR,QS,QT,QU,QV,QW,QX,QY,QZ,Q0,Q1,Q2,↓awU,awV,awF,Qa,Qb,Qc,Qd,forall_const,↓reduceIte,↓reduceDIte,↓Qe,Qf,Qg,Qh,Qi,Qj,Qk,Ql,Qm,Qn,Qo,Qp,Qq,Qr,Qs,implies_true,Qt,Qu,Qv,Qw,Qx,Qy,Qz,QA,QB,QC,QD,QE,QF,QG,QH,QI,QJ,QK,QL,QM,QN,QO,QP,QQ]
   refine CallC.of vT (by rfl) ?_
   simp (config:={maxSteps:=1000000}) (disch:=((try simp only [awL]);omega)) only [QR,QS,QT,QU,QV,QW,QX,QY,QZ,Q0,Q1,Q2,↓awU,awV,awF,Qa,Qb,Qc,Qd,forall_const,↓reduceIte,↓reduceDIte,↓Qe,Qf,Qg,Qh,Qi,Qj,Qk,Ql,Qm,Qn,Qo,Qp,Qq,Qr,Qs,implies_true,Qt,Qu,Qv,Qw,Qx,Qy,Qz,QA,QB,QC,QD,QE,QF,QG,QH,QI,QJ,QK,QL,QM,QN,QO,QP,QQ]
   refine CallC.of vU (by rfl) ?_
   clear vO vR vT vU vS
   simp (config:={maxSteps:=1000000}) (disch:=((try simp only [awL]);omega)) only [QR,QS,QT,QU,QV,QW,QX,QY,QZ,Q0,Q1,Q2,↓awU,awV,awF,Qa,Qb,Qc,Qd,forall_const,↓reduceIte,↓reduceDIte,↓Qe,Qf,Qg,Qh,Qi,Qj,Qk,Ql,Qm,Qn,Qo,Qp,Qq,Qr,Qs,implies_true,Qt,Qu,Qv,Qw,Qx,Qy,Qz,QA,QB,QC,QD,QE,QF,QG,QH,QI,QJ,QK,QL,QM,QN,QO,QP,QQ]
   have tx4:=Dst.texts_spec (G:=G) s k 4 hmm (by decide) (by decide)
   obtain ⟨n4,hn4,hn5⟩:=pk_nat s k 5 (by decide)
   have hn4':Dst.pk s k (4+1)=n4:=hn4
   rw [hn4',Int.toNat_natCast] at tx4
   have t4l:(Dst.textsM s (k+1) n4).length=n4:=Dst.textsM_length
   have t4m:∀ x∈Dst.textsM s (k+1) n4,x.length≤100:=fun x hx=>by
    obtain ⟨j,_,rfl⟩:=List.mem_map.1 hx
    have:∀ w∈Dst.wordsL,w.length≤100:=by decide
    exact this _ (Dst.wordM_mem _ _)
   refine CallC.by tx4 (by rfl) (by rfl) (Nat.le_refl _) ?_
   have eS:Dst.Ss (Dst.textsM s (k+1) n4) false=Ss (Dst.textsM s (k+1) n4) false:=rfl
   rw [eS]
   generalize Dst.textsM s (k+1) n4=t4 at *
   have hD:Dst.DiceM s (k+1+n4)=DiceM s (k+1+n4):=rfl
   generalize k+1+n4=k2 at *
   simp (config:={maxSteps:=1000000}) (disch:=((try simp only [awL]);omega)) only [QR,QS,QT,QU,QV,QW,QX,QY,QZ,Q0,Q1,Q2,↓awU,awV,awF,Qa,Qb,Qc,Qd,forall_const,↓reduceIte,↓reduceDIte,↓Qe,Qf,Qg,Qh,Qi,Qj,Qk,Ql,Qm,Qn,Qo,Qp,Qq,Qr,Qs,implies_true,Qt,Qu,Qv,Qw,Qx,Qy,Qz,QA,QB,QC,QD,QE,QF,QG,QH,QI,QJ,QK,QL,QM,QN,QO,QP,QQ]
   have cu2:cut [D.str ⟨#[78,65]⟩,D.str ⟨#[45]⟩] 0 2=strs [[78,65],[45]]:=rfl
   rw [cu2]
   have hNx:∀ j,j<4→∃ m:Row,([D.sl (List.length mk) false (strs mk),D.sl 2 false (strs [[78,65],[45]]),D.sl 0 false [],D.sl t4.length false (strs t4)].getD j .nilp)=Ss m false∧m.length≤20∧∀ x∈m,x.length≤1048576:=by
    intro j hj
    rcases (by omega:j=0∨j=1∨j=2∨j=3) with rfl | rfl | rfl | rfl
    ·exact ⟨mk,rfl,by omega,hmk.2⟩
    ·exact ⟨[[78,65],[45]],rfl,by decide,by decide⟩
    ·exact ⟨[],rfl,by decide,fun x hx=>by cases hx⟩
    ·exact ⟨t4,rfl,by omega,fun x hx=>by have:=t4m x hx;omega⟩
   generalize hN:[D.sl (List.length mk) false (strs mk),D.sl 2 false (strs [[78,65],[45]]),D.sl 0 false [],D.sl t4.length false (strs t4)]=N at *
   have hNl:N.length=4:=by rw [← hN];rfl
   clear hN tx4
   refine LoopC.fr 453347245405880723712028 (α:=Nat) (fun j=>4 - j) (fun j=>[(79,.d (.int .i64 (j:Nat)))]) (fun _=>[DiceM s k2,.row false C,.box [.d (S nm),.d (CelS c false)],.dead,.row false N]) (fun j=>j≤4) 0 (Nat.zero_le _) ?_ ?_
   ·exact ⟨[some 0,some 1,some 2,some 3,some 4],rfl,by simp,by simp [setsA,keepA,SWeak,AWeak],by simp [HWeak,BWeak,SWeak,AWeak]⟩
   ·intro j hj
    simp only [awK,Nat.reduceMod,Nat.reduceDiv,reduceIte]
    rcases Nat.lt_or_ge j 4 with h6 | h6
    ·obtain ⟨m,gm,m20,ms⟩:=hNx j h6
     have vA:=ntext_spec hT m false (by omega) (fun x hx=>by have:=ms x hx;omega)
     have vB:=rntext_spec hT m false (by omega) (fun x hx=>by have:=ms x hx;omega)
     have vC:=napply_spec (G:=G) nm c false okc m false (by omega)
     have vD:=rnapply_spec (G:=G) nm c false okc m false (by omega)
     have al:=apL_len m c
     have vE:=sameCells_spec (G:=G) ⟨nm,apL m c⟩ false false (by show (apL m c).length≤_;rw [al];exact okc.1)
     have tl:=textM_len m
     generalize textM m=a at *
     generalize apL m c=ac at *
     simp (config:={maxSteps:=1000000}) (disch:=((try simp only [awL]);omega)) only [QR,QS,QT,QU,QV,QW,QX,QY,QZ,Q0,Q1,Q2,hNl,gm,↓awU,awV,awF,Qa,Qb,Qc,Qd,forall_const,↓reduceIte,↓reduceDIte,↓Qe,Qf,Qg,Qh,Qi,Qj,Qk,Ql,Qm,Qn,Qo,Qp,Qq,Qr,Qs,implies_true,Qt,Qu,Qv,Qw,Qx,Qy,Qz,QA,QB,QC,QD,QE,QF,QG,QH,QI,QJ,QK,QL,QM,QN,QO,QP,QQ]
     refine CallC.of vA (by rfl) ?_
     simp (config:={maxSteps:=1000000}) (disch:=((try simp only [awL]);omega)) only [QR,QS,QT,QU,QV,QW,QX,QY,QZ,Q0,Q1,Q2,↓awU,awV,awF,Qa,Qb,Qc,Qd,forall_const,↓reduceIte,↓reduceDIte,↓Qe,Qf,Qg,Qh,Qi,Qj,Qk,Ql,Qm,Qn,Qo,Qp,Qq,Qr,Qs,implies_true,Qt,Qu,Qv,Qw,Qx,Qy,Qz,QA,QB,QC,QD,QE,QF,QG,QH,QI,QJ,QK,QL,QM,QN,QO,QP,QQ]
     refine CallC.of vB (by rfl) ?_
     simp (config:={maxSteps:=1000000}) (disch:=((try simp only [awL]);omega)) only [QR,QS,QT,QU,QV,QW,QX,QY,QZ,Q0,Q1,Q2,↓awU,awV,awF,Qa,Qb,Qc,Qd,forall_const,↓reduceIte,↓reduceDIte,↓Qe,Qf,Qg,Qh,Qi,Qj,Qk,Ql,Qm,Qn,Qo,Qp,Qq,Qr,Qs,implies_true,Qt,Qu,Qv,Qw,Qx,Qy,Qz,QA,QB,QC,QD,QE,QF,QG,QH,QI,QJ,QK,QL,QM,QN,QO,QP,QQ]
     refine CallC.of vC (by rfl) ?_
     simp (config:={maxSteps:=1000000}) (disch:=((try simp only [awL]);omega)) only [QR,QS,QT,QU,QV,QW,QX,QY,QZ,Q0,Q1,Q2,↓awU,awV,awF,Qa,Qb,Qc,Qd,forall_const,↓reduceIte,↓reduceDIte,↓Qe,Qf,Qg,Qh,Qi,Qj,Qk,Ql,Qm,Qn,Qo,Qp,Qq,Qr,Qs,implies_true,Qt,Qu,Qv,Qw,Qx,Qy,Qz,QA,QB,QC,QD,QE,QF,QG,QH,QI,QJ,QK,QL,QM,QN,QO,QP,QQ]
     refine CallC.of vD (by rfl) ?_
     simp (config:={maxSteps:=1000000}) (disch:=((try simp only [awL]);omega)) only [QR,QS,QT,QU,QV,QW,QX,QY,QZ,Q0,Q1,Q2,↓awU,awV,awF,Qa,Qb,Qc,Qd,forall_const,↓reduceIte,↓reduceDIte,↓Qe,Qf,Qg,Qh,Qi,Qj,Qk,Ql,Qm,Qn,Qo,Qp,Qq,Qr,Qs,implies_true,Qt,Qu,Qv,Qw,Qx,Qy,Qz,QA,QB,QC,QD,QE,QF,QG,QH,QI,QJ,QK,QL,QM,QN,QO,QP,QQ]
     refine CallC.of vE (by rfl) ?_
     simp (config:={maxSteps:=1000000}) (disch:=((try simp only [awL]);omega)) only [QR,QS,QT,QU,QV,QW,QX,QY,QZ,Q0,Q1,Q2,beq_self_eq_true,↓awU,awV,awF,Qa,Qb,Qc,Qd,forall_const,↓reduceIte,↓reduceDIte,↓Qe,Qf,Qg,Qh,Qi,Qj,Qk,Ql,Qm,Qn,Qo,Qp,Qq,Qr,Qs,implies_true,Qt,Qu,Qv,Qw,Qx,Qy,Qz,QA,QB,QC,QD,QE,QF,QG,QH,QI,QJ,QK,QL,QM,QN,QO,QP,QQ]
     try refine ⟨by rfl,?_⟩
     have tz:∀ q,q<4→(([a,tx,a++[124],a++[124,120]]:Row).getD q []).length≤20000:=by
      intro q hq
      rcases (by omega:q=0∨q=1∨q=2∨q=3) with rfl | rfl | rfl | rfl
      ·show a.length≤_;omega
      ·show tx.length≤_;omega
      ·show (a++[124]).length≤_;rw [List.length_append,List.length_singleton];omega
      ·show (a++[124,120]).length≤_;rw [List.length_append];show a.length+2≤_;omega
     have rowS:[D.str (bs a),D.str (bs tx),D.str (bs (a++[124])),D.str (bs (a++[124,120]))]=strs [a,tx,a++[124],a++[124,120]]:=rfl
     rw [rowS]
     generalize hts:([a,tx,a++[124],a++[124,120]]:Row)=ts at *
     have tsl:ts.length=4:=by rw [← hts];rfl
     have tsD:=@strs_length ts
     clear vA vB vC vD vE hts
     refine LoopC.fr 498460498420401262494140842916194332 (α:=Nat) (fun q=>4 - q) (fun q=>[(119,.d (.int .i64 (q:Nat)))]) (fun _=>[DiceM s k2,.row false C,.box [.d (S nm),.d (CelS c false)],.dead,.row false N,.row false (strs ts)]) (fun q=>q≤4) 0 (Nat.zero_le _) ?_ ?_
     ·exact ⟨[some 0,some 1,some 2,some 3,some 4,some 5],rfl,by simp,by simp [setsA,keepA,SWeak,AWeak],by simp [HWeak,BWeak,SWeak,AWeak]⟩
     ·intro q hq
      simp only [awK,Nat.reduceMod,Nat.reduceDiv,reduceIte]
      rcases Nat.lt_or_ge q 4 with h7 | h7
      ·have sg:=strs_getD (l:=ts) (i:=q) (by omega)
       have sz:=tz q h7
       generalize ts.getD q []=x at *
       have vP:=nparse_spec hT x sz
       have vQ:=rnparse_spec hT x sz
       have pl:(parM x).length≤30000:=by
        unfold parM
        split
        ·simp
        ·split
         ·have:=splB_len 124 _ x rfl
          have:x.count 124≤x.length:=List.count_le_length
          omega
         ·simp
       have sr:=sameR_spec (G:=G) (parM x) (parM x) false false (by omega) (by omega)
       rw [decide_eq_true rfl] at sr
       generalize parM x=pm at *
       generalize parB x=pb at *
       simp (config:={maxSteps:=1000000}) (disch:=((try simp only [awL]);omega)) only [QR,QS,QT,QU,QV,QW,QX,QY,QZ,Q0,Q1,Q2,tsD,tsl,sg,↓awU,awV,awF,Qa,Qb,Qc,Qd,forall_const,↓reduceIte,↓reduceDIte,↓Qe,Qf,Qg,Qh,Qi,Qj,Qk,Ql,Qm,Qn,Qo,Qp,Qq,Qr,Qs,implies_true,Qt,Qu,Qv,Qw,Qx,Qy,Qz,QA,QB,QC,QD,QE,QF,QG,QH,QI,QJ,QK,QL,QM,QN,QO,QP,QQ]
       refine CallC.of vP (by rfl) ?_
       simp (config:={maxSteps:=1000000}) (disch:=((try simp only [awL]);omega)) only [QR,QS,QT,QU,QV,QW,QX,QY,QZ,Q0,Q1,Q2,↓awU,awV,awF,Qa,Qb,Qc,Qd,forall_const,↓reduceIte,↓reduceDIte,↓Qe,Qf,Qg,Qh,Qi,Qj,Qk,Ql,Qm,Qn,Qo,Qp,Qq,Qr,Qs,implies_true,Qt,Qu,Qv,Qw,Qx,Qy,Qz,QA,QB,QC,QD,QE,QF,QG,QH,QI,QJ,QK,QL,QM,QN,QO,QP,QQ]
       refine CallC.of vQ (by rfl) ?_
       simp (config:={maxSteps:=1000000}) (disch:=((try simp only [awL]);omega)) only [QR,QS,QT,QU,QV,QW,QX,QY,QZ,Q0,Q1,Q2,beq_self_eq_true,↓awU,awV,awF,Qa,Qb,Qc,Qd,forall_const,↓reduceIte,↓reduceDIte,↓Qe,Qf,Qg,Qh,Qi,Qj,Qk,Ql,Qm,Qn,Qo,Qp,Qq,Qr,Qs,implies_true,Qt,Qu,Qv,Qw,Qx,Qy,Qz,QA,QB,QC,QD,QE,QF,QG,QH,QI,QJ,QK,QL,QM,QN,QO,QP,QQ]
       refine CallC.of sr (by rfl) ?_
       simp (config:={maxSteps:=1000000}) (disch:=((try simp only [awL]);omega)) only [QR,QS,QT,QU,QV,QW,QX,QY,QZ,Q0,Q1,Q2,↓awU,awV,awF,Qa,Qb,Qc,Qd,forall_const,↓reduceIte,↓reduceDIte,↓Qe,Qf,Qg,Qh,Qi,Qj,Qk,Ql,Qm,Qn,Qo,Qp,Qq,Qr,Qs,implies_true,Qt,Qu,Qv,Qw,Qx,Qy,Qz,QA,QB,QC,QD,QE,QF,QG,QH,QI,QJ,QK,QL,QM,QN,QO,QP,QQ]
       first
       | exact ⟨q+1,h7,by simp only;omega,⟨[some 0,some 1,some 2,some 3,some 4,some 5],rfl,by simp,by simp [setsA,keepA,SWeak,AWeak],by simp [HWeak,BWeak,SWeak,AWeak]⟩⟩
       | exact ⟨by rfl,q+1,h7,by simp only;omega,⟨[some 0,some 1,some 2,some 3,some 4,some 5],rfl,by simp,by simp [setsA,keepA,SWeak,AWeak],by simp [HWeak,BWeak,SWeak,AWeak]⟩⟩
      ·have e:q=4:=by omega
       subst e
       simp (config:={maxSteps:=1000000}) (disch:=((try simp only [awL]);omega)) only [QR,QS,QT,QU,QV,QW,QX,QY,QZ,Q0,Q1,Q2,tsD,tsl,↓awU,awV,awF,Qa,Qb,Qc,Qd,forall_const,↓reduceIte,↓reduceDIte,↓Qe,Qf,Qg,Qh,Qi,Qj,Qk,Ql,Qm,Qn,Qo,Qp,Qq,Qr,Qs,implies_true,Qt,Qu,Qv,Qw,Qx,Qy,Qz,QA,QB,QC,QD,QE,QF,QG,QH,QI,QJ,QK,QL,QM,QN,QO,QP,QQ]
       first
       | exact ⟨j+1,h6,by simp only;omega,⟨[some 0,some 1,some 2,some 3,some 4],rfl,by simp,by simp [setsA,keepA,SWeak,AWeak],by simp [HWeak,BWeak,SWeak,AWeak]⟩⟩
    ·have e:j=4:=by omega
     subst e
     simp (config:={maxSteps:=1000000}) (disch:=((try simp only [awL]);omega)) only [QR,QS,QT,QU,QV,QW,QX,QY,QZ,Q0,Q1,Q2,hNl,↓awU,awV,awF,Qa,Qb,Qc,Qd,forall_const,↓reduceIte,↓reduceDIte,↓Qe,Qf,Qg,Qh,Qi,Qj,Qk,Ql,Qm,Qn,Qo,Qp,Qq,Qr,Qs,implies_true,Qt,Qu,Qv,Qw,Qx,Qy,Qz,QA,QB,QC,QD,QE,QF,QG,QH,QI,QJ,QK,QL,QM,QN,QO,QP,QQ]
     first
     | exact ⟨(i+1,k2),h5,by simp only;omega,⟨[some 0,some 1],rfl,by simp,by simp [setsA,keepA,SWeak,AWeak],by simp [HWeak,BWeak,SWeak,AWeak]⟩⟩
  ·have e:i=2:=by omega
   subst e
   simp (config:={maxSteps:=1000000}) (disch:=((try simp only [awL]);omega)) only [QR,QS,QT,QU,QV,QW,QX,QY,QZ,Q0,Q1,Q2,hCl,↓awU,awV,awF,Qa,Qb,Qc,Qd,forall_const,↓reduceIte,↓reduceDIte,↓Qe,Qf,Qg,Qh,Qi,Qj,Qk,Ql,Qm,Qn,Qo,Qp,Qq,Qr,Qs,implies_true,Qt,Qu,Qv,Qw,Qx,Qy,Qz,QA,QB,QC,QD,QE,QF,QG,QH,QI,QJ,QK,QL,QM,QN,QO,QP,QQ]
   have vT:=ntake_spec (G:=G) lo false (by omega) hjo
   have vU:=rntake_spec (G:=G) lo false (by omega) hjo
   refine CallC.of vT (by rfl) ?_
   simp (config:={maxSteps:=1000000}) (disch:=((try simp only [awL]);omega)) only [QR,QS,QT,QU,QV,QW,QX,QY,QZ,Q0,Q1,Q2,↓awU,awV,awF,Qa,Qb,Qc,Qd,forall_const,↓reduceIte,↓reduceDIte,↓Qe,Qf,Qg,Qh,Qi,Qj,Qk,Ql,Qm,Qn,Qo,Qp,Qq,Qr,Qs,implies_true,Qt,Qu,Qv,Qw,Qx,Qy,Qz,QA,QB,QC,QD,QE,QF,QG,QH,QI,QJ,QK,QL,QM,QN,QO,QP,QQ]
   refine CallC.of vU (by rfl) ?_
   simp (config:={maxSteps:=1000000}) (disch:=((try simp only [awL]);omega)) only [QR,QS,QT,QU,QV,QW,QX,QY,QZ,Q0,Q1,Q2,↓awU,awV,awF,Qa,Qb,Qc,Qd,forall_const,↓reduceIte,↓reduceDIte,↓Qe,Qf,Qg,Qh,Qi,Qj,Qk,Ql,Qm,Qn,Qo,Qp,Qq,Qr,Qs,implies_true,Qt,Qu,Qv,Qw,Qx,Qy,Qz,QA,QB,QC,QD,QE,QF,QG,QH,QI,QJ,QK,QL,QM,QN,QO,QP,QQ]
   refine CallC.of (markers_spec hK) (by rfl) ?_
   simp (config:={maxSteps:=1000000}) (disch:=((try simp only [awL]);omega)) only [QR,QS,QT,QU,QV,QW,QX,QY,QZ,Q0,Q1,Q2,↓awU,awV,awF,Qa,Qb,Qc,Qd,forall_const,↓reduceIte,↓reduceDIte,↓Qe,Qf,Qg,Qh,Qi,Qj,Qk,Ql,Qm,Qn,Qo,Qp,Qq,Qr,Qs,implies_true,Qt,Qu,Qv,Qw,Qx,Qy,Qz,QA,QB,QC,QD,QE,QF,QG,QH,QI,QJ,QK,QL,QM,QN,QO,QP,QQ]
   refine CallC.of rmarkers_spec (by rfl) ?_
   simp (config:={maxSteps:=1000000}) (disch:=((try simp only [awL]);omega)) only [QR,QS,QT,QU,QV,QW,QX,QY,QZ,Q0,Q1,Q2,↓awU,awV,awF,Qa,Qb,Qc,Qd,forall_const,↓reduceIte,↓reduceDIte,↓Qe,Qf,Qg,Qh,Qi,Qj,Qk,Ql,Qm,Qn,Qo,Qp,Qq,Qr,Qs,implies_true,Qt,Qu,Qv,Qw,Qx,Qy,Qz,QA,QB,QC,QD,QE,QF,QG,QH,QI,QJ,QK,QL,QM,QN,QO,QP,QQ]
   have sm:=sameR_spec (G:=G) knownL knownL false false (by decide) (by decide)
   rw [decide_eq_true rfl] at sm
   refine CallC.of sm (by rfl) ?_
   simp (config:={maxSteps:=1000000}) (disch:=((try simp only [awL]);omega)) only [QR,QS,QT,QU,QV,QW,QX,QY,QZ,Q0,Q1,Q2,↓awU,awV,awF,Qa,Qb,Qc,Qd,forall_const,↓reduceIte,↓reduceDIte,↓Qe,Qf,Qg,Qh,Qi,Qj,Qk,Ql,Qm,Qn,Qo,Qp,Qq,Qr,Qs,implies_true,Qt,Qu,Qv,Qw,Qx,Qy,Qz,QA,QB,QC,QD,QE,QF,QG,QH,QI,QJ,QK,QL,QM,QN,QO,QP,QQ]
   first | done | rfl
end Go.Proofs.YtkgbbdoeodmkgaaGreatDoor
