/-
  Contracts of the functions, one after another.
-/
import Derived.Test.YtkcghbpghjdgpaaGreatDoorMb3
import Derived.Test.YtkcghbpghjdgpaaGreatDoorCards
import Derived.Test.YtkcghbpghjdgpaaGreatDoorTie
import Derived.Lib.LaidTab
import Derived.LaidLaws
import Derived.Shelf.Vars
import Derived.Lib.SmallJoins
import Derived.Deep.Slices
set_option linter.all false
open Go.Abs renaming ofVal→Qa,ofVal0→Qb,isShift→Qc,aggK→Qd,purePost→Qe,combine→Qf,idsA→Qg,cellsA→Qh,numsOf→Qi,srcA→Qj,calleeA→Qk,refsA→Ql,isScalar→Qm,scalarD→Qn,scalar0→Qo,putL→Qr,unfA→Qs,sidsB→QJ,keyKD→QL,isIntK→QM,aggD→QN,aggL→QO,eqKs→QP,boxRow→QQ,nextC_more→QT,nextC_over→QU,bs_size→QV,bs_extract→QW,bs_toList→QX,bs_append→QY,byteAt_bs→QZ,bs_cells→Q0,nums_length→Q1,nums_getD→Q2
open Go.Abs.AV renaming one→Qp
open Go.Abs.D renaming one→Qq
open Go.IntKind renaming signed→Qt
open Nat renaming reduceAdd→Qu,reduceSub→Qv,reduceMul→Qw,reducePow→Qx,reduceDiv→Qy,reduceMod→Qz,reduceEqDiff→QI,reduceBEq→QK
open Int renaming reduceAdd→QA,reduceSub→QB,reduceMul→QC,reducePow→QD,reduceNeg→QE,reduceToNat→QF,reduceLT→QG,reduceLE→QH
open Option renaming toList_some→QR,toList_none→QS
namespace Go.Proofs.YtkcghbpghjdgpaaGreatDoor
open Go Go.Proofs Go.Abs
variable {G:Globals}
def basesL:Row:=[[107,103],[109],[115],[37]]
def HB (G:Globals):Prop:=G 0=some [.sl 4 false (strs basesL)]
theorem bL_one:([.sl 4 false (strs basesL)]:List D).all D.one=true:=rfl
theorem bL_unf:(strs basesL).length=4:=rfl
def basedU (s b:List UInt8):List UInt8 × Bool:=match splU s with | some u=>(if u.2.1=b then convU (splN s) u else ([],false)) | none=>([],false)
theorem splN_len (s:List UInt8):(splN s).length≤s.length:=by
 unfold splN
 have h1:=trimB_len s
 split
 ·rename_i u _
  have:=frontU_len (Lib.trimB s 32) u.1
  omega
 ·simp
set_option maxHeartbeats 16000000 in
set_option maxRecDepth 100000 in
theorem based_spec (hG:Num.HG G) (hU:HU G) (s b:List UInt8) (hs:s.length≤9223372036854775807):Ctr Tryz.prog G 36 [.d (S s),.d (S b)] [] (.d (TB (basedU s b))) []:=by
 obtain ⟨r,hr⟩:∃ r,r=basedU s b:=⟨_,rfl⟩
 rw [← hr]
 unfold basedU at hr
 have sp:=split_spec hG hU s hs
 have nl:=splN_len s
 unfold splR at sp
 refine Ctr.pure (M:=M0) hmix Tryz.func36 rfl go36 ?_
 simp (config:={maxSteps:=1000000}) (disch:=((try simp only [awL]);omega)) only [QR,QS,QT,QU,QV,QW,QX,QY,QZ,Q0,Q1,Q2,Tryz.f36,↓awU,awV,awF,Qa,Qb,Qc,Qd,forall_const,↓reduceIte,↓reduceDIte,↓Qe,Qf,Qg,Qh,Qi,Qj,Qk,Ql,Qm,Qn,Qo,Qp,Qq,Qr,Qs,implies_true,Qt,Qu,Qv,Qw,Qx,Qy,Qz,QA,QB,QC,QD,QE,QF,QG,QH,QI,QJ,QK,QL,QM,QN,QO,QP,QQ]
 refine CallC.of sp (by rfl) ?_
 cases e:splU s with
 | none =>
  rw [e] at hr
  simp only at hr
  subst hr
  rw [Option.getD_none,Option.isSome_none]
  unfold noUn
  simp (config:={maxSteps:=1000000}) (disch:=((try simp only [awL]);omega)) only [QR,QS,QT,QU,QV,QW,QX,QY,QZ,Q0,Q1,Q2,↓awU,awV,awF,Qa,Qb,Qc,Qd,forall_const,↓reduceIte,↓reduceDIte,↓Qe,Qf,Qg,Qh,Qi,Qj,Qk,Ql,Qm,Qn,Qo,Qp,Qq,Qr,Qs,implies_true,Qt,Qu,Qv,Qw,Qx,Qy,Qz,QA,QB,QC,QD,QE,QF,QG,QH,QI,QJ,QK,QL,QM,QN,QO,QP,QQ]
  first | done | rfl
 | some u =>
  rw [e] at hr
  simp only at hr
  rw [Option.getD_some,Option.isSome_some]
  generalize splN s=n at *
  have cs:=convert_spec hG hU n (by omega) u
  obtain ⟨un,ub,up,uq⟩:=u
  simp only at hr
  by_cases e1:ub=b
  ·have e1':(ub=b)=True:=eq_true e1
   rw [if_pos e1] at hr
   rw [← hr] at cs
   simp (config:={maxSteps:=1000000}) (disch:=((try simp only [awL]);omega)) only [QR,QS,QT,QU,QV,QW,QX,QY,QZ,Q0,Q1,Q2,e1',↓awU,awV,awF,Qa,Qb,Qc,Qd,forall_const,↓reduceIte,↓reduceDIte,↓Qe,Qf,Qg,Qh,Qi,Qj,Qk,Ql,Qm,Qn,Qo,Qp,Qq,Qr,Qs,implies_true,Qt,Qu,Qv,Qw,Qx,Qy,Qz,QA,QB,QC,QD,QE,QF,QG,QH,QI,QJ,QK,QL,QM,QN,QO,QP,QQ]
   refine CallC.of cs (by rfl) ?_
   simp (config:={maxSteps:=1000000}) (disch:=((try simp only [awL]);omega)) only [QR,QS,QT,QU,QV,QW,QX,QY,QZ,Q0,Q1,Q2,↓awU,awV,awF,Qa,Qb,Qc,Qd,forall_const,↓reduceIte,↓reduceDIte,↓Qe,Qf,Qg,Qh,Qi,Qj,Qk,Ql,Qm,Qn,Qo,Qp,Qq,Qr,Qs,implies_true,Qt,Qu,Qv,Qw,Qx,Qy,Qz,QA,QB,QC,QD,QE,QF,QG,QH,QI,QJ,QK,QL,QM,QN,QO,QP,QQ]
   first | done | rfl
  ·have e1':(ub=b)=False:=eq_false e1
   rw [if_neg e1] at hr
   subst hr
   simp (config:={maxSteps:=1000000}) (disch:=((try simp only [awL]);omega)) only [QR,QS,QT,QU,QV,QW,QX,QY,QZ,Q0,Q1,Q2,e1',↓awU,awV,awF,Qa,Qb,Qc,Qd,forall_const,↓reduceIte,↓reduceDIte,↓Qe,Qf,Qg,Qh,Qi,Qj,Qk,Ql,Qm,Qn,Qo,Qp,Qq,Qr,Qs,implies_true,Qt,Qu,Qv,Qw,Qx,Qy,Qz,QA,QB,QC,QD,QE,QF,QG,QH,QI,QJ,QK,QL,QM,QN,QO,QP,QQ]
   first | done | rfl
set_option maxRecDepth 100000 in
theorem known_spec (hB:HB G) (b:List UInt8):Ctr Tryz.prog G 15 [.d (S b)] [] (.d (.bool (decide (b∈basesL)))) []:=by
 have hB':G 0=some [.sl 4 false (strs basesL)]:=hB
 refine Ctr.pure (M:=M0) hmix Tryz.func15 rfl go15 ?_
 simp (config:={maxSteps:=1000000}) (disch:=((try simp only [awL]);omega)) only [QR,QS,QT,QU,QV,QW,QX,QY,QZ,Q0,Q1,Q2,hB',bL_one,bL_unf,Tryz.f15,↓awU,awV,awF,Qa,Qb,Qc,Qd,forall_const,↓reduceIte,↓reduceDIte,↓Qe,Qf,Qg,Qh,Qi,Qj,Qk,Ql,Qm,Qn,Qo,Qp,Qq,Qr,Qs,implies_true,Qt,Qu,Qv,Qw,Qx,Qy,Qz,QA,QB,QC,QD,QE,QF,QG,QH,QI,QJ,QK,QL,QM,QN,QO,QP,QQ]
 refine CallC.of (containsL_spec basesL false b (by decide)) (by rfl) ?_
 simp (config:={maxSteps:=1000000}) (disch:=((try simp only [awL]);omega)) only [QR,QS,QT,QU,QV,QW,QX,QY,QZ,Q0,Q1,Q2,↓awU,awV,awF,Qa,Qb,Qc,Qd,forall_const,↓reduceIte,↓reduceDIte,↓Qe,Qf,Qg,Qh,Qi,Qj,Qk,Ql,Qm,Qn,Qo,Qp,Qq,Qr,Qs,implies_true,Qt,Qu,Qv,Qw,Qx,Qy,Qz,QA,QB,QC,QD,QE,QF,QG,QH,QI,QJ,QK,QL,QM,QN,QO,QP,QQ]
 first | done | rfl
def isU (b:List UInt8) (x:Cel):Bool:=!x.2 && (basedU x.1 b).2
def noU (b:List UInt8) (x:Cel):Bool:=!x.2 && !(basedU x.1 b).2
def optU (l:List Cel) (b:List UInt8):Opt:=⟨b,l.countP (isU b),l.countP (noU b),0⟩
def optsU (l:List Cel):List Opt:=basesL.map (optU l)
def zO:Opt:=⟨[],0,0,0⟩
def optP (l:List Cel) (i:Nat):List Opt:=(basesL.take i).map (optU l)++List.replicate (4 - i) zO
theorem optP_len (l:List Cel) {i:Nat} (h:i≤4):(optP l i).length=4:=by
 unfold optP
 rw [List.length_append,List.length_map,List.length_take,List.length_replicate,show basesL.length=4 from rfl];omega
theorem optP_at (l:List Cel) {i:Nat} (h:i<4):∃ A Z,A.length=i∧optP l i=A++zO::Z∧optP l (i+1)=A++optU l (basesL.getD i [])::Z:=by
 refine ⟨(basesL.take i).map (optU l),List.replicate (3 - i) zO,?_,?_,?_⟩
 ·rw [List.length_map,List.length_take,show basesL.length=4 from rfl];omega
 ·unfold optP
  rw [show 4 - i=(3 - i)+1 by omega,List.replicate_succ]
 ·unfold optP
  rw [List.take_add_one,getD_some (d:=[]) (show i<basesL.length from h),show 4 - (i+1)=3 - i by omega]
  simp
theorem countP_step9 {l:List Cel} {i:Nat} (p:Cel→Bool) (h:i<l.length):(l.take (i+1)).countP p=(l.take i).countP p+(if p (l.getD i noC)=true then 1 else 0):=by
 rw [List.take_add_one,getD_some (d:=noC) h,List.countP_append]
 simp only [Option.toList_some,List.countP_cons,List.countP_nil,Nat.zero_add]
theorem countP_le_n9 {l:List Cel} (p:Cel→Bool) {m:Nat} (h:l.length≤m) (i:Nat):(l.take i).countP p≤m:=Nat.le_trans List.countP_le_length (by rw [List.length_take];omega)
theorem optC_setM {A Z:List Opt} {o:Opt} {i:Nat} (ha:A.length=i) (k:Nat) (v:D):(optC (A++o::Z)).set (i*3+k) v=optC A++(optC (o::Z)).set k v:=by
 have:=optC_length A
 rw [optC_app,List.set_append_right _ _ (by omega)]
 congr 2;omega
theorem optC_get1 {A Z:List Opt} {o:Opt} {i:Nat} (ha:A.length=i) (k:Nat):(optC (A++o::Z)).getD (i*3+k) .nilp=(optC (o::Z)).getD k .nilp:=by
 have:=optC_length A
 rw [optC_app,List.getD_eq_getElem?_getD,List.getElem?_append_right (by omega),← List.getD_eq_getElem?_getD]
 congr 1;omega
theorem optC_s0 {A Z:List Opt} {o:Opt} {i:Nat} (ha:A.length=i) (t:List UInt8):(optC (A++o::Z)).set (i*3) (.str (bs t))=optC (A++⟨t,o.fr,o.ag,0⟩::Z):=by
 have:=optC_setM (Z:=Z) (o:=o) ha 0 (.str (bs t));rw [Nat.add_zero] at this;rw [this,optC_app];rfl
theorem optC_s1 {A Z:List Opt} {o:Opt} {i:Nat} (ha:A.length=i) (n:Nat):(optC (A++o::Z)).set (i*3+1) (.int .i64 (n:Int))=optC (A++⟨o.txt,n,o.ag,0⟩::Z):=by
 rw [optC_setM ha 1,optC_app];rfl
theorem optC_s2 {A Z:List Opt} {o:Opt} {i:Nat} (ha:A.length=i) (n:Nat):(optC (A++o::Z)).set (i*3+2) (.int .i64 (n:Int))=optC (A++⟨o.txt,o.fr,n,0⟩::Z):=by
 rw [optC_setM ha 2,optC_app];rfl
theorem optC_g1 {A Z:List Opt} {o:Opt} {i:Nat} (ha:A.length=i):(optC (A++o::Z)).getD (i*3+1) .nilp=.int .i64 o.fr:=by rw [optC_get1 ha 1];rfl
theorem optC_g2 {A Z:List Opt} {o:Opt} {i:Nat} (ha:A.length=i):(optC (A++o::Z)).getD (i*3+2) .nilp=.int .i64 o.ag:=by rw [optC_get1 ha 2];rfl
def okU (l:List Cel):Prop:=l.length≤1000000∧∀ x∈l,x.1.length≤9223372036854775807
theorem okU.at {l:List Cel} (h:okU l) {i:Nat} (hi:i<l.length):(l.getD i noC).1.length≤9223372036854775807:=h.2 _ (memD (d:=noC) hi)
set_option maxHeartbeats 16000000 in
set_option maxRecDepth 100000 in
theorem uoptions_spec (hG:Num.HG G) (hU:HU G) (hB:HB G) (nm:List UInt8) (l:List Cel) (full:Bool) (hl:okU l) :
  Ctr Tryz.prog G 11 [.d (.agg [S nm,CelS l full])] [] (.d (.sl 4 false (optC (optsU l)))) []:=by
 have hB':G 0=some [.sl 4 false (strs basesL)]:=hB
 refine Ctr.pure (M:=M0) hmix Tryz.func11 rfl go11 ?_
 have lc:=celsD_length l
 have l1:=hl.1
 simp (config:={maxSteps:=1000000}) (disch:=((try simp only [awL]);omega)) only [QR,QS,QT,QU,QV,QW,QX,QY,QZ,Q0,Q1,Q2,lc,hB',bL_one,bL_unf,Tryz.f11,↓awU,awV,awF,Qa,Qb,Qc,Qd,forall_const,↓reduceIte,↓reduceDIte,↓Qe,Qf,Qg,Qh,Qi,Qj,Qk,Ql,Qm,Qn,Qo,Qp,Qq,Qr,Qs,implies_true,Qt,Qu,Qv,Qw,Qx,Qy,Qz,QA,QB,QC,QD,QE,QF,QG,QH,QI,QJ,QK,QL,QM,QN,QO,QP,QQ]
 have z0:zerosD [D.str ByteArray.empty,.int .i64 0,.int .i64 0] 12=optC (optP l 0):=rfl
 rw [z0]
 refine LoopC.fr 49162 (α:=Nat) (fun i=>4 - i) (fun i=>[(16,.d (.int .i64 (i:Nat)))])
  (fun i=>[.box [.d (S nm),.d (CelS l full)],.row false (optC (optP l i))]) (fun i=>i≤4) 0 (Nat.zero_le _) ?_ ?_
 ·exact ⟨[some 0,some 1],rfl,by simp,by simp [setsA,keepA,SWeak,AWeak],by simp [HWeak,BWeak,SWeak,AWeak]⟩
 ·intro i hi
  have oc:=optC_length (optP l i)
  have ol:=optP_len l hi
  simp only [awK,Nat.reduceMod,Nat.reduceDiv,reduceIte]
  rcases Nat.lt_or_ge i 4 with h | h
  ·have gb:=strs_getD (l:=basesL) (i:=i) h
   obtain ⟨A,Z,ha,hz,hz2⟩:=optP_at l h
   rw [hz] at ol oc ⊢
   have oc1:=optC_length (A++zO::Z)
   have oc2:=optC_length (A++optU l (basesL.getD i [])::Z)
   generalize basesL.getD i []=b at *
   have s0:=optC_s0 (Z:=Z) (o:=zO) ha b
   simp (config:={maxSteps:=1000000}) (disch:=((try simp only [awL]);omega)) only [QR,QS,QT,QU,QV,QW,QX,QY,QZ,Q0,Q1,Q2,gb,bL_unf,oc,ol,lc,↓awU,awV,awF,Qa,Qb,Qc,Qd,forall_const,↓reduceIte,↓reduceDIte,↓Qe,Qf,Qg,Qh,Qi,Qj,Qk,Ql,Qm,Qn,Qo,Qp,Qq,Qr,Qs,implies_true,Qt,Qu,Qv,Qw,Qx,Qy,Qz,QA,QB,QC,QD,QE,QF,QG,QH,QI,QJ,QK,QL,QM,QN,QO,QP,QQ]
   rw [s0]
   refine LoopC.fr 1610727530 (α:=Nat) (fun j=>l.length - j) (fun j=>[(31,.d (.int .i64 (j:Nat)))])
    (fun j=>[.box [.d (S nm),.d (CelS l full)],.row false (optC (A++⟨b,(l.take j).countP (isU b),(l.take j).countP (noU b),0⟩::Z))]) (fun j=>j≤l.length) 0 (Nat.zero_le _) ?_ ?_
   ·exact ⟨[some 0,some 1],rfl,by simp,by simp [setsA,keepA,SWeak,AWeak],by simp [HWeak,BWeak,SWeak,AWeak,zO]⟩
   ·intro j hj
    have c1:=countP_le_n9 (isU b) (m:=1000000) l1 j
    have c2:=countP_le_n9 (noU b) (m:=1000000) l1 j
    simp only [awK,Nat.reduceMod,Nat.reduceDiv,reduceIte]
    rcases Nat.lt_or_ge j l.length with h3 | h3
    ·have gc:=celsD_get h3
     have gx:=hl.at h3
     have d1:=countP_step9 (isU b) h3
     have d2:=countP_step9 (noU b) h3
     generalize l.getD j noC=x at *
     obtain ⟨t,nul⟩:=x
     simp only at gx
     have gc:((celsD l).drop (j*2)).take 2=[.bool nul,S t]:=gc
     generalize (l.take j).countP (isU b)=f at *
     generalize (l.take j).countP (noU b)=g at *
     have oc3:=optC_length (A++⟨b,f,g,0⟩::Z)
     have oc4:(A++(⟨b,f,g,0⟩:Opt)::Z).length=4:=by
      rw [← ol];simp
     rw [oc4] at oc3
     have g1:=optC_g1 (Z:=Z) (o:=⟨b,f,g,0⟩) ha
     have g2:=optC_g2 (Z:=Z) (o:=⟨b,f,g,0⟩) ha
     have s1:=optC_s1 (Z:=Z) (o:=⟨b,f,g,0⟩) ha (f+1)
     have s2:=optC_s2 (Z:=Z) (o:=⟨b,f,g,0⟩) ha (g+1)
     simp only at g1 g2 s1 s2
     cases nul
     ·have q1:isU b (t,false)=(basedU t b).2:=by unfold isU;simp
      have q2:noU b (t,false)=!(basedU t b).2:=by unfold noU;simp
      rw [q1] at d1
      rw [q2] at d2
      simp (config:={maxSteps:=1000000}) (disch:=((try simp only [awL]);omega)) only [QR,QS,QT,QU,QV,QW,QX,QY,QZ,Q0,Q1,Q2,lc,gc,↓awU,awV,awF,Qa,Qb,Qc,Qd,forall_const,↓reduceIte,↓reduceDIte,↓Qe,Qf,Qg,Qh,Qi,Qj,Qk,Ql,Qm,Qn,Qo,Qp,Qq,Qr,Qs,implies_true,Qt,Qu,Qv,Qw,Qx,Qy,Qz,QA,QB,QC,QD,QE,QF,QG,QH,QI,QJ,QK,QL,QM,QN,QO,QP,QQ]
      refine CallC.of (based_spec hG hU t b gx) (by rfl) ?_
      generalize basedU t b=y at *
      obtain ⟨y1,y2⟩:=y
      simp only at d1 d2
      cases y2
      ·rw [if_neg Bool.false_ne_true,Nat.add_zero] at d1
       rw [Bool.not_false,if_pos rfl] at d2
       simp (config:={maxSteps:=1000000}) (disch:=((try simp only [awL]);omega)) only [QR,QS,QT,QU,QV,QW,QX,QY,QZ,Q0,Q1,Q2,oc3,g2,s2,↓awU,awV,awF,Qa,Qb,Qc,Qd,forall_const,↓reduceIte,↓reduceDIte,↓Qe,Qf,Qg,Qh,Qi,Qj,Qk,Ql,Qm,Qn,Qo,Qp,Qq,Qr,Qs,implies_true,Qt,Qu,Qv,Qw,Qx,Qy,Qz,QA,QB,QC,QD,QE,QF,QG,QH,QI,QJ,QK,QL,QM,QN,QO,QP,QQ]
       first
       | exact ⟨j+1,h3,by simp only;omega,⟨[some 0,some 1],rfl,by simp,by simp [setsA,keepA,SWeak,AWeak],by simp [HWeak,BWeak,SWeak,AWeak,d1,d2,s2]⟩⟩
       | exact ⟨by rfl,j+1,h3,by simp only;omega,⟨[some 0,some 1],rfl,by simp,by simp [setsA,keepA,SWeak,AWeak],by simp [HWeak,BWeak,SWeak,AWeak,d1,d2,s2]⟩⟩
      ·rw [if_pos rfl] at d1
       rw [Bool.not_true,if_neg Bool.false_ne_true,Nat.add_zero] at d2
       simp (config:={maxSteps:=1000000}) (disch:=((try simp only [awL]);omega)) only [QR,QS,QT,QU,QV,QW,QX,QY,QZ,Q0,Q1,Q2,oc3,g1,s1,↓awU,awV,awF,Qa,Qb,Qc,Qd,forall_const,↓reduceIte,↓reduceDIte,↓Qe,Qf,Qg,Qh,Qi,Qj,Qk,Ql,Qm,Qn,Qo,Qp,Qq,Qr,Qs,implies_true,Qt,Qu,Qv,Qw,Qx,Qy,Qz,QA,QB,QC,QD,QE,QF,QG,QH,QI,QJ,QK,QL,QM,QN,QO,QP,QQ]
       first
       | exact ⟨j+1,h3,by simp only;omega,⟨[some 0,some 1],rfl,by simp,by simp [setsA,keepA,SWeak,AWeak],by simp [HWeak,BWeak,SWeak,AWeak,d1,d2,s1]⟩⟩
       | exact ⟨by rfl,j+1,h3,by simp only;omega,⟨[some 0,some 1],rfl,by simp,by simp [setsA,keepA,SWeak,AWeak],by simp [HWeak,BWeak,SWeak,AWeak,d1,d2,s1]⟩⟩
     ·have q1:isU b (t,true)=false:=by unfold isU;simp
      have q2:noU b (t,true)=false:=by unfold noU;simp
      rw [q1,if_neg Bool.false_ne_true,Nat.add_zero] at d1
      rw [q2,if_neg Bool.false_ne_true,Nat.add_zero] at d2
      simp (config:={maxSteps:=1000000}) (disch:=((try simp only [awL]);omega)) only [QR,QS,QT,QU,QV,QW,QX,QY,QZ,Q0,Q1,Q2,lc,gc,↓awU,awV,awF,Qa,Qb,Qc,Qd,forall_const,↓reduceIte,↓reduceDIte,↓Qe,Qf,Qg,Qh,Qi,Qj,Qk,Ql,Qm,Qn,Qo,Qp,Qq,Qr,Qs,implies_true,Qt,Qu,Qv,Qw,Qx,Qy,Qz,QA,QB,QC,QD,QE,QF,QG,QH,QI,QJ,QK,QL,QM,QN,QO,QP,QQ]
      exact ⟨j+1,h3,by simp only;omega,⟨[some 0,some 1],rfl,by simp,by simp [setsA,keepA,SWeak,AWeak],by simp [HWeak,BWeak,SWeak,AWeak,d1,d2]⟩⟩
    ·have e:j=l.length:=by omega
     subst e
     simp (config:={maxSteps:=1000000}) (disch:=((try simp only [awL]);omega)) only [QR,QS,QT,QU,QV,QW,QX,QY,QZ,Q0,Q1,Q2,lc,↓awU,awV,awF,Qa,Qb,Qc,Qd,forall_const,↓reduceIte,↓reduceDIte,↓Qe,Qf,Qg,Qh,Qi,Qj,Qk,Ql,Qm,Qn,Qo,Qp,Qq,Qr,Qs,implies_true,Qt,Qu,Qv,Qw,Qx,Qy,Qz,QA,QB,QC,QD,QE,QF,QG,QH,QI,QJ,QK,QL,QM,QN,QO,QP,QQ]
     exact ⟨i+1,h,by simp only;omega,⟨[some 0,some 1],rfl,by simp,by simp [setsA,keepA,SWeak,AWeak],by simp [HWeak,BWeak,SWeak,AWeak,hz2,optU]⟩⟩
  ·have e:i=4:=by omega
   subst e
   have cu:cut (optC (optP l 4)) 0 12=optC (optP l 4):=by unfold cut;rw [List.drop_zero,List.take_of_length_le (by omega)]
   have ee:optP l 4=optsU l:=by unfold optP optsU;simp [basesL]
   rw [ee] at cu oc ol ⊢
   simp (config:={maxSteps:=1000000}) (disch:=((try simp only [awL]);omega)) only [QR,QS,QT,QU,QV,QW,QX,QY,QZ,Q0,Q1,Q2,bL_unf,oc,ol,cu,↓awU,awV,awF,Qa,Qb,Qc,Qd,forall_const,↓reduceIte,↓reduceDIte,↓Qe,Qf,Qg,Qh,Qi,Qj,Qk,Ql,Qm,Qn,Qo,Qp,Qq,Qr,Qs,implies_true,Qt,Qu,Qv,Qw,Qx,Qy,Qz,QA,QB,QC,QD,QE,QF,QG,QH,QI,QJ,QK,QL,QM,QN,QO,QP,QQ]
   first | done | rfl
end Go.Proofs.YtkcghbpghjdgpaaGreatDoor
namespace Go.Proofs.YtkcghbpghjdgpaaGreatDoor
open Go Go.Proofs Go.Abs Go.RowKit Go.ChangeShapes Go.WideShapes Go.ChangeAt Go.Shelf Go.Joins Go.Deep
theorem own:ownKnob Tryz.prog.godebug=none:=by kernel_rfl
theorem laidOut:laidOutB Tryz.prog=true:=by kernel_rfl
theorem gOne:Tryz.prog.globalNamed "tablefinder/fraction.one" = some 2:=by kernel_rfl
theorem tOne:(Tryz.prog.globals[2]?).map (·.type)=some 109:=by kernel_rfl
theorem cU8:Tryz.prog.cellsOf 5=1:=by kernel_rfl
theorem mem_getD' {l:List Int} {i:Nat} {d:Int} (h:i<l.length):l.getD i d∈l:=by
 rw [List.getD_eq_getElem?_getD,List.getElem?_eq_getElem h];exact List.getElem_mem h
theorem list_u8 {l:List Int} (h:∀ n∈l,(Lit.int .u8 n).wf=true):∀ i,0≤l.getD i 0∧l.getD i 0≤255:=by
 intro i
 rcases Nat.lt_or_ge i l.length with hi | hi
 ·have:=h _ (mem_getD' (d:=0) hi)
  simp [Lit.wf,IntKind.min,IntKind.max,IntKind.bits,IntKind.signed] at this
  rw [List.getD_eq_getElem?_getD]
  omega
 ·rw [List.getD_eq_getElem?_getD,List.getElem?_eq_none hi];simp
theorem cU32:Tryz.prog.cellsOf 98=1:=by kernel_rfl
theorem gUn:Tryz.prog.globalNamed "tablefinder/unit.units" = some 1:=by kernel_rfl
theorem tUn:(Tryz.prog.globals[1]?).map (·.type)=some 52:=by kernel_rfl
theorem gBa:Tryz.prog.globalNamed "tablefinder/unit.bases" = some 0:=by kernel_rfl
theorem tBa:(Tryz.prog.globals[0]?).map (·.type)=some 55:=by kernel_rfl
theorem cStr5:Tryz.prog.cellsOf 9=1:=by kernel_rfl
theorem cInt5:Tryz.prog.cellsOf 3=1:=by kernel_rfl
theorem cUn5:Tryz.prog.cellsOf 51=4:=by kernel_rfl
theorem flat_at5 {α:Type} {k:Nat} {toD:α→List D} (hk:∀ a,(toD a).length=k):∀ {l:List α} {j:Nat} {x:D},(l.flatMap toD)[j]? = some x→∃ i q a,j=i*k+q∧i<l.length∧l[i]? = some a∧(toD a)[q]? = some x
 | [],j,x,h=>by simp at h
 | a::l,j,x,h=>by
   rw [List.flatMap_cons] at h
   rcases Nat.lt_or_ge j k with h1 | h1
   ·rw [List.getElem?_append_left (by rw [hk];exact h1)] at h
    exact ⟨0,j,a,by simp,by simp,rfl,h⟩
   ·rw [List.getElem?_append_right (by rw [hk];exact h1),hk] at h
    obtain ⟨i,q,b,e1,e2,e3,e4⟩:=flat_at5 hk h
    refine ⟨i+1,q,b,?_,by simpa using e2,by simpa using e3,e4⟩
    rw [Nat.add_mul,Nat.one_mul];omega
theorem rd_recs {α:Type} {H:Type} {enc:TypeId × Value→H} {P:Program} {W:World} {base:Nat} {sp:Nat→Bool} {held:Bool} {t e:TypeId} {fuel:Nat} {cs:List Value} {rest:List (DataW H)} {pl:List MemPlace} (l:List α) (k:Nat) (toD:α→List D) (en:α→DataW H)
  (hl0:0<l.length) (hk1:1≤k) (hk:∀ a,(toD a).length=k) (hone:∀ a,∀ y∈toD a,y.one=true) (hce:P.cellsOf e=k)
  (el:∀ a n cs' p,DataW.trod enc P W base sp held n e cs'=some (en a,p)→∀ (j:Nat) y,(toD a)[j]? = some y→∃ u,cs'[j]? = some u∧RD (heldW W) u y)
  (ht:P.underlying t=some (.slice e)) (h:DataW.trod enc P W base sp held fuel t cs=some (.slice (l.map en) rest,pl)) :
  ∃ v,cs=[v]∧RD (heldW W) v (.sl l.length false (l.flatMap toD)):=by
 rcases open_slice ht h with ⟨_,hx⟩ | ⟨ad,n,cap,m,nn,D',Pl,hcs,hb,hl,hm,hmm,hxx,hx⟩
 ·simp at hx
 ·simp only [Prod.mk.injEq,DataW.slice.injEq] at hxx
  have e1:=hxx.1.1
  have en1:l.length=n:=by have:=congrArg List.length e1;simpa using this
  have hnm:n≤m:=by rw [hmm];split<;>omega
  subst en1
  have de:∀ i a,l[i]? = some a→D' i=en a:=by
   intro i a hi
   have hil:=(List.getElem?_eq_some_iff.1 hi).1
   have h1:(l.map en)[i]? = some (en a):=by rw [List.getElem?_map,hi];rfl
   rw [e1,List.getElem?_map,List.getElem?_range hil] at h1
   simpa using h1
  refine ⟨_,hcs,?_⟩
  obtain ⟨b,off,spot⟩:=ad
  have hs:spot=none:=by
   obtain ⟨cs',g1,g2⟩:=hx 0 (by omega)
   rw [hce] at g1
   obtain ⟨_,g3,g4⟩:=World.cells?_some g1
   have g5:=g4 0 (by omega)
   rw [List.getElem?_eq_getElem (by omega)] at g5
   simpa [Addr.add] using World.cell?_spot g5
  subst hs
  have ade:∀ j,Addr.add ⟨b,off,none⟩ j=⟨b,off+j,none⟩:=fun j=>by unfold Addr.add;split<;>simp_all
  have val:∀ (j:Nat) y,(l.flatMap toD)[j]? = some y→∃ u,W.cell? ⟨b,off+j,none⟩=some u∧RD (heldW W) u y:=by
   intro j y hy
   obtain ⟨i,q,a,q1,q2,q3,q4⟩:=flat_at5 hk hy
   obtain ⟨cs',h1,h2⟩:=hx i (by omega)
   rw [de i a q3] at h2
   obtain ⟨u,u1,u2⟩:=el a nn cs' _ h2 q y q4
   have hq:q<k:=by have:=(List.getElem?_eq_some_iff.1 q4).1;rw [hk] at this;exact this
   rw [hce] at h1
   have:=(World.cells?_some h1).2.2 q hq
   rw [Addr.add_add,u1,ade] at this
   exact ⟨u,by rw [q1];exact this,u2⟩
  refine .sl b off l.length cap false _ (fun j=>(W.cell? ⟨b,off+j,none⟩).getD undef) hl (fun h=>by cases h) (fun j y hy=>?_) (fun j y hy=>?_) (fun j y hy=>?_)
  ·obtain ⟨u,u1,_⟩:=val j y hy
   show W.cell? ⟨b,off+j,none⟩=some ((W.cell? ⟨b,off+j,none⟩).getD undef)
   rw [u1];rfl
  ·obtain ⟨u,u1,u2⟩:=val j y hy
   rw [u1];exact u2
  ·obtain ⟨i,q,a,_,_,_,e4⟩:=flat_at5 hk hy
   exact hone a y (List.mem_of_getElem? e4)
theorem str_inj5 {s t:List UInt8} {H:Type} (h:(DataW.lit (H:=H) (.string s))=.lit (.string t)):s=t:=by
 injection h with h;injection h
theorem int_inj5 {a b:Int} {H:Type} (h:(DataW.lit (H:=H) (.int .i64 a))=.lit (.int .i64 b)):a=b:=by
 injection h with h;injection h
def unEnc {H:Type} (u:Un):DataW H:=.agg [.lit (.string u.1),.lit (.string u.2.1),.lit (.int .i64 u.2.2.1),.lit (.int .i64 u.2.2.2)]
theorem units_data {H:Type}:(Rows.laid_tablefinder_unit_units:DataW H)=.slice (uL.map unEnc) []:=rfl
theorem bases_data {H:Type}:(Rows.laid_tablefinder_unit_bases:DataW H)=.slice (basesL.map fun s=>.lit (.string s)) []:=rfl
theorem units_read {X:World} (h:Lib.VarReads Tryz.prog X "tablefinder/unit.units" Rows.laid_tablefinder_unit_units):∃ v,X.cell? ⟨1,0,none⟩=some v∧RD (heldW X) v (.sl 12 false (unsD uL)):=by
 obtain ⟨g,t,cs,fuel,p,hg,ht,hv,hd⟩:=h
 obtain rfl:=Option.some.inj (gUn.symm.trans hg)
 obtain rfl:=Option.some.inj (tUn.symm.trans ht)
 rw [units_data] at hd
 obtain ⟨v,hcs,hr⟩:=rd_recs uL 4 UnC unEnc (by decide) (by decide) (fun _=>rfl) (fun a y hy=>by
   simp only [List.mem_cons,List.not_mem_nil,or_false] at hy
   rcases hy with rfl | rfl | rfl | rfl<;>rfl) cUn5 (fun a n cs' p ht=>by
  obtain ⟨xs,m,rfl,hx,hl,hn,he⟩:=DataW.trod_struct Tryz.underlying51 ht
  have e0:=he 0 _ rfl
  have e1:=he 1 _ rfl
  have e2:=he 2 _ rfl
  have e3:=he 3 _ rfl
  have hn2:xs.length=4:=hn
  have x0:xs[0]? = some xs[0]:=List.getElem?_eq_getElem (by omega)
  have x1:xs[1]? = some xs[1]:=List.getElem?_eq_getElem (by omega)
  have x2:xs[2]? = some xs[2]:=List.getElem?_eq_getElem (by omega)
  have x3:xs[3]? = some xs[3]:=List.getElem?_eq_getElem (by omega)
  rw [x0] at e0
  rw [x1] at e1
  rw [x2] at e2
  rw [x3] at e3
  obtain ⟨s0,c0,y0,_⟩:=DataW.trod_string Tryz.underlying9 e0
  obtain ⟨s1,c1,y1,_⟩:=DataW.trod_string Tryz.underlying9 e1
  obtain ⟨z2,c2,y2,_⟩:=DataW.trod_int Tryz.underlying3 e2
  obtain ⟨z3,c3,y3,_⟩:=DataW.trod_int Tryz.underlying3 e3
  have hxs:xs=[xs[0],xs[1],xs[2],xs[3]]:=by
   refine List.ext_getElem (by simp [hn2]) fun i h1 h2=>?_
   have:i<4:=by omega
   match i,this with
   | 0,_=>rfl
   | 1,_=>rfl
   | 2,_=>rfl
   | 3,_=>rfl
  have hd:unEnc a=.agg (xs.map (·.1)):=by injection hx
  rw [hxs,y0,y1,y2,y3] at hd
  unfold unEnc at hd
  simp only [List.map_cons,List.map_nil,DataW.agg.injEq,List.cons.injEq,and_true] at hd
  obtain ⟨d0,d1,d2,d3⟩:=hd
  have d0:=str_inj5 d0
  have d1:=str_inj5 d1
  have d2:=int_inj5 d2
  have d3:=int_inj5 d3
  intro j y hy
  rcases j with _ | _ | _ | _ | j
  ·cases hy
   refine ⟨.string s0,?_,?_⟩
   ·have:=congrArg (·[0]?) c0
    simpa [List.getElem?_take,List.getElem?_drop,cStr5] using this
   ·have:S a.1=.str s0:=by show D.str (bs a.1)=.str s0;rw [d0,← bs_of s0]
    rw [this];exact .str _
  ·cases hy
   refine ⟨.string s1,?_,?_⟩
   ·have:=congrArg (·[0]?) c1
    simpa [List.getElem?_take,List.getElem?_drop,cStr5] using this
   ·have:S a.2.1=.str s1:=by show D.str (bs a.2.1)=.str s1;rw [d1,← bs_of s1]
    rw [this];exact .str _
  ·cases hy
   refine ⟨.int .i64 z2,?_,?_⟩
   ·have:=congrArg (·[0]?) c2
    simpa [List.getElem?_take,List.getElem?_drop,cInt5] using this
   ·rw [d2];exact .int _ _
  ·cases hy
   refine ⟨.int .i64 z3,?_,?_⟩
   ·have:=congrArg (·[0]?) c3
    simpa [List.getElem?_take,List.getElem?_drop,cInt5] using this
   ·rw [d3];exact .int _ _
  ·cases hy) Tryz.underlying52 hd
 refine ⟨v,?_,hr⟩
 rw [World.var?_cell hg hv 0,← Array.getElem?_toList,hcs]
 rfl
theorem bases_read {X:World} (h:Lib.VarReads Tryz.prog X "tablefinder/unit.bases" Rows.laid_tablefinder_unit_bases):∃ v,X.cell? ⟨0,0,none⟩=some v∧RD (heldW X) v (.sl 4 false (strs basesL)):=by
 obtain ⟨g,t,cs,fuel,p,hg,ht,hv,hd⟩:=h
 obtain rfl:=Option.some.inj (gBa.symm.trans hg)
 obtain rfl:=Option.some.inj (tBa.symm.trans ht)
 rw [bases_data] at hd
 obtain ⟨v,hcs,hr⟩:=rd_recs basesL 1 (fun s=>[S s]) (fun s=>.lit (.string s)) (by decide) (by decide) (fun _=>rfl) (fun a y hy=>by
   simp only [List.mem_cons,List.not_mem_nil,or_false] at hy
   rcases hy with rfl;rfl) cStr5 (fun a n cs' p ht=>by
  obtain ⟨s0,c0,y0,_⟩:=DataW.trod_string Tryz.underlying9 ht
  have d0:a=s0.data.toList:=by
   have:(DataW.lit (H:=Unit) (.string a))=.lit (.string s0.data.toList):=by injection y0
   exact str_inj5 this
  intro j y hy
  rcases j with _ | j
  ·cases hy
   refine ⟨.string s0,?_,?_⟩
   ·rw [c0];rfl
   ·have:S a=.str s0:=by show D.str (bs a)=.str s0;rw [d0,← bs_of s0]
    rw [this];exact .str _
  ·cases hy) Tryz.underlying55 hd
 refine ⟨v,?_,hr⟩
 rw [World.var?_cell hg hv 0,← Array.getElem?_toList,hcs]
 rfl
def G5:Globals:=fun g=>if g=2 then some [Num.W [1]] else if g=1 then some [.sl 12 false (unsD uL)] else if g=0 then some [.sl 4 false (strs basesL)] else none
theorem hG5:Num.HG G5:=by simp [Num.HG,G5]
theorem hU5:HU G5:=by simp [HU,G5]
theorem hB5:HB G5:=by simp [HB,G5]
theorem globOK5 {X:World} (h:Lib.VarReads Tryz.prog X "tablefinder/fraction.one" Rows.laid_tablefinder_fraction_one) (hu:Lib.VarReads Tryz.prog X "tablefinder/unit.units" Rows.laid_tablefinder_unit_units) (hb:Lib.VarReads Tryz.prog X "tablefinder/unit.bases" Rows.laid_tablefinder_unit_bases):GlobOK G5 X:=by
 obtain ⟨vu,cu,ru⟩:=units_read hu
 obtain ⟨vb,cb,rb⟩:=bases_read hb
 obtain ⟨g,t,cs,fuel,p,hg,ht,hv,hd⟩:=h
 obtain rfl:=Option.some.inj (gOne.symm.trans hg)
 obtain rfl:=Option.some.inj (tOne.symm.trans ht)
 rcases open_ints Tryz.underlying109 Tryz.underlying98 cU32 hd with ⟨_,hx⟩ | ⟨a,len,cap,zs,hcs,_,hl,hm,hz,hx,hcell,_⟩
 ·simp [Rows.laid_tablefinder_fraction_one] at hx
 ·have hz:zs.length=cap:=by simpa using hz
  simp only [Rows.laid_tablefinder_fraction_one,Prod.mk.injEq,DataW.slice.injEq] at hx
  obtain ⟨⟨h1,h2⟩,_⟩:=hx
  have e1:(zs.take len).length=1:=by
   have:=congrArg List.length h1;simpa [lits] using this.symm
  have e2:(zs.drop len).length=0:=by
   have:=congrArg List.length h2;simpa [lits] using this.symm
  have e3:len=1∧cap=1:=by simp at e1 e2;omega
  obtain ⟨rfl,rfl⟩:=e3
  obtain ⟨z,rfl⟩:∃ z,zs=[z]:=by
   match zs,hz with
   | [z],_=>exact ⟨z,rfl⟩
  have ez:z=1:=by
   have:=h1;simp [lits] at this;exact this.symm
  subst ez
  have hz0:=World.var?_cell hg hv 0
  have e4:cs[0]? = some (.slice (some a) 1 1):=by
   have:cs=#[.slice (some a) 1 1]:=by rw [← Array.toArray_toList (xs:=cs),hcs]
   rw [this];rfl
  rw [e4] at hz0
  have one:∀ {gi:Nat} {v:Value} {d:D},X.cell? ⟨gi,0,none⟩=some v→RD (heldW X) v d→∀ ds,ds=[d]→∃ vs:Nat→Value,(∀ (i:Nat) x,ds[i]? = some x→heldW X gi i=some (vs i))∧(∀ (i:Nat) x,ds[i]? = some x→RD (heldW X) (vs i) x):=by
   rintro gi v d hc hr ds rfl
   refine ⟨fun _=>v,fun i x hx=>?_,fun i x hx=>?_⟩
   ·rcases i with _ | i
    ·exact hc
    ·simp at hx
   ·rcases i with _ | i
    ·simp at hx;subst hx;exact hr
    ·simp at hx
  rcases RD_ints (W:=X) (k:=.u32) hl (by simp) hcell with hr | hr
  ·intro g ds hgd
   simp only [G5] at hgd
   split at hgd
   ·rename_i hgg
    subst hgg
    exact one hz0 hr ds (by cases hgd;rfl)
   ·split at hgd
    ·rename_i hgg
     subst hgg
     exact one cu ru ds (by cases hgd;rfl)
    ·split at hgd
     ·rename_i hgg
      subst hgg
      exact one cb rb ds (by cases hgd;rfl)
     ·cases hgd
  ·cases hr
end Go.Proofs.YtkcghbpghjdgpaaGreatDoor
