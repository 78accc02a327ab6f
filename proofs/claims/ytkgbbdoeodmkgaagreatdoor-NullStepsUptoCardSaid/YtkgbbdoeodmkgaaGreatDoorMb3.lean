/-
  Contracts of the functions, one after another.
-/
import Derived.Test.YtkgbbdoeodmkgaaGreatDoorMb2
import Derived.Shelf.Strings.Count
import Derived.Shelf.Strings.Search3
set_option linter.all false
open Go.Abs renaming ofVal→Qa,ofVal0→Qb,isShift→Qc,aggK→Qd,purePost→Qe,combine→Qf,idsA→Qg,cellsA→Qh,numsOf→Qi,srcA→Qj,calleeA→Qk,refsA→Ql,isScalar→Qm,scalarD→Qn,scalar0→Qo,putL→Qr,unfA→Qs,sidsB→QJ,keyKD→QL,isIntK→QM,aggD→QN,aggL→QO,eqKs→QP,boxRow→QQ,nextC_more→QT,nextC_over→QU,bs_size→QV,bs_extract→QW,bs_toList→QX,bs_append→QY,byteAt_bs→QZ,bs_cells→Q0,nums_length→Q1,nums_getD→Q2
open Go.Abs.AV renaming one→Qp
open Go.Abs.D renaming one→Qq
open Go.IntKind renaming signed→Qt
open Nat renaming reduceAdd→Qu,reduceSub→Qv,reduceMul→Qw,reducePow→Qx,reduceDiv→Qy,reduceMod→Qz,reduceEqDiff→QI,reduceBEq→QK
open Int renaming reduceAdd→QA,reduceSub→QB,reduceMul→QC,reducePow→QD,reduceNeg→QE,reduceToNat→QF,reduceLT→QG,reduceLE→QH
open Option renaming toList_some→QR,toList_none→QS
namespace Go.Proofs.YtkgbbdoeodmkgaaGreatDoor.Num
open Go Go.Proofs Go.Abs
variable {G:Globals}
def isD (c:UInt8):Prop:=48≤c.toNat∧c.toNat≤57
theorem isD_iff {c:UInt8}:dig10.contains c=true↔isD c:=by
 constructor
 ·exact dig_range
 ·intro h
  have hc:c=UInt8.ofNat c.toNat:=by simp
  rw [hc]
  obtain ⟨h1,h2⟩:=h
  generalize c.toNat=n at *
  rcases (by omega:n=48∨n=49∨n=50∨n=51∨n=52∨n=53∨n=54∨n=55∨n=56∨n=57) with rfl | rfl | rfl | rfl | rfl | rfl | rfl | rfl | rfl | rfl<;>rfl
theorem digB_iff {l:List UInt8} {m:Int}:digB l m=true↔1≤l.length∧(l.length:Int)≤m∧∀ c∈l,isD c:=by
 unfold digB
 rw [Bool.and_eq_true,decide_eq_true_eq,List.all_eq_true,and_assoc]
 constructor
 ·rintro ⟨h1,h2,h3⟩;exact ⟨h1,h2,fun c hc=>isD_iff.1 (h3 c hc)⟩
 ·rintro ⟨h1,h2,h3⟩;exact ⟨h1,h2,fun c hc=>isD_iff.2 (h3 c hc)⟩
theorem cut_first {c:UInt8}:∀ {b:List UInt8} {k:Nat},(∀ d∈b.take k,d≠c)→k<b.length→b.getD k 0=c→c∈b∧cutL c b=b.take k∧cutR c b=b.drop (k+1)
 | [],k,_,h,_=>by cases h
 | d::l,0,_,_,e=>by
   obtain rfl:d=c:=by simpa using e
   simp [cutL,cutR]
 | d::l,k+1,h,hk,e=>by
   have hd:d≠c:=h d (by simp)
   obtain ⟨h1,h2,h3⟩:=cut_first (b:=l) (k:=k) (fun x hx=>h x (by simp [hx])) (by simpa using hk) (by simpa using e)
   simp [cutL,cutR,hd,h1,h2,h3]
theorem not_isD_46 {c:UInt8} (h:isD c):c≠46:=fun e=>by subst e;obtain ⟨h1,_⟩:=h;exact absurd h1 (by decide)
theorem cut_all:∀ {b:List UInt8},(∀ d∈b,isD d)→(46:UInt8)∉b∧cutL 46 b=b∧cutR 46 b=[]
 | b,h=>by
   have hm:(46:UInt8)∉b:=fun hm=>not_isD_46 (h _ hm) rfl
   exact ⟨hm,((cut_index 46 b).2 hm).2⟩
theorem cut_bad:∀ {b:List UInt8} {k:Nat},(∀ d∈b.take k,isD d)→k<b.length→¬ isD (b.getD k 0)→b.getD k 0≠46→∃ c∈cutL 46 b,¬ isD c
 | [],k,_,h,_,_=>by cases h
 | d::l,0,_,_,e,e2=>by
   have e2:d≠46:=by simpa using e2
   exact ⟨d,by simp [cutL,e2],by simpa using e⟩
 | d::l,k+1,h,hk,e,e2=>by
   have hd:d≠46:=not_isD_46 (h d (by simp))
   obtain ⟨c,h1,h2⟩:=cut_bad (b:=l) (k:=k) (fun x hx=>h x (by simp [hx])) (by simpa using hk) (by simpa using e) (by simpa using e2)
   exact ⟨c,by simp [cutL,hd,h1],h2⟩
def okB (b:List UInt8):Bool:=digB (cutL 46 b) 15 && (!decide (46∈b) || digB (cutR 46 b) 9)
theorem ok_front {b:List UInt8} {k:Nat} (hk:k≤b.length) (h1:∀ c∈b.take k,isD c) (h2:k<b.length→¬ isD (b.getD k 0)) (h:k<1∨15<k):okB b=false:=by
 cases e:okB b with
 | false=>rfl
 | true =>
  exfalso
  unfold okB at e
  rw [Bool.and_eq_true] at e
  obtain ⟨q1,q2,q3⟩:=digB_iff.1 e.1
  rcases Nat.lt_or_ge k b.length with hl | hl
  ·by_cases h46:b.getD k 0=46
   ·obtain ⟨_,e1,_⟩:=cut_first (c:=46) (fun d hd=>not_isD_46 (h1 d hd)) hl h46
    rw [e1,List.length_take] at q1 q2
    omega
   ·obtain ⟨c,c1,c2⟩:=cut_bad h1 hl (h2 hl) h46
    exact c2 (q3 c c1)
  ·obtain rfl:k=b.length:=by omega
   rw [List.take_length] at h1
   obtain ⟨_,e1,_⟩:=cut_all h1
   rw [e1] at q1 q2
   omega
theorem ok_whole {b:List UInt8} (h1:∀ c∈b,isD c) (h3:1≤b.length) (h4:b.length≤15):okB b=true∧cutL 46 b=b∧cutR 46 b=[]:=by
 obtain ⟨e1,e2,e3⟩:=cut_all h1
 refine ⟨?_,e2,e3⟩
 unfold okB
 rw [e2,digB_iff.2 ⟨h3,by omega,h1⟩,decide_eq_false e1]
 rfl
theorem ok_bad {b:List UInt8} {k:Nat} (h1:∀ c∈b.take k,isD c) (hl:k<b.length) (h2:¬ isD (b.getD k 0)) (h46:b.getD k 0≠46):okB b=false:=by
 cases e:okB b with
 | false=>rfl
 | true =>
  unfold okB at e
  rw [Bool.and_eq_true] at e
  obtain ⟨c,c1,c2⟩:=cut_bad h1 hl h2 h46
  exact absurd ((digB_iff.1 e.1).2.2 c c1) c2
theorem ok_point {b:List UInt8} {k:Nat} (h1:∀ c∈b.take k,isD c) (hl:k<b.length) (h46:b.getD k 0=46) (h3:1≤k) (h4:k≤15) :
  okB b=digB (b.drop (k+1)) 9∧cutL 46 b=b.take k∧cutR 46 b=b.drop (k+1):=by
 obtain ⟨e0,e1,e2⟩:=cut_first (c:=46) (fun d hd=>not_isD_46 (h1 d hd)) hl h46
 refine ⟨?_,e1,e2⟩
 unfold okB
 rw [e1,e2,digB_iff.2 ⟨by rw [List.length_take];omega,by rw [List.length_take];omega,h1⟩,decide_eq_true e0]
 simp
theorem take_next {b:List UInt8} {k:Nat} {p:UInt8→Prop} (h:∀ c∈b.take k,p c) (hk:k<b.length) (hp:p (b.getD k 0)):∀ c∈b.take (k+1),p c:=by
 rw [take_snoc hk]
 intro c hc
 rcases List.mem_append.1 hc with h' | h'
 ·exact h c h'
 ·simp at h';subst h'
  simpa using hp
def partsD (neg:Bool) (b:List UInt8):D:=.tup [.bool (okB b && neg),S (if okB b=true then cutL 46 b else []),S (if okB b=true then cutR 46 b else []),.bool (okB b)]
set_option maxHeartbeats 4000000 in
set_option maxRecDepth 100000 in
theorem rparts_spec (s:List UInt8) (hs:s.length≤1000000000):Ctr Tryz.prog G 83 [.d (S s)] [] (.d (partsD (decNeg s) (decBody s))) []:=by
 refine Ctr.pure (M:=M0) hmix Tryz.func83 rfl go83 ?_
 have hb:(decBody s).length≤s.length:=by
  unfold decBody
  split
  ·simp
  ·split<;>simp
 have hcase:(s=[]∧decBody s=s∧decNeg s=false)∨(0<s.length∧(s.getD 0 0).toNat=45∧decBody s=s.drop 1∧decNeg s=true)∨(0<s.length∧(s.getD 0 0).toNat=43∧decBody s=s.drop 1∧decNeg s=false)∨(0<s.length∧(s.getD 0 0).toNat≠45∧(s.getD 0 0).toNat≠43∧decBody s=s∧decNeg s=false):=by
  rcases s with _ | ⟨c,r⟩
  ·exact .inl ⟨rfl,rfl,rfl⟩
  ·by_cases e1:c=45
   ·subst e1;exact .inr (.inl ⟨by simp,rfl,rfl,rfl⟩)
   ·by_cases e2:c=43
    ·subst e2;exact .inr (.inr (.inl ⟨by simp,rfl,rfl,rfl⟩))
    ·have n1:hasP (c::r) [45]=false:=by simp [hasP,e1]
     have n2:hasP (c::r) [43]=false:=by simp [hasP,e2]
     refine .inr (.inr (.inr ⟨by simp,fun h=>e1 (UInt8.toNat_inj.1 h),fun h=>e2 (UInt8.toNat_inj.1 h),by simp [decBody,n1,n2],n1⟩))
 rcases hcase with ⟨c1,c2,c3⟩ | ⟨c0,c1,c2,c3⟩ | ⟨c0,c1,c2,c3⟩ | ⟨c0,c1,c1',c2,c3⟩
 ·subst c1
  simp (config:={maxSteps:=1000000}) (disch:=((try simp only [awL]);omega)) only [QR,QS,QT,QU,QV,QW,QX,QY,QZ,Q0,Q1,Q2,Tryz.f83,↓awU,awV,awF,Qa,Qb,Qc,Qd,forall_const,↓reduceIte,↓reduceDIte,↓Qe,Qf,Qg,Qh,Qi,Qj,Qk,Ql,Qm,Qn,Qo,Qp,Qq,Qr,Qs,implies_true,Qt,Qu,Qv,Qw,Qx,Qy,Qz,QA,QB,QC,QD,QE,QF,QG,QH,QI,QJ,QK,QL,QM,QN,QO,QP,QQ]
  have hb:([]:List UInt8).length≤0:=Nat.le_refl _
  rw [c2,c3]
  refine LoopC.fr 4642343326489650161095016453 (α:=Nat) (fun k=>0 - k) (fun k=>[(6,.d (.int .i64 k))]) (fun _=>[]) (fun k=>k=0) 0 rfl ?_ ?_
  ·exact ⟨[],rfl,by simp,by simp [setsA,keepA,SWeak,AWeak],by simp [HWeak,BWeak,SWeak,AWeak]⟩
  ·rintro k rfl
   simp only [awK,Nat.reduceMod,Nat.reduceDiv,reduceIte]
   have e0:okB []=false:=rfl
   unfold partsD
   rw [e0]
   simp (config:={maxSteps:=1000000}) (disch:=((try simp only [awL]);omega)) only [QR,QS,QT,QU,QV,QW,QX,QY,QZ,Q0,Q1,Q2,↓awU,awV,awF,Qa,Qb,Qc,Qd,forall_const,↓reduceIte,↓reduceDIte,↓Qe,Qf,Qg,Qh,Qi,Qj,Qk,Ql,Qm,Qn,Qo,Qp,Qq,Qr,Qs,implies_true,Qt,Qu,Qv,Qw,Qx,Qy,Qz,QA,QB,QC,QD,QE,QF,QG,QH,QI,QJ,QK,QL,QM,QN,QO,QP,QQ]
   first | done | rfl
 ·simp (config:={maxSteps:=1000000}) (disch:=((try simp only [awL]);omega)) only [QR,QS,QT,QU,QV,QW,QX,QY,QZ,Q0,Q1,Q2,Tryz.f83,↓awU,awV,awF,Qa,Qb,Qc,Qd,forall_const,↓reduceIte,↓reduceDIte,↓Qe,Qf,Qg,Qh,Qi,Qj,Qk,Ql,Qm,Qn,Qo,Qp,Qq,Qr,Qs,implies_true,Qt,Qu,Qv,Qw,Qx,Qy,Qz,QA,QB,QC,QD,QE,QF,QG,QH,QI,QJ,QK,QL,QM,QN,QO,QP,QQ]
  refine ⟨by rfl,?_⟩
  rw [c2] at hb
  generalize hB:List.drop 1 s=b at *
  rw [c2,c3]
  refine LoopC.fr 4642343326489650161095016453 (α:=Nat) (fun k=>b.length - k) (fun k=>[(6,.d (.int .i64 k))]) (fun _=>[]) (fun k=>k≤b.length∧∀ c∈b.take k,isD c) 0 ⟨Nat.zero_le _,by simp⟩ ?_ ?_
  ·exact ⟨[],rfl,by simp,by simp [setsA,keepA,SWeak,AWeak],by simp [HWeak,BWeak,SWeak,AWeak]⟩
  ·rintro k ⟨hk,hd⟩
   simp only [awK,Nat.reduceMod,Nat.reduceDiv,reduceIte]
   have fin:(k<b.length→¬ isD (b.getD k 0))→∀ K:Prop,((k<1∨15<k→okB b=false→K)∧(1≤k→k≤15→k=b.length→okB b=true∧cutL 46 b=b∧cutR 46 b=[]→K)∧(1≤k→k≤15→k<b.length→(b.getD k 0).toNat≠46→okB b=false→K) ∧
     (1≤k→k≤15→k<b.length→(b.getD k 0).toNat=46→okB b=digB (b.drop (k+1)) 9→cutL 46 b=b.take k→cutR 46 b=b.drop (k+1)→K))→K:=by
    rintro hn K ⟨k1,k2,k3,k4⟩
    by_cases q:k<1∨15<k
    ·exact k1 q (ok_front hk hd hn q)
    ·rcases Nat.lt_or_ge k b.length with hl | hl
     ·by_cases h46:b.getD k 0=46
      ·obtain ⟨x1,x2,x3⟩:=ok_point hd hl h46 (by omega) (by omega)
       exact k4 (by omega) (by omega) hl (by rw [h46];rfl) x1 x2 x3
      ·exact k3 (by omega) (by omega) hl (fun e=>h46 (UInt8.toNat_inj.1 e)) (ok_bad hd hl (hn hl) h46)
     ·obtain rfl:k=b.length:=by omega
      rw [List.take_length] at hd
      exact k2 (by omega) (by omega) rfl (ok_whole hd (by omega) (by omega))
   rcases Nat.lt_or_ge k b.length with hl | hl
   ·by_cases hg:isD (b.getD k 0)
    ·have hg1:=hg.1
     have hg2:=hg.2
     simp (config:={maxSteps:=1000000}) (disch:=((try simp only [awL]);omega)) only [QR,QS,QT,QU,QV,QW,QX,QY,QZ,Q0,Q1,Q2,↓awU,awV,awF,Qa,Qb,Qc,Qd,forall_const,↓reduceIte,↓reduceDIte,↓Qe,Qf,Qg,Qh,Qi,Qj,Qk,Ql,Qm,Qn,Qo,Qp,Qq,Qr,Qs,implies_true,Qt,Qu,Qv,Qw,Qx,Qy,Qz,QA,QB,QC,QD,QE,QF,QG,QH,QI,QJ,QK,QL,QM,QN,QO,QP,QQ]
     exact ⟨k+1,⟨hl,take_next hd hl hg⟩,by simp only;omega,⟨[],rfl,by simp,by simp [setsA,keepA,SWeak,AWeak],by simp [HWeak,BWeak,SWeak,AWeak]⟩⟩
    ·have hg':(b.getD k 0).toNat<48∨57<(b.getD k 0).toNat:=by unfold isD at hg;omega
     rcases hg' with hg' | hg'
     ·refine fin (fun _=>hg) _ ⟨fun q1 q2=>?_,fun q1 q2 q3=>by omega,fun q1 q2 q3 q4 q5=>?_,fun q1 q2 q3 q4 q5 q6 q7=>?_⟩
      ·rcases q1 with q1 | q1
       ·unfold partsD
        rw [q2]
        simp (config:={maxSteps:=1000000}) (disch:=((try simp only [awL]);omega)) only [QR,QS,QT,QU,QV,QW,QX,QY,QZ,Q0,Q1,Q2,↓awU,awV,awF,Qa,Qb,Qc,Qd,forall_const,↓reduceIte,↓reduceDIte,↓Qe,Qf,Qg,Qh,Qi,Qj,Qk,Ql,Qm,Qn,Qo,Qp,Qq,Qr,Qs,implies_true,Qt,Qu,Qv,Qw,Qx,Qy,Qz,QA,QB,QC,QD,QE,QF,QG,QH,QI,QJ,QK,QL,QM,QN,QO,QP,QQ]
        first | done | rfl
       ·unfold partsD
        rw [q2]
        simp (config:={maxSteps:=1000000}) (disch:=((try simp only [awL]);omega)) only [QR,QS,QT,QU,QV,QW,QX,QY,QZ,Q0,Q1,Q2,↓awU,awV,awF,Qa,Qb,Qc,Qd,forall_const,↓reduceIte,↓reduceDIte,↓Qe,Qf,Qg,Qh,Qi,Qj,Qk,Ql,Qm,Qn,Qo,Qp,Qq,Qr,Qs,implies_true,Qt,Qu,Qv,Qw,Qx,Qy,Qz,QA,QB,QC,QD,QE,QF,QG,QH,QI,QJ,QK,QL,QM,QN,QO,QP,QQ]
        first | done | rfl
      ·unfold partsD
       rw [q5]
       simp (config:={maxSteps:=1000000}) (disch:=((try simp only [awL]);omega)) only [QR,QS,QT,QU,QV,QW,QX,QY,QZ,Q0,Q1,Q2,↓awU,awV,awF,Qa,Qb,Qc,Qd,forall_const,↓reduceIte,↓reduceDIte,↓Qe,Qf,Qg,Qh,Qi,Qj,Qk,Ql,Qm,Qn,Qo,Qp,Qq,Qr,Qs,implies_true,Qt,Qu,Qv,Qw,Qx,Qy,Qz,QA,QB,QC,QD,QE,QF,QG,QH,QI,QJ,QK,QL,QM,QN,QO,QP,QQ]
       first | done | rfl
      ·skip
       have hp3:(b.drop (k+1)).length=b.length - (k+1):=List.length_drop ..
       have hlk:(b.take k).length=k:=by rw [List.length_take];omega
       unfold partsD
       rw [q5,q6,q7]
       generalize hP:b.drop (k+1)=p at *
       by_cases hp1:p.length<1
       ·have e0:digB p 9=false:=by
         cases e:digB p 9 with
         | false=>rfl
         | true=>have:=(digB_iff.1 e).1;omega
        rw [e0]
        simp (config:={maxSteps:=1000000}) (disch:=((try simp only [awL]);omega)) only [QR,QS,QT,QU,QV,QW,QX,QY,QZ,Q0,Q1,Q2,hP,↓awU,awV,awF,Qa,Qb,Qc,Qd,forall_const,↓reduceIte,↓reduceDIte,↓Qe,Qf,Qg,Qh,Qi,Qj,Qk,Ql,Qm,Qn,Qo,Qp,Qq,Qr,Qs,implies_true,Qt,Qu,Qv,Qw,Qx,Qy,Qz,QA,QB,QC,QD,QE,QF,QG,QH,QI,QJ,QK,QL,QM,QN,QO,QP,QQ]
        first | done | rfl
       ·by_cases hp2:9<p.length
        ·have e0:digB p 9=false:=by
          cases e:digB p 9 with
          | false=>rfl
          | true=>have:=(digB_iff.1 e).2.1;omega
         rw [e0]
         simp (config:={maxSteps:=1000000}) (disch:=((try simp only [awL]);omega)) only [QR,QS,QT,QU,QV,QW,QX,QY,QZ,Q0,Q1,Q2,hP,↓awU,awV,awF,Qa,Qb,Qc,Qd,forall_const,↓reduceIte,↓reduceDIte,↓Qe,Qf,Qg,Qh,Qi,Qj,Qk,Ql,Qm,Qn,Qo,Qp,Qq,Qr,Qs,implies_true,Qt,Qu,Qv,Qw,Qx,Qy,Qz,QA,QB,QC,QD,QE,QF,QG,QH,QI,QJ,QK,QL,QM,QN,QO,QP,QQ]
         first | done | rfl
        ·simp (config:={maxSteps:=1000000}) (disch:=((try simp only [awL]);omega)) only [QR,QS,QT,QU,QV,QW,QX,QY,QZ,Q0,Q1,Q2,hP,↓awU,awV,awF,Qa,Qb,Qc,Qd,forall_const,↓reduceIte,↓reduceDIte,↓Qe,Qf,Qg,Qh,Qi,Qj,Qk,Ql,Qm,Qn,Qo,Qp,Qq,Qr,Qs,implies_true,Qt,Qu,Qv,Qw,Qx,Qy,Qz,QA,QB,QC,QD,QE,QF,QG,QH,QI,QJ,QK,QL,QM,QN,QO,QP,QQ]
         refine LoopC.fr 0 (α:=Nat) (fun i=>p.length - i) (fun i=>[(2,.d (.bool true)),(3,.d (S (b.take k))),(4,.d (S p)),(7,.d (.int .i64 i))]) (fun _=>[]) (fun i=>i≤p.length∧∀ c∈p.take i,isD c) 0 ⟨Nat.zero_le _,by simp⟩ ?_ ?_
         ·exact ⟨[],rfl,by simp,by simp [setsA,keepA,SWeak,AWeak],by simp [HWeak,BWeak,SWeak,AWeak]⟩
         ·rintro i ⟨hi,hdi⟩
          simp only [awK,Nat.reduceMod,Nat.reduceDiv,reduceIte]
          rcases Nat.lt_or_ge i p.length with hil | hil
          ·by_cases hgi:isD (p.getD i 0)
           ·have hg1:=hgi.1
            have hg2:=hgi.2
            simp (config:={maxSteps:=1000000}) (disch:=((try simp only [awL]);omega)) only [QR,QS,QT,QU,QV,QW,QX,QY,QZ,Q0,Q1,Q2,↓awU,awV,awF,Qa,Qb,Qc,Qd,forall_const,↓reduceIte,↓reduceDIte,↓Qe,Qf,Qg,Qh,Qi,Qj,Qk,Ql,Qm,Qn,Qo,Qp,Qq,Qr,Qs,implies_true,Qt,Qu,Qv,Qw,Qx,Qy,Qz,QA,QB,QC,QD,QE,QF,QG,QH,QI,QJ,QK,QL,QM,QN,QO,QP,QQ]
            exact ⟨i+1,⟨hil,take_next hdi hil hgi⟩,by simp only;omega,⟨[],rfl,by simp,by simp [setsA,keepA,SWeak,AWeak],by simp [HWeak,BWeak,SWeak,AWeak]⟩⟩
           ·have e0:digB p 9=false:=by
             cases e:digB p 9 with
             | false=>rfl
             | true=>exact absurd ((digB_iff.1 e).2.2 _ (mem_getDU hil)) hgi
            have hg':(p.getD i 0).toNat<48∨57<(p.getD i 0).toNat:=by unfold isD at hgi;omega
            rw [e0]
            rcases hg' with hg' | hg'
            ·simp (config:={maxSteps:=1000000}) (disch:=((try simp only [awL]);omega)) only [QR,QS,QT,QU,QV,QW,QX,QY,QZ,Q0,Q1,Q2,↓awU,awV,awF,Qa,Qb,Qc,Qd,forall_const,↓reduceIte,↓reduceDIte,↓Qe,Qf,Qg,Qh,Qi,Qj,Qk,Ql,Qm,Qn,Qo,Qp,Qq,Qr,Qs,implies_true,Qt,Qu,Qv,Qw,Qx,Qy,Qz,QA,QB,QC,QD,QE,QF,QG,QH,QI,QJ,QK,QL,QM,QN,QO,QP,QQ]
             first | done | rfl
            ·simp (config:={maxSteps:=1000000}) (disch:=((try simp only [awL]);omega)) only [QR,QS,QT,QU,QV,QW,QX,QY,QZ,Q0,Q1,Q2,↓awU,awV,awF,Qa,Qb,Qc,Qd,forall_const,↓reduceIte,↓reduceDIte,↓Qe,Qf,Qg,Qh,Qi,Qj,Qk,Ql,Qm,Qn,Qo,Qp,Qq,Qr,Qs,implies_true,Qt,Qu,Qv,Qw,Qx,Qy,Qz,QA,QB,QC,QD,QE,QF,QG,QH,QI,QJ,QK,QL,QM,QN,QO,QP,QQ]
             first | done | rfl
          ·obtain rfl:i=p.length:=by omega
           rw [List.take_length] at hdi
           have e0:digB p 9=true:=digB_iff.2 ⟨by omega,by omega,hdi⟩
           rw [e0]
           simp (config:={maxSteps:=1000000}) (disch:=((try simp only [awL]);omega)) only [QR,QS,QT,QU,QV,QW,QX,QY,QZ,Q0,Q1,Q2,↓awU,awV,awF,Qa,Qb,Qc,Qd,forall_const,↓reduceIte,↓reduceDIte,↓Qe,Qf,Qg,Qh,Qi,Qj,Qk,Ql,Qm,Qn,Qo,Qp,Qq,Qr,Qs,implies_true,Qt,Qu,Qv,Qw,Qx,Qy,Qz,QA,QB,QC,QD,QE,QF,QG,QH,QI,QJ,QK,QL,QM,QN,QO,QP,QQ]
           first | done | rfl
     ·refine fin (fun _=>hg) _ ⟨fun q1 q2=>?_,fun q1 q2 q3=>by omega,fun q1 q2 q3 q4 q5=>?_,fun q1 q2 q3 q4 q5 q6 q7=>?_⟩
      ·rcases q1 with q1 | q1
       ·unfold partsD
        rw [q2]
        simp (config:={maxSteps:=1000000}) (disch:=((try simp only [awL]);omega)) only [QR,QS,QT,QU,QV,QW,QX,QY,QZ,Q0,Q1,Q2,↓awU,awV,awF,Qa,Qb,Qc,Qd,forall_const,↓reduceIte,↓reduceDIte,↓Qe,Qf,Qg,Qh,Qi,Qj,Qk,Ql,Qm,Qn,Qo,Qp,Qq,Qr,Qs,implies_true,Qt,Qu,Qv,Qw,Qx,Qy,Qz,QA,QB,QC,QD,QE,QF,QG,QH,QI,QJ,QK,QL,QM,QN,QO,QP,QQ]
        first | done | rfl
       ·unfold partsD
        rw [q2]
        simp (config:={maxSteps:=1000000}) (disch:=((try simp only [awL]);omega)) only [QR,QS,QT,QU,QV,QW,QX,QY,QZ,Q0,Q1,Q2,↓awU,awV,awF,Qa,Qb,Qc,Qd,forall_const,↓reduceIte,↓reduceDIte,↓Qe,Qf,Qg,Qh,Qi,Qj,Qk,Ql,Qm,Qn,Qo,Qp,Qq,Qr,Qs,implies_true,Qt,Qu,Qv,Qw,Qx,Qy,Qz,QA,QB,QC,QD,QE,QF,QG,QH,QI,QJ,QK,QL,QM,QN,QO,QP,QQ]
        first | done | rfl
      ·unfold partsD
       rw [q5]
       simp (config:={maxSteps:=1000000}) (disch:=((try simp only [awL]);omega)) only [QR,QS,QT,QU,QV,QW,QX,QY,QZ,Q0,Q1,Q2,↓awU,awV,awF,Qa,Qb,Qc,Qd,forall_const,↓reduceIte,↓reduceDIte,↓Qe,Qf,Qg,Qh,Qi,Qj,Qk,Ql,Qm,Qn,Qo,Qp,Qq,Qr,Qs,implies_true,Qt,Qu,Qv,Qw,Qx,Qy,Qz,QA,QB,QC,QD,QE,QF,QG,QH,QI,QJ,QK,QL,QM,QN,QO,QP,QQ]
       first | done | rfl
      ·omega
   ·obtain rfl:k=b.length:=by omega
    refine fin (fun h=>absurd h (Nat.lt_irrefl _)) _ ⟨fun q1 q2=>?_,fun q1 q2 q3 q4=>?_,fun q1 q2 q3=>by omega,fun q1 q2 q3=>by omega⟩
    ·rcases q1 with q1 | q1
     ·unfold partsD
      rw [q2]
      simp (config:={maxSteps:=1000000}) (disch:=((try simp only [awL]);omega)) only [QR,QS,QT,QU,QV,QW,QX,QY,QZ,Q0,Q1,Q2,↓awU,awV,awF,Qa,Qb,Qc,Qd,forall_const,↓reduceIte,↓reduceDIte,↓Qe,Qf,Qg,Qh,Qi,Qj,Qk,Ql,Qm,Qn,Qo,Qp,Qq,Qr,Qs,implies_true,Qt,Qu,Qv,Qw,Qx,Qy,Qz,QA,QB,QC,QD,QE,QF,QG,QH,QI,QJ,QK,QL,QM,QN,QO,QP,QQ]
      first | done | rfl
     ·unfold partsD
      rw [q2]
      simp (config:={maxSteps:=1000000}) (disch:=((try simp only [awL]);omega)) only [QR,QS,QT,QU,QV,QW,QX,QY,QZ,Q0,Q1,Q2,↓awU,awV,awF,Qa,Qb,Qc,Qd,forall_const,↓reduceIte,↓reduceDIte,↓Qe,Qf,Qg,Qh,Qi,Qj,Qk,Ql,Qm,Qn,Qo,Qp,Qq,Qr,Qs,implies_true,Qt,Qu,Qv,Qw,Qx,Qy,Qz,QA,QB,QC,QD,QE,QF,QG,QH,QI,QJ,QK,QL,QM,QN,QO,QP,QQ]
      first | done | rfl
    ·obtain ⟨x1,x2,x3⟩:=q4
     unfold partsD
     rw [x1,x2,x3]
     simp (config:={maxSteps:=1000000}) (disch:=((try simp only [awL]);omega)) only [QR,QS,QT,QU,QV,QW,QX,QY,QZ,Q0,Q1,Q2,List.take_length,↓awU,awV,awF,Qa,Qb,Qc,Qd,forall_const,↓reduceIte,↓reduceDIte,↓Qe,Qf,Qg,Qh,Qi,Qj,Qk,Ql,Qm,Qn,Qo,Qp,Qq,Qr,Qs,implies_true,Qt,Qu,Qv,Qw,Qx,Qy,Qz,QA,QB,QC,QD,QE,QF,QG,QH,QI,QJ,QK,QL,QM,QN,QO,QP,QQ]
     first | done | rfl
 ·simp (config:={maxSteps:=1000000}) (disch:=((try simp only [awL]);omega)) only [QR,QS,QT,QU,QV,QW,QX,QY,QZ,Q0,Q1,Q2,Tryz.f83,↓awU,awV,awF,Qa,Qb,Qc,Qd,forall_const,↓reduceIte,↓reduceDIte,↓Qe,Qf,Qg,Qh,Qi,Qj,Qk,Ql,Qm,Qn,Qo,Qp,Qq,Qr,Qs,implies_true,Qt,Qu,Qv,Qw,Qx,Qy,Qz,QA,QB,QC,QD,QE,QF,QG,QH,QI,QJ,QK,QL,QM,QN,QO,QP,QQ]
  refine ⟨by rfl,?_⟩
  rw [c2] at hb
  generalize hB:List.drop 1 s=b at *
  rw [c2,c3]
  refine LoopC.fr 4642343326489650161095016453 (α:=Nat) (fun k=>b.length - k) (fun k=>[(6,.d (.int .i64 k))]) (fun _=>[]) (fun k=>k≤b.length∧∀ c∈b.take k,isD c) 0 ⟨Nat.zero_le _,by simp⟩ ?_ ?_
  ·exact ⟨[],rfl,by simp,by simp [setsA,keepA,SWeak,AWeak],by simp [HWeak,BWeak,SWeak,AWeak]⟩
  ·rintro k ⟨hk,hd⟩
   simp only [awK,Nat.reduceMod,Nat.reduceDiv,reduceIte]
   have fin:(k<b.length→¬ isD (b.getD k 0))→∀ K:Prop,((k<1∨15<k→okB b=false→K)∧(1≤k→k≤15→k=b.length→okB b=true∧cutL 46 b=b∧cutR 46 b=[]→K)∧(1≤k→k≤15→k<b.length→(b.getD k 0).toNat≠46→okB b=false→K) ∧
     (1≤k→k≤15→k<b.length→(b.getD k 0).toNat=46→okB b=digB (b.drop (k+1)) 9→cutL 46 b=b.take k→cutR 46 b=b.drop (k+1)→K))→K:=by
    rintro hn K ⟨k1,k2,k3,k4⟩
    by_cases q:k<1∨15<k
    ·exact k1 q (ok_front hk hd hn q)
    ·rcases Nat.lt_or_ge k b.length with hl | hl
     ·by_cases h46:b.getD k 0=46
      ·obtain ⟨x1,x2,x3⟩:=ok_point hd hl h46 (by omega) (by omega)
       exact k4 (by omega) (by omega) hl (by rw [h46];rfl) x1 x2 x3
      ·exact k3 (by omega) (by omega) hl (fun e=>h46 (UInt8.toNat_inj.1 e)) (ok_bad hd hl (hn hl) h46)
     ·obtain rfl:k=b.length:=by omega
      rw [List.take_length] at hd
      exact k2 (by omega) (by omega) rfl (ok_whole hd (by omega) (by omega))
   rcases Nat.lt_or_ge k b.length with hl | hl
   ·by_cases hg:isD (b.getD k 0)
    ·have hg1:=hg.1
     have hg2:=hg.2
     simp (config:={maxSteps:=1000000}) (disch:=((try simp only [awL]);omega)) only [QR,QS,QT,QU,QV,QW,QX,QY,QZ,Q0,Q1,Q2,↓awU,awV,awF,Qa,Qb,Qc,Qd,forall_const,↓reduceIte,↓reduceDIte,↓Qe,Qf,Qg,Qh,Qi,Qj,Qk,Ql,Qm,Qn,Qo,Qp,Qq,Qr,Qs,implies_true,Qt,Qu,Qv,Qw,Qx,Qy,Qz,QA,QB,QC,QD,QE,QF,QG,QH,QI,QJ,QK,QL,QM,QN,QO,QP,QQ]
     exact ⟨k+1,⟨hl,take_next hd hl hg⟩,by simp only;omega,⟨[],rfl,by simp,by simp [setsA,keepA,SWeak,AWeak],by simp [HWeak,BWeak,SWeak,AWeak]⟩⟩
    ·have hg':(b.getD k 0).toNat<48∨57<(b.getD k 0).toNat:=by unfold isD at hg;omega
     rcases hg' with hg' | hg'
     ·refine fin (fun _=>hg) _ ⟨fun q1 q2=>?_,fun q1 q2 q3=>by omega,fun q1 q2 q3 q4 q5=>?_,fun q1 q2 q3 q4 q5 q6 q7=>?_⟩
      ·rcases q1 with q1 | q1
       ·unfold partsD
        rw [q2]
        simp (config:={maxSteps:=1000000}) (disch:=((try simp only [awL]);omega)) only [QR,QS,QT,QU,QV,QW,QX,QY,QZ,Q0,Q1,Q2,↓awU,awV,awF,Qa,Qb,Qc,Qd,forall_const,↓reduceIte,↓reduceDIte,↓Qe,Qf,Qg,Qh,Qi,Qj,Qk,Ql,Qm,Qn,Qo,Qp,Qq,Qr,Qs,implies_true,Qt,Qu,Qv,Qw,Qx,Qy,Qz,QA,QB,QC,QD,QE,QF,QG,QH,QI,QJ,QK,QL,QM,QN,QO,QP,QQ]
        first | done | rfl
       ·unfold partsD
        rw [q2]
        simp (config:={maxSteps:=1000000}) (disch:=((try simp only [awL]);omega)) only [QR,QS,QT,QU,QV,QW,QX,QY,QZ,Q0,Q1,Q2,↓awU,awV,awF,Qa,Qb,Qc,Qd,forall_const,↓reduceIte,↓reduceDIte,↓Qe,Qf,Qg,Qh,Qi,Qj,Qk,Ql,Qm,Qn,Qo,Qp,Qq,Qr,Qs,implies_true,Qt,Qu,Qv,Qw,Qx,Qy,Qz,QA,QB,QC,QD,QE,QF,QG,QH,QI,QJ,QK,QL,QM,QN,QO,QP,QQ]
        first | done | rfl
      ·unfold partsD
       rw [q5]
       simp (config:={maxSteps:=1000000}) (disch:=((try simp only [awL]);omega)) only [QR,QS,QT,QU,QV,QW,QX,QY,QZ,Q0,Q1,Q2,↓awU,awV,awF,Qa,Qb,Qc,Qd,forall_const,↓reduceIte,↓reduceDIte,↓Qe,Qf,Qg,Qh,Qi,Qj,Qk,Ql,Qm,Qn,Qo,Qp,Qq,Qr,Qs,implies_true,Qt,Qu,Qv,Qw,Qx,Qy,Qz,QA,QB,QC,QD,QE,QF,QG,QH,QI,QJ,QK,QL,QM,QN,QO,QP,QQ]
       first | done | rfl
      ·skip
       have hp3:(b.drop (k+1)).length=b.length - (k+1):=List.length_drop ..
       have hlk:(b.take k).length=k:=by rw [List.length_take];omega
       unfold partsD
       rw [q5,q6,q7]
       generalize hP:b.drop (k+1)=p at *
       by_cases hp1:p.length<1
       ·have e0:digB p 9=false:=by
         cases e:digB p 9 with
         | false=>rfl
         | true=>have:=(digB_iff.1 e).1;omega
        rw [e0]
        simp (config:={maxSteps:=1000000}) (disch:=((try simp only [awL]);omega)) only [QR,QS,QT,QU,QV,QW,QX,QY,QZ,Q0,Q1,Q2,hP,↓awU,awV,awF,Qa,Qb,Qc,Qd,forall_const,↓reduceIte,↓reduceDIte,↓Qe,Qf,Qg,Qh,Qi,Qj,Qk,Ql,Qm,Qn,Qo,Qp,Qq,Qr,Qs,implies_true,Qt,Qu,Qv,Qw,Qx,Qy,Qz,QA,QB,QC,QD,QE,QF,QG,QH,QI,QJ,QK,QL,QM,QN,QO,QP,QQ]
        first | done | rfl
       ·by_cases hp2:9<p.length
        ·have e0:digB p 9=false:=by
          cases e:digB p 9 with
          | false=>rfl
          | true=>have:=(digB_iff.1 e).2.1;omega
         rw [e0]
         simp (config:={maxSteps:=1000000}) (disch:=((try simp only [awL]);omega)) only [QR,QS,QT,QU,QV,QW,QX,QY,QZ,Q0,Q1,Q2,hP,↓awU,awV,awF,Qa,Qb,Qc,Qd,forall_const,↓reduceIte,↓reduceDIte,↓Qe,Qf,Qg,Qh,Qi,Qj,Qk,Ql,Qm,Qn,Qo,Qp,Qq,Qr,Qs,implies_true,Qt,Qu,Qv,Qw,Qx,Qy,Qz,QA,QB,QC,QD,QE,QF,QG,QH,QI,QJ,QK,QL,QM,QN,QO,QP,QQ]
         first | done | rfl
        ·simp (config:={maxSteps:=1000000}) (disch:=((try simp only [awL]);omega)) only [QR,QS,QT,QU,QV,QW,QX,QY,QZ,Q0,Q1,Q2,hP,↓awU,awV,awF,Qa,Qb,Qc,Qd,forall_const,↓reduceIte,↓reduceDIte,↓Qe,Qf,Qg,Qh,Qi,Qj,Qk,Ql,Qm,Qn,Qo,Qp,Qq,Qr,Qs,implies_true,Qt,Qu,Qv,Qw,Qx,Qy,Qz,QA,QB,QC,QD,QE,QF,QG,QH,QI,QJ,QK,QL,QM,QN,QO,QP,QQ]
         refine LoopC.fr 0 (α:=Nat) (fun i=>p.length - i) (fun i=>[(2,.d (.bool false)),(3,.d (S (b.take k))),(4,.d (S p)),(7,.d (.int .i64 i))]) (fun _=>[]) (fun i=>i≤p.length∧∀ c∈p.take i,isD c) 0 ⟨Nat.zero_le _,by simp⟩ ?_ ?_
         ·exact ⟨[],rfl,by simp,by simp [setsA,keepA,SWeak,AWeak],by simp [HWeak,BWeak,SWeak,AWeak]⟩
         ·rintro i ⟨hi,hdi⟩
          simp only [awK,Nat.reduceMod,Nat.reduceDiv,reduceIte]
          rcases Nat.lt_or_ge i p.length with hil | hil
          ·by_cases hgi:isD (p.getD i 0)
           ·have hg1:=hgi.1
            have hg2:=hgi.2
            simp (config:={maxSteps:=1000000}) (disch:=((try simp only [awL]);omega)) only [QR,QS,QT,QU,QV,QW,QX,QY,QZ,Q0,Q1,Q2,↓awU,awV,awF,Qa,Qb,Qc,Qd,forall_const,↓reduceIte,↓reduceDIte,↓Qe,Qf,Qg,Qh,Qi,Qj,Qk,Ql,Qm,Qn,Qo,Qp,Qq,Qr,Qs,implies_true,Qt,Qu,Qv,Qw,Qx,Qy,Qz,QA,QB,QC,QD,QE,QF,QG,QH,QI,QJ,QK,QL,QM,QN,QO,QP,QQ]
            exact ⟨i+1,⟨hil,take_next hdi hil hgi⟩,by simp only;omega,⟨[],rfl,by simp,by simp [setsA,keepA,SWeak,AWeak],by simp [HWeak,BWeak,SWeak,AWeak]⟩⟩
           ·have e0:digB p 9=false:=by
             cases e:digB p 9 with
             | false=>rfl
             | true=>exact absurd ((digB_iff.1 e).2.2 _ (mem_getDU hil)) hgi
            have hg':(p.getD i 0).toNat<48∨57<(p.getD i 0).toNat:=by unfold isD at hgi;omega
            rw [e0]
            rcases hg' with hg' | hg'
            ·simp (config:={maxSteps:=1000000}) (disch:=((try simp only [awL]);omega)) only [QR,QS,QT,QU,QV,QW,QX,QY,QZ,Q0,Q1,Q2,↓awU,awV,awF,Qa,Qb,Qc,Qd,forall_const,↓reduceIte,↓reduceDIte,↓Qe,Qf,Qg,Qh,Qi,Qj,Qk,Ql,Qm,Qn,Qo,Qp,Qq,Qr,Qs,implies_true,Qt,Qu,Qv,Qw,Qx,Qy,Qz,QA,QB,QC,QD,QE,QF,QG,QH,QI,QJ,QK,QL,QM,QN,QO,QP,QQ]
             first | done | rfl
            ·simp (config:={maxSteps:=1000000}) (disch:=((try simp only [awL]);omega)) only [QR,QS,QT,QU,QV,QW,QX,QY,QZ,Q0,Q1,Q2,↓awU,awV,awF,Qa,Qb,Qc,Qd,forall_const,↓reduceIte,↓reduceDIte,↓Qe,Qf,Qg,Qh,Qi,Qj,Qk,Ql,Qm,Qn,Qo,Qp,Qq,Qr,Qs,implies_true,Qt,Qu,Qv,Qw,Qx,Qy,Qz,QA,QB,QC,QD,QE,QF,QG,QH,QI,QJ,QK,QL,QM,QN,QO,QP,QQ]
             first | done | rfl
          ·obtain rfl:i=p.length:=by omega
           rw [List.take_length] at hdi
           have e0:digB p 9=true:=digB_iff.2 ⟨by omega,by omega,hdi⟩
           rw [e0]
           simp (config:={maxSteps:=1000000}) (disch:=((try simp only [awL]);omega)) only [QR,QS,QT,QU,QV,QW,QX,QY,QZ,Q0,Q1,Q2,↓awU,awV,awF,Qa,Qb,Qc,Qd,forall_const,↓reduceIte,↓reduceDIte,↓Qe,Qf,Qg,Qh,Qi,Qj,Qk,Ql,Qm,Qn,Qo,Qp,Qq,Qr,Qs,implies_true,Qt,Qu,Qv,Qw,Qx,Qy,Qz,QA,QB,QC,QD,QE,QF,QG,QH,QI,QJ,QK,QL,QM,QN,QO,QP,QQ]
           first | done | rfl
     ·refine fin (fun _=>hg) _ ⟨fun q1 q2=>?_,fun q1 q2 q3=>by omega,fun q1 q2 q3 q4 q5=>?_,fun q1 q2 q3 q4 q5 q6 q7=>?_⟩
      ·rcases q1 with q1 | q1
       ·unfold partsD
        rw [q2]
        simp (config:={maxSteps:=1000000}) (disch:=((try simp only [awL]);omega)) only [QR,QS,QT,QU,QV,QW,QX,QY,QZ,Q0,Q1,Q2,↓awU,awV,awF,Qa,Qb,Qc,Qd,forall_const,↓reduceIte,↓reduceDIte,↓Qe,Qf,Qg,Qh,Qi,Qj,Qk,Ql,Qm,Qn,Qo,Qp,Qq,Qr,Qs,implies_true,Qt,Qu,Qv,Qw,Qx,Qy,Qz,QA,QB,QC,QD,QE,QF,QG,QH,QI,QJ,QK,QL,QM,QN,QO,QP,QQ]
        first | done | rfl
       ·unfold partsD
        rw [q2]
        simp (config:={maxSteps:=1000000}) (disch:=((try simp only [awL]);omega)) only [QR,QS,QT,QU,QV,QW,QX,QY,QZ,Q0,Q1,Q2,↓awU,awV,awF,Qa,Qb,Qc,Qd,forall_const,↓reduceIte,↓reduceDIte,↓Qe,Qf,Qg,Qh,Qi,Qj,Qk,Ql,Qm,Qn,Qo,Qp,Qq,Qr,Qs,implies_true,Qt,Qu,Qv,Qw,Qx,Qy,Qz,QA,QB,QC,QD,QE,QF,QG,QH,QI,QJ,QK,QL,QM,QN,QO,QP,QQ]
        first | done | rfl
      ·unfold partsD
       rw [q5]
       simp (config:={maxSteps:=1000000}) (disch:=((try simp only [awL]);omega)) only [QR,QS,QT,QU,QV,QW,QX,QY,QZ,Q0,Q1,Q2,↓awU,awV,awF,Qa,Qb,Qc,Qd,forall_const,↓reduceIte,↓reduceDIte,↓Qe,Qf,Qg,Qh,Qi,Qj,Qk,Ql,Qm,Qn,Qo,Qp,Qq,Qr,Qs,implies_true,Qt,Qu,Qv,Qw,Qx,Qy,Qz,QA,QB,QC,QD,QE,QF,QG,QH,QI,QJ,QK,QL,QM,QN,QO,QP,QQ]
       first | done | rfl
      ·omega
   ·obtain rfl:k=b.length:=by omega
    refine fin (fun h=>absurd h (Nat.lt_irrefl _)) _ ⟨fun q1 q2=>?_,fun q1 q2 q3 q4=>?_,fun q1 q2 q3=>by omega,fun q1 q2 q3=>by omega⟩
    ·rcases q1 with q1 | q1
     ·unfold partsD
      rw [q2]
      simp (config:={maxSteps:=1000000}) (disch:=((try simp only [awL]);omega)) only [QR,QS,QT,QU,QV,QW,QX,QY,QZ,Q0,Q1,Q2,↓awU,awV,awF,Qa,Qb,Qc,Qd,forall_const,↓reduceIte,↓reduceDIte,↓Qe,Qf,Qg,Qh,Qi,Qj,Qk,Ql,Qm,Qn,Qo,Qp,Qq,Qr,Qs,implies_true,Qt,Qu,Qv,Qw,Qx,Qy,Qz,QA,QB,QC,QD,QE,QF,QG,QH,QI,QJ,QK,QL,QM,QN,QO,QP,QQ]
      first | done | rfl
     ·unfold partsD
      rw [q2]
      simp (config:={maxSteps:=1000000}) (disch:=((try simp only [awL]);omega)) only [QR,QS,QT,QU,QV,QW,QX,QY,QZ,Q0,Q1,Q2,↓awU,awV,awF,Qa,Qb,Qc,Qd,forall_const,↓reduceIte,↓reduceDIte,↓Qe,Qf,Qg,Qh,Qi,Qj,Qk,Ql,Qm,Qn,Qo,Qp,Qq,Qr,Qs,implies_true,Qt,Qu,Qv,Qw,Qx,Qy,Qz,QA,QB,QC,QD,QE,QF,QG,QH,QI,QJ,QK,QL,QM,QN,QO,QP,QQ]
      first | done | rfl
    ·obtain ⟨x1,x2,x3⟩:=q4
     unfold partsD
     rw [x1,x2,x3]
     simp (config:={maxSteps:=1000000}) (disch:=((try simp only [awL]);omega)) only [QR,QS,QT,QU,QV,QW,QX,QY,QZ,Q0,Q1,Q2,List.take_length,↓awU,awV,awF,Qa,Qb,Qc,Qd,forall_const,↓reduceIte,↓reduceDIte,↓Qe,Qf,Qg,Qh,Qi,Qj,Qk,Ql,Qm,Qn,Qo,Qp,Qq,Qr,Qs,implies_true,Qt,Qu,Qv,Qw,Qx,Qy,Qz,QA,QB,QC,QD,QE,QF,QG,QH,QI,QJ,QK,QL,QM,QN,QO,QP,QQ]
     first | done | rfl
 ·simp (config:={maxSteps:=1000000}) (disch:=((try simp only [awL]);omega)) only [QR,QS,QT,QU,QV,QW,QX,QY,QZ,Q0,Q1,Q2,Tryz.f83,↓awU,awV,awF,Qa,Qb,Qc,Qd,forall_const,↓reduceIte,↓reduceDIte,↓Qe,Qf,Qg,Qh,Qi,Qj,Qk,Ql,Qm,Qn,Qo,Qp,Qq,Qr,Qs,implies_true,Qt,Qu,Qv,Qw,Qx,Qy,Qz,QA,QB,QC,QD,QE,QF,QG,QH,QI,QJ,QK,QL,QM,QN,QO,QP,QQ]
  rw [c2,c3]
  refine LoopC.fr 4642343326489650161095016453 (α:=Nat) (fun k=>s.length - k) (fun k=>[(6,.d (.int .i64 k))]) (fun _=>[]) (fun k=>k≤s.length∧∀ c∈s.take k,isD c) 0 ⟨Nat.zero_le _,by simp⟩ ?_ ?_
  ·exact ⟨[],rfl,by simp,by simp [setsA,keepA,SWeak,AWeak],by simp [HWeak,BWeak,SWeak,AWeak]⟩
  ·rintro k ⟨hk,hd⟩
   simp only [awK,Nat.reduceMod,Nat.reduceDiv,reduceIte]
   have fin:(k<s.length→¬ isD (s.getD k 0))→∀ K:Prop,((k<1∨15<k→okB s=false→K)∧(1≤k→k≤15→k=s.length→okB s=true∧cutL 46 s=s∧cutR 46 s=[]→K)∧(1≤k→k≤15→k<s.length→(s.getD k 0).toNat≠46→okB s=false→K) ∧
     (1≤k→k≤15→k<s.length→(s.getD k 0).toNat=46→okB s=digB (s.drop (k+1)) 9→cutL 46 s=s.take k→cutR 46 s=s.drop (k+1)→K))→K:=by
    rintro hn K ⟨k1,k2,k3,k4⟩
    by_cases q:k<1∨15<k
    ·exact k1 q (ok_front hk hd hn q)
    ·rcases Nat.lt_or_ge k s.length with hl | hl
     ·by_cases h46:s.getD k 0=46
      ·obtain ⟨x1,x2,x3⟩:=ok_point hd hl h46 (by omega) (by omega)
       exact k4 (by omega) (by omega) hl (by rw [h46];rfl) x1 x2 x3
      ·exact k3 (by omega) (by omega) hl (fun e=>h46 (UInt8.toNat_inj.1 e)) (ok_bad hd hl (hn hl) h46)
     ·obtain rfl:k=s.length:=by omega
      rw [List.take_length] at hd
      exact k2 (by omega) (by omega) rfl (ok_whole hd (by omega) (by omega))
   rcases Nat.lt_or_ge k s.length with hl | hl
   ·by_cases hg:isD (s.getD k 0)
    ·have hg1:=hg.1
     have hg2:=hg.2
     simp (config:={maxSteps:=1000000}) (disch:=((try simp only [awL]);omega)) only [QR,QS,QT,QU,QV,QW,QX,QY,QZ,Q0,Q1,Q2,↓awU,awV,awF,Qa,Qb,Qc,Qd,forall_const,↓reduceIte,↓reduceDIte,↓Qe,Qf,Qg,Qh,Qi,Qj,Qk,Ql,Qm,Qn,Qo,Qp,Qq,Qr,Qs,implies_true,Qt,Qu,Qv,Qw,Qx,Qy,Qz,QA,QB,QC,QD,QE,QF,QG,QH,QI,QJ,QK,QL,QM,QN,QO,QP,QQ]
     exact ⟨k+1,⟨hl,take_next hd hl hg⟩,by simp only;omega,⟨[],rfl,by simp,by simp [setsA,keepA,SWeak,AWeak],by simp [HWeak,BWeak,SWeak,AWeak]⟩⟩
    ·have hg':(s.getD k 0).toNat<48∨57<(s.getD k 0).toNat:=by unfold isD at hg;omega
     rcases hg' with hg' | hg'
     ·refine fin (fun _=>hg) _ ⟨fun q1 q2=>?_,fun q1 q2 q3=>by omega,fun q1 q2 q3 q4 q5=>?_,fun q1 q2 q3 q4 q5 q6 q7=>?_⟩
      ·rcases q1 with q1 | q1
       ·unfold partsD
        rw [q2]
        simp (config:={maxSteps:=1000000}) (disch:=((try simp only [awL]);omega)) only [QR,QS,QT,QU,QV,QW,QX,QY,QZ,Q0,Q1,Q2,↓awU,awV,awF,Qa,Qb,Qc,Qd,forall_const,↓reduceIte,↓reduceDIte,↓Qe,Qf,Qg,Qh,Qi,Qj,Qk,Ql,Qm,Qn,Qo,Qp,Qq,Qr,Qs,implies_true,Qt,Qu,Qv,Qw,Qx,Qy,Qz,QA,QB,QC,QD,QE,QF,QG,QH,QI,QJ,QK,QL,QM,QN,QO,QP,QQ]
        first | done | rfl
       ·unfold partsD
        rw [q2]
        simp (config:={maxSteps:=1000000}) (disch:=((try simp only [awL]);omega)) only [QR,QS,QT,QU,QV,QW,QX,QY,QZ,Q0,Q1,Q2,↓awU,awV,awF,Qa,Qb,Qc,Qd,forall_const,↓reduceIte,↓reduceDIte,↓Qe,Qf,Qg,Qh,Qi,Qj,Qk,Ql,Qm,Qn,Qo,Qp,Qq,Qr,Qs,implies_true,Qt,Qu,Qv,Qw,Qx,Qy,Qz,QA,QB,QC,QD,QE,QF,QG,QH,QI,QJ,QK,QL,QM,QN,QO,QP,QQ]
        first | done | rfl
      ·unfold partsD
       rw [q5]
       simp (config:={maxSteps:=1000000}) (disch:=((try simp only [awL]);omega)) only [QR,QS,QT,QU,QV,QW,QX,QY,QZ,Q0,Q1,Q2,↓awU,awV,awF,Qa,Qb,Qc,Qd,forall_const,↓reduceIte,↓reduceDIte,↓Qe,Qf,Qg,Qh,Qi,Qj,Qk,Ql,Qm,Qn,Qo,Qp,Qq,Qr,Qs,implies_true,Qt,Qu,Qv,Qw,Qx,Qy,Qz,QA,QB,QC,QD,QE,QF,QG,QH,QI,QJ,QK,QL,QM,QN,QO,QP,QQ]
       first | done | rfl
      ·skip
       have hp3:(s.drop (k+1)).length=s.length - (k+1):=List.length_drop ..
       have hlk:(s.take k).length=k:=by rw [List.length_take];omega
       unfold partsD
       rw [q5,q6,q7]
       generalize hP:s.drop (k+1)=p at *
       by_cases hp1:p.length<1
       ·have e0:digB p 9=false:=by
         cases e:digB p 9 with
         | false=>rfl
         | true=>have:=(digB_iff.1 e).1;omega
        rw [e0]
        simp (config:={maxSteps:=1000000}) (disch:=((try simp only [awL]);omega)) only [QR,QS,QT,QU,QV,QW,QX,QY,QZ,Q0,Q1,Q2,hP,↓awU,awV,awF,Qa,Qb,Qc,Qd,forall_const,↓reduceIte,↓reduceDIte,↓Qe,Qf,Qg,Qh,Qi,Qj,Qk,Ql,Qm,Qn,Qo,Qp,Qq,Qr,Qs,implies_true,Qt,Qu,Qv,Qw,Qx,Qy,Qz,QA,QB,QC,QD,QE,QF,QG,QH,QI,QJ,QK,QL,QM,QN,QO,QP,QQ]
        first | done | rfl
       ·by_cases hp2:9<p.length
        ·have e0:digB p 9=false:=by
          cases e:digB p 9 with
          | false=>rfl
          | true=>have:=(digB_iff.1 e).2.1;omega
         rw [e0]
         simp (config:={maxSteps:=1000000}) (disch:=((try simp only [awL]);omega)) only [QR,QS,QT,QU,QV,QW,QX,QY,QZ,Q0,Q1,Q2,hP,↓awU,awV,awF,Qa,Qb,Qc,Qd,forall_const,↓reduceIte,↓reduceDIte,↓Qe,Qf,Qg,Qh,Qi,Qj,Qk,Ql,Qm,Qn,Qo,Qp,Qq,Qr,Qs,implies_true,Qt,Qu,Qv,Qw,Qx,Qy,Qz,QA,QB,QC,QD,QE,QF,QG,QH,QI,QJ,QK,QL,QM,QN,QO,QP,QQ]
         first | done | rfl
        ·simp (config:={maxSteps:=1000000}) (disch:=((try simp only [awL]);omega)) only [QR,QS,QT,QU,QV,QW,QX,QY,QZ,Q0,Q1,Q2,hP,↓awU,awV,awF,Qa,Qb,Qc,Qd,forall_const,↓reduceIte,↓reduceDIte,↓Qe,Qf,Qg,Qh,Qi,Qj,Qk,Ql,Qm,Qn,Qo,Qp,Qq,Qr,Qs,implies_true,Qt,Qu,Qv,Qw,Qx,Qy,Qz,QA,QB,QC,QD,QE,QF,QG,QH,QI,QJ,QK,QL,QM,QN,QO,QP,QQ]
         refine LoopC.fr 0 (α:=Nat) (fun i=>p.length - i) (fun i=>[(2,.d (.bool false)),(3,.d (S (s.take k))),(4,.d (S p)),(7,.d (.int .i64 i))]) (fun _=>[]) (fun i=>i≤p.length∧∀ c∈p.take i,isD c) 0 ⟨Nat.zero_le _,by simp⟩ ?_ ?_
         ·exact ⟨[],rfl,by simp,by simp [setsA,keepA,SWeak,AWeak],by simp [HWeak,BWeak,SWeak,AWeak]⟩
         ·rintro i ⟨hi,hdi⟩
          simp only [awK,Nat.reduceMod,Nat.reduceDiv,reduceIte]
          rcases Nat.lt_or_ge i p.length with hil | hil
          ·by_cases hgi:isD (p.getD i 0)
           ·have hg1:=hgi.1
            have hg2:=hgi.2
            simp (config:={maxSteps:=1000000}) (disch:=((try simp only [awL]);omega)) only [QR,QS,QT,QU,QV,QW,QX,QY,QZ,Q0,Q1,Q2,↓awU,awV,awF,Qa,Qb,Qc,Qd,forall_const,↓reduceIte,↓reduceDIte,↓Qe,Qf,Qg,Qh,Qi,Qj,Qk,Ql,Qm,Qn,Qo,Qp,Qq,Qr,Qs,implies_true,Qt,Qu,Qv,Qw,Qx,Qy,Qz,QA,QB,QC,QD,QE,QF,QG,QH,QI,QJ,QK,QL,QM,QN,QO,QP,QQ]
            exact ⟨i+1,⟨hil,take_next hdi hil hgi⟩,by simp only;omega,⟨[],rfl,by simp,by simp [setsA,keepA,SWeak,AWeak],by simp [HWeak,BWeak,SWeak,AWeak]⟩⟩
           ·have e0:digB p 9=false:=by
             cases e:digB p 9 with
             | false=>rfl
             | true=>exact absurd ((digB_iff.1 e).2.2 _ (mem_getDU hil)) hgi
            have hg':(p.getD i 0).toNat<48∨57<(p.getD i 0).toNat:=by unfold isD at hgi;omega
            rw [e0]
            rcases hg' with hg' | hg'
            ·simp (config:={maxSteps:=1000000}) (disch:=((try simp only [awL]);omega)) only [QR,QS,QT,QU,QV,QW,QX,QY,QZ,Q0,Q1,Q2,↓awU,awV,awF,Qa,Qb,Qc,Qd,forall_const,↓reduceIte,↓reduceDIte,↓Qe,Qf,Qg,Qh,Qi,Qj,Qk,Ql,Qm,Qn,Qo,Qp,Qq,Qr,Qs,implies_true,Qt,Qu,Qv,Qw,Qx,Qy,Qz,QA,QB,QC,QD,QE,QF,QG,QH,QI,QJ,QK,QL,QM,QN,QO,QP,QQ]
             first | done | rfl
            ·simp (config:={maxSteps:=1000000}) (disch:=((try simp only [awL]);omega)) only [QR,QS,QT,QU,QV,QW,QX,QY,QZ,Q0,Q1,Q2,↓awU,awV,awF,Qa,Qb,Qc,Qd,forall_const,↓reduceIte,↓reduceDIte,↓Qe,Qf,Qg,Qh,Qi,Qj,Qk,Ql,Qm,Qn,Qo,Qp,Qq,Qr,Qs,implies_true,Qt,Qu,Qv,Qw,Qx,Qy,Qz,QA,QB,QC,QD,QE,QF,QG,QH,QI,QJ,QK,QL,QM,QN,QO,QP,QQ]
             first | done | rfl
          ·obtain rfl:i=p.length:=by omega
           rw [List.take_length] at hdi
           have e0:digB p 9=true:=digB_iff.2 ⟨by omega,by omega,hdi⟩
           rw [e0]
           simp (config:={maxSteps:=1000000}) (disch:=((try simp only [awL]);omega)) only [QR,QS,QT,QU,QV,QW,QX,QY,QZ,Q0,Q1,Q2,↓awU,awV,awF,Qa,Qb,Qc,Qd,forall_const,↓reduceIte,↓reduceDIte,↓Qe,Qf,Qg,Qh,Qi,Qj,Qk,Ql,Qm,Qn,Qo,Qp,Qq,Qr,Qs,implies_true,Qt,Qu,Qv,Qw,Qx,Qy,Qz,QA,QB,QC,QD,QE,QF,QG,QH,QI,QJ,QK,QL,QM,QN,QO,QP,QQ]
           first | done | rfl
     ·refine fin (fun _=>hg) _ ⟨fun q1 q2=>?_,fun q1 q2 q3=>by omega,fun q1 q2 q3 q4 q5=>?_,fun q1 q2 q3 q4 q5 q6 q7=>?_⟩
      ·rcases q1 with q1 | q1
       ·unfold partsD
        rw [q2]
        simp (config:={maxSteps:=1000000}) (disch:=((try simp only [awL]);omega)) only [QR,QS,QT,QU,QV,QW,QX,QY,QZ,Q0,Q1,Q2,↓awU,awV,awF,Qa,Qb,Qc,Qd,forall_const,↓reduceIte,↓reduceDIte,↓Qe,Qf,Qg,Qh,Qi,Qj,Qk,Ql,Qm,Qn,Qo,Qp,Qq,Qr,Qs,implies_true,Qt,Qu,Qv,Qw,Qx,Qy,Qz,QA,QB,QC,QD,QE,QF,QG,QH,QI,QJ,QK,QL,QM,QN,QO,QP,QQ]
        first | done | rfl
       ·unfold partsD
        rw [q2]
        simp (config:={maxSteps:=1000000}) (disch:=((try simp only [awL]);omega)) only [QR,QS,QT,QU,QV,QW,QX,QY,QZ,Q0,Q1,Q2,↓awU,awV,awF,Qa,Qb,Qc,Qd,forall_const,↓reduceIte,↓reduceDIte,↓Qe,Qf,Qg,Qh,Qi,Qj,Qk,Ql,Qm,Qn,Qo,Qp,Qq,Qr,Qs,implies_true,Qt,Qu,Qv,Qw,Qx,Qy,Qz,QA,QB,QC,QD,QE,QF,QG,QH,QI,QJ,QK,QL,QM,QN,QO,QP,QQ]
        first | done | rfl
      ·unfold partsD
       rw [q5]
       simp (config:={maxSteps:=1000000}) (disch:=((try simp only [awL]);omega)) only [QR,QS,QT,QU,QV,QW,QX,QY,QZ,Q0,Q1,Q2,↓awU,awV,awF,Qa,Qb,Qc,Qd,forall_const,↓reduceIte,↓reduceDIte,↓Qe,Qf,Qg,Qh,Qi,Qj,Qk,Ql,Qm,Qn,Qo,Qp,Qq,Qr,Qs,implies_true,Qt,Qu,Qv,Qw,Qx,Qy,Qz,QA,QB,QC,QD,QE,QF,QG,QH,QI,QJ,QK,QL,QM,QN,QO,QP,QQ]
       first | done | rfl
      ·omega
   ·obtain rfl:k=s.length:=by omega
    refine fin (fun h=>absurd h (Nat.lt_irrefl _)) _ ⟨fun q1 q2=>?_,fun q1 q2 q3 q4=>?_,fun q1 q2 q3=>by omega,fun q1 q2 q3=>by omega⟩
    ·rcases q1 with q1 | q1
     ·exfalso;omega
     ·unfold partsD
      rw [q2]
      simp (config:={maxSteps:=1000000}) (disch:=((try simp only [awL]);omega)) only [QR,QS,QT,QU,QV,QW,QX,QY,QZ,Q0,Q1,Q2,↓awU,awV,awF,Qa,Qb,Qc,Qd,forall_const,↓reduceIte,↓reduceDIte,↓Qe,Qf,Qg,Qh,Qi,Qj,Qk,Ql,Qm,Qn,Qo,Qp,Qq,Qr,Qs,implies_true,Qt,Qu,Qv,Qw,Qx,Qy,Qz,QA,QB,QC,QD,QE,QF,QG,QH,QI,QJ,QK,QL,QM,QN,QO,QP,QQ]
      first | done | rfl
    ·obtain ⟨x1,x2,x3⟩:=q4
     unfold partsD
     rw [x1,x2,x3]
     simp (config:={maxSteps:=1000000}) (disch:=((try simp only [awL]);omega)) only [QR,QS,QT,QU,QV,QW,QX,QY,QZ,Q0,Q1,Q2,List.take_length,↓awU,awV,awF,Qa,Qb,Qc,Qd,forall_const,↓reduceIte,↓reduceDIte,↓Qe,Qf,Qg,Qh,Qi,Qj,Qk,Ql,Qm,Qn,Qo,Qp,Qq,Qr,Qs,implies_true,Qt,Qu,Qv,Qw,Qx,Qy,Qz,QA,QB,QC,QD,QE,QF,QG,QH,QI,QJ,QK,QL,QM,QN,QO,QP,QQ]
     first | done | rfl
end Go.Proofs.YtkgbbdoeodmkgaaGreatDoor.Num
namespace Go.Proofs.YtkgbbdoeodmkgaaGreatDoor.Num
open Go Go.Proofs Go.Abs
variable {G:Globals}
theorem rtrim_spec (l:List Nat) (hd:Dig l) (hl:l.length<2 ^ 60):Ctr Tryz.prog G 135 [.d (W l)] [] (.d (W (toW (val l)))) []:=by
 refine Ctr.pure (M:=M0) hmix Tryz.func135 rfl go135 ?_
 simp (config:={maxSteps:=1000000}) (disch:=((try simp only [awL]);omega)) only [Tryz.f135,↓awU,awV,awF,Qa,Qb,Qc,Qd,forall_const,↓reduceIte,↓reduceDIte,↓Qe,Qf,Qg,Qh,Qi,Qj,Qk,Ql,Qm,Qn,Qo,Qp,Qq,Qr,Qs,implies_true,Qt,Qu,Qv,Qw,Qx,Qy,Qz,QA,QB,QC,QD,QE,QF,QG,QH,QI,QJ,QK,QL,QM,QN,QO,QP,QQ]
 refine LoopC.fr 0 (α:=Nat) (fun k=>k) (fun k=>[(0,.d (.sl k false (nats .u32 (l.take k))))]) (fun _=>[]) (fun k=>k≤l.length∧val (l.take k)=val l) l.length ⟨Nat.le_refl _,by simp⟩ ?_ ?_
 ·exact ⟨[],rfl,by simp,by simp [setsA,keepA,SWeak,AWeak],by simp [HWeak,BWeak,SWeak,AWeak]⟩
 ·rintro k ⟨hk,hv⟩
  simp only [awK,Nat.reduceMod,Nat.reduceDiv,reduceIte]
  rcases k with _ | k
  ·simp (config:={maxSteps:=1000000}) (disch:=((try simp only [awL]);omega)) only [↓awU,awV,awF,Qa,Qb,Qc,Qd,forall_const,↓reduceIte,↓reduceDIte,↓Qe,Qf,Qg,Qh,Qi,Qj,Qk,Ql,Qm,Qn,Qo,Qp,Qq,Qr,Qs,implies_true,Qt,Qu,Qv,Qw,Qx,Qy,Qz,QA,QB,QC,QD,QE,QF,QG,QH,QI,QJ,QK,QL,QM,QN,QO,QP,QQ]
   have:toW (val l)=[]:=by rw [← hv];exact toW_zero
   rw [this];rfl
  ·have eg:(l.take (k+1)).getD k 0=l.getD k 0:=by
    rw [List.getD_eq_getElem?_getD,List.getElem?_take,if_pos (by omega),← List.getD_eq_getElem?_getD]
   have et:(l.take (k+1)).take k=l.take k:=by rw [List.take_take];congr 1;omega
   simp (config:={maxSteps:=1000000}) (disch:=((try simp only [awL]);omega)) only [eg,et,↓awU,awV,awF,Qa,Qb,Qc,Qd,forall_const,↓reduceIte,↓reduceDIte,↓Qe,Qf,Qg,Qh,Qi,Qj,Qk,Ql,Qm,Qn,Qo,Qp,Qq,Qr,Qs,implies_true,Qt,Qu,Qv,Qw,Qx,Qy,Qz,QA,QB,QC,QD,QE,QF,QG,QH,QI,QJ,QK,QL,QM,QN,QO,QP,QQ]
   refine ⟨fun h=>⟨k,⟨by omega,?_⟩,Nat.lt_succ_self _,⟨[],rfl,by simp,by simp [setsA,keepA,SWeak,AWeak],by simp [HWeak,BWeak,SWeak,AWeak]⟩⟩,fun h=>?_⟩
   ·rw [← hv,take_val l k,show l.getD k 0=0 by omega];simp
   ·have:=toW_take hd (k:=k+1) (by omega) (.inr (by simpa using h))
    rw [hv] at this
    rw [this]
    simp [W];omega
theorem rbig_spec (neg:Bool) (l:List Nat) (hd:Dig l) (hl:l.length<2 ^ 40):Ctr Tryz.prog G 111 [.d (.bool neg),.d (W l)] [] (.d (Big (if neg then -(val l:Int) else val l))) []:=by
 refine Ctr.pure (M:=M0) hmix Tryz.func111 rfl go111 ?_
 have hlt:=trim_len hd
 simp (config:={maxSteps:=1000000}) (disch:=((try simp only [awL]);omega)) only [Tryz.f111,↓awU,awV,awF,Qa,Qb,Qc,Qd,forall_const,↓reduceIte,↓reduceDIte,↓Qe,Qf,Qg,Qh,Qi,Qj,Qk,Ql,Qm,Qn,Qo,Qp,Qq,Qr,Qs,implies_true,Qt,Qu,Qv,Qw,Qx,Qy,Qz,QA,QB,QC,QD,QE,QF,QG,QH,QI,QJ,QK,QL,QM,QN,QO,QP,QQ]
 refine CallC.pure (rtrim_spec l hd (by omega)) ?_
 have:=@sz_pos (val l)
 cases neg
 ·simp (config:={maxSteps:=1000000}) (disch:=((try simp only [awL]);omega)) only [↓awU,awV,awF,Qa,Qb,Qc,Qd,forall_const,↓reduceIte,↓reduceDIte,↓Qe,Qf,Qg,Qh,Qi,Qj,Qk,Ql,Qm,Qn,Qo,Qp,Qq,Qr,Qs,implies_true,Qt,Qu,Qv,Qw,Qx,Qy,Qz,QA,QB,QC,QD,QE,QF,QG,QH,QI,QJ,QK,QL,QM,QN,QO,QP,QQ]
  simp [Big,bigL,W]
 ·simp (config:={maxSteps:=1000000}) (disch:=((try simp only [awL]);omega)) only [↓awU,awV,awF,Qa,Qb,Qc,Qd,forall_const,↓reduceIte,↓reduceDIte,↓Qe,Qf,Qg,Qh,Qi,Qj,Qk,Ql,Qm,Qn,Qo,Qp,Qq,Qr,Qs,implies_true,Qt,Qu,Qv,Qw,Qx,Qy,Qz,QA,QB,QC,QD,QE,QF,QG,QH,QI,QJ,QK,QL,QM,QN,QO,QP,QQ]
  simp [Big,bigL,W]
  omega
theorem rcmp_spec (a b:Nat) (ha:(toW a).length<2 ^ 40) (hb:(toW b).length<2 ^ 40) :
  Ctr Tryz.prog G 113 [.d (W (toW a)),.d (W (toW b))] [] (.d (.int .i64 (cmpI a b))) []:=by
 have da:=dig_toW a
 have db:=dig_toW b
 have va:=val_toW a
 have vb:=val_toW b
 have la:=@toW_len_lt a b
 have lb:=@toW_len_lt b a
 generalize toW a=l at *
 generalize toW b=m at *
 refine Ctr.pure (M:=M0) hmix Tryz.func113 rfl go113 ?_
 simp (config:={maxSteps:=1000000}) (disch:=((try simp only [awL]);omega)) only [Tryz.f113,↓awU,awV,awF,Qa,Qb,Qc,Qd,forall_const,↓reduceIte,↓reduceDIte,↓Qe,Qf,Qg,Qh,Qi,Qj,Qk,Ql,Qm,Qn,Qo,Qp,Qq,Qr,Qs,implies_true,Qt,Qu,Qv,Qw,Qx,Qy,Qz,QA,QB,QC,QD,QE,QF,QG,QH,QI,QJ,QK,QL,QM,QN,QO,QP,QQ]
 refine ⟨fun h=>⟨fun h'=>?_,fun h'=>?_⟩,fun h=>?_⟩
 ·exact (cmpI_lt (by have:=la (by omega);omega)).symm
 ·exact (cmpI_gt (by have:=lb (by omega);omega)).symm
 ·have e:l.length=m.length:=by omega
  refine LoopC.fr 3 (α:=Nat) (fun k=>k) (fun k=>[(5,.d (.int .i64 ((k:Int) - 1)))]) (fun _=>[]) (fun k=>k≤l.length∧l.drop k=m.drop k) l.length ⟨Nat.le_refl _,by rw [List.drop_length,e,List.drop_length]⟩ ?_ ?_
  ·exact ⟨[],rfl,by simp,by simp [setsA,keepA,SWeak,AWeak,e],by simp [HWeak]⟩
  ·rintro k ⟨hk,hv⟩
   simp only [awK,Nat.reduceMod,Nat.reduceDiv,reduceIte]
   rcases k with _ | k
   ·simp (config:={maxSteps:=1000000}) (disch:=((try simp only [awL]);omega)) only [↓awU,awV,awF,Qa,Qb,Qc,Qd,forall_const,↓reduceIte,↓reduceDIte,↓Qe,Qf,Qg,Qh,Qi,Qj,Qk,Ql,Qm,Qn,Qo,Qp,Qq,Qr,Qs,implies_true,Qt,Qu,Qv,Qw,Qx,Qy,Qz,QA,QB,QC,QD,QE,QF,QG,QH,QI,QJ,QK,QL,QM,QN,QO,QP,QQ]
    simp only [List.drop_zero] at hv
    rw [← va,← vb,hv]
    exact (cmpI_eq rfl).symm
   ·simp (config:={maxSteps:=1000000}) (disch:=((try simp only [awL]);omega)) only [↓awU,awV,awF,Qa,Qb,Qc,Qd,forall_const,↓reduceIte,↓reduceDIte,↓Qe,Qf,Qg,Qh,Qi,Qj,Qk,Ql,Qm,Qn,Qo,Qp,Qq,Qr,Qs,implies_true,Qt,Qu,Qv,Qw,Qx,Qy,Qz,QA,QB,QC,QD,QE,QF,QG,QH,QI,QJ,QK,QL,QM,QN,QO,QP,QQ]
    refine ⟨by rfl,fun h1=>?_,fun h1=>⟨by rfl,fun h2=>?_,fun h2=>?_⟩⟩
    ·have:=val_lt_of (k:=k) da (by omega) (by omega) hv (by omega)
     rw [← va,← vb];exact (cmpI_lt (by omega)).symm
    ·have:=val_lt_of (k:=k) db (by omega) (by omega) hv.symm (by omega)
     rw [← va,← vb];exact (cmpI_gt (by omega)).symm
    ·exact ⟨k,⟨by omega,drop_eq (by omega) (by omega) hv (by omega)⟩,Nat.lt_succ_self _,⟨[],rfl,by simp,by simp [setsA,keepA,SWeak,AWeak],by simp [HWeak,BWeak,SWeak,AWeak]⟩⟩
set_option maxHeartbeats 4000000 in
set_option maxRecDepth 100000 in
theorem rmul_spec (a b:Nat) (ha:(toW a).length<2 ^ 40) (hb:(toW b).length<2 ^ 40) :
  Ctr Tryz.prog G 115 [.d (W (toW a)),.d (W (toW b))] [] (.d (W (toW (a*b)))) []:=by
 have da:=dig_toW a
 have db:=dig_toW b
 have va:=val_toW a
 have vb:=val_toW b
 generalize toW a=l at *
 generalize toW b=m at *
 refine Ctr.pure (M:=M0) hmix Tryz.func115 rfl go115 ?_
 simp (config:={maxSteps:=1000000}) (disch:=((try simp only [awL]);omega)) only [Tryz.f115,↓awU,awV,awF,Qa,Qb,Qc,Qd,forall_const,↓reduceIte,↓reduceDIte,↓Qe,Qf,Qg,Qh,Qi,Qj,Qk,Ql,Qm,Qn,Qo,Qp,Qq,Qr,Qs,implies_true,Qt,Qu,Qv,Qw,Qx,Qy,Qz,QA,QB,QC,QD,QE,QF,QG,QH,QI,QJ,QK,QL,QM,QN,QO,QP,QQ]
 refine LoopC.fr 35 (α:=Nat × List Nat) (fun x=>l.length - x.1) (fun x=>[(6,.d (.int .i64 x.1))])
  (fun x=>[.row false (nats .u32 x.2)]) (fun x=>x.1≤l.length∧x.2.length=l.length+m.length∧Dig x.2∧val x.2=val (l.take x.1)*b∧∀ p,x.1+m.length≤p→x.2.getD p 0=0) (0,List.replicate (l.length+m.length) 0)
  ⟨by simp,by simp,Dig.zeros _,by simp [val_zeros,val],fun p _=>by simp only [List.getD_eq_getElem?_getD,List.getElem?_replicate];split<;>rfl⟩ ?_ ?_
 ·exact ⟨[some 0],rfl,by simp,by simp [setsA,keepA,SWeak,AWeak],by simp [HWeak,BWeak,SWeak,AWeak]⟩
 ·rintro ⟨i,o⟩ ⟨hi,ho,hd,hv,hz⟩
  simp only at hi ho hd hv hz
  simp only [awK,Nat.reduceMod,Nat.reduceDiv,reduceIte]
  simp (config:={maxSteps:=1000000}) (disch:=((try simp only [awL]);omega)) only [↓awU,awV,awF,Qa,Qb,Qc,Qd,forall_const,↓reduceIte,↓reduceDIte,↓Qe,Qf,Qg,Qh,Qi,Qj,Qk,Ql,Qm,Qn,Qo,Qp,Qq,Qr,Qs,implies_true,Qt,Qu,Qv,Qw,Qx,Qy,Qz,QA,QB,QC,QD,QE,QF,QG,QH,QI,QJ,QK,QL,QM,QN,QO,QP,QQ]
  refine ⟨fun h=>?_,fun h=>?_⟩
  ·refine LoopC.fr 99 (α:=Nat × List Nat × Nat) (fun x=>m.length - x.1) (fun x=>[(7,.d (.int .u64 x.2.2)),(8,.d (.int .i64 x.1))])
    (fun x=>[.row false (nats .u32 x.2.1)]) (fun x=>x.1≤m.length∧x.2.1.length=l.length+m.length∧Dig x.2.1∧x.2.2<B∧val x.2.1+B ^ (i+x.1)*x.2.2=val o+B ^ i*(l.getD i 0*val (m.take x.1))∧∀ p,i+m.length≤p→x.2.1.getD p 0=0) (0,o,0)
    ⟨by simp,ho,hd,by simp [B],by simp [val],hz⟩ ?_ ?_
   ·exact ⟨[some 0],rfl,by simp,by simp [setsA,keepA,SWeak,AWeak],by simp [HWeak,BWeak,SWeak,AWeak]⟩
   ·rintro ⟨j,q,c⟩ ⟨hj,hq,hdq,hc,hvq,hzq⟩
    simp only at hj hq hdq hc hvq hzq
    simp only [awK,Nat.reduceMod,Nat.reduceDiv,reduceIte]
    replace hv:=Hid.mk hv
    replace hvq:=Hid.mk hvq
    have p1:=mul_digit (da.getD i) (db.getD j)
    have p2:=hdq.getD (i+j)
    have p3:c<4294967296:=hc
    have p4:q.getD (i+j) 0<4294967296:=p2
    have p5:l.getD i 0<4294967296:=da.getD i
    have p6:m.getD j 0<4294967296:=db.getD j
    simp (config:={maxSteps:=1000000}) (disch:=((try simp only [awL]);omega)) only [↓awU,awV,awF,Qa,Qb,Qc,Qd,forall_const,↓reduceIte,↓reduceDIte,↓Qe,Qf,Qg,Qh,Qi,Qj,Qk,Ql,Qm,Qn,Qo,Qp,Qq,Qr,Qs,implies_true,Qt,Qu,Qv,Qw,Qx,Qy,Qz,QA,QB,QC,QD,QE,QF,QG,QH,QI,QJ,QK,QL,QM,QN,QO,QP,QQ]
    refine ⟨fun h1=>⟨by rfl,?_⟩,fun h1=>?_⟩
    ·simp only [w_u32,nats_set]
     have hsl:c+(l.getD i 0*m.getD j 0+q.getD (i+j) 0)<B*B:=by simp only [B];omega
     generalize hg:c+(l.getD i 0*m.getD j 0+q.getD (i+j) 0)=s at hsl ⊢
     refine ⟨(j+1,q.set (i+j) (s % B),s / B),⟨by simp only;omega,by simp [hq],hdq.set (Nat.mod_lt _ (by decide)),(Nat.div_lt_iff_lt_mul (by decide)).2 hsl,times_step (by omega) hg.symm hvq.out,fun p hp=>?_⟩,
      by simp only;omega,[some 0],rfl,by simp,by simp [SWeak,AWeak,B],by simp [HWeak,BWeak,w_u32,nats_set,B]⟩
     rw [getD_set_ne (by omega)];exact hzq p hp
    ·have ej:j=m.length:=by omega
     have hvq:=hvq.out
     rw [ej,List.take_of_length_le (Nat.le_refl _),vb] at hvq
     refine ⟨(i+1,q.set (i+m.length) c),⟨by simp only;omega,by simp [hq],hdq.set hc,times_row (by omega) (hzq _ (Nat.le_refl _)) hvq hv.out,fun p hp=>?_⟩,
      by simp only;omega,[some 0],rfl,by simp,by simp [SWeak,AWeak],by simp [HWeak,BWeak]⟩
     rw [getD_set_ne (by omega)];exact hzq p (by omega)
  ·have e:(D.sl (l.length+m.length) false (nats .u32 o))=W o:=by simp [W,ho]
   have ei:i=l.length:=by omega
   rw [e]
   refine CallC.frozen (rtrim_spec _ hd ?_) ?_
   ·omega
   ·rw [hv,ei,List.take_of_length_le (Nat.le_refl _),va]
    simp (config:={maxSteps:=1000000}) (disch:=((try simp only [awL]);omega)) only [↓awU,awV,awF,Qa,Qb,Qc,Qd,forall_const,↓reduceIte,↓reduceDIte,↓Qe,Qf,Qg,Qh,Qi,Qj,Qk,Ql,Qm,Qn,Qo,Qp,Qq,Qr,Qs,implies_true,Qt,Qu,Qv,Qw,Qx,Qy,Qz,QA,QB,QC,QD,QE,QF,QG,QH,QI,QJ,QK,QL,QM,QN,QO,QP,QQ]
set_option maxHeartbeats 4000000 in
set_option maxRecDepth 100000 in
theorem rfromInt_spec (n:Int) (h1:-9223372036854775808≤n) (h2:n≤9223372036854775807):Ctr Tryz.prog G 84 [.d (.int .i64 n)] [] (.d (Big n)) []:=by
 refine Ctr.pure (M:=M0) hmix Tryz.func84 rfl go84 ?_
 have hN:n.natAbs<18446744073709551616:=by omega
 have dg:Dig [n.natAbs % B,n.natAbs / B]:=by
  intro x hx
  simp only [List.mem_cons,List.not_mem_nil,or_false] at hx
  rcases hx with rfl | rfl
  ·exact Nat.mod_lt _ (by decide)
  ·simp only [B];omega
 have vv:val [n.natAbs % B,n.natAbs / B]=n.natAbs:=by simp only [val,Nat.mul_zero,Nat.add_zero];exact Nat.mod_add_div _ B
 by_cases hn:n<0
 ·have e:IntKind.u64.wrap (0 - IntKind.u64.wrap n)=((n.natAbs:Nat):Int):=by simp [IntKind.wrap,IntKind.bits,IntKind.signed];omega
  simp (config:={maxSteps:=1000000}) (disch:=((try simp only [awL]);omega)) only [Tryz.f84,e,w_u32,↓awU,awV,awF,Qa,Qb,Qc,Qd,forall_const,↓reduceIte,↓reduceDIte,↓Qe,Qf,Qg,Qh,Qi,Qj,Qk,Ql,Qm,Qn,Qo,Qp,Qq,Qr,Qs,implies_true,Qt,Qu,Qv,Qw,Qx,Qy,Qz,QA,QB,QC,QD,QE,QF,QG,QH,QI,QJ,QK,QL,QM,QN,QO,QP,QQ]
  refine CallC.frozenE (rbig_spec true [n.natAbs % B,n.natAbs / B] dg (by simp)) (by rfl) ?_
  rw [vv,if_pos rfl,show -((n.natAbs:Nat):Int)=n by omega]
  simp (config:={maxSteps:=1000000}) (disch:=((try simp only [awL]);omega)) only [↓awU,awV,awF,Qa,Qb,Qc,Qd,forall_const,↓reduceIte,↓reduceDIte,↓Qe,Qf,Qg,Qh,Qi,Qj,Qk,Ql,Qm,Qn,Qo,Qp,Qq,Qr,Qs,implies_true,Qt,Qu,Qv,Qw,Qx,Qy,Qz,QA,QB,QC,QD,QE,QF,QG,QH,QI,QJ,QK,QL,QM,QN,QO,QP,QQ]
  simp [hn]
 ·have e:IntKind.u64.wrap n=((n.natAbs:Nat):Int):=by simp [IntKind.wrap,IntKind.bits,IntKind.signed];omega
  have e2:n=((n.natAbs:Nat):Int):=by omega
  simp (config:={maxSteps:=1000000}) (disch:=((try simp only [awL]);omega)) only [Tryz.f84,e,w_u32,↓awU,awV,awF,Qa,Qb,Qc,Qd,forall_const,↓reduceIte,↓reduceDIte,↓Qe,Qf,Qg,Qh,Qi,Qj,Qk,Ql,Qm,Qn,Qo,Qp,Qq,Qr,Qs,implies_true,Qt,Qu,Qv,Qw,Qx,Qy,Qz,QA,QB,QC,QD,QE,QF,QG,QH,QI,QJ,QK,QL,QM,QN,QO,QP,QQ]
  refine CallC.frozenE (rbig_spec false [n.natAbs % B,n.natAbs / B] dg (by simp)) ?_ ?_
  ·rfl
  rw [vv,if_neg (by decide),← e2]
  simp (config:={maxSteps:=1000000}) (disch:=((try simp only [awL]);omega)) only [↓awU,awV,awF,Qa,Qb,Qc,Qd,forall_const,↓reduceIte,↓reduceDIte,↓Qe,Qf,Qg,Qh,Qi,Qj,Qk,Ql,Qm,Qn,Qo,Qp,Qq,Qr,Qs,implies_true,Qt,Qu,Qv,Qw,Qx,Qy,Qz,QA,QB,QC,QD,QE,QF,QG,QH,QI,QJ,QK,QL,QM,QN,QO,QP,QQ]
  simp [hn]
end Go.Proofs.YtkgbbdoeodmkgaaGreatDoor.Num
namespace Go.Proofs.YtkgbbdoeodmkgaaGreatDoor.Num
open Go Go.Proofs Go.Abs
variable {G:Globals}
set_option maxHeartbeats 4000000 in
set_option maxRecDepth 100000 in
theorem radd_spec (a b:Nat) (ha:(toW a).length<2 ^ 40) (hb:(toW b).length<2 ^ 40) :
  Ctr Tryz.prog G 112 [.d (W (toW a)),.d (W (toW b))] [] (.d (W (digs (max (toW a).length (toW b).length+1) (a+b)))) []:=by
 have da:=dig_toW a
 have db:=dig_toW b
 have va:=val_toW a
 have vb:=val_toW b
 generalize toW a=l at *
 generalize toW b=m at *
 refine Ctr.pure (M:=M0) hmix Tryz.func112 rfl go112 ?_
 simp (config:={maxSteps:=1000000}) (disch:=((try simp only [awL]);omega)) only [Tryz.f112,↓awU,awV,awF,Qa,Qb,Qc,Qd,forall_const,↓reduceIte,↓reduceDIte,↓Qe,Qf,Qg,Qh,Qi,Qj,Qk,Ql,Qm,Qn,Qo,Qp,Qq,Qr,Qs,implies_true,Qt,Qu,Qv,Qw,Qx,Qy,Qz,QA,QB,QC,QD,QE,QF,QG,QH,QI,QJ,QK,QL,QM,QN,QO,QP,QQ]
 refine LoopC.fr 3 (α:=Nat × List Nat × Nat) (fun x=>max l.length m.length - x.1) (fun x=>[(5,.lsl 0 1 0 x.1),(6,.d (.int .u64 x.2.2)),(7,.d (.int .i64 x.1))])
  (fun x=>[.row false (nats .u32 x.2.1)]) (fun x=>x.1≤max l.length m.length∧x.2.1.length=x.1∧Dig x.2.1∧x.2.2≤1∧val x.2.1+B ^ x.1*x.2.2=val (l.take x.1)+val (m.take x.1)) (0,[],0) ⟨by simp,rfl,by simp [Dig],by simp,by simp [val]⟩ ?_ ?_
 ·exact ⟨[none],rfl,by simp,by simp [setsA,keepA,SWeak,AWeak],by simp [HWeak,BWeak,nats]⟩
 ·rintro ⟨k,out,c⟩ ⟨hk,ho,hd,hc,hv⟩
  simp only at hk ho hd hc hv
  simp only [awK,Nat.reduceMod,Nat.reduceDiv,reduceIte]
  have p1:l.getD k 0<4294967296:=da.getD k
  have p2:m.getD k 0<4294967296:=db.getD k
  replace hv:=Hid.mk hv
  have fin:∀ s,s=l.getD k 0+m.getD k 0+c→k<max l.length m.length→k+1≤max l.length m.length∧(out++[s % B]).length=k+1∧Dig (out++[s % B])∧s / B≤1∧val (out++[s % B])+B ^ (k+1)*(s / B)=val (l.take (k+1))+val (m.take (k+1)):=fun s hs hk2 =>
   ⟨hk2,by simp [ho],hd.append (by intro x hx;simp at hx;subst hx;exact Nat.mod_lt _ (by decide)),by simp only [B];omega,ab_step ho hs hv.out⟩
  have z1:l.length≤k→l.getD k 0=0:=fun h=>by rw [List.getD_eq_getElem?_getD,List.getElem?_eq_none h];rfl
  have z2:m.length≤k→m.getD k 0=0:=fun h=>by rw [List.getD_eq_getElem?_getD,List.getElem?_eq_none h];rfl
  rcases Nat.lt_or_ge k l.length with h1 | h1<;>rcases Nat.lt_or_ge k m.length with h2 | h2
  ·simp (config:={maxSteps:=1000000}) (disch:=((try simp only [awL]);omega)) only [w_u32,↓awU,awV,awF,Qa,Qb,Qc,Qd,forall_const,↓reduceIte,↓reduceDIte,↓Qe,Qf,Qg,Qh,Qi,Qj,Qk,Ql,Qm,Qn,Qo,Qp,Qq,Qr,Qs,implies_true,Qt,Qu,Qv,Qw,Qx,Qy,Qz,QA,QB,QC,QD,QE,QF,QG,QH,QI,QJ,QK,QL,QM,QN,QO,QP,QQ]
   refine ⟨(k+1,out++[(c+l.getD k 0+m.getD k 0) % B],(c+l.getD k 0+m.getD k 0) / B),fin _ (by omega) (by omega),by simp only;omega,[some 2],rfl,by simp,by simp [SWeak,AWeak,B],by simp [HWeak,BWeak,B]⟩
  ·have:=z2 h2
   simp (config:={maxSteps:=1000000}) (disch:=((try simp only [awL]);omega)) only [w_u32,↓awU,awV,awF,Qa,Qb,Qc,Qd,forall_const,↓reduceIte,↓reduceDIte,↓Qe,Qf,Qg,Qh,Qi,Qj,Qk,Ql,Qm,Qn,Qo,Qp,Qq,Qr,Qs,implies_true,Qt,Qu,Qv,Qw,Qx,Qy,Qz,QA,QB,QC,QD,QE,QF,QG,QH,QI,QJ,QK,QL,QM,QN,QO,QP,QQ]
   refine ⟨(k+1,out++[(c+l.getD k 0) % B],(c+l.getD k 0) / B),fin _ (by omega) (by omega),by simp only;omega,[some 2],rfl,by simp,by simp [SWeak,AWeak,B],by simp [HWeak,BWeak,B]⟩
  ·have:=z1 h1
   simp (config:={maxSteps:=1000000}) (disch:=((try simp only [awL]);omega)) only [w_u32,↓awU,awV,awF,Qa,Qb,Qc,Qd,forall_const,↓reduceIte,↓reduceDIte,↓Qe,Qf,Qg,Qh,Qi,Qj,Qk,Ql,Qm,Qn,Qo,Qp,Qq,Qr,Qs,implies_true,Qt,Qu,Qv,Qw,Qx,Qy,Qz,QA,QB,QC,QD,QE,QF,QG,QH,QI,QJ,QK,QL,QM,QN,QO,QP,QQ]
   refine ⟨(k+1,out++[(c+m.getD k 0) % B],(c+m.getD k 0) / B),fin _ (by omega) (by omega),by simp only;omega,[some 2],rfl,by simp,by simp [SWeak,AWeak,B],by simp [HWeak,BWeak,B]⟩
  ·simp (config:={maxSteps:=1000000}) (disch:=((try simp only [awL]);omega)) only [w_u32,↓awU,awV,awF,Qa,Qb,Qc,Qd,forall_const,↓reduceIte,↓reduceDIte,↓Qe,Qf,Qg,Qh,Qi,Qj,Qk,Ql,Qm,Qn,Qo,Qp,Qq,Qr,Qs,implies_true,Qt,Qu,Qv,Qw,Qx,Qy,Qz,QA,QB,QC,QD,QE,QF,QG,QH,QI,QJ,QK,QL,QM,QN,QO,QP,QQ]
   have hk':k=max l.length m.length:=by omega
   have hv:=hv.out
   rw [List.take_of_length_le (l:=l) (by omega),List.take_of_length_le (l:=m) (by omega),va,vb] at hv
   rw [← digs_eq (l:=out++[c]) (hd.append (by intro x hx;simp at hx;subst hx;simp only [B];omega)) (by simp;omega) (by rw [val_append,ho];simpa [val] using hv)]
   simp [W,ho]
theorem sub_w {x y b:Nat} (hx:x<4294967296) (hy:y<4294967296) (hb:b≤1):IntKind.u32.wrap (-(b:Int)+(x:Int) - (y:Int))=(((x+B - y - b) % B:Nat):Int):=by
 simp [IntKind.wrap,IntKind.bits,IntKind.signed,B];omega
theorem sub_c {x y b:Nat} (hx:x<4294967296) (hy:y<4294967296) (hb:b≤1):(-(b:Int)+(x:Int) - (y:Int)) / 4294967296=-((if x<y+b then 1 else 0:Nat):Int):=by
 split<;>omega
set_option maxHeartbeats 4000000 in
set_option maxRecDepth 100000 in
theorem rsub_spec (a b:Nat) (hab:b≤a) (ha:(toW a).length<2 ^ 40) :
  Ctr Tryz.prog G 114 [.d (W (toW a)),.d (W (toW b))] [] (.d (W (toW (a - b)))) []:=by
 have da:=dig_toW a
 have db:=dig_toW b
 have va:=val_toW a
 have vb:=val_toW b
 have hlen:=toW_len_mono hab
 generalize toW a=l at *
 generalize toW b=m at *
 refine Ctr.pure (M:=M0) hmix Tryz.func114 rfl go114 ?_
 simp (config:={maxSteps:=1000000}) (disch:=((try simp only [awL]);omega)) only [Tryz.f114,↓awU,awV,awF,Qa,Qb,Qc,Qd,forall_const,↓reduceIte,↓reduceDIte,↓Qe,Qf,Qg,Qh,Qi,Qj,Qk,Ql,Qm,Qn,Qo,Qp,Qq,Qr,Qs,implies_true,Qt,Qu,Qv,Qw,Qx,Qy,Qz,QA,QB,QC,QD,QE,QF,QG,QH,QI,QJ,QK,QL,QM,QN,QO,QP,QQ]
 refine LoopC.fr 3 (α:=Nat × List Nat × Nat) (fun x=>l.length - x.1) (fun x=>[(5,.lsl 0 1 0 x.1),(6,.d (.int .i64 (-(x.2.2:Int)))),(7,.d (.int .i64 x.1))])
  (fun x=>[.row false (nats .u32 x.2.1)]) (fun x=>x.1≤l.length∧x.2.1.length=x.1∧Dig x.2.1∧x.2.2≤1∧val x.2.1+val (m.take x.1)=val (l.take x.1)+B ^ x.1*x.2.2) (0,[],0) ⟨by simp,rfl,by simp [Dig],by simp,by simp [val]⟩ ?_ ?_
 ·exact ⟨[none],rfl,by simp,by simp [setsA,keepA,SWeak,AWeak],by simp [HWeak,BWeak,nats]⟩
 ·rintro ⟨k,out,c⟩ ⟨hk,ho,hd,hc,hv⟩
  simp only at hk ho hd hc hv
  simp only [awK,Nat.reduceMod,Nat.reduceDiv,reduceIte]
  have p1:l.getD k 0<4294967296:=da.getD k
  have p2:m.getD k 0<4294967296:=db.getD k
  have sw:=sub_w p1 p2 hc
  have sc:=sub_c p1 p2 hc
  replace hv:=Hid.mk hv
  have fin:∀ s q,s=(l.getD k 0+B - m.getD k 0 - c) % B→q=(if l.getD k 0<m.getD k 0+c then 1 else 0)→k<l.length→k+1≤l.length∧(out++[s]).length=k+1∧Dig (out++[s])∧q≤1∧val (out++[s])+val (m.take (k+1))=val (l.take (k+1))+B ^ (k+1)*q:=fun s q hs hq hk2 =>
   ⟨hk2,by simp [ho],hd.append (by intro x hx;simp at hx;subst hx;rw [hs];exact Nat.mod_lt _ (by decide)),by rw [hq];split<;>omega,minus_step ho hv.out (by rw [hs,hq];exact sub_digit (da.getD k) (db.getD k) hc)⟩
  have z2:m.length≤k→m.getD k 0=0:=fun h=>by rw [List.getD_eq_getElem?_getD,List.getElem?_eq_none h];rfl
  rcases Nat.lt_or_ge k l.length with h1 | h1
  ·rcases Nat.lt_or_ge k m.length with h2 | h2
   ·simp (config:={maxSteps:=1000000}) (disch:=((try simp only [awL]);omega)) only [sw,sc,↓awU,awV,awF,Qa,Qb,Qc,Qd,forall_const,↓reduceIte,↓reduceDIte,↓Qe,Qf,Qg,Qh,Qi,Qj,Qk,Ql,Qm,Qn,Qo,Qp,Qq,Qr,Qs,implies_true,Qt,Qu,Qv,Qw,Qx,Qy,Qz,QA,QB,QC,QD,QE,QF,QG,QH,QI,QJ,QK,QL,QM,QN,QO,QP,QQ]
    exact ⟨(k+1,out++[(l.getD k 0+B - m.getD k 0 - c) % B],if l.getD k 0<m.getD k 0+c then 1 else 0),fin _ _ rfl rfl h1,by simp only;omega,[some 2],rfl,by simp,by simp [SWeak,AWeak],by simp [HWeak,BWeak]⟩
   ·have hz:=z2 h2
    have sw2:IntKind.u32.wrap (-(c:Int)+(l.getD k 0:Int))=(((l.getD k 0+B - m.getD k 0 - c) % B:Nat):Int):=by rw [← sw,hz];congr 1;omega
    have sc2:(-(c:Int)+(l.getD k 0:Int)) / 4294967296=-((if l.getD k 0<m.getD k 0+c then 1 else 0:Nat):Int):=by rw [← sc,hz];congr 1;omega
    simp (config:={maxSteps:=1000000}) (disch:=((try simp only [awL]);omega)) only [sw2,sc2,↓awU,awV,awF,Qa,Qb,Qc,Qd,forall_const,↓reduceIte,↓reduceDIte,↓Qe,Qf,Qg,Qh,Qi,Qj,Qk,Ql,Qm,Qn,Qo,Qp,Qq,Qr,Qs,implies_true,Qt,Qu,Qv,Qw,Qx,Qy,Qz,QA,QB,QC,QD,QE,QF,QG,QH,QI,QJ,QK,QL,QM,QN,QO,QP,QQ]
    exact ⟨(k+1,out++[(l.getD k 0+B - m.getD k 0 - c) % B],if l.getD k 0<m.getD k 0+c then 1 else 0),fin _ _ rfl rfl h1,by simp only;omega,[some 2],rfl,by simp,by simp [SWeak,AWeak],by simp [HWeak,BWeak]⟩
  ·simp (config:={maxSteps:=1000000}) (disch:=((try simp only [awL]);omega)) only [↓awU,awV,awF,Qa,Qb,Qc,Qd,forall_const,↓reduceIte,↓reduceDIte,↓Qe,Qf,Qg,Qh,Qi,Qj,Qk,Ql,Qm,Qn,Qo,Qp,Qq,Qr,Qs,implies_true,Qt,Qu,Qv,Qw,Qx,Qy,Qz,QA,QB,QC,QD,QE,QF,QG,QH,QI,QJ,QK,QL,QM,QN,QO,QP,QQ]
   have ek:k=l.length:=by omega
   have hv:=hv.out
   rw [ek,List.take_of_length_le (Nat.le_refl _),List.take_of_length_le hlen,va,vb] at hv
   have h3:=val_lt hd
   rw [ho,ek] at h3
   have hv':val out=a - b:=minus_end hv h3 hab hc
   refine CallC.frozenE (rtrim_spec out hd (by omega)) (by simp [W,ho]) ?_
   rw [hv']
   simp (config:={maxSteps:=1000000}) (disch:=((try simp only [awL]);omega)) only [↓awU,awV,awF,Qa,Qb,Qc,Qd,forall_const,↓reduceIte,↓reduceDIte,↓Qe,Qf,Qg,Qh,Qi,Qj,Qk,Ql,Qm,Qn,Qo,Qp,Qq,Qr,Qs,implies_true,Qt,Qu,Qv,Qw,Qx,Qy,Qz,QA,QB,QC,QD,QE,QF,QG,QH,QI,QJ,QK,QL,QM,QN,QO,QP,QQ]
end Go.Proofs.YtkgbbdoeodmkgaaGreatDoor.Num
namespace Go.Proofs.YtkgbbdoeodmkgaaGreatDoor.Num
open Go Go.Proofs Go.Abs
variable {G:Globals}
theorem tw_step {out l:List Nat} {k c x d0:Nat} (ho:out.length=k) (hx:l.getD k 0=x) (hv:val out+B ^ k*c=2*val (l.take k)+d0) :
  val (out++[(2*x+c) % B])+B ^ (k+1)*((2*x+c) / B)=2*val (l.take (k+1))+d0:=by
 rw [val_append,ho,take_val l k,hx]
 simp only [val,Nat.mul_zero,Nat.add_zero]
 have h1:=Nat.mod_add_div (2*x+c) B
 have e1:B ^ (k+1)*((2*x+c) / B)=B ^ k*(B*((2*x+c) / B)):=by rw [Nat.pow_succ,Nat.mul_assoc]
 have e3:B ^ k*((2*x+c) % B+B*((2*x+c) / B))=B ^ k*(2*x+c):=by rw [h1]
 rw [e1]
 simp only [Nat.mul_add] at e3 ⊢
 have e4:B ^ k*(2*x)=2*(B ^ k*x):=Nat.mul_left_comm ..
 omega
theorem tw_or {x c:Nat} (hx:x<4294967296) (hc:c≤1):bitsI .or .u32 (IntKind.u32.wrap ((x:Int)*2)) (c:Int)=(((2*x+c) % B:Nat):Int):=by
 have e1:IntKind.u32.wrap ((x:Int)*2)=((x*2 ^ 1 % 4294967296:Nat):Int):=by rw [← w_u32];congr 1
 rw [e1,low_mul (by decide),bi_u32_or_nat (by omega) (by omega),Nat.or_comm,or_low (by omega)]
 simp only [B]
 omega
set_option maxHeartbeats 4000000 in
set_option maxRecDepth 100000 in
theorem twice_spec (a d:Nat) (hd1:d≤1) (ha:(toW a).length<2 ^ 40) :
  Ctr Tryz.prog G 137 [.d (W (toW a)),.d (.int .u32 d)] [] (.d (W (toW (2*a+d)))) []:=by
 have da:=dig_toW a
 have va:=val_toW a
 generalize toW a=l at *
 refine Ctr.pure (M:=M0) hmix Tryz.func137 rfl go137 ?_
 simp (config:={maxSteps:=1000000}) (disch:=((try simp only [awL]);omega)) only [Tryz.f137,↓awU,awV,awF,Qa,Qb,Qc,Qd,forall_const,↓reduceIte,↓reduceDIte,↓Qe,Qf,Qg,Qh,Qi,Qj,Qk,Ql,Qm,Qn,Qo,Qp,Qq,Qr,Qs,implies_true,Qt,Qu,Qv,Qw,Qx,Qy,Qz,QA,QB,QC,QD,QE,QF,QG,QH,QI,QJ,QK,QL,QM,QN,QO,QP,QQ]
 refine LoopC.fr 1 (α:=Nat × List Nat × Nat) (fun x=>l.length - x.1) (fun x=>[(1,.d (.int .u32 x.2.2)),(5,.lsl 0 1 0 x.1),(6,.d (.int .i64 x.1))])
  (fun x=>[.row false (nats .u32 x.2.1)]) (fun x=>x.1≤l.length∧x.2.1.length=x.1∧Dig x.2.1∧x.2.2≤1∧val x.2.1+B ^ x.1*x.2.2=2*val (l.take x.1)+d) (0,[],d) ⟨by simp,rfl,by simp [Dig],hd1,by simp [val]⟩ ?_ ?_
 ·exact ⟨[none],rfl,by simp,by simp [setsA,keepA,SWeak,AWeak],by simp [HWeak,BWeak,nats]⟩
 ·rintro ⟨k,out,c⟩ ⟨hk,ho,hd,hc,hv⟩
  simp only at hk ho hd hc hv
  simp only [awK,Nat.reduceMod,Nat.reduceDiv,reduceIte]
  have p1:l.getD k 0<4294967296:=da.getD k
  replace hv:=Hid.mk hv
  rcases Nat.lt_or_ge k l.length with h1 | h1
  ·have hor:=tw_or p1 hc
   simp (config:={maxSteps:=1000000}) (disch:=((try simp only [awL]);omega)) only [hor,↓awU,awV,awF,Qa,Qb,Qc,Qd,forall_const,↓reduceIte,↓reduceDIte,↓Qe,Qf,Qg,Qh,Qi,Qj,Qk,Ql,Qm,Qn,Qo,Qp,Qq,Qr,Qs,implies_true,Qt,Qu,Qv,Qw,Qx,Qy,Qz,QA,QB,QC,QD,QE,QF,QG,QH,QI,QJ,QK,QL,QM,QN,QO,QP,QQ]
   refine ⟨(k+1,out++[(2*l.getD k 0+c) % B],(2*l.getD k 0+c) / B),⟨by simp only;omega,by simp [ho],hd.append (by intro x hx;simp at hx;subst hx;exact Nat.mod_lt _ (by decide)),by simp only [B];omega,tw_step ho rfl hv.out⟩,by simp only;omega,[some 2],rfl,by simp,?_,by simp [HWeak,BWeak]⟩
   have e:((l.getD k 0:Nat):Int) / 2147483648=(((2*l.getD k 0+c) / B:Nat):Int):=by simp only [B];omega
   rw [e]
   simp [SWeak,AWeak]
  ·simp (config:={maxSteps:=1000000}) (disch:=((try simp only [awL]);omega)) only [↓awU,awV,awF,Qa,Qb,Qc,Qd,forall_const,↓reduceIte,↓reduceDIte,↓Qe,Qf,Qg,Qh,Qi,Qj,Qk,Ql,Qm,Qn,Qo,Qp,Qq,Qr,Qs,implies_true,Qt,Qu,Qv,Qw,Qx,Qy,Qz,QA,QB,QC,QD,QE,QF,QG,QH,QI,QJ,QK,QL,QM,QN,QO,QP,QQ]
   have hk':k=l.length:=by omega
   have hv:=hv.out
   rw [List.take_of_length_le (by omega),va] at hv
   have hv':val (out++[c])=2*a+d:=by rw [val_append,ho];simpa [val] using hv
   refine CallC.frozenE (rtrim_spec (out++[c]) (hd.append (by intro x hx;simp at hx;subst hx;simp only [B];omega)) (by simp;omega)) (by simp [W,ho]) ?_
   rw [hv']
   simp (config:={maxSteps:=1000000}) (disch:=((try simp only [awL]);omega)) only [↓awU,awV,awF,Qa,Qb,Qc,Qd,forall_const,↓reduceIte,↓reduceDIte,↓Qe,Qf,Qg,Qh,Qi,Qj,Qk,Ql,Qm,Qn,Qo,Qp,Qq,Qr,Qs,implies_true,Qt,Qu,Qv,Qw,Qx,Qy,Qz,QA,QB,QC,QD,QE,QF,QG,QH,QI,QJ,QK,QL,QM,QN,QO,QP,QQ]
theorem bit_spec (l:List Nat) (i:Nat) (hi:i<32*l.length) (hl:l.length<2 ^ 40) (hd:Dig l) :
  Ctr Tryz.prog G 138 [.d (W l),.d (.int .i64 i)] [] (.d (.int .u32 (l.getD (i / 32) 0 / 2 ^ (i % 32) % 2:Nat))) []:=by
 refine Ctr.pure (M:=M0) hmix Tryz.func138 rfl go138 ?_
 have p1:l.getD (i / 32) 0<4294967296:=hd.getD (i / 32)
 have e1:Int.tdiv (i:Int) 32=((i / 32:Nat):Int):=by rw [Int.tdiv_eq_ediv_of_nonneg (by omega)];omega
 have e2:Int.tmod (i:Int) 32=((i % 32:Nat):Int):=by rw [Int.tmod_eq_emod_of_nonneg (by omega)];omega
 have e3:min (i % 32) 32=i % 32:=by omega
 have hm:(2:Int) ^ (i % 32)=((2 ^ (i % 32):Nat):Int):=by simp
 have hle:=Nat.div_le_self (l.getD (i / 32) 0) (2 ^ (i % 32))
 have e4:bitsI .and .u32 ((l.getD (i / 32) 0 / 2 ^ (i % 32):Nat):Int) 1=((l.getD (i / 32) 0 / 2 ^ (i % 32) % 2:Nat):Int):=by
  have:=bi_u32_and_nat (a:=l.getD (i / 32) 0 / 2 ^ (i % 32)) (b:=1) (by omega) (by omega)
  rw [Nat.and_one_is_mod] at this
  exact this
 simp (config:={maxSteps:=1000000}) (disch:=((try simp only [awL]);omega)) only [Tryz.f138,e1,e2,e3,hm,fdiv_nat,e4,↓awU,awV,awF,Qa,Qb,Qc,Qd,forall_const,↓reduceIte,↓reduceDIte,↓Qe,Qf,Qg,Qh,Qi,Qj,Qk,Ql,Qm,Qn,Qo,Qp,Qq,Qr,Qs,implies_true,Qt,Qu,Qv,Qw,Qx,Qy,Qz,QA,QB,QC,QD,QE,QF,QG,QH,QI,QJ,QK,QL,QM,QN,QO,QP,QQ]
theorem set_get {l:List Nat} {i v:Nat} (h:i<l.length):(l.set i v).getD i 0=v:=by
 rw [List.getD_eq_getElem?_getD,List.getElem?_set_self h];rfl
theorem hf_or {x y:Nat} (hx:x<4294967296):bitsI .or .u32 ((x / 2:Nat):Int) (IntKind.u32.wrap ((y:Int)*2147483648))=(((y*B+x) / 2 ^ 1 % B:Nat):Int):=by
 have e1:IntKind.u32.wrap ((y:Int)*2147483648)=((y*2 ^ 31 % 4294967296:Nat):Int):=by rw [← w_u32];congr 1
 rw [e1,low_mul (by decide),bi_u32_or_nat (by omega) (by omega),or_low (by omega)]
 simp only [B]
 omega
set_option maxHeartbeats 4000000 in
set_option maxRecDepth 100000 in
theorem half_spec (a:Nat) (ha:(toW a).length<2 ^ 38) :
  Ctr Tryz.prog G 136 [.d (W (toW a))] [] (.d (W (toW (a / 2)))) []:=by
 have da:=dig_toW a
 have va:=val_toW a
 have la:=lt_of_toW a
 have ea:=toW_digs a
 generalize toW a=l at *
 refine Ctr.pure (M:=M0) hmix Tryz.func136 rfl go136 ?_
 simp (config:={maxSteps:=1000000}) (disch:=((try simp only [awL]);omega)) only [Tryz.f136,↓awU,awV,awF,Qa,Qb,Qc,Qd,forall_const,↓reduceIte,↓reduceDIte,↓Qe,Qf,Qg,Qh,Qi,Qj,Qk,Ql,Qm,Qn,Qo,Qp,Qq,Qr,Qs,implies_true,Qt,Qu,Qv,Qw,Qx,Qy,Qz,QA,QB,QC,QD,QE,QF,QG,QH,QI,QJ,QK,QL,QM,QN,QO,QP,QQ]
 refine LoopC.fr 513 (α:=Nat) (fun i=>l.length - i) (fun i=>[(3,.lsl 0 1 0 l.length),(10,.d (.int .i64 i))])
  (fun i=>[.row false (nats .u32 (backRow l.length 1 a i))]) (fun i=>i≤l.length) 0 (Nat.zero_le _) ?_ ?_
 ·exact ⟨[some 1],rfl,by simp,by simp [setsA,keepA,SWeak,AWeak],by simp [HWeak,BWeak,backRow_zero,← ea]⟩
 ·intro i hi
  simp only [awK,Nat.reduceMod,Nat.reduceDiv,reduceIte]
  have b1:=backRow_length (s:=1) (r:=a) hi
  rcases Nat.lt_or_ge i l.length with h1 | h1
  ·have b3:=backRow_getD (s:=1) (r:=a) h1
   have hun:=unshift (r:=a) (i:=i) (show 1<32 by decide)
   have bs:=backRow_set (s:=1) (r:=a) h1
   have bg:∀ v,((backRow l.length 1 a i).set i v).getD i 0=v:=fun v=>set_get (by rw [b1];exact h1)
   have p1:a / B ^ i % B<4294967296:=Nat.mod_lt _ (by decide)
   have p2:l.getD (i+1) 0<4294967296:=da.getD _
   rcases Nat.lt_or_ge (i+1) l.length with h2 | h2
   ·have hy:l.getD (i+1) 0=a / B ^ (i+1) % B:=by
     have:=digs_getD (k:=l.length) (n:=a) h2
     rwa [← ea] at this
    have hor:=hf_or (x:=a / B ^ i % B) (y:=l.getD (i+1) 0) p1
    have ed:((a / B ^ i % B:Nat):Int) / 2=((a / B ^ i % B / 2:Nat):Int):=rfl
    rw [hy] at hor
    have hun':(a / B ^ (i+1) % B*B+a / B ^ i % B) / 2 ^ 1 % B=a / 2 ^ 1 / B ^ i % B:=hun
    rw [hun'] at hor
    simp (config:={maxSteps:=1000000}) (disch:=((try simp only [awL]);omega)) only [b1,b3,bg,ed,hy,hor,List.set_set,↓awU,awV,awF,Qa,Qb,Qc,Qd,forall_const,↓reduceIte,↓reduceDIte,↓Qe,Qf,Qg,Qh,Qi,Qj,Qk,Ql,Qm,Qn,Qo,Qp,Qq,Qr,Qs,implies_true,Qt,Qu,Qv,Qw,Qx,Qy,Qz,QA,QB,QC,QD,QE,QF,QG,QH,QI,QJ,QK,QL,QM,QN,QO,QP,QQ]
    refine ⟨by rfl,i+1,h1,by simp only;omega,[some 0],rfl,by simp,by simp [SWeak,AWeak],?_⟩
    simp only [bs]
    simp [HWeak,BWeak]
   ·have hy:a / B ^ (i+1)=0:=Nat.div_eq_of_lt (Nat.lt_of_lt_of_le la (Nat.pow_le_pow_right (by decide) h2))
    have ed:((a / B ^ i % B:Nat):Int) / 2=((a / 2 ^ 1 / B ^ i % B:Nat):Int):=by
     rw [← hun,hy]
     simp only [B] at p1 ⊢
     omega
    simp (config:={maxSteps:=1000000}) (disch:=((try simp only [awL]);omega)) only [b1,b3,bg,ed,↓awU,awV,awF,Qa,Qb,Qc,Qd,forall_const,↓reduceIte,↓reduceDIte,↓Qe,Qf,Qg,Qh,Qi,Qj,Qk,Ql,Qm,Qn,Qo,Qp,Qq,Qr,Qs,implies_true,Qt,Qu,Qv,Qw,Qx,Qy,Qz,QA,QB,QC,QD,QE,QF,QG,QH,QI,QJ,QK,QL,QM,QN,QO,QP,QQ]
    refine ⟨i+1,h1,by simp only;omega,[some 0],rfl,by simp,by simp [SWeak,AWeak],?_⟩
    simp only [bs]
    simp [HWeak,BWeak]
  ·simp (config:={maxSteps:=1000000}) (disch:=((try simp only [awL]);omega)) only [b1,↓awU,awV,awF,Qa,Qb,Qc,Qd,forall_const,↓reduceIte,↓reduceDIte,↓Qe,Qf,Qg,Qh,Qi,Qj,Qk,Ql,Qm,Qn,Qo,Qp,Qq,Qr,Qs,implies_true,Qt,Qu,Qv,Qw,Qx,Qy,Qz,QA,QB,QC,QD,QE,QF,QG,QH,QI,QJ,QK,QL,QM,QN,QO,QP,QQ]
   have ei:i=l.length:=by omega
   subst ei
   have er:backRow l.length 1 a l.length=digs l.length (a / 2):=by
    rw [backRow,List.drop_of_length_le (by rw [digs_length];omega),List.append_nil]
   refine CallC.frozenE (rtrim_spec (backRow l.length 1 a l.length) dig_backRow (by rw [b1];omega)) (by simp [W,b1]) ?_
   rw [er,val_digs (by omega)]
   simp (config:={maxSteps:=1000000}) (disch:=((try simp only [awL]);omega)) only [↓awU,awV,awF,Qa,Qb,Qc,Qd,forall_const,↓reduceIte,↓reduceDIte,↓Qe,Qf,Qg,Qh,Qi,Qj,Qk,Ql,Qm,Qn,Qo,Qp,Qq,Qr,Qs,implies_true,Qt,Qu,Qv,Qw,Qx,Qy,Qz,QA,QB,QC,QD,QE,QF,QG,QH,QI,QJ,QK,QL,QM,QN,QO,QP,QQ]
end Go.Proofs.YtkgbbdoeodmkgaaGreatDoor.Num
namespace Go.Proofs.YtkgbbdoeodmkgaaGreatDoor.Num
open Go Go.Proofs Go.Abs
variable {G:Globals}
theorem digs_getD' {k n i:Nat} (h:i<k):(digs k n).getD i 0=n / B ^ i % B:=by
 induction k generalizing n i with
 | zero=>omega
 | succ k ih =>
  cases i with
  | zero=>simp [digs]
  | succ i =>
   have:=@ih (n / B) i (by omega)
   simp only [digs,List.getD_cons_succ,this]
   rw [Nat.div_div_eq_div_mul,← Nat.pow_succ']
theorem B_pow:B=2 ^ 32:=rfl
theorem set_bit {n X j:Nat} (hj:j / 32<n) (hX:X<B ^ n) (hd:2 ^ (j+1) ∣ X) :
  (digs n X).set (j / 32) (X / B ^ (j / 32) % B ||| 2 ^ (j % 32))=digs n (X+2 ^ j)∧X / B ^ (j / 32) % B ||| 2 ^ (j % 32)<4294967296:=by
 have hs:j % 32<32:=Nat.mod_lt _ (by decide)
 have hw:X / B ^ (j / 32) % B<4294967296:=Nat.mod_lt _ (by decide)
 have hlt:X / B ^ (j / 32) % B ||| 2 ^ (j % 32)<2 ^ 32:=Nat.or_lt_two_pow (by omega) (Nat.pow_lt_pow_right (by decide) hs)
 have hp:B ^ (j / 32)*2 ^ (j % 32)=2 ^ j:=by
  rw [B_pow,← Nat.pow_mul,← Nat.pow_add,Nat.div_add_mod]
 have hm:2 ^ (j % 32+1) ∣ X / B ^ (j / 32) % B:=by
  have h1:2 ^ (j % 32+1) ∣ B:=by rw [B_pow];exact Nat.pow_dvd_pow 2 hs
  have h2:2 ^ (j % 32+1) ∣ X / B ^ (j / 32):=by
   obtain ⟨c,hc⟩:=hd
   have:X=B ^ (j / 32)*(2 ^ (j % 32+1)*c):=by
    rw [hc,Nat.pow_succ,← hp,Nat.pow_succ,Nat.mul_assoc,Nat.mul_assoc,Nat.mul_assoc]
   rw [this,Nat.mul_div_cancel_left _ (Nat.pow_pos (by decide))]
   exact ⟨c,rfl⟩
  exact (Nat.dvd_mod_iff h1).2 h2
 obtain ⟨c,hc⟩:=hm
 have hor:X / B ^ (j / 32) % B ||| 2 ^ (j % 32)=X / B ^ (j / 32) % B+2 ^ (j % 32):=by
  rw [Nat.or_comm,Nat.add_comm,hc,Nat.mul_comm]
  exact or_low (Nat.pow_lt_pow_right (by decide) (Nat.lt_succ_self _))
 refine ⟨?_,hlt⟩
 refine digs_eq ((dig_digs _ _).set hlt) (by rw [List.length_set,digs_length]) ?_
 have h1:=val_set (l:=digs n X) (p:=j / 32) (d:=X / B ^ (j / 32) % B ||| 2 ^ (j % 32)) (by rw [digs_length];exact hj)
 rw [digs_getD' hj,val_digs hX,hor,Nat.mul_add,hp] at h1
 rw [hor]
 omega
theorem div_bit {a b j:Nat} (hb:0<b):∃ bit r',bit=a / 2 ^ j % 2∧r'=2*(a / 2 ^ (j+1) % b)+bit ∧
  (b≤r'→a / 2 ^ j % b=r' - b∧a / 2 ^ j / b*2 ^ j=a / 2 ^ (j+1) / b*2 ^ (j+1)+2 ^ j) ∧
  (r'<b→a / 2 ^ j % b=r'∧a / 2 ^ j / b*2 ^ j=a / 2 ^ (j+1) / b*2 ^ (j+1)):=by
 refine ⟨_,_,rfl,rfl,?_⟩
 have e1:a / 2 ^ (j+1)=a / 2 ^ j / 2:=by rw [Nat.pow_succ,Nat.div_div_eq_div_mul]
 have e2:∀ q,q*2 ^ (j+1)=2*q*2 ^ j:=fun q=>by rw [Nat.pow_succ];rw [Nat.mul_comm 2 q,Nat.mul_assoc,Nat.mul_comm 2]
 rw [e1]
 generalize a / 2 ^ j=x
 have h1:=Nat.mod_add_div x 2
 have h2:=Nat.mod_add_div (x / 2) b
 have h3:=Nat.mod_lt (x / 2) hb
 generalize x / 2 / b=q at *
 generalize x / 2 % b=r at *
 have hx:x=b*(2*q)+(2*r+x % 2):=by
  have:b*(2*q)=2*(b*q):=Nat.mul_left_comm ..
  omega
 generalize x % 2=c at *
 have hc:c≤1∨True:=.inr trivial
 refine ⟨fun h=>?_,fun h=>?_⟩
 ·have hq:x / b=2*q+1∧x % b=2*r+c - b:=by
   have hlt:2*r+c - b<b:=by omega
   have:x=(2*r+c - b)+b*(2*q+1):=by rw [Nat.mul_add,Nat.mul_one];omega
   rw [this]
   exact ⟨by rw [Nat.add_mul_div_left _ _ hb,Nat.div_eq_of_lt hlt,Nat.zero_add],by rw [Nat.add_mul_mod_self_left,Nat.mod_eq_of_lt hlt]⟩
  rw [hq.1,hq.2,e2,Nat.add_mul,Nat.one_mul]
  exact ⟨rfl,rfl⟩
 ·have hq:x / b=2*q∧x % b=2*r+c:=by
   have:x=(2*r+c)+b*(2*q):=by omega
   rw [this]
   exact ⟨by rw [Nat.add_mul_div_left _ _ hb,Nat.div_eq_of_lt h,Nat.zero_add],by rw [Nat.add_mul_mod_self_left,Nat.mod_eq_of_lt h]⟩
  rw [hq.1,hq.2,e2]
  exact ⟨rfl,rfl⟩
theorem bit_of {a j:Nat} (hj:j / 32<(toW a).length):(toW a).getD (j / 32) 0 / 2 ^ (j % 32) % 2=a / 2 ^ j % 2:=by
 have h1:(toW a).getD (j / 32) 0=a / B ^ (j / 32) % B:=by
  have:=digs_getD' (k:=(toW a).length) (n:=a) hj
  rwa [← toW_digs a] at this
 rw [h1]
 have hp:B ^ (j / 32)*2 ^ (j % 32)=2 ^ j:=by
  rw [B_pow,← Nat.pow_mul,← Nat.pow_add,Nat.div_add_mod]
 rw [← hp,← Nat.div_div_eq_div_mul]
 generalize a / B ^ (j / 32)=y
 have hs:j % 32<32:=Nat.mod_lt _ (by decide)
 have:B=2 ^ (j % 32)*(2*2 ^ (31 - j % 32)):=by
  rw [← Nat.pow_succ',← Nat.pow_add,B_pow];congr 1;omega
 rw [this,Nat.mod_mul_right_div_self,Nat.mod_mul_right_mod]
set_option maxHeartbeats 4000000 in
set_option maxRecDepth 100000 in
theorem div_spec (a b:Nat) (hb:b≠0) (ha:(toW a).length<2 ^ 38) (hb':(toW b).length<2 ^ 38) :
  Ctr Tryz.prog G 117 [.d (W (toW a)),.d (W (toW b))] [] (.d (.tup [W (toW (a / b)),W (toW (a % b))])) []:=by
 have da:=dig_toW a
 have la:=lt_of_toW a
 have hbp:0<b:=Nat.pos_of_ne_zero hb
 have hbit:∀ j,j / 32<(toW a).length→_:=fun j hj=>bit_of (a:=a) (j:=j) hj
 refine Ctr.pure (M:=M0) hmix Tryz.func117 rfl go117 ?_
 generalize hl:(toW a).length=n at *
 have e0:a / 2 ^ (32*n)=0:=Nat.div_eq_of_lt (by rw [Nat.pow_mul];exact la)
 simp (config:={maxSteps:=1000000}) (disch:=((try simp only [awL]);omega)) only [Tryz.f117,hl,↓awU,awV,awF,Qa,Qb,Qc,Qd,forall_const,↓reduceIte,↓reduceDIte,↓Qe,Qf,Qg,Qh,Qi,Qj,Qk,Ql,Qm,Qn,Qo,Qp,Qq,Qr,Qs,implies_true,Qt,Qu,Qv,Qw,Qx,Qy,Qz,QA,QB,QC,QD,QE,QF,QG,QH,QI,QJ,QK,QL,QM,QN,QO,QP,QQ]
 refine LoopC.fx 19 (α:=Nat) (β:=Unit) (fun k=>k) (fun k=>[(5,.d (W (toW (a / 2 ^ k % b)))),(6,.d (.int .i64 ((k:Int) - 1)))])
  (fun k=>[.row false (nats .u32 (digs n (a / 2 ^ k / b*2 ^ k)))]) (fun k=>k≤32*n)
  16 (fun _=>[(5,.d (W (toW (a % b))))]) (fun _=>[.row false (nats .u32 (digs n (a / b)))]) (fun _=>True) (32*n) (Nat.le_refl _) ?_ ?_ ?_
 ·rw [e0,Nat.zero_mod,Nat.zero_div,Nat.zero_mul]
  have hz:digs n 0=List.replicate n 0:=(digs_eq (Dig.zeros n) (by simp) (val_zeros n)).symm
  refine ⟨[some 0],rfl,by simp,?_,?_⟩
  ·simp [setsA,keepA,SWeak,AWeak,toW_zero,nats]
  ·simp [HWeak,BWeak,hz]
 ·intro k hk
  simp only [awK,Nat.reduceMod,Nat.reduceDiv,reduceIte]
  rcases k with _ | j
  ·simp (config:={maxSteps:=1000000}) (disch:=((try simp only [awL]);omega)) only [hl,↓awU,awV,awF,Qa,Qb,Qc,Qd,forall_const,↓reduceIte,↓reduceDIte,↓Qe,Qf,Qg,Qh,Qi,Qj,Qk,Ql,Qm,Qn,Qo,Qp,Qq,Qr,Qs,implies_true,Qt,Qu,Qv,Qw,Qx,Qy,Qz,QA,QB,QC,QD,QE,QF,QG,QH,QI,QJ,QK,QL,QM,QN,QO,QP,QQ]
   refine ⟨(),trivial,[some 0],rfl,by simp,?_,?_⟩
   ·simp [setsA,keepA,SWeak,AWeak]
   ·simp [HWeak,BWeak]
  ·have hj:j / 32<n:=by omega
   obtain ⟨bit,r',hbit1,hr',hge,hlt⟩:=div_bit (a:=a) (b:=b) (j:=j) hbp
   have hb1:bit≤1:=by omega
   have hmod:=Nat.mod_lt (a / 2 ^ (j+1)) hbp
   have hrl:(toW (a / 2 ^ (j+1) % b)).length≤(toW b).length:=toW_len_mono (Nat.le_of_lt hmod)
   have hrl2:(toW r').length≤(toW b).length+1:=by
    have h1:=toW_len_mono (show r'≤b+b by omega)
    have h2:=@plus_len b b
    omega
   have e2:Int.tdiv (j:Int) 32=((j / 32:Nat):Int):=by rw [Int.tdiv_eq_ediv_of_nonneg (by omega)];omega
   have e3:Int.tmod (j:Int) 32=((j % 32:Nat):Int):=by rw [Int.tmod_eq_emod_of_nonneg (by omega)];omega
   have e4:min (j % 32) 32=j % 32:=by omega
   have dl:=digs_length n (a / 2 ^ (j+1) / b*2 ^ (j+1))
   simp (config:={maxSteps:=1000000}) (disch:=((try simp only [awL]);omega)) only [hl,↓awU,awV,awF,Qa,Qb,Qc,Qd,forall_const,↓reduceIte,↓reduceDIte,↓Qe,Qf,Qg,Qh,Qi,Qj,Qk,Ql,Qm,Qn,Qo,Qp,Qq,Qr,Qs,implies_true,Qt,Qu,Qv,Qw,Qx,Qy,Qz,QA,QB,QC,QD,QE,QF,QG,QH,QI,QJ,QK,QL,QM,QN,QO,QP,QQ]
   refine CallC.of (bit_spec (toW a) j (by rw [hl];omega) (by omega) da) (by rw [W,hl]) ?_
   rw [hbit j hj,← hbit1]
   simp (config:={maxSteps:=1000000}) (disch:=((try simp only [awL]);omega)) only [hl,↓awU,awV,awF,Qa,Qb,Qc,Qd,forall_const,↓reduceIte,↓reduceDIte,↓Qe,Qf,Qg,Qh,Qi,Qj,Qk,Ql,Qm,Qn,Qo,Qp,Qq,Qr,Qs,implies_true,Qt,Qu,Qv,Qw,Qx,Qy,Qz,QA,QB,QC,QD,QE,QF,QG,QH,QI,QJ,QK,QL,QM,QN,QO,QP,QQ]
   refine CallC.pure (twice_spec _ bit hb1 (by omega)) ?_
   rw [← hr']
   simp (config:={maxSteps:=1000000}) (disch:=((try simp only [awL]);omega)) only [hl,↓awU,awV,awF,Qa,Qb,Qc,Qd,forall_const,↓reduceIte,↓reduceDIte,↓Qe,Qf,Qg,Qh,Qi,Qj,Qk,Ql,Qm,Qn,Qo,Qp,Qq,Qr,Qs,implies_true,Qt,Qu,Qv,Qw,Qx,Qy,Qz,QA,QB,QC,QD,QE,QF,QG,QH,QI,QJ,QK,QL,QM,QN,QO,QP,QQ]
   refine CallC.pure (rcmp_spec r' b (by omega) (by omega)) ?_
   by_cases hc:b≤r'
   ·have hge':=hge hc
    have hci:(0:Int)≤cmpI (r':Int) b:=by unfold cmpI;split<;>first | omega | (split<;>omega)
    simp (config:={maxSteps:=1000000}) (disch:=((try simp only [awL]);omega)) only [hl,↓awU,awV,awF,Qa,Qb,Qc,Qd,forall_const,↓reduceIte,↓reduceDIte,↓Qe,Qf,Qg,Qh,Qi,Qj,Qk,Ql,Qm,Qn,Qo,Qp,Qq,Qr,Qs,implies_true,Qt,Qu,Qv,Qw,Qx,Qy,Qz,QA,QB,QC,QD,QE,QF,QG,QH,QI,QJ,QK,QL,QM,QN,QO,QP,QQ]
    refine CallC.pure (rsub_spec r' b hc (by omega)) ?_
    have hX:a / 2 ^ (j+1) / b*2 ^ (j+1)<B ^ n:=by
     refine Nat.lt_of_le_of_lt ?_ la
     rw [Nat.div_div_eq_div_mul,Nat.mul_comm (2 ^ (j+1)),← Nat.div_div_eq_div_mul]
     exact Nat.le_trans (Nat.div_mul_le_self _ _) (Nat.div_le_self _ _)
    obtain ⟨s1,s2⟩:=set_bit (n:=n) hj hX ⟨_,Nat.mul_comm _ _⟩
    have g1:=digs_getD' (k:=n) (n:=a / 2 ^ (j+1) / b*2 ^ (j+1)) hj
    have hw1:(2 ^ (j % 32):Int)=((2 ^ (j % 32):Nat):Int):=by simp
    have hpl:2 ^ (j % 32)<4294967296:=Nat.pow_lt_pow_right (m:=j % 32) (n:=32) (by decide) (by omega)
    have hwr:IntKind.u32.wrap ((2 ^ (j % 32):Nat):Int)=((2 ^ (j % 32):Nat):Int):=by rw [w_u32,Nat.mod_eq_of_lt hpl]
    have hor:=bi_u32_or_nat (a:=a / 2 ^ (j+1) / b*2 ^ (j+1) / B ^ (j / 32) % B) (b:=2 ^ (j % 32)) (Nat.mod_lt _ (by decide)) hpl
    simp (config:={maxSteps:=1000000}) (disch:=((try simp only [awL]);omega)) only [hl,e2,e3,e4,dl,g1,hw1,hwr,hor,Int.one_mul,↓awU,awV,awF,Qa,Qb,Qc,Qd,forall_const,↓reduceIte,↓reduceDIte,↓Qe,Qf,Qg,Qh,Qi,Qj,Qk,Ql,Qm,Qn,Qo,Qp,Qq,Qr,Qs,implies_true,Qt,Qu,Qv,Qw,Qx,Qy,Qz,QA,QB,QC,QD,QE,QF,QG,QH,QI,QJ,QK,QL,QM,QN,QO,QP,QQ]
    refine ⟨j,by omega,Nat.lt_succ_self _,[some 0],rfl,by simp,?_,?_⟩
    ·simp [setsA,keepA,SWeak,AWeak,hge'.1]
    ·simp [HWeak,BWeak,hge'.2,s1]
   ·have hlt':=hlt (by omega)
    have hci:cmpI (r':Int) b<0:=by rw [cmpI_lt (by omega)];decide
    simp (config:={maxSteps:=1000000}) (disch:=((try simp only [awL]);omega)) only [hl,↓awU,awV,awF,Qa,Qb,Qc,Qd,forall_const,↓reduceIte,↓reduceDIte,↓Qe,Qf,Qg,Qh,Qi,Qj,Qk,Ql,Qm,Qn,Qo,Qp,Qq,Qr,Qs,implies_true,Qt,Qu,Qv,Qw,Qx,Qy,Qz,QA,QB,QC,QD,QE,QF,QG,QH,QI,QJ,QK,QL,QM,QN,QO,QP,QQ]
    refine ⟨j,by omega,Nat.lt_succ_self _,[some 0],rfl,by simp,?_,?_⟩
    ·simp [setsA,keepA,SWeak,AWeak,hlt'.1]
    ·simp [HWeak,BWeak,hlt'.2]
 ·rintro ⟨⟩ -
  simp only [awK,Nat.reduceMod,Nat.reduceDiv,reduceIte]
  simp (config:={maxSteps:=1000000}) (disch:=((try simp only [awL]);omega)) only [hl,↓awU,awV,awF,Qa,Qb,Qc,Qd,forall_const,↓reduceIte,↓reduceDIte,↓Qe,Qf,Qg,Qh,Qi,Qj,Qk,Ql,Qm,Qn,Qo,Qp,Qq,Qr,Qs,implies_true,Qt,Qu,Qv,Qw,Qx,Qy,Qz,QA,QB,QC,QD,QE,QF,QG,QH,QI,QJ,QK,QL,QM,QN,QO,QP,QQ]
  have hq:a / b<B ^ n:=Nat.lt_of_le_of_lt (Nat.div_le_self _ _) la
  refine CallC.frozenE (rtrim_spec (digs n (a / b)) (dig_digs _ _) (by rw [digs_length];omega)) (by rw [W,digs_length,List.take_of_length_le (by rw [digs_length];omega)]) ?_
  rw [val_digs hq]
  simp (config:={maxSteps:=1000000}) (disch:=((try simp only [awL]);omega)) only [↓awU,awV,awF,Qa,Qb,Qc,Qd,forall_const,↓reduceIte,↓reduceDIte,↓Qe,Qf,Qg,Qh,Qi,Qj,Qk,Ql,Qm,Qn,Qo,Qp,Qq,Qr,Qs,implies_true,Qt,Qu,Qv,Qw,Qx,Qy,Qz,QA,QB,QC,QD,QE,QF,QG,QH,QI,QJ,QK,QL,QM,QN,QO,QP,QQ]
end Go.Proofs.YtkgbbdoeodmkgaaGreatDoor.Num
namespace Go.Proofs.YtkgbbdoeodmkgaaGreatDoor.Num
open Go Go.Proofs Go.Abs
variable {G:Globals}
theorem toW_0 {a:Nat} (h:a≠0):(toW a).getD 0 0=a % B:=by rw [toW_pos h];rfl
theorem and1 {x:Nat} (h:x<4294967296):bitsI .and .u32 (x:Int) 1=((x % 2:Nat):Int):=by
 have:=bi_u32_and_nat (a:=x) (b:=1) h (by decide)
 rw [Nat.and_one_is_mod] at this
 exact this
theorem low_bit {a:Nat} (h:a≠0):bitsI .and .u32 (((toW a).getD 0 0:Nat):Int) 1=((a % 2:Nat):Int):=by
 rw [toW_0 h,and1 (show a % B<4294967296 from Nat.mod_lt _ (by decide)),Nat.mod_mod_of_dvd _ (by decide)]
theorem gcd_even {a b g:Nat} (h:Nat.gcd a b=g) (ha:a % 2=0) (hg:g % 2=1):Nat.gcd (a / 2) b=g:=by
 have hb:b % 2=1:=by
  rcases Nat.mod_two_eq_zero_or_one b with hb | hb
  ·have:2 ∣ g:=h▸Nat.dvd_gcd (Nat.dvd_of_mod_eq_zero ha) (Nat.dvd_of_mod_eq_zero hb)
   omega
  ·exact hb
 have hc:Nat.Coprime 2 b:=by rw [Nat.Coprime,Nat.gcd_rec,hb];rfl
 have:=Nat.Coprime.gcd_mul_left_cancel (a / 2) hc
 rw [← this,Nat.mul_div_cancel' (Nat.dvd_of_mod_eq_zero ha),h]
theorem gcd_even' {a b g:Nat} (h:Nat.gcd a b=g) (hb:b % 2=0) (hg:g % 2=1):Nat.gcd a (b / 2)=g:=by
 rw [Nat.gcd_comm] at h ⊢
 exact gcd_even h hb hg
theorem gcd_odd {a b:Nat} (h:¬ (a % 2=0∧b % 2=0)):Nat.gcd a b % 2=1:=by
 rcases Nat.mod_two_eq_zero_or_one (Nat.gcd a b) with hg | hg
 ·have hd:=Nat.dvd_of_mod_eq_zero hg
  have h1:=Nat.dvd_trans hd (Nat.gcd_dvd_left a b)
  have h2:=Nat.dvd_trans hd (Nat.gcd_dvd_right a b)
  exact absurd ⟨Nat.mod_eq_zero_of_dvd h1,Nat.mod_eq_zero_of_dvd h2⟩ h
 ·exact hg
theorem two_bound {a k n:Nat} (h:a*2 ^ k=n) (ha:a≠0):k<32*(toW n).length:=by
 have h1:=lt_of_toW n
 rw [B_pow,← Nat.pow_mul] at h1
 have h2:2 ^ k≤n:=by rw [← h];exact Nat.le_mul_of_pos_left _ (Nat.pos_of_ne_zero ha)
 exact (Nat.pow_lt_pow_iff_right (by decide)).1 (Nat.lt_of_le_of_lt h2 h1)
theorem half_pow {a k n:Nat} (h:a*2 ^ k=n) (ha:a % 2=0):a / 2*2 ^ (k+1)=n:=by
 rw [Nat.pow_succ',← Nat.mul_assoc,Nat.div_mul_cancel (Nat.dvd_of_mod_eq_zero ha)];exact h
theorem le_of_pow {a k n:Nat} (h:a*2 ^ k=n):a≤n:=by
 rw [← h];exact Nat.le_mul_of_pos_right _ (Nat.two_pow_pos k)
set_option maxHeartbeats 4000000 in
set_option maxRecDepth 100000 in
theorem gcd_spec (a0 b0:Nat) (ha0:a0≠0) (hb0:b0≠0) (hla:(toW a0).length<2 ^ 37) (hlb:(toW b0).length<2 ^ 37) :
  Ctr Tryz.prog G 116 [.d (W (toW a0)),.d (W (toW b0))] [] (.d (W (toW (Nat.gcd a0 b0)))) []:=by
 have le1:∀ {x},x≤a0→(toW x).length<2 ^ 37:=fun h=>Nat.lt_of_le_of_lt (toW_len_mono h) hla
 have le2:∀ {x},x≤max a0 b0→(toW x).length<2 ^ 37:=fun {x} h=>by
  rcases Nat.le_total a0 b0 with h2 | h2
  ·exact Nat.lt_of_le_of_lt (toW_len_mono (by omega:x≤b0)) hlb
  ·exact Nat.lt_of_le_of_lt (toW_len_mono (by omega:x≤a0)) hla
 refine Ctr.pure (M:=M0) hmix Tryz.func116 rfl go116 ?_
 simp (config:={maxSteps:=1000000}) (disch:=((try simp only [awL]);omega)) only [Tryz.f116,↓awU,awV,awF,Qa,Qb,Qc,Qd,forall_const,↓reduceIte,↓reduceDIte,↓Qe,Qf,Qg,Qh,Qi,Qj,Qk,Ql,Qm,Qn,Qo,Qp,Qq,Qr,Qs,implies_true,Qt,Qu,Qv,Qw,Qx,Qy,Qz,QA,QB,QC,QD,QE,QF,QG,QH,QI,QJ,QK,QL,QM,QN,QO,QP,QQ]
 refine LoopC.fx 0 (α:=Nat × Nat × Nat) (β:=Nat × Nat × Nat) (fun x=>x.1) (fun x=>[(0,.d (W (toW x.1))),(1,.d (W (toW x.2.1))),(5,.d (.int .i64 x.2.2))])
  (fun _=>[]) (fun x=>x.1≠0∧x.2.1≠0∧x.1*2 ^ x.2.2=a0∧x.2.1*2 ^ x.2.2=b0)
  0 (fun x=>[(0,.d (W (toW x.1))),(1,.d (W (toW x.2.1))),(5,.d (.int .i64 x.2.2))]) (fun _=>[]) (fun x=>(x.1≠0∧x.2.1≠0∧x.1*2 ^ x.2.2=a0∧x.2.1*2 ^ x.2.2=b0)∧¬ (x.1 % 2=0∧x.2.1 % 2=0))
  (a0,b0,0) ⟨ha0,hb0,by simp,by simp⟩ ?_ ?_ ?_
 ·exact ⟨[],rfl,by simp,by simp [setsA,keepA,SWeak,AWeak],by simp [HWeak,BWeak,SWeak,AWeak]⟩
 ·rintro ⟨a,b,k⟩ hR
  have hR':=hR
  obtain ⟨ha,hb,hak,hbk⟩:=hR'
  simp only at ha hb hak hbk
  simp only [awK,Nat.reduceMod,Nat.reduceDiv,reduceIte]
  have l1:=low_bit ha
  have l2:=low_bit hb
  have p1:=sz_pos.2 ha
  have p2:=sz_pos.2 hb
  have q1:=le1 (le_of_pow hak)
  have q2:=le2 (show b≤max a0 b0 by have:=le_of_pow hbk;omega)
  have q3:=two_bound hak ha
  have m1:=Nat.mod_two_eq_zero_or_one a
  have m2:=Nat.mod_two_eq_zero_or_one b
  by_cases e1:a % 2=0
  ·by_cases e2:b % 2=0
   ·simp (config:={maxSteps:=1000000}) (disch:=((try simp only [awL]);omega)) only [l1,l2,e1,e2,↓awU,awV,awF,Qa,Qb,Qc,Qd,forall_const,↓reduceIte,↓reduceDIte,↓Qe,Qf,Qg,Qh,Qi,Qj,Qk,Ql,Qm,Qn,Qo,Qp,Qq,Qr,Qs,implies_true,Qt,Qu,Qv,Qw,Qx,Qy,Qz,QA,QB,QC,QD,QE,QF,QG,QH,QI,QJ,QK,QL,QM,QN,QO,QP,QQ]
    refine CallC.pure (half_spec a (by omega)) ?_
    simp (config:={maxSteps:=1000000}) (disch:=((try simp only [awL]);omega)) only [↓awU,awV,awF,Qa,Qb,Qc,Qd,forall_const,↓reduceIte,↓reduceDIte,↓Qe,Qf,Qg,Qh,Qi,Qj,Qk,Ql,Qm,Qn,Qo,Qp,Qq,Qr,Qs,implies_true,Qt,Qu,Qv,Qw,Qx,Qy,Qz,QA,QB,QC,QD,QE,QF,QG,QH,QI,QJ,QK,QL,QM,QN,QO,QP,QQ]
    refine CallC.pure (half_spec b (by omega)) ?_
    simp (config:={maxSteps:=1000000}) (disch:=((try simp only [awL]);omega)) only [↓awU,awV,awF,Qa,Qb,Qc,Qd,forall_const,↓reduceIte,↓reduceDIte,↓Qe,Qf,Qg,Qh,Qi,Qj,Qk,Ql,Qm,Qn,Qo,Qp,Qq,Qr,Qs,implies_true,Qt,Qu,Qv,Qw,Qx,Qy,Qz,QA,QB,QC,QD,QE,QF,QG,QH,QI,QJ,QK,QL,QM,QN,QO,QP,QQ]
    exact ⟨(a / 2,b / 2,k+1),⟨by simp only;omega,by simp only;omega,half_pow hak e1,half_pow hbk e2⟩,by simp only;omega,⟨[],rfl,by simp,by simp [setsA,keepA,SWeak,AWeak],by simp [HWeak,BWeak,SWeak,AWeak]⟩⟩
   ·simp (config:={maxSteps:=1000000}) (disch:=((try simp only [awL]);omega)) only [l1,l2,e1,e2,↓awU,awV,awF,Qa,Qb,Qc,Qd,forall_const,↓reduceIte,↓reduceDIte,↓Qe,Qf,Qg,Qh,Qi,Qj,Qk,Ql,Qm,Qn,Qo,Qp,Qq,Qr,Qs,implies_true,Qt,Qu,Qv,Qw,Qx,Qy,Qz,QA,QB,QC,QD,QE,QF,QG,QH,QI,QJ,QK,QL,QM,QN,QO,QP,QQ]
    exact ⟨(a,b,k),⟨hR,fun h=>e2 h.2⟩,⟨[],rfl,by simp,by simp [setsA,keepA,SWeak,AWeak],by simp [HWeak,BWeak,SWeak,AWeak]⟩⟩
  ·simp (config:={maxSteps:=1000000}) (disch:=((try simp only [awL]);omega)) only [l1,l2,e1,↓awU,awV,awF,Qa,Qb,Qc,Qd,forall_const,↓reduceIte,↓reduceDIte,↓Qe,Qf,Qg,Qh,Qi,Qj,Qk,Ql,Qm,Qn,Qo,Qp,Qq,Qr,Qs,implies_true,Qt,Qu,Qv,Qw,Qx,Qy,Qz,QA,QB,QC,QD,QE,QF,QG,QH,QI,QJ,QK,QL,QM,QN,QO,QP,QQ]
   exact ⟨(a,b,k),⟨hR,fun h=>e1 h.1⟩,⟨[],rfl,by simp,by simp [setsA,keepA,SWeak,AWeak],by simp [HWeak,BWeak,SWeak,AWeak]⟩⟩
 ·rintro ⟨a1,b1,K⟩ ⟨⟨ha1,hb1,hak1,hbk1⟩,hodd⟩
  simp only at ha1 hb1 hak1 hbk1 hodd
  simp only [awK,Nat.reduceMod,Nat.reduceDiv,reduceIte]
  have hgo:=gcd_odd hodd
  have hgg:Nat.gcd a0 b0=Nat.gcd a1 b1*2 ^ K:=by rw [← hak1,← hbk1,Nat.gcd_mul_right]
  have hg0:Nat.gcd a1 b1≠0:=by omega
  have hKb:=two_bound hak1 ha1
  rw [hgg]
  have hgl:Nat.gcd a1 b1*2 ^ K≤a0:=by rw [← hgg];exact Nat.gcd_le_left _ (Nat.pos_of_ne_zero ha0)
  generalize Nat.gcd a0 b0=gg at *
  generalize hg:Nat.gcd a1 b1=g at *
  have ma1:a1≤max a0 b0:=by have:=le_of_pow hak1;omega
  have mb1:b1≤max a0 b0:=by have:=le_of_pow hbk1;omega
  simp (config:={maxSteps:=1000000}) (disch:=((try simp only [awL]);omega)) only [↓awU,awV,awF,Qa,Qb,Qc,Qd,forall_const,↓reduceIte,↓reduceDIte,↓Qe,Qf,Qg,Qh,Qi,Qj,Qk,Ql,Qm,Qn,Qo,Qp,Qq,Qr,Qs,implies_true,Qt,Qu,Qv,Qw,Qx,Qy,Qz,QA,QB,QC,QD,QE,QF,QG,QH,QI,QJ,QK,QL,QM,QN,QO,QP,QQ]
  refine LoopC.fx 32 (α:=Nat × Nat) (β:=Unit) (fun x=>x.1+x.2) (fun x=>[(0,.d (W (toW x.1))),(1,.d (W (toW x.2)))])
   (fun _=>[]) (fun x=>x.1≠0∧x.1≤max a0 b0∧x.2≤max a0 b0∧Nat.gcd x.1 x.2=g)
   32 (fun _=>[(0,.d (W (toW g)))]) (fun _=>[]) (fun _=>True) (a1,b1) ⟨ha1,ma1,mb1,hg⟩ ?_ ?_ ?_
  ·exact ⟨[],rfl,by simp,by simp [setsA,keepA,SWeak,AWeak],by simp [HWeak,BWeak,SWeak,AWeak]⟩
  ·rintro ⟨a,b⟩ ⟨ha,hma,hmb,hgab⟩
   simp only at ha hma hmb hgab
   simp only [awK,Nat.reduceMod,Nat.reduceDiv,reduceIte]
   by_cases hb:b=0
   ·subst hb
    rw [Nat.gcd_zero_right] at hgab
    subst hgab
    have e:toW 0=[]:=toW_zero
    rw [e]
    simp (config:={maxSteps:=1000000}) (disch:=((try simp only [awL]);omega)) only [↓awU,awV,awF,Qa,Qb,Qc,Qd,forall_const,↓reduceIte,↓reduceDIte,↓Qe,Qf,Qg,Qh,Qi,Qj,Qk,Ql,Qm,Qn,Qo,Qp,Qq,Qr,Qs,implies_true,Qt,Qu,Qv,Qw,Qx,Qy,Qz,QA,QB,QC,QD,QE,QF,QG,QH,QI,QJ,QK,QL,QM,QN,QO,QP,QQ]
    exact ⟨(),trivial,⟨[],rfl,by simp,by simp [setsA,keepA,SWeak,AWeak],by simp [HWeak,BWeak,SWeak,AWeak]⟩⟩
   ·have p2:=sz_pos.2 hb
    simp (config:={maxSteps:=1000000}) (disch:=((try simp only [awL]);omega)) only [↓awU,awV,awF,Qa,Qb,Qc,Qd,forall_const,↓reduceIte,↓reduceDIte,↓Qe,Qf,Qg,Qh,Qi,Qj,Qk,Ql,Qm,Qn,Qo,Qp,Qq,Qr,Qs,implies_true,Qt,Qu,Qv,Qw,Qx,Qy,Qz,QA,QB,QC,QD,QE,QF,QG,QH,QI,QJ,QK,QL,QM,QN,QO,QP,QQ]
    refine LoopC.fx 34 (α:=Nat) (β:=Nat) (fun x=>x) (fun x=>[(0,.d (W (toW x)))])
     (fun _=>[]) (fun x=>x≠0∧x≤a∧Nat.gcd x b=g)
     34 (fun x=>[(0,.d (W (toW x)))]) (fun _=>[]) (fun x=>x≠0∧x≤a∧Nat.gcd x b=g∧x % 2=1) a ⟨ha,Nat.le_refl _,hgab⟩ ?_ ?_ ?_
    ·exact ⟨[],rfl,by simp,by simp [setsA,keepA,SWeak,AWeak],by simp [HWeak,BWeak,SWeak,AWeak]⟩
    ·rintro x ⟨hx,hxa,hxg⟩
     simp only [awK,Nat.reduceMod,Nat.reduceDiv,reduceIte]
     have l1:=low_bit hx
     have p1:=sz_pos.2 hx
     have q1:=le2 (show x≤max a0 b0 by omega)
     have m1:=Nat.mod_two_eq_zero_or_one x
     by_cases e1:x % 2=0
     ·simp (config:={maxSteps:=1000000}) (disch:=((try simp only [awL]);omega)) only [l1,e1,↓awU,awV,awF,Qa,Qb,Qc,Qd,forall_const,↓reduceIte,↓reduceDIte,↓Qe,Qf,Qg,Qh,Qi,Qj,Qk,Ql,Qm,Qn,Qo,Qp,Qq,Qr,Qs,implies_true,Qt,Qu,Qv,Qw,Qx,Qy,Qz,QA,QB,QC,QD,QE,QF,QG,QH,QI,QJ,QK,QL,QM,QN,QO,QP,QQ]
      refine CallC.pure (half_spec x (by omega)) ?_
      simp (config:={maxSteps:=1000000}) (disch:=((try simp only [awL]);omega)) only [↓awU,awV,awF,Qa,Qb,Qc,Qd,forall_const,↓reduceIte,↓reduceDIte,↓Qe,Qf,Qg,Qh,Qi,Qj,Qk,Ql,Qm,Qn,Qo,Qp,Qq,Qr,Qs,implies_true,Qt,Qu,Qv,Qw,Qx,Qy,Qz,QA,QB,QC,QD,QE,QF,QG,QH,QI,QJ,QK,QL,QM,QN,QO,QP,QQ]
      exact ⟨x / 2,⟨by omega,by omega,gcd_even hxg e1 hgo⟩,by simp only;omega,⟨[],rfl,by simp,by simp [setsA,keepA,SWeak,AWeak],by simp [HWeak,BWeak,SWeak,AWeak]⟩⟩
     ·simp (config:={maxSteps:=1000000}) (disch:=((try simp only [awL]);omega)) only [l1,e1,↓awU,awV,awF,Qa,Qb,Qc,Qd,forall_const,↓reduceIte,↓reduceDIte,↓Qe,Qf,Qg,Qh,Qi,Qj,Qk,Ql,Qm,Qn,Qo,Qp,Qq,Qr,Qs,implies_true,Qt,Qu,Qv,Qw,Qx,Qy,Qz,QA,QB,QC,QD,QE,QF,QG,QH,QI,QJ,QK,QL,QM,QN,QO,QP,QQ]
      exact ⟨x,⟨hx,hxa,hxg,by omega⟩,⟨[],rfl,by simp,by simp [setsA,keepA,SWeak,AWeak],by simp [HWeak,BWeak,SWeak,AWeak]⟩⟩
    ·rintro a' ⟨ha',haa',hga',hoa⟩
     simp only [awK,Nat.reduceMod,Nat.reduceDiv,reduceIte]
     simp (config:={maxSteps:=1000000}) (disch:=((try simp only [awL]);omega)) only [↓awU,awV,awF,Qa,Qb,Qc,Qd,forall_const,↓reduceIte,↓reduceDIte,↓Qe,Qf,Qg,Qh,Qi,Qj,Qk,Ql,Qm,Qn,Qo,Qp,Qq,Qr,Qs,implies_true,Qt,Qu,Qv,Qw,Qx,Qy,Qz,QA,QB,QC,QD,QE,QF,QG,QH,QI,QJ,QK,QL,QM,QN,QO,QP,QQ]
     refine LoopC.fx 33 (α:=Nat) (β:=Nat) (fun x=>x) (fun x=>[(1,.d (W (toW x)))])
      (fun _=>[]) (fun x=>x≠0∧x≤b∧Nat.gcd a' x=g)
      33 (fun x=>[(1,.d (W (toW x)))]) (fun _=>[]) (fun x=>x≠0∧x≤b∧Nat.gcd a' x=g) b ⟨hb,Nat.le_refl _,hga'⟩ ?_ ?_ ?_
     ·exact ⟨[],rfl,by simp,by simp [setsA,keepA,SWeak,AWeak],by simp [HWeak,BWeak,SWeak,AWeak]⟩
     ·rintro x ⟨hx,hxa,hxg⟩
      simp only [awK,Nat.reduceMod,Nat.reduceDiv,reduceIte]
      have l1:=low_bit hx
      have p1:=sz_pos.2 hx
      have q1:=le2 (show x≤max a0 b0 by omega)
      have m1:=Nat.mod_two_eq_zero_or_one x
      by_cases e1:x % 2=0
      ·simp (config:={maxSteps:=1000000}) (disch:=((try simp only [awL]);omega)) only [l1,e1,↓awU,awV,awF,Qa,Qb,Qc,Qd,forall_const,↓reduceIte,↓reduceDIte,↓Qe,Qf,Qg,Qh,Qi,Qj,Qk,Ql,Qm,Qn,Qo,Qp,Qq,Qr,Qs,implies_true,Qt,Qu,Qv,Qw,Qx,Qy,Qz,QA,QB,QC,QD,QE,QF,QG,QH,QI,QJ,QK,QL,QM,QN,QO,QP,QQ]
       refine CallC.pure (half_spec x (by omega)) ?_
       simp (config:={maxSteps:=1000000}) (disch:=((try simp only [awL]);omega)) only [↓awU,awV,awF,Qa,Qb,Qc,Qd,forall_const,↓reduceIte,↓reduceDIte,↓Qe,Qf,Qg,Qh,Qi,Qj,Qk,Ql,Qm,Qn,Qo,Qp,Qq,Qr,Qs,implies_true,Qt,Qu,Qv,Qw,Qx,Qy,Qz,QA,QB,QC,QD,QE,QF,QG,QH,QI,QJ,QK,QL,QM,QN,QO,QP,QQ]
       exact ⟨x / 2,⟨by omega,by omega,gcd_even' hxg e1 hgo⟩,by simp only;omega,⟨[],rfl,by simp,by simp [setsA,keepA,SWeak,AWeak],by simp [HWeak,BWeak,SWeak,AWeak]⟩⟩
      ·simp (config:={maxSteps:=1000000}) (disch:=((try simp only [awL]);omega)) only [l1,e1,↓awU,awV,awF,Qa,Qb,Qc,Qd,forall_const,↓reduceIte,↓reduceDIte,↓Qe,Qf,Qg,Qh,Qi,Qj,Qk,Ql,Qm,Qn,Qo,Qp,Qq,Qr,Qs,implies_true,Qt,Qu,Qv,Qw,Qx,Qy,Qz,QA,QB,QC,QD,QE,QF,QG,QH,QI,QJ,QK,QL,QM,QN,QO,QP,QQ]
       exact ⟨x,⟨hx,hxa,hxg⟩,⟨[],rfl,by simp,by simp [setsA,keepA,SWeak,AWeak],by simp [HWeak,BWeak,SWeak,AWeak]⟩⟩
     ·rintro b' ⟨hb',hbb',hgb'⟩
      simp only [awK,Nat.reduceMod,Nat.reduceDiv,reduceIte]
      have q1:=le2 (show a'≤max a0 b0 by omega)
      have q2:=le2 (show b'≤max a0 b0 by omega)
      simp (config:={maxSteps:=1000000}) (disch:=((try simp only [awL]);omega)) only [↓awU,awV,awF,Qa,Qb,Qc,Qd,forall_const,↓reduceIte,↓reduceDIte,↓Qe,Qf,Qg,Qh,Qi,Qj,Qk,Ql,Qm,Qn,Qo,Qp,Qq,Qr,Qs,implies_true,Qt,Qu,Qv,Qw,Qx,Qy,Qz,QA,QB,QC,QD,QE,QF,QG,QH,QI,QJ,QK,QL,QM,QN,QO,QP,QQ]
      refine CallC.pure (rcmp_spec a' b' (by omega) (by omega)) ?_
      by_cases hc:b'<a'
      ·have hci:cmpI (a':Int) b'=1:=cmpI_gt (by omega)
       simp (config:={maxSteps:=1000000}) (disch:=((try simp only [awL]);omega)) only [hci,↓awU,awV,awF,Qa,Qb,Qc,Qd,forall_const,↓reduceIte,↓reduceDIte,↓Qe,Qf,Qg,Qh,Qi,Qj,Qk,Ql,Qm,Qn,Qo,Qp,Qq,Qr,Qs,implies_true,Qt,Qu,Qv,Qw,Qx,Qy,Qz,QA,QB,QC,QD,QE,QF,QG,QH,QI,QJ,QK,QL,QM,QN,QO,QP,QQ]
       refine CallC.pure (rsub_spec a' b' (by omega) (by omega)) ?_
       simp (config:={maxSteps:=1000000}) (disch:=((try simp only [awL]);omega)) only [↓awU,awV,awF,Qa,Qb,Qc,Qd,forall_const,↓reduceIte,↓reduceDIte,↓Qe,Qf,Qg,Qh,Qi,Qj,Qk,Ql,Qm,Qn,Qo,Qp,Qq,Qr,Qs,implies_true,Qt,Qu,Qv,Qw,Qx,Qy,Qz,QA,QB,QC,QD,QE,QF,QG,QH,QI,QJ,QK,QL,QM,QN,QO,QP,QQ]
       exact ⟨(b',a' - b'),⟨hb',by simp only;omega,by simp only;omega,by simp only;rw [Nat.gcd_sub_self_right (by omega),Nat.gcd_comm];exact hgb'⟩,by simp only;omega,⟨[],rfl,by simp,by simp [setsA,keepA,SWeak,AWeak],by simp [HWeak,BWeak,SWeak,AWeak]⟩⟩
      ·have hci:¬ cmpI (a':Int) b' > 0:=by unfold cmpI;split<;>first | omega | (split<;>omega)
       simp (config:={maxSteps:=1000000}) (disch:=((try simp only [awL]);omega)) only [hci,↓awU,awV,awF,Qa,Qb,Qc,Qd,forall_const,↓reduceIte,↓reduceDIte,↓Qe,Qf,Qg,Qh,Qi,Qj,Qk,Ql,Qm,Qn,Qo,Qp,Qq,Qr,Qs,implies_true,Qt,Qu,Qv,Qw,Qx,Qy,Qz,QA,QB,QC,QD,QE,QF,QG,QH,QI,QJ,QK,QL,QM,QN,QO,QP,QQ]
       refine CallC.pure (rsub_spec b' a' (by omega) (by omega)) ?_
       simp (config:={maxSteps:=1000000}) (disch:=((try simp only [awL]);omega)) only [↓awU,awV,awF,Qa,Qb,Qc,Qd,forall_const,↓reduceIte,↓reduceDIte,↓Qe,Qf,Qg,Qh,Qi,Qj,Qk,Ql,Qm,Qn,Qo,Qp,Qq,Qr,Qs,implies_true,Qt,Qu,Qv,Qw,Qx,Qy,Qz,QA,QB,QC,QD,QE,QF,QG,QH,QI,QJ,QK,QL,QM,QN,QO,QP,QQ]
       exact ⟨(a',b' - a'),⟨ha',by simp only;omega,by simp only;omega,by simp only;rw [Nat.gcd_sub_self_right (by omega)];exact hgb'⟩,by simp only;omega,⟨[],rfl,by simp,by simp [setsA,keepA,SWeak,AWeak],by simp [HWeak,BWeak,SWeak,AWeak]⟩⟩
  ·rintro ⟨⟩ -
   simp only [awK,Nat.reduceMod,Nat.reduceDiv,reduceIte]
   simp (config:={maxSteps:=1000000}) (disch:=((try simp only [awL]);omega)) only [↓awU,awV,awF,Qa,Qb,Qc,Qd,forall_const,↓reduceIte,↓reduceDIte,↓Qe,Qf,Qg,Qh,Qi,Qj,Qk,Ql,Qm,Qn,Qo,Qp,Qq,Qr,Qs,implies_true,Qt,Qu,Qv,Qw,Qx,Qy,Qz,QA,QB,QC,QD,QE,QF,QG,QH,QI,QJ,QK,QL,QM,QN,QO,QP,QQ]
   refine LoopC.fx 0 (α:=Nat × Nat) (β:=Unit) (fun x=>x.2) (fun x=>[(0,.d (W (toW x.1))),(5,.d (.int .i64 x.2))])
    (fun _=>[]) (fun x=>x.1*2 ^ x.2=g*2 ^ K∧x.2≤K) 0 (fun _=>[(0,.d (W (toW (g*2 ^ K))))]) (fun _=>[]) (fun _=>True) (g,K) ⟨rfl,Nat.le_refl _⟩ ?_ ?_ ?_
   ·exact ⟨[],rfl,by simp,by simp [setsA,keepA,SWeak,AWeak],by simp [HWeak,BWeak,SWeak,AWeak]⟩
   ·rintro ⟨x,k⟩ ⟨hx,hk⟩
    simp only at hx hk
    simp only [awK,Nat.reduceMod,Nat.reduceDiv,reduceIte]
    rcases k with _ | k
    ·rw [Nat.pow_zero,Nat.mul_one] at hx
     subst hx
     simp (config:={maxSteps:=1000000}) (disch:=((try simp only [awL]);omega)) only [↓awU,awV,awF,Qa,Qb,Qc,Qd,forall_const,↓reduceIte,↓reduceDIte,↓Qe,Qf,Qg,Qh,Qi,Qj,Qk,Ql,Qm,Qn,Qo,Qp,Qq,Qr,Qs,implies_true,Qt,Qu,Qv,Qw,Qx,Qy,Qz,QA,QB,QC,QD,QE,QF,QG,QH,QI,QJ,QK,QL,QM,QN,QO,QP,QQ]
     exact ⟨(),trivial,⟨[],rfl,by simp,by simp [setsA,keepA,SWeak,AWeak],by simp [HWeak,BWeak,SWeak,AWeak]⟩⟩
    ·have q1:=le1 (Nat.le_trans (le_of_pow hx) hgl)
     simp (config:={maxSteps:=1000000}) (disch:=((try simp only [awL]);omega)) only [↓awU,awV,awF,Qa,Qb,Qc,Qd,forall_const,↓reduceIte,↓reduceDIte,↓Qe,Qf,Qg,Qh,Qi,Qj,Qk,Ql,Qm,Qn,Qo,Qp,Qq,Qr,Qs,implies_true,Qt,Qu,Qv,Qw,Qx,Qy,Qz,QA,QB,QC,QD,QE,QF,QG,QH,QI,QJ,QK,QL,QM,QN,QO,QP,QQ]
     refine CallC.pure (twice_spec x 0 (by decide) (by omega)) ?_
     simp (config:={maxSteps:=1000000}) (disch:=((try simp only [awL]);omega)) only [↓awU,awV,awF,Qa,Qb,Qc,Qd,forall_const,↓reduceIte,↓reduceDIte,↓Qe,Qf,Qg,Qh,Qi,Qj,Qk,Ql,Qm,Qn,Qo,Qp,Qq,Qr,Qs,implies_true,Qt,Qu,Qv,Qw,Qx,Qy,Qz,QA,QB,QC,QD,QE,QF,QG,QH,QI,QJ,QK,QL,QM,QN,QO,QP,QQ]
     refine ⟨(2*x,k),⟨?_,by simp only;omega⟩,Nat.lt_succ_self _,⟨[],rfl,by simp,by simp [setsA,keepA,SWeak,AWeak],by simp [HWeak,BWeak,SWeak,AWeak]⟩⟩
     rw [← hx,Nat.pow_succ']
     simp only
     rw [Nat.mul_comm 2 x,Nat.mul_assoc]
   ·rintro ⟨⟩ -
    simp only [awK,Nat.reduceMod,Nat.reduceDiv,reduceIte]
    simp (config:={maxSteps:=1000000}) (disch:=((try simp only [awL]);omega)) only [↓awU,awV,awF,Qa,Qb,Qc,Qd,forall_const,↓reduceIte,↓reduceDIte,↓Qe,Qf,Qg,Qh,Qi,Qj,Qk,Ql,Qm,Qn,Qo,Qp,Qq,Qr,Qs,implies_true,Qt,Qu,Qv,Qw,Qx,Qy,Qz,QA,QB,QC,QD,QE,QF,QG,QH,QI,QJ,QK,QL,QM,QN,QO,QP,QQ]
end Go.Proofs.YtkgbbdoeodmkgaaGreatDoor.Num
namespace Go.Proofs.YtkgbbdoeodmkgaaGreatDoor.Num
open Go Go.Proofs Go.Abs
variable {G:Globals}
theorem rminus_spec (n:Int) (hn:sz n<2 ^ 36):Ctr Tryz.prog G 87 [.d (Big n)] [] (.d (Big (-n))) []:=by
 refine Ctr.pure (M:=M0) hmix Tryz.func87 rfl go87 ?_
 simp only [sz] at hn
 simp (config:={maxSteps:=1000000}) (disch:=((try simp only [awL]);omega)) only [Tryz.f87,↓awU,awV,awF,Qa,Qb,Qc,Qd,forall_const,↓reduceIte,↓reduceDIte,↓Qe,Qf,Qg,Qh,Qi,Qj,Qk,Ql,Qm,Qn,Qo,Qp,Qq,Qr,Qs,implies_true,Qt,Qu,Qv,Qw,Qx,Qy,Qz,QA,QB,QC,QD,QE,QF,QG,QH,QI,QJ,QK,QL,QM,QN,QO,QP,QQ]
 refine CallC.pure (rbig_spec _ _ (dig_toW _) (by omega)) ?_
 rw [val_toW]
 have e:(if decide (¬ n<0)=true then -((n.natAbs:Nat):Int) else ((n.natAbs:Nat):Int))=-n:=by
  by_cases h:n<0
  ·simp [h];omega
  ·simp [h];omega
 rw [e]
 simp (config:={maxSteps:=1000000}) (disch:=((try simp only [awL]);omega)) only [↓awU,awV,awF,Qa,Qb,Qc,Qd,forall_const,↓reduceIte,↓reduceDIte,↓Qe,Qf,Qg,Qh,Qi,Qj,Qk,Ql,Qm,Qn,Qo,Qp,Qq,Qr,Qs,implies_true,Qt,Qu,Qv,Qw,Qx,Qy,Qz,QA,QB,QC,QD,QE,QF,QG,QH,QI,QJ,QK,QL,QM,QN,QO,QP,QQ]
theorem rtimes_spec (a b:Int) (ha:sz a<2 ^ 36) (hb:sz b<2 ^ 36):Ctr Tryz.prog G 86 [.d (Big a),.d (Big b)] [] (.d (Big (a*b))) []:=by
 refine Ctr.pure (M:=M0) hmix Tryz.func86 rfl go86 ?_
 simp only [sz] at ha hb
 have hl:=@times_len a.natAbs b.natAbs
 simp (config:={maxSteps:=1000000}) (disch:=((try simp only [awL]);omega)) only [Tryz.f86,↓awU,awV,awF,Qa,Qb,Qc,Qd,forall_const,↓reduceIte,↓reduceDIte,↓Qe,Qf,Qg,Qh,Qi,Qj,Qk,Ql,Qm,Qn,Qo,Qp,Qq,Qr,Qs,implies_true,Qt,Qu,Qv,Qw,Qx,Qy,Qz,QA,QB,QC,QD,QE,QF,QG,QH,QI,QJ,QK,QL,QM,QN,QO,QP,QQ]
 refine CallC.pure (rmul_spec _ _ (by omega) (by omega)) ?_
 simp (config:={maxSteps:=1000000}) (disch:=((try simp only [awL]);omega)) only [↓awU,awV,awF,Qa,Qb,Qc,Qd,forall_const,↓reduceIte,↓reduceDIte,↓Qe,Qf,Qg,Qh,Qi,Qj,Qk,Ql,Qm,Qn,Qo,Qp,Qq,Qr,Qs,implies_true,Qt,Qu,Qv,Qw,Qx,Qy,Qz,QA,QB,QC,QD,QE,QF,QG,QH,QI,QJ,QK,QL,QM,QN,QO,QP,QQ]
 refine CallC.pure (rbig_spec _ _ (dig_toW _) (by omega)) ?_
 rw [val_toW]
 have e:(if decide (¬ decide (a<0)=decide (b<0))=true then -((a.natAbs*b.natAbs:Nat):Int) else ((a.natAbs*b.natAbs:Nat):Int))=a*b:=by
  have ea:((a.natAbs:Nat):Int)=if a<0 then -a else a:=by split<;>omega
  have eb:((b.natAbs:Nat):Int)=if b<0 then -b else b:=by split<;>omega
  rw [Int.natCast_mul,ea,eb]
  by_cases ha':a<0<;>by_cases hb':b<0<;>simp [ha',hb',Int.neg_mul,Int.mul_neg]
 rw [e]
 simp (config:={maxSteps:=1000000}) (disch:=((try simp only [awL]);omega)) only [↓awU,awV,awF,Qa,Qb,Qc,Qd,forall_const,↓reduceIte,↓reduceDIte,↓Qe,Qf,Qg,Qh,Qi,Qj,Qk,Ql,Qm,Qn,Qo,Qp,Qq,Qr,Qs,implies_true,Qt,Qu,Qv,Qw,Qx,Qy,Qz,QA,QB,QC,QD,QE,QF,QG,QH,QI,QJ,QK,QL,QM,QN,QO,QP,QQ]
 try rfl
theorem rplus_spec (a b:Int) (ha:sz a<2 ^ 36) (hb:sz b<2 ^ 36):Ctr Tryz.prog G 85 [.d (Big a),.d (Big b)] [] (.d (Big (a+b))) []:=by
 have hpl:=@plus_len a.natAbs b.natAbs
 have ka:((a.natAbs:Nat):Int)=if a<0 then -a else a:=by split<;>omega
 have kb:((b.natAbs:Nat):Int)=if b<0 then -b else b:=by split<;>omega
 have hcmp:0≤cmpI (a.natAbs:Int) b.natAbs↔b.natAbs≤a.natAbs:=by
  unfold cmpI;split
  ·omega
  ·split<;>omega
 refine Ctr.pure (M:=M0) hmix Tryz.func85 rfl go85 ?_
 simp only [sz] at ha hb
 have hdl:=digs_length (max (toW a.natAbs).length (toW b.natAbs).length+1) (a.natAbs+b.natAbs)
 have hdv:val (digs (max (toW a.natAbs).length (toW b.natAbs).length+1) (a.natAbs+b.natAbs))=a.natAbs+b.natAbs:=val_digs (Nat.lt_of_lt_of_le (lt_of_toW _) (Nat.pow_le_pow_right (by decide) hpl))
 have hsub1:=toW_len_mono (Nat.sub_le a.natAbs b.natAbs)
 have hsub2:=toW_len_mono (Nat.sub_le b.natAbs a.natAbs)
 by_cases hs:decide (a<0)=decide (b<0)
 ·simp (config:={maxSteps:=1000000}) (disch:=((try simp only [awL]);omega)) only [Tryz.f85,hs,↓awU,awV,awF,Qa,Qb,Qc,Qd,forall_const,↓reduceIte,↓reduceDIte,↓Qe,Qf,Qg,Qh,Qi,Qj,Qk,Ql,Qm,Qn,Qo,Qp,Qq,Qr,Qs,implies_true,Qt,Qu,Qv,Qw,Qx,Qy,Qz,QA,QB,QC,QD,QE,QF,QG,QH,QI,QJ,QK,QL,QM,QN,QO,QP,QQ]
  refine CallC.pure (radd_spec _ _ (by omega) (by omega)) ?_
  simp (config:={maxSteps:=1000000}) (disch:=((try simp only [awL]);omega)) only [hs,↓awU,awV,awF,Qa,Qb,Qc,Qd,forall_const,↓reduceIte,↓reduceDIte,↓Qe,Qf,Qg,Qh,Qi,Qj,Qk,Ql,Qm,Qn,Qo,Qp,Qq,Qr,Qs,implies_true,Qt,Qu,Qv,Qw,Qx,Qy,Qz,QA,QB,QC,QD,QE,QF,QG,QH,QI,QJ,QK,QL,QM,QN,QO,QP,QQ]
  refine CallC.pure (rbig_spec _ _ (dig_digs _ _) (by omega)) ?_
  rw [hdv]
  have e:(if decide (b<0)=true then -((a.natAbs+b.natAbs:Nat):Int) else ((a.natAbs+b.natAbs:Nat):Int))=a+b:=by
   have hs':=decide_eq_decide.1 hs
   rw [Int.natCast_add,ka,kb]
   by_cases hb':b<0<;>simp [hs',hb']<;>omega
  rw [e]
  simp (config:={maxSteps:=1000000}) (disch:=((try simp only [awL]);omega)) only [↓awU,awV,awF,Qa,Qb,Qc,Qd,forall_const,↓reduceIte,↓reduceDIte,↓Qe,Qf,Qg,Qh,Qi,Qj,Qk,Ql,Qm,Qn,Qo,Qp,Qq,Qr,Qs,implies_true,Qt,Qu,Qv,Qw,Qx,Qy,Qz,QA,QB,QC,QD,QE,QF,QG,QH,QI,QJ,QK,QL,QM,QN,QO,QP,QQ]
  try rfl
 ·simp (config:={maxSteps:=1000000}) (disch:=((try simp only [awL]);omega)) only [Tryz.f85,hs,↓awU,awV,awF,Qa,Qb,Qc,Qd,forall_const,↓reduceIte,↓reduceDIte,↓Qe,Qf,Qg,Qh,Qi,Qj,Qk,Ql,Qm,Qn,Qo,Qp,Qq,Qr,Qs,implies_true,Qt,Qu,Qv,Qw,Qx,Qy,Qz,QA,QB,QC,QD,QE,QF,QG,QH,QI,QJ,QK,QL,QM,QN,QO,QP,QQ]
  refine CallC.pure (rcmp_spec _ _ (by omega) (by omega)) ?_
  have hsg:¬ (a<0)∨¬ (b<0):=by
   by_cases h1:a<0
   ·right;intro h2;exact hs (by simp [h1,h2])
   ·left;exact h1
  have hsg2:a<0∨b<0:=by
   by_cases h1:a<0
   ·left;exact h1
   ·right
    by_cases h2:b<0
    ·exact h2
    ·exact absurd (by simp [h1,h2]) hs
  by_cases h:b.natAbs≤a.natAbs
  ·have h':=hcmp.2 h
   simp (config:={maxSteps:=1000000}) (disch:=((try simp only [awL]);omega)) only [h',↓awU,awV,awF,Qa,Qb,Qc,Qd,forall_const,↓reduceIte,↓reduceDIte,↓Qe,Qf,Qg,Qh,Qi,Qj,Qk,Ql,Qm,Qn,Qo,Qp,Qq,Qr,Qs,implies_true,Qt,Qu,Qv,Qw,Qx,Qy,Qz,QA,QB,QC,QD,QE,QF,QG,QH,QI,QJ,QK,QL,QM,QN,QO,QP,QQ]
   refine CallC.pure (rsub_spec _ _ h (by omega)) ?_
   simp (config:={maxSteps:=1000000}) (disch:=((try simp only [awL]);omega)) only [↓awU,awV,awF,Qa,Qb,Qc,Qd,forall_const,↓reduceIte,↓reduceDIte,↓Qe,Qf,Qg,Qh,Qi,Qj,Qk,Ql,Qm,Qn,Qo,Qp,Qq,Qr,Qs,implies_true,Qt,Qu,Qv,Qw,Qx,Qy,Qz,QA,QB,QC,QD,QE,QF,QG,QH,QI,QJ,QK,QL,QM,QN,QO,QP,QQ]
   refine CallC.pure (rbig_spec _ _ (dig_toW _) (by omega)) ?_
   rw [val_toW]
   have e:(if decide (a<0)=true then -((a.natAbs - b.natAbs:Nat):Int) else ((a.natAbs - b.natAbs:Nat):Int))=a+b:=by
    by_cases h1:a<0
    ·simp only [h1,decide_true,if_true];omega
    ·simp only [h1,decide_false,Bool.false_eq_true,if_false];omega
   rw [e]
   simp (config:={maxSteps:=1000000}) (disch:=((try simp only [awL]);omega)) only [↓awU,awV,awF,Qa,Qb,Qc,Qd,forall_const,↓reduceIte,↓reduceDIte,↓Qe,Qf,Qg,Qh,Qi,Qj,Qk,Ql,Qm,Qn,Qo,Qp,Qq,Qr,Qs,implies_true,Qt,Qu,Qv,Qw,Qx,Qy,Qz,QA,QB,QC,QD,QE,QF,QG,QH,QI,QJ,QK,QL,QM,QN,QO,QP,QQ]
   try rfl
  ·have h':¬ 0≤cmpI (a.natAbs:Int) b.natAbs:=fun h2=>h (hcmp.1 h2)
   simp (config:={maxSteps:=1000000}) (disch:=((try simp only [awL]);omega)) only [h',↓awU,awV,awF,Qa,Qb,Qc,Qd,forall_const,↓reduceIte,↓reduceDIte,↓Qe,Qf,Qg,Qh,Qi,Qj,Qk,Ql,Qm,Qn,Qo,Qp,Qq,Qr,Qs,implies_true,Qt,Qu,Qv,Qw,Qx,Qy,Qz,QA,QB,QC,QD,QE,QF,QG,QH,QI,QJ,QK,QL,QM,QN,QO,QP,QQ]
   refine CallC.pure (rsub_spec _ _ (by omega) (by omega)) ?_
   simp (config:={maxSteps:=1000000}) (disch:=((try simp only [awL]);omega)) only [↓awU,awV,awF,Qa,Qb,Qc,Qd,forall_const,↓reduceIte,↓reduceDIte,↓Qe,Qf,Qg,Qh,Qi,Qj,Qk,Ql,Qm,Qn,Qo,Qp,Qq,Qr,Qs,implies_true,Qt,Qu,Qv,Qw,Qx,Qy,Qz,QA,QB,QC,QD,QE,QF,QG,QH,QI,QJ,QK,QL,QM,QN,QO,QP,QQ]
   refine CallC.pure (rbig_spec _ _ (dig_toW _) (by omega)) ?_
   rw [val_toW]
   have e:(if decide (b<0)=true then -((b.natAbs - a.natAbs:Nat):Int) else ((b.natAbs - a.natAbs:Nat):Int))=a+b:=by
    by_cases h1:b<0
    ·simp only [h1,decide_true,if_true];omega
    ·simp only [h1,decide_false,Bool.false_eq_true,if_false];omega
   rw [e]
   simp (config:={maxSteps:=1000000}) (disch:=((try simp only [awL]);omega)) only [↓awU,awV,awF,Qa,Qb,Qc,Qd,forall_const,↓reduceIte,↓reduceDIte,↓Qe,Qf,Qg,Qh,Qi,Qj,Qk,Ql,Qm,Qn,Qo,Qp,Qq,Qr,Qs,implies_true,Qt,Qu,Qv,Qw,Qx,Qy,Qz,QA,QB,QC,QD,QE,QF,QG,QH,QI,QJ,QK,QL,QM,QN,QO,QP,QQ]
   try rfl
set_option maxHeartbeats 4000000 in
set_option maxRecDepth 100000 in
theorem rlowest_spec (n d:Int) (hd:d≠0) (hn:sz n<2 ^ 36) (hds:sz d<2 ^ 36):Ctr Tryz.prog G 88 [.d (Big n),.d (Big d)] [] (.d (Frac (Rat.divInt n d))) []:=by
 simp only [sz] at hn hds
 have hg0:Nat.gcd n.natAbs d.natAbs≠0:=by
  intro h;exact hd (Int.natAbs_eq_zero.1 (Nat.gcd_eq_zero_iff.1 h).2)
 have hgl:(toW (Nat.gcd n.natAbs d.natAbs)).length≤(toW d.natAbs).length:=toW_len_mono (Nat.gcd_le_right _ (by omega))
 have hx:=@div_len n.natAbs (Nat.gcd n.natAbs d.natAbs)
 have hy:=@div_len d.natAbs (Nat.gcd n.natAbs d.natAbs)
 have e1:(Rat.divInt n d).num=if ¬ decide (n<0)=decide (d<0) then -((n.natAbs / Nat.gcd n.natAbs d.natAbs:Nat):Int) else ((n.natAbs / Nat.gcd n.natAbs d.natAbs:Nat):Int):=by
  rw [Rat.num_divInt,sign_mul hd,Int.gcd,Nat.gcd_comm d.natAbs]
  split
  ·exact neg_div (Nat.gcd_dvd_left _ _)
  ·rfl
 have e2:(Rat.divInt n d).den=d.natAbs / Nat.gcd n.natAbs d.natAbs:=by
  rw [Rat.den_divInt,if_neg hd,Int.gcd,Nat.gcd_comm d.natAbs]
 refine Ctr.pure (M:=M0) hmix Tryz.func88 rfl go88 ?_
 by_cases h0:n=0
 ·subst h0
  have hF:Frac (Rat.divInt 0 d)=Frac 0:=by rw [Rat.zero_divInt]
  have e:toW (0:Int).natAbs=[]:=toW_zero
  rw [hF]
  simp only [Big,bigL,e]
  simp (config:={maxSteps:=1000000}) (disch:=((try simp only [awL]);omega)) only [Tryz.f88,↓awU,awV,awF,Qa,Qb,Qc,Qd,forall_const,↓reduceIte,↓reduceDIte,↓Qe,Qf,Qg,Qh,Qi,Qj,Qk,Ql,Qm,Qn,Qo,Qp,Qq,Qr,Qs,implies_true,Qt,Qu,Qv,Qw,Qx,Qy,Qz,QA,QB,QC,QD,QE,QF,QG,QH,QI,QJ,QK,QL,QM,QN,QO,QP,QQ]
  refine CallC.pure (rfromInt_spec 1 (by decide) (by decide)) ?_
  have e1:(0:Rat).num=0:=rfl
  have e2:(0:Rat).den=1:=rfl
  have e3:(0:Int).natAbs=0:=rfl
  have e4:(1:Int).natAbs=1:=rfl
  simp (config:={maxSteps:=1000000}) (disch:=((try simp only [awL]);omega)) only [e1,e2,e3,e4,toW_zero,toW_one,↓awU,awV,awF,Qa,Qb,Qc,Qd,forall_const,↓reduceIte,↓reduceDIte,↓Qe,Qf,Qg,Qh,Qi,Qj,Qk,Ql,Qm,Qn,Qo,Qp,Qq,Qr,Qs,implies_true,Qt,Qu,Qv,Qw,Qx,Qy,Qz,QA,QB,QC,QD,QE,QF,QG,QH,QI,QJ,QK,QL,QM,QN,QO,QP,QQ]
  simp only [Frac,W,e1,e2,e3,toW_zero,toW_one]
  rfl
 ·have hnz:n.natAbs≠0:=by omega
  have e0:=sz_pos.2 hnz
  simp (config:={maxSteps:=1000000}) (disch:=((try simp only [awL]);omega)) only [Tryz.f88,↓awU,awV,awF,Qa,Qb,Qc,Qd,forall_const,↓reduceIte,↓reduceDIte,↓Qe,Qf,Qg,Qh,Qi,Qj,Qk,Ql,Qm,Qn,Qo,Qp,Qq,Qr,Qs,implies_true,Qt,Qu,Qv,Qw,Qx,Qy,Qz,QA,QB,QC,QD,QE,QF,QG,QH,QI,QJ,QK,QL,QM,QN,QO,QP,QQ]
  refine CallC.pure (gcd_spec _ _ hnz (by omega) (by omega) (by omega)) ?_
  generalize Nat.gcd n.natAbs d.natAbs=g at *
  simp (config:={maxSteps:=1000000}) (disch:=((try simp only [awL]);omega)) only [↓awU,awV,awF,Qa,Qb,Qc,Qd,forall_const,↓reduceIte,↓reduceDIte,↓Qe,Qf,Qg,Qh,Qi,Qj,Qk,Ql,Qm,Qn,Qo,Qp,Qq,Qr,Qs,implies_true,Qt,Qu,Qv,Qw,Qx,Qy,Qz,QA,QB,QC,QD,QE,QF,QG,QH,QI,QJ,QK,QL,QM,QN,QO,QP,QQ]
  refine CallC.pure (div_spec _ g hg0 (by omega) (by omega)) ?_
  simp (config:={maxSteps:=1000000}) (disch:=((try simp only [awL]);omega)) only [↓awU,awV,awF,Qa,Qb,Qc,Qd,forall_const,↓reduceIte,↓reduceDIte,↓Qe,Qf,Qg,Qh,Qi,Qj,Qk,Ql,Qm,Qn,Qo,Qp,Qq,Qr,Qs,implies_true,Qt,Qu,Qv,Qw,Qx,Qy,Qz,QA,QB,QC,QD,QE,QF,QG,QH,QI,QJ,QK,QL,QM,QN,QO,QP,QQ]
  refine CallC.pure (div_spec _ g hg0 (by omega) (by omega)) ?_
  simp (config:={maxSteps:=1000000}) (disch:=((try simp only [awL]);omega)) only [↓awU,awV,awF,Qa,Qb,Qc,Qd,forall_const,↓reduceIte,↓reduceDIte,↓Qe,Qf,Qg,Qh,Qi,Qj,Qk,Ql,Qm,Qn,Qo,Qp,Qq,Qr,Qs,implies_true,Qt,Qu,Qv,Qw,Qx,Qy,Qz,QA,QB,QC,QD,QE,QF,QG,QH,QI,QJ,QK,QL,QM,QN,QO,QP,QQ]
  refine CallC.pure (rbig_spec _ _ (dig_toW _) (by omega)) ?_
  simp (config:={maxSteps:=1000000}) (disch:=((try simp only [awL]);omega)) only [↓awU,awV,awF,Qa,Qb,Qc,Qd,forall_const,↓reduceIte,↓reduceDIte,↓Qe,Qf,Qg,Qh,Qi,Qj,Qk,Ql,Qm,Qn,Qo,Qp,Qq,Qr,Qs,implies_true,Qt,Qu,Qv,Qw,Qx,Qy,Qz,QA,QB,QC,QD,QE,QF,QG,QH,QI,QJ,QK,QL,QM,QN,QO,QP,QQ]
  refine CallC.pure (rbig_spec false _ (dig_toW _) (by omega)) ?_
  simp only [Frac]
  rw [e1,e2,val_toW,val_toW]
  simp (config:={maxSteps:=1000000}) (disch:=((try simp only [awL]);omega)) only [↓awU,awV,awF,Qa,Qb,Qc,Qd,forall_const,↓reduceIte,↓reduceDIte,↓Qe,Qf,Qg,Qh,Qi,Qj,Qk,Ql,Qm,Qn,Qo,Qp,Qq,Qr,Qs,implies_true,Qt,Qu,Qv,Qw,Qx,Qy,Qz,QA,QB,QC,QD,QE,QF,QG,QH,QI,QJ,QK,QL,QM,QN,QO,QP,QQ]
end Go.Proofs.YtkgbbdoeodmkgaaGreatDoor.Num
namespace Go.Proofs.YtkgbbdoeodmkgaaGreatDoor.Num
open Go Go.Proofs Go.Abs
variable {G:Globals}
end Go.Proofs.YtkgbbdoeodmkgaaGreatDoor.Num
namespace Go.Proofs.YtkgbbdoeodmkgaaGreatDoor.Num
open Go Go.Proofs Go.Abs
variable {G:Globals}
theorem nums_lt {l:List UInt8} (h:∀ b∈l,isD b) {i:Nat} (hi:i<l.length):48≤(l.getD i 0).toNat∧(l.getD i 0).toNat≤57:=h _ (mem_getDU hi)
set_option maxHeartbeats 4000000 in
set_option maxRecDepth 100000 in
theorem rdecimal_spec (s:List UInt8) (hs:s.length≤1000000000):Ctr Tryz.prog G 53 [.d (S s)] [] (.d (.tup [if decOk s=true then Frac (decVal s) else Zf,.bool (decOk s)])) []:=by
 refine Ctr.pure (M:=M0) hmix Tryz.func53 rfl go53 ?_
 simp (config:={maxSteps:=1000000}) (disch:=((try simp only [awL]);omega)) only [QR,QS,QT,QU,QV,QW,QX,QY,QZ,Q0,Q1,Q2,Tryz.f53,↓awU,awV,awF,Qa,Qb,Qc,Qd,forall_const,↓reduceIte,↓reduceDIte,↓Qe,Qf,Qg,Qh,Qi,Qj,Qk,Ql,Qm,Qn,Qo,Qp,Qq,Qr,Qs,implies_true,Qt,Qu,Qv,Qw,Qx,Qy,Qz,QA,QB,QC,QD,QE,QF,QG,QH,QI,QJ,QK,QL,QM,QN,QO,QP,QQ]
 refine CallC.pure (rparts_spec s hs) ?_
 have hok:decOk s=okB (decBody s):=rfl
 have f1:cutL 46 (decBody s)=decF s:=rfl
 have f2:cutR 46 (decBody s)=decB s:=rfl
 have hdv:decVal s=Rat.divInt (if decNeg s then -(decNum (decF s++decB s):Int) else (decNum (decF s++decB s):Int)) ((10 ^ (decB s).length:Nat):Int):=rfl
 unfold partsD
 rw [f1,f2,← hok]
 cases ho:decOk s
 ·simp (config:={maxSteps:=1000000}) (disch:=((try simp only [awL]);omega)) only [QR,QS,QT,QU,QV,QW,QX,QY,QZ,Q0,Q1,Q2,↓awU,awV,awF,Qa,Qb,Qc,Qd,forall_const,↓reduceIte,↓reduceDIte,↓Qe,Qf,Qg,Qh,Qi,Qj,Qk,Ql,Qm,Qn,Qo,Qp,Qq,Qr,Qs,implies_true,Qt,Qu,Qv,Qw,Qx,Qy,Qz,QA,QB,QC,QD,QE,QF,QG,QH,QI,QJ,QK,QL,QM,QN,QO,QP,QQ]
  first | done | rfl
 ·obtain ⟨hall,hlen,hlb⟩:=decOk_facts ho
  have hsm:∀ i,i≤(decF s++decB s).length→(toW (decNum ((decF s++decB s).take i))).length≤30:=fun i hi=>by
   have h:=decNum_lt (l:=(decF s++decB s).take i) fun b hb=>hall b (List.mem_of_mem_take hb)
   exact sz_small (Nat.lt_of_lt_of_le h (Nat.pow_le_pow_right (by decide) (by rw [List.length_take];omega)))
  have hlt:∀ i,i≤(decF s++decB s).length→decNum ((decF s++decB s).take i)*10<10 ^ 30:=fun i hi=>by
   have h:=decNum_lt (l:=(decF s++decB s).take i) fun b hb=>hall b (List.mem_of_mem_take hb)
   have h2:10 ^ ((decF s++decB s).take i).length≤10 ^ 29:=Nat.pow_le_pow_right (by decide) (by rw [List.length_take];omega)
   have h3:(10:Nat) ^ 30=10 ^ 29*10:=rfl
   omega
  have hpl:∀ b∈decB s,isD b:=fun b hb=>isD_iff.1 (hall b (List.mem_append_right _ hb))
  have hfl:(decF s).length≤24:=by rw [List.length_append] at hlen;omega
  have hall':∀ b∈decF s++decB s,isD b:=fun b hb=>isD_iff.1 (hall b hb)
  generalize decNeg s=neg at *
  generalize hL:decF s++decB s=L at *
  generalize decB s=Bk at *
  simp (config:={maxSteps:=1000000}) (disch:=((try simp only [awL]);omega)) only [QR,QS,QT,QU,QV,QW,QX,QY,QZ,Q0,Q1,Q2,hL,↓awU,awV,awF,Qa,Qb,Qc,Qd,forall_const,↓reduceIte,↓reduceDIte,↓Qe,Qf,Qg,Qh,Qi,Qj,Qk,Ql,Qm,Qn,Qo,Qp,Qq,Qr,Qs,implies_true,Qt,Qu,Qv,Qw,Qx,Qy,Qz,QA,QB,QC,QD,QE,QF,QG,QH,QI,QJ,QK,QL,QM,QN,QO,QP,QQ]
  first
  | refine CallC.of (rfromInt_spec 1 (by decide) (by decide)) (by rfl) ?_
  | refine ⟨by rfl,CallC.of (rfromInt_spec 1 (by decide) (by decide)) (by rfl) ?_⟩
  simp (config:={maxSteps:=1000000}) (disch:=((try simp only [awL]);omega)) only [QR,QS,QT,QU,QV,QW,QX,QY,QZ,Q0,Q1,Q2,hL,bigL,cells_nums,↓awU,awV,awF,Qa,Qb,Qc,Qd,forall_const,↓reduceIte,↓reduceDIte,↓Qe,Qf,Qg,Qh,Qi,Qj,Qk,Ql,Qm,Qn,Qo,Qp,Qq,Qr,Qs,implies_true,Qt,Qu,Qv,Qw,Qx,Qy,Qz,QA,QB,QC,QD,QE,QF,QG,QH,QI,QJ,QK,QL,QM,QN,QO,QP,QQ]
  refine LoopC.fr 402654036 (α:=Nat) (fun i=>L.length - i) (fun i=>[(29,.d (.int .i64 i))])
   (fun i=>[.box [.d (.bool false),.d (.sl 0 true []),.d (.bool false),.d (.sl 0 true [])],.box [.d (.bool false),.d (W (toW (decNum (L.take i))))],.box [.d (.bool false),.d (W (toW 1))],.row false (ints .u8 (nums L))]) (fun i=>i≤L.length) 0 (Nat.zero_le _) ?_ ?_
  ·exact ⟨[some 0,some 1,some 2,some 3],rfl,by simp,by simp [setsA,keepA,SWeak,AWeak],by simp [HWeak,BWeak,SWeak,AWeak,decNum,toW_zero,nats]⟩
  ·intro i hi
   have lt:=hsm i hi
   have nl:=@nums_length L
   simp only [awK,Nat.reduceMod,Nat.reduceDiv,reduceIte]
   rcases Nat.lt_or_ge i L.length with h1 | h1
   ·obtain ⟨hb1,hb2⟩:=nums_lt hall' h1
    have hp:=decNum_push h1
    have ls:=sz_small (n:=(L.getD i 0).toNat - 48) (k:=2) (by omega)
    have e48:((L.getD i 0).toNat:Int) - 48=(((L.getD i 0).toNat - 48:Nat):Int):=by omega
    have lm:(toW (decNum (L.take i)*10)).length≤40:=sz_small (Nat.lt_of_lt_of_le (hlt i hi) (by decide))
    have sz1:sz (decNum (L.take i):Int)≤30:=by simp only [sz,Int.natAbs_natCast];exact lt
    have sz2:sz ((decNum (L.take i):Int)*10)≤40:=by
     rw [show ((decNum (L.take i):Int)*10)=((decNum (L.take i)*10:Nat):Int) by omega];simp only [sz,Int.natAbs_natCast];exact lm
    have sz3:sz ((((L.getD i 0).toNat - 48:Nat):Int))≤2:=by simp only [sz,Int.natAbs_natCast];exact ls
    have sz4:sz (10:Int)≤2:=sz_int (by decide) (by decide)
    have hsum:(decNum (L.take i):Int)*10+(((L.getD i 0).toNat - 48:Nat):Int)=(decNum (L.take (i+1)):Int):=by rw [← hp];omega
    simp (config:={maxSteps:=1000000}) (disch:=((try simp only [awL]);omega)) only [QR,QS,QT,QU,QV,QW,QX,QY,QZ,Q0,Q1,Q2,nl,↓awU,awV,awF,Qa,Qb,Qc,Qd,forall_const,↓reduceIte,↓reduceDIte,↓Qe,Qf,Qg,Qh,Qi,Qj,Qk,Ql,Qm,Qn,Qo,Qp,Qq,Qr,Qs,implies_true,Qt,Qu,Qv,Qw,Qx,Qy,Qz,QA,QB,QC,QD,QE,QF,QG,QH,QI,QJ,QK,QL,QM,QN,QO,QP,QQ]
    first
    | refine CallC.of (rfromInt_spec 10 (by decide) (by decide)) (by rfl) ?_
    | refine ⟨by rfl,CallC.of (rfromInt_spec 10 (by decide) (by decide)) (by rfl) ?_⟩
    simp (config:={maxSteps:=1000000}) (disch:=((try simp only [awL]);omega)) only [QR,QS,QT,QU,QV,QW,QX,QY,QZ,Q0,Q1,Q2,nl,↓awU,awV,awF,Qa,Qb,Qc,Qd,forall_const,↓reduceIte,↓reduceDIte,↓Qe,Qf,Qg,Qh,Qi,Qj,Qk,Ql,Qm,Qn,Qo,Qp,Qq,Qr,Qs,implies_true,Qt,Qu,Qv,Qw,Qx,Qy,Qz,QA,QB,QC,QD,QE,QF,QG,QH,QI,QJ,QK,QL,QM,QN,QO,QP,QQ]
    first
    | refine CallC.of (rtimes_spec (decNum (L.take i):Int) 10 (by omega) (by omega)) (by (try simp only [Big_nat]);try rfl) ?_
    | refine ⟨by rfl,CallC.of (rtimes_spec (decNum (L.take i):Int) 10 (by omega) (by omega)) (by (try simp only [Big_nat]);try rfl) ?_⟩
    simp (config:={maxSteps:=1000000}) (disch:=((try simp only [awL]);omega)) only [QR,QS,QT,QU,QV,QW,QX,QY,QZ,Q0,Q1,Q2,nl,e48,↓awU,awV,awF,Qa,Qb,Qc,Qd,forall_const,↓reduceIte,↓reduceDIte,↓Qe,Qf,Qg,Qh,Qi,Qj,Qk,Ql,Qm,Qn,Qo,Qp,Qq,Qr,Qs,implies_true,Qt,Qu,Qv,Qw,Qx,Qy,Qz,QA,QB,QC,QD,QE,QF,QG,QH,QI,QJ,QK,QL,QM,QN,QO,QP,QQ]
    first
    | refine CallC.of (rfromInt_spec (((L.getD i 0).toNat - 48:Nat):Int) (by omega) (by omega)) (by rfl) ?_
    | refine ⟨by rfl,CallC.of (rfromInt_spec (((L.getD i 0).toNat - 48:Nat):Int) (by omega) (by omega)) (by rfl) ?_⟩
    simp (config:={maxSteps:=1000000}) (disch:=((try simp only [awL]);omega)) only [QR,QS,QT,QU,QV,QW,QX,QY,QZ,Q0,Q1,Q2,nl,e48,↓awU,awV,awF,Qa,Qb,Qc,Qd,forall_const,↓reduceIte,↓reduceDIte,↓Qe,Qf,Qg,Qh,Qi,Qj,Qk,Ql,Qm,Qn,Qo,Qp,Qq,Qr,Qs,implies_true,Qt,Qu,Qv,Qw,Qx,Qy,Qz,QA,QB,QC,QD,QE,QF,QG,QH,QI,QJ,QK,QL,QM,QN,QO,QP,QQ]
    first
    | refine CallC.of (rplus_spec ((decNum (L.take i):Int)*10) (((L.getD i 0).toNat - 48:Nat):Int) (by omega) (by omega)) (by rfl) ?_
    | refine ⟨by rfl,CallC.of (rplus_spec ((decNum (L.take i):Int)*10) (((L.getD i 0).toNat - 48:Nat):Int) (by omega) (by omega)) (by rfl) ?_⟩
    rw [hsum,Big_nat]
    simp (config:={maxSteps:=1000000}) (disch:=((try simp only [awL]);omega)) only [QR,QS,QT,QU,QV,QW,QX,QY,QZ,Q0,Q1,Q2,nl,↓awU,awV,awF,Qa,Qb,Qc,Qd,forall_const,↓reduceIte,↓reduceDIte,↓Qe,Qf,Qg,Qh,Qi,Qj,Qk,Ql,Qm,Qn,Qo,Qp,Qq,Qr,Qs,implies_true,Qt,Qu,Qv,Qw,Qx,Qy,Qz,QA,QB,QC,QD,QE,QF,QG,QH,QI,QJ,QK,QL,QM,QN,QO,QP,QQ]
    exact ⟨by rfl,i+1,h1,by simp only;omega,⟨[some 0,some 1,some 2,some 3],rfl,by simp,by simp [setsA,keepA,SWeak,AWeak],by simp [HWeak,BWeak,SWeak,AWeak]⟩⟩
   ·obtain rfl:i=L.length:=by omega
    rw [List.take_length] at *
    simp (config:={maxSteps:=1000000}) (disch:=((try simp only [awL]);omega)) only [QR,QS,QT,QU,QV,QW,QX,QY,QZ,Q0,Q1,Q2,nl,↓awU,awV,awF,Qa,Qb,Qc,Qd,forall_const,↓reduceIte,↓reduceDIte,↓Qe,Qf,Qg,Qh,Qi,Qj,Qk,Ql,Qm,Qn,Qo,Qp,Qq,Qr,Qs,implies_true,Qt,Qu,Qv,Qw,Qx,Qy,Qz,QA,QB,QC,QD,QE,QF,QG,QH,QI,QJ,QK,QL,QM,QN,QO,QP,QQ]
    refine LoopC.fr 8796093022996 (α:=Nat) (fun j=>Bk.length - j) (fun j=>[])
     (fun j=>[.box [.d (.bool false),.d (.sl 0 true []),.d (.bool false),.d (.sl 0 true [])],.box [.d (.bool false),.d (W (toW (decNum L)))],.box [.d (.bool false),.d (W (toW (10 ^ j)))],.row false (ints .u8 (nums L)),.iter (bs Bk) j]) (fun j=>j≤Bk.length) 0 (Nat.zero_le _) ?_ ?_
    ·exact ⟨[some 0,some 1,some 2,some 3,some 4],rfl,by simp,by simp [setsA,keepA,SWeak,AWeak],by simp [HWeak,BWeak,SWeak,AWeak]⟩
    ·intro j hj
     have lj:(toW (10 ^ j)).length≤10:=sz_small (Nat.pow_lt_pow_right (by decide) (by omega))
     have szj:sz ((10 ^ j:Nat):Int)≤10:=by simp only [sz,Int.natAbs_natCast];exact lj
     have sz4:sz (10:Int)≤2:=sz_int (by decide) (by decide)
     simp only [awK,Nat.reduceMod,Nat.reduceDiv,reduceIte]
     rcases Nat.lt_or_ge j Bk.length with h2 | h2
     ·obtain ⟨hb1,hb2⟩:=nums_lt hpl h2
      have hdec:=dec_ascii h2 (by omega)
      have hmul:((10 ^ j:Nat):Int)*10=((10 ^ (j+1):Nat):Int):=by rw [Nat.pow_succ];omega
      simp (config:={maxSteps:=1000000}) (disch:=((try simp only [awL]);omega)) only [QR,QS,QT,QU,QV,QW,QX,QY,QZ,Q0,Q1,Q2,hdec,↓awU,awV,awF,Qa,Qb,Qc,Qd,forall_const,↓reduceIte,↓reduceDIte,↓Qe,Qf,Qg,Qh,Qi,Qj,Qk,Ql,Qm,Qn,Qo,Qp,Qq,Qr,Qs,implies_true,Qt,Qu,Qv,Qw,Qx,Qy,Qz,QA,QB,QC,QD,QE,QF,QG,QH,QI,QJ,QK,QL,QM,QN,QO,QP,QQ]
      first
      | refine CallC.of (rfromInt_spec 10 (by decide) (by decide)) (by rfl) ?_
      | refine ⟨by rfl,CallC.of (rfromInt_spec 10 (by decide) (by decide)) (by rfl) ?_⟩
      simp (config:={maxSteps:=1000000}) (disch:=((try simp only [awL]);omega)) only [QR,QS,QT,QU,QV,QW,QX,QY,QZ,Q0,Q1,Q2,↓awU,awV,awF,Qa,Qb,Qc,Qd,forall_const,↓reduceIte,↓reduceDIte,↓Qe,Qf,Qg,Qh,Qi,Qj,Qk,Ql,Qm,Qn,Qo,Qp,Qq,Qr,Qs,implies_true,Qt,Qu,Qv,Qw,Qx,Qy,Qz,QA,QB,QC,QD,QE,QF,QG,QH,QI,QJ,QK,QL,QM,QN,QO,QP,QQ]
      first
      | refine CallC.of (rtimes_spec ((10 ^ j:Nat):Int) 10 (by omega) (by omega)) (by (try simp only [Big_nat]);try rfl) ?_
      | refine ⟨by rfl,CallC.of (rtimes_spec ((10 ^ j:Nat):Int) 10 (by omega) (by omega)) (by (try simp only [Big_nat]);try rfl) ?_⟩
      rw [hmul,Big_nat]
      simp (config:={maxSteps:=1000000}) (disch:=((try simp only [awL]);omega)) only [QR,QS,QT,QU,QV,QW,QX,QY,QZ,Q0,Q1,Q2,↓awU,awV,awF,Qa,Qb,Qc,Qd,forall_const,↓reduceIte,↓reduceDIte,↓Qe,Qf,Qg,Qh,Qi,Qj,Qk,Ql,Qm,Qn,Qo,Qp,Qq,Qr,Qs,implies_true,Qt,Qu,Qv,Qw,Qx,Qy,Qz,QA,QB,QC,QD,QE,QF,QG,QH,QI,QJ,QK,QL,QM,QN,QO,QP,QQ]
      exact ⟨by rfl,j+1,h2,by simp only;omega,⟨[some 0,some 1,some 2,some 3,some 4],rfl,by simp,by simp [setsA,keepA,SWeak,AWeak],by simp [HWeak,BWeak,SWeak,AWeak]⟩⟩
     ·obtain rfl:j=Bk.length:=by omega
      have hd0:((10 ^ Bk.length:Nat):Int)≠0:=by
       have:0<10 ^ Bk.length:=Nat.pow_pos (by decide)
       omega
      have szv:sz (decNum L:Int)≤30:=by simp only [sz,Int.natAbs_natCast];exact lt
      have szm:sz (-(decNum L:Int))≤30:=by simp only [sz,Int.natAbs_neg,Int.natAbs_natCast];exact lt
      cases neg
      ·rw [if_neg Bool.false_ne_true] at hdv
       simp (config:={maxSteps:=1000000}) (disch:=((try simp only [awL]);omega)) only [QR,QS,QT,QU,QV,QW,QX,QY,QZ,Q0,Q1,Q2,↓awU,awV,awF,Qa,Qb,Qc,Qd,forall_const,↓reduceIte,↓reduceDIte,↓Qe,Qf,Qg,Qh,Qi,Qj,Qk,Ql,Qm,Qn,Qo,Qp,Qq,Qr,Qs,implies_true,Qt,Qu,Qv,Qw,Qx,Qy,Qz,QA,QB,QC,QD,QE,QF,QG,QH,QI,QJ,QK,QL,QM,QN,QO,QP,QQ]
       first
       | refine CallC.of (rlowest_spec (decNum L:Int) ((10 ^ Bk.length:Nat):Int) hd0 (by omega) (by omega)) (by (try simp only [Big_nat]);try rfl) ?_
       | refine ⟨by rfl,CallC.of (rlowest_spec (decNum L:Int) ((10 ^ Bk.length:Nat):Int) hd0 (by omega) (by omega)) (by (try simp only [Big_nat]);try rfl) ?_⟩
       rw [← hdv]
       simp (config:={maxSteps:=1000000}) (disch:=((try simp only [awL]);omega)) only [QR,QS,QT,QU,QV,QW,QX,QY,QZ,Q0,Q1,Q2,↓awU,awV,awF,Qa,Qb,Qc,Qd,forall_const,↓reduceIte,↓reduceDIte,↓Qe,Qf,Qg,Qh,Qi,Qj,Qk,Ql,Qm,Qn,Qo,Qp,Qq,Qr,Qs,implies_true,Qt,Qu,Qv,Qw,Qx,Qy,Qz,QA,QB,QC,QD,QE,QF,QG,QH,QI,QJ,QK,QL,QM,QN,QO,QP,QQ]
       first | done | rfl
      ·rw [if_pos rfl] at hdv
       simp (config:={maxSteps:=1000000}) (disch:=((try simp only [awL]);omega)) only [QR,QS,QT,QU,QV,QW,QX,QY,QZ,Q0,Q1,Q2,↓awU,awV,awF,Qa,Qb,Qc,Qd,forall_const,↓reduceIte,↓reduceDIte,↓Qe,Qf,Qg,Qh,Qi,Qj,Qk,Ql,Qm,Qn,Qo,Qp,Qq,Qr,Qs,implies_true,Qt,Qu,Qv,Qw,Qx,Qy,Qz,QA,QB,QC,QD,QE,QF,QG,QH,QI,QJ,QK,QL,QM,QN,QO,QP,QQ]
       first
       | refine CallC.of (rminus_spec (decNum L:Int) (by omega)) (by (try simp only [Big_nat]);try rfl) ?_
       | refine ⟨by rfl,CallC.of (rminus_spec (decNum L:Int) (by omega)) (by (try simp only [Big_nat]);try rfl) ?_⟩
       simp (config:={maxSteps:=1000000}) (disch:=((try simp only [awL]);omega)) only [QR,QS,QT,QU,QV,QW,QX,QY,QZ,Q0,Q1,Q2,↓awU,awV,awF,Qa,Qb,Qc,Qd,forall_const,↓reduceIte,↓reduceDIte,↓Qe,Qf,Qg,Qh,Qi,Qj,Qk,Ql,Qm,Qn,Qo,Qp,Qq,Qr,Qs,implies_true,Qt,Qu,Qv,Qw,Qx,Qy,Qz,QA,QB,QC,QD,QE,QF,QG,QH,QI,QJ,QK,QL,QM,QN,QO,QP,QQ]
       first
       | refine CallC.of (rlowest_spec (-(decNum L:Int)) ((10 ^ Bk.length:Nat):Int) hd0 (by omega) (by omega)) (by (try simp only [Big_nat]);try rfl) ?_
       | refine ⟨by rfl,CallC.of (rlowest_spec (-(decNum L:Int)) ((10 ^ Bk.length:Nat):Int) hd0 (by omega) (by omega)) (by (try simp only [Big_nat]);try rfl) ?_⟩
       rw [← hdv]
       simp (config:={maxSteps:=1000000}) (disch:=((try simp only [awL]);omega)) only [QR,QS,QT,QU,QV,QW,QX,QY,QZ,Q0,Q1,Q2,↓awU,awV,awF,Qa,Qb,Qc,Qd,forall_const,↓reduceIte,↓reduceDIte,↓Qe,Qf,Qg,Qh,Qi,Qj,Qk,Ql,Qm,Qn,Qo,Qp,Qq,Qr,Qs,implies_true,Qt,Qu,Qv,Qw,Qx,Qy,Qz,QA,QB,QC,QD,QE,QF,QG,QH,QI,QJ,QK,QL,QM,QN,QO,QP,QQ]
       first | done | rfl
end Go.Proofs.YtkgbbdoeodmkgaaGreatDoor.Num
namespace Go.Proofs.YtkgbbdoeodmkgaaGreatDoor
open Go Go.Proofs Go.Abs
variable {G:Globals}
abbrev numSet:List UInt8:=[48,49,50,51,52,53,54,55,56,57,46,47,45,58]
def digU (b:UInt8):Bool:=decide (48≤b.toNat) && decide (b.toNat≤57)
def numT0 (t:List UInt8):Bool:=Num.decOk t || (match t with | []=>false | b::_=>digU b && t.all numSet.contains)
def numB (s:List UInt8):Bool:=numT0 (Lib.trimB s 32)
theorem numSet_iff (b:UInt8):numSet.contains b=true↔(48≤b.toNat∧b.toNat≤57)∨b.toNat=46∨b.toNat=47∨b.toNat=45∨b.toNat=58:=by
 constructor
 ·intro h
  simp only [numSet,List.contains_cons,List.contains_nil,Bool.or_false,Bool.or_eq_true,beq_iff_eq] at h
  rcases h with h | h | h | h | h | h | h | h | h | h | h | h | h | h<;>subst h<;>decide
 ·intro h
  obtain ⟨n,hn,rfl⟩:∃ n,n<256∧b=UInt8.ofNat n:=⟨b.toNat,b.toNat_lt,by simp⟩
  have e:(UInt8.ofNat n).toNat=n:=by simp;omega
  rw [e] at h
  have:n=48∨n=49∨n=50∨n=51∨n=52∨n=53∨n=54∨n=55∨n=56∨n=57∨n=46∨n=47∨n=45∨n=58:=by omega
  rcases this with h | h | h | h | h | h | h | h | h | h | h | h | h | h<;>subst h<;>decide
set_option maxHeartbeats 1000000 in
set_option maxRecDepth 100000 in
theorem number_spec9 (hG:Num.HG G) (s:List UInt8) (hs:s.length≤1000000000):Ctr Tryz.prog G 35 [.d (S s)] [] (.d (.bool (numB s))) []:=by
 refine Ctr.pure (M:=M0) hmix Tryz.func35 rfl go35 ?_
 have tl:=trimB_len s
 simp (config:={maxSteps:=1000000}) (disch:=((try simp only [awL]);omega)) only [QR,QS,QT,QU,QV,QW,QX,QY,QZ,Q0,Q1,Q2,Tryz.f35,↓awU,awV,awF,Qa,Qb,Qc,Qd,forall_const,↓reduceIte,↓reduceDIte,↓Qe,Qf,Qg,Qh,Qi,Qj,Qk,Ql,Qm,Qn,Qo,Qp,Qq,Qr,Qs,implies_true,Qt,Qu,Qv,Qw,Qx,Qy,Qz,QA,QB,QC,QD,QE,QF,QG,QH,QI,QJ,QK,QL,QM,QN,QO,QP,QQ]
 refine CallC.pure (ttrim_spec s (by omega)) ?_
 rw [show numB s=numT0 (Lib.trimB s 32) from rfl]
 generalize Lib.trimB s 32=t at *
 simp (config:={maxSteps:=1000000}) (disch:=((try simp only [awL]);omega)) only [QR,QS,QT,QU,QV,QW,QX,QY,QZ,Q0,Q1,Q2,↓awU,awV,awF,Qa,Qb,Qc,Qd,forall_const,↓reduceIte,↓reduceDIte,↓Qe,Qf,Qg,Qh,Qi,Qj,Qk,Ql,Qm,Qn,Qo,Qp,Qq,Qr,Qs,implies_true,Qt,Qu,Qv,Qw,Qx,Qy,Qz,QA,QB,QC,QD,QE,QF,QG,QH,QI,QJ,QK,QL,QM,QN,QO,QP,QQ]
 refine CallC.pure (Num.decimalF_spec hG t (by omega)) ?_
 obtain ⟨r,hr⟩:∃ r,r=numT0 t:=⟨_,rfl⟩
 rw [← hr]
 unfold numT0 at hr
 cases d1:Num.decOk t
 ·rw [d1,Bool.false_or] at hr
  simp (config:={maxSteps:=1000000}) (disch:=((try simp only [awL]);omega)) only [QR,QS,QT,QU,QV,QW,QX,QY,QZ,Q0,Q1,Q2,↓awU,awV,awF,Qa,Qb,Qc,Qd,forall_const,↓reduceIte,↓reduceDIte,↓Qe,Qf,Qg,Qh,Qi,Qj,Qk,Ql,Qm,Qn,Qo,Qp,Qq,Qr,Qs,implies_true,Qt,Qu,Qv,Qw,Qx,Qy,Qz,QA,QB,QC,QD,QE,QF,QG,QH,QI,QJ,QK,QL,QM,QN,QO,QP,QQ]
  rcases t with _ | ⟨b,u⟩
  ·subst hr
   simp (config:={maxSteps:=1000000}) (disch:=((try simp only [awL]);omega)) only [QR,QS,QT,QU,QV,QW,QX,QY,QZ,Q0,Q1,Q2,List.length_nil,↓awU,awV,awF,Qa,Qb,Qc,Qd,forall_const,↓reduceIte,↓reduceDIte,↓Qe,Qf,Qg,Qh,Qi,Qj,Qk,Ql,Qm,Qn,Qo,Qp,Qq,Qr,Qs,implies_true,Qt,Qu,Qv,Qw,Qx,Qy,Qz,QA,QB,QC,QD,QE,QF,QG,QH,QI,QJ,QK,QL,QM,QN,QO,QP,QQ]
   first | done | rfl
  ·have gb:(b::u).getD 0 0=b:=rfl
   simp (config:={maxSteps:=1000000}) (disch:=((try simp only [awL]);omega)) only [QR,QS,QT,QU,QV,QW,QX,QY,QZ,Q0,Q1,Q2,List.length_cons,gb,↓awU,awV,awF,Qa,Qb,Qc,Qd,forall_const,↓reduceIte,↓reduceDIte,↓Qe,Qf,Qg,Qh,Qi,Qj,Qk,Ql,Qm,Qn,Qo,Qp,Qq,Qr,Qs,implies_true,Qt,Qu,Qv,Qw,Qx,Qy,Qz,QA,QB,QC,QD,QE,QF,QG,QH,QI,QJ,QK,QL,QM,QN,QO,QP,QQ]
   have hr':r=(digU b && (b::u).all numSet.contains):=hr
   clear hr
   refine ⟨fun h0=>⟨fun h1=>⟨fun h2=>?_,fun h2=>?_⟩,fun h1=>?_⟩,fun h0=>by cases h0⟩
   ·refine CallC.by (L:=[]) (Num.trim_spec (b::u) numSet (by simp only [List.length_cons] at tl ⊢;omega) (by simp) (by simp) (by decide)) (by rfl) (by rfl) (by simp) ?_
    have du:digU b=true:=by unfold digU;rw [decide_eq_true (by omega:48≤b.toNat),decide_eq_true (by omega:b.toNat≤57)];rfl
    rw [du,Bool.true_and] at hr'
    have e:r=decide (Num.trimL numSet (Num.trimR numSet (b::u))=[]):=by
     rw [hr']
     by_cases h:(b::u).all numSet.contains=true
     ·rw [h,decide_eq_true (Num.trim_nil.2 h)]
     ·rw [decide_eq_false (fun h'=>h (Num.trim_nil.1 h'))];simpa using h
    rw [e]
    simp (config:={maxSteps:=1000000}) (disch:=((try simp only [awL]);omega)) only [QR,QS,QT,QU,QV,QW,QX,QY,QZ,Q0,Q1,Q2,↓awU,awV,awF,Qa,Qb,Qc,Qd,forall_const,↓reduceIte,↓reduceDIte,↓Qe,Qf,Qg,Qh,Qi,Qj,Qk,Ql,Qm,Qn,Qo,Qp,Qq,Qr,Qs,implies_true,Qt,Qu,Qv,Qw,Qx,Qy,Qz,QA,QB,QC,QD,QE,QF,QG,QH,QI,QJ,QK,QL,QM,QN,QO,QP,QQ]
    first | done | rfl
   ·have du:digU b=false:=by unfold digU;rw [decide_eq_false (by omega:¬ b.toNat≤57),Bool.and_false]
    rw [hr',du];rfl
   ·have du:digU b=false:=by unfold digU;rw [decide_eq_false (by omega:¬ 48≤b.toNat),Bool.false_and]
    rw [hr',du];rfl
 ·rw [d1,Bool.true_or] at hr
  subst hr
  simp (config:={maxSteps:=1000000}) (disch:=((try simp only [awL]);omega)) only [QR,QS,QT,QU,QV,QW,QX,QY,QZ,Q0,Q1,Q2,↓awU,awV,awF,Qa,Qb,Qc,Qd,forall_const,↓reduceIte,↓reduceDIte,↓Qe,Qf,Qg,Qh,Qi,Qj,Qk,Ql,Qm,Qn,Qo,Qp,Qq,Qr,Qs,implies_true,Qt,Qu,Qv,Qw,Qx,Qy,Qz,QA,QB,QC,QD,QE,QF,QG,QH,QI,QJ,QK,QL,QM,QN,QO,QP,QQ]
  first | done | rfl
set_option maxHeartbeats 4000000 in
set_option maxRecDepth 100000 in
theorem rnumber_spec9 (s:List UInt8) (hs:s.length≤1000000000):Ctr Tryz.prog G 37 [.d (S s)] [] (.d (.bool (numB s))) []:=by
 refine Ctr.pure (M:=M0) hmix Tryz.func37 rfl go37 ?_
 have tl:=trimB_len s
 simp (config:={maxSteps:=1000000}) (disch:=((try simp only [awL]);omega)) only [QR,QS,QT,QU,QV,QW,QX,QY,QZ,Q0,Q1,Q2,Tryz.f37,↓awU,awV,awF,Qa,Qb,Qc,Qd,forall_const,↓reduceIte,↓reduceDIte,↓Qe,Qf,Qg,Qh,Qi,Qj,Qk,Ql,Qm,Qn,Qo,Qp,Qq,Qr,Qs,implies_true,Qt,Qu,Qv,Qw,Qx,Qy,Qz,QA,QB,QC,QD,QE,QF,QG,QH,QI,QJ,QK,QL,QM,QN,QO,QP,QQ]
 refine CallC.pure (rtrim_spec s (by omega)) ?_
 rw [show numB s=numT0 (Lib.trimB s 32) from rfl]
 generalize Lib.trimB s 32=t at *
 simp (config:={maxSteps:=1000000}) (disch:=((try simp only [awL]);omega)) only [QR,QS,QT,QU,QV,QW,QX,QY,QZ,Q0,Q1,Q2,↓awU,awV,awF,Qa,Qb,Qc,Qd,forall_const,↓reduceIte,↓reduceDIte,↓Qe,Qf,Qg,Qh,Qi,Qj,Qk,Ql,Qm,Qn,Qo,Qp,Qq,Qr,Qs,implies_true,Qt,Qu,Qv,Qw,Qx,Qy,Qz,QA,QB,QC,QD,QE,QF,QG,QH,QI,QJ,QK,QL,QM,QN,QO,QP,QQ]
 refine CallC.pure (Num.rdecimal_spec t (by omega)) ?_
 obtain ⟨r,hr⟩:∃ r,r=numT0 t:=⟨_,rfl⟩
 rw [← hr]
 unfold numT0 at hr
 cases d1:Num.decOk t
 ·rw [d1,Bool.false_or] at hr
  simp (config:={maxSteps:=1000000}) (disch:=((try simp only [awL]);omega)) only [QR,QS,QT,QU,QV,QW,QX,QY,QZ,Q0,Q1,Q2,↓awU,awV,awF,Qa,Qb,Qc,Qd,forall_const,↓reduceIte,↓reduceDIte,↓Qe,Qf,Qg,Qh,Qi,Qj,Qk,Ql,Qm,Qn,Qo,Qp,Qq,Qr,Qs,implies_true,Qt,Qu,Qv,Qw,Qx,Qy,Qz,QA,QB,QC,QD,QE,QF,QG,QH,QI,QJ,QK,QL,QM,QN,QO,QP,QQ]
  rcases t with _ | ⟨b,u⟩
  ·subst hr
   simp (config:={maxSteps:=1000000}) (disch:=((try simp only [awL]);omega)) only [QR,QS,QT,QU,QV,QW,QX,QY,QZ,Q0,Q1,Q2,List.length_nil,↓awU,awV,awF,Qa,Qb,Qc,Qd,forall_const,↓reduceIte,↓reduceDIte,↓Qe,Qf,Qg,Qh,Qi,Qj,Qk,Ql,Qm,Qn,Qo,Qp,Qq,Qr,Qs,implies_true,Qt,Qu,Qv,Qw,Qx,Qy,Qz,QA,QB,QC,QD,QE,QF,QG,QH,QI,QJ,QK,QL,QM,QN,QO,QP,QQ]
   first | done | rfl
  ·have gb:(b::u).getD 0 0=b:=rfl
   have hr':r=(digU b && (b::u).all numSet.contains):=hr
   clear hr
   by_cases du:digU b=true
   ·rw [du,Bool.true_and] at hr'
    unfold digU at du
    rw [Bool.and_eq_true,decide_eq_true_eq,decide_eq_true_eq] at du
    simp (config:={maxSteps:=1000000}) (disch:=((try simp only [awL]);omega)) only [QR,QS,QT,QU,QV,QW,QX,QY,QZ,Q0,Q1,Q2,List.length_cons,gb,↓awU,awV,awF,Qa,Qb,Qc,Qd,forall_const,↓reduceIte,↓reduceDIte,↓Qe,Qf,Qg,Qh,Qi,Qj,Qk,Ql,Qm,Qn,Qo,Qp,Qq,Qr,Qs,implies_true,Qt,Qu,Qv,Qw,Qx,Qy,Qz,QA,QB,QC,QD,QE,QF,QG,QH,QI,QJ,QK,QL,QM,QN,QO,QP,QQ]
    refine ⟨fun h0=>?_,fun h0=>by cases h0⟩
    generalize ht:b::u=t at *
    refine LoopC.fr 1 (fun i=>t.length - i) (fun i=>[(5,.d (.int .i64 (i:Nat)))]) (fun _=>[]) (fun i=>i≤t.length∧(t.take i).all numSet.contains=true) 0 ⟨Nat.zero_le _,rfl⟩ ?_ ?_
    ·exact ⟨[],rfl,by simp,by simp [setsA,keepA,SWeak,AWeak],by simp [HWeak,BWeak,SWeak,AWeak]⟩
    ·intro i hi
     simp only [awK,Nat.reduceMod,Nat.reduceDiv,reduceIte]
     obtain ⟨h1,h2⟩:=hi
     rcases Nat.lt_or_ge i t.length with h3 | h3
     ·have gi:t.take (i+1)=t.take i++[t.getD i 0]:=by rw [List.take_succ_eq_append_getElem h3,List.getD_eq_getElem?_getD,List.getElem?_eq_getElem h3];rfl
      have mem:t.getD i 0∈t:=by rw [List.getD_eq_getElem?_getD,List.getElem?_eq_getElem h3];exact List.getElem_mem h3
      have iff9:=numSet_iff (t.getD i 0)
      obtain ⟨c,hc⟩:∃ c,c=t.getD i 0:=⟨_,rfl⟩
      rw [← hc] at gi mem iff9
      have go:numSet.contains c=true→(List.take (i+1) t).all numSet.contains=true:=fun h=>by
       rw [gi,List.all_append,h2,Bool.true_and,List.all_cons,h];rfl
      have st:numSet.contains c=false→r=false:=fun h=>by
       rw [hr',← Bool.not_eq_true,List.all_eq_true]
       intro h4
       rw [h4 _ mem] at h;cases h
      rcases (by omega:c.toNat<48∨(48≤c.toNat∧c.toNat≤57)∨57<c.toNat) with h5 | h5 | h5
      ·rcases (by omega:c.toNat=46∨c.toNat=47∨c.toNat=45∨¬ (c.toNat=46∨c.toNat=47∨c.toNat=45)) with h6 | h6 | h6 | h6
       ·have:=go (iff9.2 (by omega))
        simp (config:={maxSteps:=1000000}) (disch:=((try simp only [awL]);omega)) only [QR,QS,QT,QU,QV,QW,QX,QY,QZ,Q0,Q1,Q2,← hc,h6,↓awU,awV,awF,Qa,Qb,Qc,Qd,forall_const,↓reduceIte,↓reduceDIte,↓Qe,Qf,Qg,Qh,Qi,Qj,Qk,Ql,Qm,Qn,Qo,Qp,Qq,Qr,Qs,implies_true,Qt,Qu,Qv,Qw,Qx,Qy,Qz,QA,QB,QC,QD,QE,QF,QG,QH,QI,QJ,QK,QL,QM,QN,QO,QP,QQ]
        exact ⟨i+1,⟨by omega,this⟩,by simp only;omega,⟨[],rfl,by simp,by simp [setsA,keepA,SWeak,AWeak],by simp [HWeak,BWeak,SWeak,AWeak]⟩⟩
       ·have:=go (iff9.2 (by omega))
        simp (config:={maxSteps:=1000000}) (disch:=((try simp only [awL]);omega)) only [QR,QS,QT,QU,QV,QW,QX,QY,QZ,Q0,Q1,Q2,← hc,h6,↓awU,awV,awF,Qa,Qb,Qc,Qd,forall_const,↓reduceIte,↓reduceDIte,↓Qe,Qf,Qg,Qh,Qi,Qj,Qk,Ql,Qm,Qn,Qo,Qp,Qq,Qr,Qs,implies_true,Qt,Qu,Qv,Qw,Qx,Qy,Qz,QA,QB,QC,QD,QE,QF,QG,QH,QI,QJ,QK,QL,QM,QN,QO,QP,QQ]
        exact ⟨i+1,⟨by omega,this⟩,by simp only;omega,⟨[],rfl,by simp,by simp [setsA,keepA,SWeak,AWeak],by simp [HWeak,BWeak,SWeak,AWeak]⟩⟩
       ·have:=go (iff9.2 (by omega))
        simp (config:={maxSteps:=1000000}) (disch:=((try simp only [awL]);omega)) only [QR,QS,QT,QU,QV,QW,QX,QY,QZ,Q0,Q1,Q2,← hc,h6,↓awU,awV,awF,Qa,Qb,Qc,Qd,forall_const,↓reduceIte,↓reduceDIte,↓Qe,Qf,Qg,Qh,Qi,Qj,Qk,Ql,Qm,Qn,Qo,Qp,Qq,Qr,Qs,implies_true,Qt,Qu,Qv,Qw,Qx,Qy,Qz,QA,QB,QC,QD,QE,QF,QG,QH,QI,QJ,QK,QL,QM,QN,QO,QP,QQ]
        exact ⟨i+1,⟨by omega,this⟩,by simp only;omega,⟨[],rfl,by simp,by simp [setsA,keepA,SWeak,AWeak],by simp [HWeak,BWeak,SWeak,AWeak]⟩⟩
       ·have:=st (by rw [← Bool.not_eq_true,iff9];omega)
        subst this
        simp (config:={maxSteps:=1000000}) (disch:=((try simp only [awL]);omega)) only [QR,QS,QT,QU,QV,QW,QX,QY,QZ,Q0,Q1,Q2,← hc,↓awU,awV,awF,Qa,Qb,Qc,Qd,forall_const,↓reduceIte,↓reduceDIte,↓Qe,Qf,Qg,Qh,Qi,Qj,Qk,Ql,Qm,Qn,Qo,Qp,Qq,Qr,Qs,implies_true,Qt,Qu,Qv,Qw,Qx,Qy,Qz,QA,QB,QC,QD,QE,QF,QG,QH,QI,QJ,QK,QL,QM,QN,QO,QP,QQ]
        first | done | rfl
      ·have:=go (iff9.2 (by omega))
       simp (config:={maxSteps:=1000000}) (disch:=((try simp only [awL]);omega)) only [QR,QS,QT,QU,QV,QW,QX,QY,QZ,Q0,Q1,Q2,← hc,↓awU,awV,awF,Qa,Qb,Qc,Qd,forall_const,↓reduceIte,↓reduceDIte,↓Qe,Qf,Qg,Qh,Qi,Qj,Qk,Ql,Qm,Qn,Qo,Qp,Qq,Qr,Qs,implies_true,Qt,Qu,Qv,Qw,Qx,Qy,Qz,QA,QB,QC,QD,QE,QF,QG,QH,QI,QJ,QK,QL,QM,QN,QO,QP,QQ]
       exact ⟨i+1,⟨by omega,this⟩,by simp only;omega,⟨[],rfl,by simp,by simp [setsA,keepA,SWeak,AWeak],by simp [HWeak,BWeak,SWeak,AWeak]⟩⟩
      ·by_cases h6:c.toNat=58
       ·have:=go (iff9.2 (by omega))
        simp (config:={maxSteps:=1000000}) (disch:=((try simp only [awL]);omega)) only [QR,QS,QT,QU,QV,QW,QX,QY,QZ,Q0,Q1,Q2,← hc,h6,↓awU,awV,awF,Qa,Qb,Qc,Qd,forall_const,↓reduceIte,↓reduceDIte,↓Qe,Qf,Qg,Qh,Qi,Qj,Qk,Ql,Qm,Qn,Qo,Qp,Qq,Qr,Qs,implies_true,Qt,Qu,Qv,Qw,Qx,Qy,Qz,QA,QB,QC,QD,QE,QF,QG,QH,QI,QJ,QK,QL,QM,QN,QO,QP,QQ]
        exact ⟨i+1,⟨by omega,this⟩,by simp only;omega,⟨[],rfl,by simp,by simp [setsA,keepA,SWeak,AWeak],by simp [HWeak,BWeak,SWeak,AWeak]⟩⟩
       ·have:=st (by rw [← Bool.not_eq_true,iff9];omega)
        subst this
        simp (config:={maxSteps:=1000000}) (disch:=((try simp only [awL]);omega)) only [QR,QS,QT,QU,QV,QW,QX,QY,QZ,Q0,Q1,Q2,← hc,↓awU,awV,awF,Qa,Qb,Qc,Qd,forall_const,↓reduceIte,↓reduceDIte,↓Qe,Qf,Qg,Qh,Qi,Qj,Qk,Ql,Qm,Qn,Qo,Qp,Qq,Qr,Qs,implies_true,Qt,Qu,Qv,Qw,Qx,Qy,Qz,QA,QB,QC,QD,QE,QF,QG,QH,QI,QJ,QK,QL,QM,QN,QO,QP,QQ]
        first | done | rfl
     ·have e:t.take i=t:=List.take_of_length_le h3
      rw [e] at h2
      rw [hr',h2]
      simp (config:={maxSteps:=1000000}) (disch:=((try simp only [awL]);omega)) only [QR,QS,QT,QU,QV,QW,QX,QY,QZ,Q0,Q1,Q2,↓awU,awV,awF,Qa,Qb,Qc,Qd,forall_const,↓reduceIte,↓reduceDIte,↓Qe,Qf,Qg,Qh,Qi,Qj,Qk,Ql,Qm,Qn,Qo,Qp,Qq,Qr,Qs,implies_true,Qt,Qu,Qv,Qw,Qx,Qy,Qz,QA,QB,QC,QD,QE,QF,QG,QH,QI,QJ,QK,QL,QM,QN,QO,QP,QQ]
      first | done | rfl
   ·have du':digU b=false:=by simpa using du
    rw [du',Bool.false_and] at hr'
    subst hr'
    unfold digU at du
    rw [Bool.and_eq_true,decide_eq_true_eq,decide_eq_true_eq] at du
    rcases (by omega:b.toNat<48∨57<b.toNat) with h5 | h5
    ·simp (config:={maxSteps:=1000000}) (disch:=((try simp only [awL]);omega)) only [QR,QS,QT,QU,QV,QW,QX,QY,QZ,Q0,Q1,Q2,List.length_cons,gb,↓awU,awV,awF,Qa,Qb,Qc,Qd,forall_const,↓reduceIte,↓reduceDIte,↓Qe,Qf,Qg,Qh,Qi,Qj,Qk,Ql,Qm,Qn,Qo,Qp,Qq,Qr,Qs,implies_true,Qt,Qu,Qv,Qw,Qx,Qy,Qz,QA,QB,QC,QD,QE,QF,QG,QH,QI,QJ,QK,QL,QM,QN,QO,QP,QQ]
     first | done | rfl | simp
    ·simp (config:={maxSteps:=1000000}) (disch:=((try simp only [awL]);omega)) only [QR,QS,QT,QU,QV,QW,QX,QY,QZ,Q0,Q1,Q2,List.length_cons,gb,↓awU,awV,awF,Qa,Qb,Qc,Qd,forall_const,↓reduceIte,↓reduceDIte,↓Qe,Qf,Qg,Qh,Qi,Qj,Qk,Ql,Qm,Qn,Qo,Qp,Qq,Qr,Qs,implies_true,Qt,Qu,Qv,Qw,Qx,Qy,Qz,QA,QB,QC,QD,QE,QF,QG,QH,QI,QJ,QK,QL,QM,QN,QO,QP,QQ]
     first | done | rfl | simp
 ·rw [d1,Bool.true_or] at hr
  subst hr
  simp (config:={maxSteps:=1000000}) (disch:=((try simp only [awL]);omega)) only [QR,QS,QT,QU,QV,QW,QX,QY,QZ,Q0,Q1,Q2,↓awU,awV,awF,Qa,Qb,Qc,Qd,forall_const,↓reduceIte,↓reduceDIte,↓Qe,Qf,Qg,Qh,Qi,Qj,Qk,Ql,Qm,Qn,Qo,Qp,Qq,Qr,Qs,implies_true,Qt,Qu,Qv,Qw,Qx,Qy,Qz,QA,QB,QC,QD,QE,QF,QG,QH,QI,QJ,QK,QL,QM,QN,QO,QP,QQ]
  first | done | rfl
end Go.Proofs.YtkgbbdoeodmkgaaGreatDoor
namespace Go.Proofs.YtkgbbdoeodmkgaaGreatDoor
open Go Go.Proofs Go.Abs
variable {G:Globals}
end Go.Proofs.YtkgbbdoeodmkgaaGreatDoor
namespace Go.Proofs.YtkgbbdoeodmkgaaGreatDoor
open Go Go.Proofs Go.Abs
end Go.Proofs.YtkgbbdoeodmkgaaGreatDoor
namespace Go.Proofs.YtkgbbdoeodmkgaaGreatDoor
open Go Go.Proofs Go.Abs
variable {G:Globals}
theorem atG_len {g:List Row} {m:Nat} (h:∀ r∈g,∀ s∈r,s.length≤m) (i k:Int):(atG g i k).length≤m:=by
 unfold atG
 split
 ·simp
 ·rcases Nat.lt_or_ge i.toNat g.length with h1 | h1
  ·have m1:=h _ (memD (d:=[]) h1)
   generalize g.getD i.toNat []=r at *
   rcases Nat.lt_or_ge k.toNat r.length with h2 | h2
   ·exact m1 _ (memD (d:=[]) h2)
   ·rw [List.getD_eq_getElem?_getD,List.getElem?_eq_none h2];simp
  ·have e:g.getD i.toNat []=[]:=by rw [List.getD_eq_getElem?_getD,List.getElem?_eq_none h1];rfl
   rw [e];simp
theorem okGrid.at {g:List Row} (h:okGrid g) (i k:Int):(atG g i k).length≤1000000000:=atG_len (fun r hr s hs=>(h.2 r hr).2 s hs) i k
end Go.Proofs.YtkgbbdoeodmkgaaGreatDoor
namespace Go.Proofs.YtkgbbdoeodmkgaaGreatDoor
open Go Go.Proofs Go.Abs
theorem LayI.mono {l:List Nat} (h:LayI l):∀ i,i+1<l.length→l.getD i 0≤l.getD (i+1) 0:=fun i hi=>Nat.le_of_lt (h.2.2.2.2 i hi)
theorem LayI.le {l:List Nat} (h:LayI l) (i:Nat):l.getD i 0≤48:=getD_le (fun i hi=>by have:=h.2.2.2.1 i hi;have:=h.2.2.1;omega) i
theorem LayI.pos {l:List Nat} (h:LayI l):0<l.length:=List.length_pos_iff.2 h.1
end Go.Proofs.YtkgbbdoeodmkgaaGreatDoor
namespace Go.Proofs.YtkgbbdoeodmkgaaGreatDoor
open Go Go.Proofs Go.Abs
variable {G:Globals}
end Go.Proofs.YtkgbbdoeodmkgaaGreatDoor
namespace Go.Proofs.YtkgbbdoeodmkgaaGreatDoor
open Go Go.Proofs Go.Abs
variable {G:Globals}
end Go.Proofs.YtkgbbdoeodmkgaaGreatDoor
namespace Go.Proofs.YtkgbbdoeodmkgaaGreatDoor
open Go Go.Proofs Go.Abs
variable {G:Globals}
def cmpI (x y:Int):Int:=if x<y then -1 else if y<x then 1 else 0
theorem isNaN_spec (x:Int):Ctr Tryz.prog G 172 [.d (.int .i64 x)] [] (.d (.bool false)) []:=by
 refine Ctr.pure (M:=M0) hmix Tryz.func172 rfl go172 ?_
 simp (config:={maxSteps:=1000000}) (disch:=((try simp only [awL]);omega)) only [QR,QS,QT,QU,QV,QW,QX,QY,QZ,Q0,Q1,Q2,Tryz.f172,↓awU,awV,awF,Qa,Qb,Qc,Qd,forall_const,↓reduceIte,↓reduceDIte,↓Qe,Qf,Qg,Qh,Qi,Qj,Qk,Ql,Qm,Qn,Qo,Qp,Qq,Qr,Qs,implies_true,Qt,Qu,Qv,Qw,Qx,Qy,Qz,QA,QB,QC,QD,QE,QF,QG,QH,QI,QJ,QK,QL,QM,QN,QO,QP,QQ]
 try rfl
theorem compare_spec (x y:Int):Ctr Tryz.prog G 158 [.d (.int .i64 x),.d (.int .i64 y)] [] (.d (.int .i64 (cmpI x y))) []:=by
 refine Ctr.pure (M:=M0) hmix Tryz.func158 rfl go158 ?_
 obtain ⟨r,hr⟩:∃ r,r=cmpI x y:=⟨_,rfl⟩
 rw [← hr]
 unfold cmpI at hr
 simp (config:={maxSteps:=1000000}) (disch:=((try simp only [awL]);omega)) only [QR,QS,QT,QU,QV,QW,QX,QY,QZ,Q0,Q1,Q2,Tryz.f158,↓awU,awV,awF,Qa,Qb,Qc,Qd,forall_const,↓reduceIte,↓reduceDIte,↓Qe,Qf,Qg,Qh,Qi,Qj,Qk,Ql,Qm,Qn,Qo,Qp,Qq,Qr,Qs,implies_true,Qt,Qu,Qv,Qw,Qx,Qy,Qz,QA,QB,QC,QD,QE,QF,QG,QH,QI,QJ,QK,QL,QM,QN,QO,QP,QQ]
 refine CallC.pure (isNaN_spec x) ?_
 simp (config:={maxSteps:=1000000}) (disch:=((try simp only [awL]);omega)) only [QR,QS,QT,QU,QV,QW,QX,QY,QZ,Q0,Q1,Q2,↓awU,awV,awF,Qa,Qb,Qc,Qd,forall_const,↓reduceIte,↓reduceDIte,↓Qe,Qf,Qg,Qh,Qi,Qj,Qk,Ql,Qm,Qn,Qo,Qp,Qq,Qr,Qs,implies_true,Qt,Qu,Qv,Qw,Qx,Qy,Qz,QA,QB,QC,QD,QE,QF,QG,QH,QI,QJ,QK,QL,QM,QN,QO,QP,QQ]
 refine CallC.pure (isNaN_spec y) ?_
 rcases (by omega:x<y∨y<x∨(¬ x<y∧¬ y<x)) with h | h | ⟨h1,h2⟩
 ·rw [if_pos h] at hr
  simp (config:={maxSteps:=1000000}) (disch:=((try simp only [awL]);omega)) only [QR,QS,QT,QU,QV,QW,QX,QY,QZ,Q0,Q1,Q2,↓awU,awV,awF,Qa,Qb,Qc,Qd,forall_const,↓reduceIte,↓reduceDIte,↓Qe,Qf,Qg,Qh,Qi,Qj,Qk,Ql,Qm,Qn,Qo,Qp,Qq,Qr,Qs,implies_true,Qt,Qu,Qv,Qw,Qx,Qy,Qz,QA,QB,QC,QD,QE,QF,QG,QH,QI,QJ,QK,QL,QM,QN,QO,QP,QQ]
  all_goals rw [hr]
 ·rw [if_neg (by omega),if_pos h] at hr
  simp (config:={maxSteps:=1000000}) (disch:=((try simp only [awL]);omega)) only [QR,QS,QT,QU,QV,QW,QX,QY,QZ,Q0,Q1,Q2,↓awU,awV,awF,Qa,Qb,Qc,Qd,forall_const,↓reduceIte,↓reduceDIte,↓Qe,Qf,Qg,Qh,Qi,Qj,Qk,Ql,Qm,Qn,Qo,Qp,Qq,Qr,Qs,implies_true,Qt,Qu,Qv,Qw,Qx,Qy,Qz,QA,QB,QC,QD,QE,QF,QG,QH,QI,QJ,QK,QL,QM,QN,QO,QP,QQ]
  all_goals rw [hr]
 ·rw [if_neg h1,if_neg h2] at hr
  simp (config:={maxSteps:=1000000}) (disch:=((try simp only [awL]);omega)) only [QR,QS,QT,QU,QV,QW,QX,QY,QZ,Q0,Q1,Q2,↓awU,awV,awF,Qa,Qb,Qc,Qd,forall_const,↓reduceIte,↓reduceDIte,↓Qe,Qf,Qg,Qh,Qi,Qj,Qk,Ql,Qm,Qn,Qo,Qp,Qq,Qr,Qs,implies_true,Qt,Qu,Qv,Qw,Qx,Qy,Qz,QA,QB,QC,QD,QE,QF,QG,QH,QI,QJ,QK,QL,QM,QN,QO,QP,QQ]
  all_goals rw [hr]
structure Opt where
 txt:List UInt8
 fr:Nat
 ag:Nat
 wd:Nat
abbrev Opt.cells (o:Opt):List D:=[S o.txt,.int .i64 o.fr,.int .i64 o.ag]
def optC (l:List Opt):List D:=l.flatMap Opt.cells
end Go.Proofs.YtkgbbdoeodmkgaaGreatDoor
namespace Go.Proofs.YtkgbbdoeodmkgaaGreatDoor
open Go Go.Proofs Go.Abs
variable {G:Globals}
def noO:Opt:=⟨[],0,0,0⟩
theorem optC_length:∀ l:List Opt,(optC l).length=3*l.length
 | []=>rfl
 | o::l=>by
   have ih:=optC_length l
   simp only [optC,List.flatMap_cons,List.length_append,List.length_cons,List.length_nil] at ih ⊢
   omega
theorem optC_get:∀ {l:List Opt} {k:Nat},k<l.length→((optC l).drop (k*3)).take 3=(l.getD k noO).cells
 | [],k,h=>absurd h (Nat.not_lt_zero _)
 | o::l,0,_=>by simp [optC]
 | o::l,k+1,h=>by
   have ih:=optC_get (l:=l) (k:=k) (by simpa using h)
   have e:(k+1)*3=k*3+3:=by omega
   have e2:optC (o::l)=S o.txt::.int .i64 o.fr::.int .i64 o.ag::optC l:=rfl
   rw [e,e2]
   simpa using ih
theorem optC_app (a b:List Opt):optC (a++b)=optC a++optC b:=by simp [optC]
end Go.Proofs.YtkgbbdoeodmkgaaGreatDoor
namespace Go.Proofs.YtkgbbdoeodmkgaaGreatDoor
open Go Go.Proofs Go.Abs
variable {G:Globals}
end Go.Proofs.YtkgbbdoeodmkgaaGreatDoor
namespace Go.Proofs.YtkgbbdoeodmkgaaGreatDoor
open Go Go.Proofs Go.Abs
variable {G:Globals}
theorem bs_beq {a b:List UInt8}:(bs a == bs b)=decide (a=b):=by
 have e:(bs a == bs b)=(a.toArray == b.toArray):=rfl
 rw [e]
 by_cases h:a=b
 ·subst h;simp
 ·rw [decide_eq_false h]
  exact beq_eq_false_iff_ne.2 fun q=>h (by simpa using q)
theorem optC_push (a:List Opt) (o:Opt):optC a++o.cells=optC (a++[o]):=by rw [optC_app];simp [optC]
end Go.Proofs.YtkgbbdoeodmkgaaGreatDoor
namespace Go.Proofs.YtkgbbdoeodmkgaaGreatDoor
open Go Go.Proofs Go.Abs
variable {G:Globals}
set_option maxHeartbeats 4000000 in
set_option maxRecDepth 100000 in
theorem sameOpt_spec (l:List Opt) (fa fb:Bool) (hl:l.length≤1000000):Ctr Tryz.prog G 17 [.d (.sl l.length fa (optC l)),.d (.sl l.length fb (optC l))] [] (.d (.bool true)) []:=by
 refine Ctr.pure (M:=M0) hmix Tryz.func17 rfl go17 ?_
 have ol:=optC_length l
 simp (config:={maxSteps:=1000000}) (disch:=((try simp only [awL]);omega)) only [QR,QS,QT,QU,QV,QW,QX,QY,QZ,Q0,Q1,Q2,ol,Tryz.f17,↓awU,awV,awF,Qa,Qb,Qc,Qd,forall_const,↓reduceIte,↓reduceDIte,↓Qe,Qf,Qg,Qh,Qi,Qj,Qk,Ql,Qm,Qn,Qo,Qp,Qq,Qr,Qs,implies_true,Qt,Qu,Qv,Qw,Qx,Qy,Qz,QA,QB,QC,QD,QE,QF,QG,QH,QI,QJ,QK,QL,QM,QN,QO,QP,QQ]
 refine LoopC.fr 4099 (α:=Nat) (fun i=>l.length - i) (fun i=>[(13,.d (.int .i64 i))]) (fun _=>[]) (fun i=>i≤l.length) 0 (Nat.zero_le _) ?_ ?_
 ·exact ⟨[],rfl,by simp,by simp [setsA,keepA,SWeak,AWeak],by simp [HWeak,BWeak,SWeak,AWeak]⟩
 ·intro i h1
  simp only [awK,Nat.reduceMod,Nat.reduceDiv,reduceIte]
  rcases Nat.lt_or_ge i l.length with h | h
  ·have g:=optC_get h
   generalize l.getD i noO=o at *
   simp (config:={maxSteps:=1000000}) (disch:=((try simp only [awL]);omega)) only [QR,QS,QT,QU,QV,QW,QX,QY,QZ,Q0,Q1,Q2,ol,g,beq_self_eq_true,↓awU,awV,awF,Qa,Qb,Qc,Qd,forall_const,↓reduceIte,↓reduceDIte,↓Qe,Qf,Qg,Qh,Qi,Qj,Qk,Ql,Qm,Qn,Qo,Qp,Qq,Qr,Qs,implies_true,Qt,Qu,Qv,Qw,Qx,Qy,Qz,QA,QB,QC,QD,QE,QF,QG,QH,QI,QJ,QK,QL,QM,QN,QO,QP,QQ]
   exact ⟨by rfl,i+1,h,by simp only;omega,⟨[],rfl,by simp,by simp [setsA,keepA,SWeak,AWeak],by simp [HWeak,BWeak,SWeak,AWeak]⟩⟩
  ·simp (config:={maxSteps:=1000000}) (disch:=((try simp only [awL]);omega)) only [QR,QS,QT,QU,QV,QW,QX,QY,QZ,Q0,Q1,Q2,ol,↓awU,awV,awF,Qa,Qb,Qc,Qd,forall_const,↓reduceIte,↓reduceDIte,↓Qe,Qf,Qg,Qh,Qi,Qj,Qk,Ql,Qm,Qn,Qo,Qp,Qq,Qr,Qs,implies_true,Qt,Qu,Qv,Qw,Qx,Qy,Qz,QA,QB,QC,QD,QE,QF,QG,QH,QI,QJ,QK,QL,QM,QN,QO,QP,QQ]
end Go.Proofs.YtkgbbdoeodmkgaaGreatDoor
namespace Go.Proofs.YtkgbbdoeodmkgaaGreatDoor
open Go Go.Proofs Go.Abs
variable {G:Globals}
def updR (k d:D):List (D × D)→List (D × D)
 | []=>[(k,d)]
 | x::r=>if keyEq k x.1=true then (k,d)::r else x::updR k d r
theorem updE_R (k d:D):∀ m:List (D × D),updE m k d=updR k d m
 | []=>rfl
 | x::r=>by
   have ih:=updE_R k d r
   unfold updE at ih ⊢
   rw [findE,updR]
   by_cases h:keyEq k x.1=true
   ·rw [if_pos h,if_pos h];rfl
   ·rw [if_neg h,if_neg h]
    cases hf:findE k r with
    | none=>rw [hf] at ih;simp only [Option.map_none];rw [← ih];rfl
    | some y=>rw [hf] at ih;simp only [Option.map_some];rw [← ih];rfl
theorem keyEq_S (a b:List UInt8):keyEq (S a) (S b)=decide (a=b):=bs_beq
def KeyS (m:List (D × D)):Prop:=∀ e∈m,∃ s,e.1=S s
theorem KeyS.nil:KeyS []:=fun _ h=>by cases h
theorem KeyS.upd {m:List (D × D)} (h:KeyS m) (t:List UInt8) (d:D):KeyS (updE m (S t) d):=by
 rw [updE_R]
 induction m with
 | nil=>intro e he;exact ⟨t,by simp [updR] at he;rw [he]⟩
 | cons x r ih =>
  have i2:=ih fun e he=>h e (List.mem_cons_of_mem _ he)
  intro e he
  rw [updR] at he
  split at he
  ·rcases List.mem_cons.1 he with rfl | he
   ·exact ⟨t,rfl⟩
   ·exact h e (List.mem_cons_of_mem _ he)
  ·rcases List.mem_cons.1 he with rfl | he
   ·exact h _ (by simp)
   ·exact i2 e he
theorem KeyS.ok {m:List (D × D)} (h:KeyS m):keysOK Tryz.prog 9 m=true:=by
 unfold keysOK
 refine List.all_eq_true.2 fun e he=>?_
 obtain ⟨s,hs⟩:=h e he
 rw [hs]
 unfold isKeyD
 rw [ti9]
 rfl
theorem look_upd {m:List (D × D)} (h:KeyS m) (z d:D) (s t:List UInt8):lookV z (updE m (S t) d) (S s) false=if s=t then d else lookV z m (S s) false:=by
 rw [updE_R]
 induction m with
 | nil =>
  have e1:findE (S s) (updR (S t) d [])=if keyEq (S s) (S t)=true then some (0,d) else none:=rfl
  unfold lookV
  rw [e1,keyEq_S]
  by_cases e:s=t
  ·rw [if_pos e,if_pos (by simpa using e)];rfl
  ·rw [if_neg e,if_neg (by simpa using e)];rfl
 | cons x r ih =>
  have i2:=ih fun e he=>h e (List.mem_cons_of_mem _ he)
  obtain ⟨c,hc⟩:=h x (by simp)
  have look_cons:∀ (y:D × D) (l:List (D × D)) (c:List UInt8),y.1=S c→lookV z (y::l) (S s) false=if s=c then y.2 else lookV z l (S s) false:=by
   intro y l c hy
   unfold lookV
   rw [findE,hy,keyEq_S]
   by_cases e:s=c
   ·rw [if_pos e,if_pos (by simpa using e)];rfl
   ·rw [if_neg e,if_neg (by simpa using e)]
    cases findE (S s) l<;>rfl
  rw [updR,hc,keyEq_S]
  by_cases e:t=c
  ·rw [if_pos (by simpa using e),look_cons _ _ t rfl,look_cons _ _ c hc,← e]
   by_cases e2:s=t
   ·rw [if_pos e2,if_pos e2]
   ·rw [if_neg e2,if_neg e2,if_neg e2]
  ·rw [if_neg (by simpa using e),look_cons _ _ c hc,look_cons _ _ c hc,i2]
   by_cases e2:s=c
   ·rw [if_pos e2,if_neg (by rw [e2];exact fun q=>e q.symm),if_pos e2]
   ·rw [if_neg e2,if_neg e2]
def lastR (g:List Row) (n k:Nat):Row:=(List.range k).map fun (i:Nat)=>Lib.trimB (atG g ((n:Int) - 1) i) 32
theorem lastR_succ (g:List Row) (n k:Nat):lastR g n (k+1)=lastR g n k++[Lib.trimB (atG g ((n:Int) - 1) k) 32]:=by
 unfold lastR;rw [List.range_succ,List.map_append];rfl
def EvI (g:List Row) (m:Nat) (x:Nat × List (D × D)):Prop:=x.1≤widG g∧KeyS x.2∧(m=0∨∀ s,lookV (.bool false) x.2 (S s) false=.bool (decide (s∈lastR g m x.1)))
theorem EvI.z {g:List Row} {k:Nat} {mp:List (D × D)} (h:k≤widG g) (hm:KeyS mp):EvI g 0 (k,mp):=⟨h,hm,.inl rfl⟩
theorem EvI.s {g:List Row} {m k:Nat} {mp:List (D × D)} {l:List UInt8} (h:k+1≤widG g) (hm:KeyS mp) (hl:∀ s,lookV (.bool false) mp (S s) false=.bool (decide (s∈lastR g m k))) (e:l=Lib.trimB (atG g ((m:Int) - 1) k) 32) :
  EvI g m (k+1,updE mp (S l) (.bool true)):=⟨h,hm.upd _ _,.inr fun s=>by
 rw [look_upd hm,hl s,lastR_succ,← e]
 by_cases q:s=l
 ·rw [if_pos q,decide_eq_true (by simp [q])]
 ·rw [if_neg q];congr 1;exact decide_eq_decide.2 (by simp [q])⟩
end Go.Proofs.YtkgbbdoeodmkgaaGreatDoor
namespace Go.Proofs.YtkgbbdoeodmkgaaGreatDoor
open Go Go.Proofs Go.Abs
variable {G:Globals}
end Go.Proofs.YtkgbbdoeodmkgaaGreatDoor
namespace Go.Proofs.YtkgbbdoeodmkgaaGreatDoor
open Go Go.Proofs Go.Abs
variable {G:Globals}
end Go.Proofs.YtkgbbdoeodmkgaaGreatDoor
namespace Go.Proofs.YtkgbbdoeodmkgaaGreatDoor
open Go Go.Proofs Go.Abs
variable {G:Globals}
end Go.Proofs.YtkgbbdoeodmkgaaGreatDoor
namespace Go.Proofs.YtkgbbdoeodmkgaaGreatDoor
open Go Go.Proofs Go.Abs
variable {G:Globals}
end Go.Proofs.YtkgbbdoeodmkgaaGreatDoor
namespace Go.Proofs.YtkgbbdoeodmkgaaGreatDoor
open Go Go.Proofs Go.Abs
def okH (g:List Row):Prop:=g.length≤100∧∀ r∈g,r.length≤1000∧∀ s∈r,s.length≤1048576
theorem okH.ok {g:List Row} (h:okH g):okGrid g:=⟨by have:=h.1;omega,fun r hr=>⟨by have:=(h.2 r hr).1;omega,fun s hs=>by have:=(h.2 r hr).2 s hs;omega⟩⟩
theorem okH.at {g:List Row} (h:okH g) (i k:Int):(atG g i k).length≤1048576:=atG_len (fun r hr s hs=>(h.2 r hr).2 s hs) i k
def cand (b:List UInt8) (n:Nat):List UInt8:=b++[32]++Lib.decDigits n
theorem dec_inj {a b:Nat} (ha:a<100000000) (hb:b<100000000) (h:Lib.decDigits a=Lib.decDigits b):a=b:=by
 have e:=natO_dec ha
 rw [h,natO_dec hb] at e
 exact (Option.some.inj e).symm
theorem cand_inj {b:List UInt8} {m n:Nat} (hm:m<100000000) (hn:n<100000000) (h:cand b m=cand b n):m=n:=dec_inj hm hn (List.append_cancel_left h)
theorem cand_ne (b:List UInt8) (n:Nat):cand b n≠b:=fun h=>by
 have:=congrArg List.length h
 simp [cand] at this
def cands (b:List UInt8):Nat→List (List UInt8)
 | 0=>[b]
 | n+1=>cand b (n+2)::cands b n
theorem cands_len (b:List UInt8):∀ n,(cands b n).length=n+1
 | 0=>rfl
 | n+1=>by rw [cands,List.length_cons,cands_len b n]
theorem cands_mem {b s:List UInt8}:∀ {n},s∈cands b n→s=b∨∃ j,2≤j∧j≤n+1∧s=cand b j
 | 0,h=>.inl (List.mem_singleton.1 h)
 | n+1,h=>by
   rcases List.mem_cons.1 h with h | h
   ·exact .inr ⟨n+2,by omega,by omega,h⟩
   ·rcases cands_mem h with h | ⟨j,h1,h2,h3⟩
    ·exact .inl h
    ·exact .inr ⟨j,h1,by omega,h3⟩
theorem cands_nodup (b:List UInt8):∀ n,n<1000000→(cands b n).Nodup
 | 0,_=>List.nodup_cons.2 ⟨by simp,List.nodup_nil⟩
 | n+1,hn=>List.nodup_cons.2 ⟨fun h=>by
   rcases cands_mem h with h | ⟨j,h1,h2,h3⟩
   ·exact cand_ne _ _ h
   ·have:=cand_inj (by omega) (by omega) h3;omega,cands_nodup b n (by omega)⟩
theorem nodup_le:∀ {l out:List (List UInt8)},l.Nodup→(∀ s∈l,s∈out)→l.length≤out.length
 | [],_,_,_=>Nat.zero_le _
 | x::l,out,h,hs=>by
   obtain ⟨h1,h2⟩:=List.nodup_cons.1 h
   have hx:=hs x (by simp)
   have i:=nodup_le (l:=l) (out:=out.erase x) h2 fun s q=>by
    refine (List.mem_erase_of_ne (fun e=>?_)).2 (hs s (List.mem_cons_of_mem _ q))
    subst e;exact h1 q
   rw [List.length_erase_of_mem hx] at i
   have:=List.length_pos_of_mem hx
   simp only [List.length_cons];omega
def TakenTo (out:Row) (b:List UInt8) (n:Nat):Prop:=∀ j,2≤j→j<n→cand b j∈out
theorem takenTo_le {out:Row} {b:List UInt8} {n:Nat} (hb:b∈out) (h:TakenTo out b n) (hn:n<100000):n≤out.length+1:=by
 rcases Nat.lt_or_ge n 2 with h2 | h2
 ·omega
 ·have:=nodup_le (cands_nodup b (n - 2) (by omega)) (out:=out) fun s hs=>by
   rcases cands_mem hs with rfl | ⟨j,h1,h3,rfl⟩
   ·exact hb
   ·exact h j h1 (by omega)
  rw [cands_len] at this
  omega
def IsFree (out:Row) (b s:List UInt8):Prop:=s∉out∧(s=b∨(b∈out∧∃ n,2≤n∧s=cand b n∧TakenTo out b n))
theorem IsFree.uniq {out:Row} {b s t:List UInt8} (h1:IsFree out b s) (h2:IsFree out b t):s=t:=by
 obtain ⟨a1,a2⟩:=h1
 obtain ⟨b1,b2⟩:=h2
 rcases a2 with rfl | ⟨a2,n,a3,rfl,a4⟩
 ·rcases b2 with rfl | ⟨b2,_⟩
  ·rfl
  ·exact absurd b2 a1
 ·rcases b2 with rfl | ⟨b2,m,b3,rfl,b4⟩
  ·exact absurd a2 b1
  ·rcases Nat.lt_trichotomy n m with q | q | q
   ·exact absurd (b4 n a3 q) a1
   ·rw [q]
   ·exact absurd (a4 m b3 q) b1
def pickN (out:Row) (b:List UInt8):Nat→Nat→List UInt8
 | 0,n=>cand b n
 | f+1,n=>if cand b n∈out then pickN out b f (n+1) else cand b n
def nameN (out:Row) (b:List UInt8):List UInt8:=if b∈out then pickN out b out.length 2 else b
theorem pickN_free {out:Row} {b:List UInt8} (hb:b∈out) (ho:out.length<10000):∀ (f n:Nat),2≤n→TakenTo out b n→out.length+2≤f+n→n≤out.length+2→IsFree out b (pickN out b f n)
 | 0,n,h2,ht,hf,hn=>by
   rw [pickN]
   refine ⟨fun h=>?_,.inr ⟨hb,n,h2,rfl,ht⟩⟩
   have:=takenTo_le hb (n:=n+1) (fun j h1 h3=>by
    rcases Nat.lt_or_ge j n with q | q
    ·exact ht j h1 q
    ·rw [show j=n by omega];exact h) (by omega)
   omega
 | f+1,n,h2,ht,hf,hn=>by
   rw [pickN]
   by_cases h:cand b n∈out
   ·rw [if_pos h]
    have t2:TakenTo out b (n+1):=fun j h1 h3=>by
     rcases Nat.lt_or_ge j n with q | q
     ·exact ht j h1 q
     ·rw [show j=n by omega];exact h
    have:=takenTo_le hb t2 (by omega)
    exact pickN_free hb ho f (n+1) (by omega) t2 (by omega) (by omega)
   ·rw [if_neg h]
    exact ⟨h,.inr ⟨hb,n,h2,rfl,ht⟩⟩
theorem nameN_free {out:Row} {b:List UInt8} (ho:out.length<10000):IsFree out b (nameN out b):=by
 unfold nameN
 by_cases h:b∈out
 ·rw [if_pos h]
  exact pickN_free h ho _ _ (by omega) (fun j h1 h2=>by omega) (by omega) (by omega)
 ·rw [if_neg h];exact ⟨h,.inl rfl⟩
end Go.Proofs.YtkgbbdoeodmkgaaGreatDoor
namespace Go.Proofs.YtkgbbdoeodmkgaaGreatDoor
open Go Go.Proofs Go.Abs
variable {G:Globals}
def NxI (out:Row) (mn:List (D × D)):Prop:=KeyS mn∧∀ b,∃ nx:Nat,lookV (.int .i64 0) mn (S b) false=.int .i64 nx∧nx≤100000∧TakenTo out b nx
theorem NxI.nil (out:Row):NxI out []:=⟨KeyS.nil,fun b=>⟨0,rfl,by omega,fun j h1 h2=>by omega⟩⟩
theorem NxI.upd {out:Row} {mn:List (D × D)} (h:NxI out mn) {b:List UInt8} {n:Nat} (hn:n≤100000) (ht:TakenTo out b n):NxI out (updE mn (S b) (.int .i64 n)):=⟨h.1.upd _ _,fun c=>by
 rw [look_upd h.1]
 by_cases e:c=b
 ·rw [if_pos e];subst e;exact ⟨n,rfl,hn,ht⟩
 ·rw [if_neg e];exact h.2 c⟩
def TkI (out:Row) (mt:List (D × D)):Prop:=KeyS mt∧∀ s,lookV (.bool false) mt (S s) false=.bool (decide (s∈out))
theorem TkI.nil:TkI [] []:=⟨KeyS.nil,fun s=>rfl⟩
theorem TkI.upd {out:Row} {mt:List (D × D)} (h:TkI out mt) (t:List UInt8):TkI (out++[t]) (updE mt (S t) (.bool true)):=⟨h.1.upd _ _,fun s=>by
 rw [look_upd h.1]
 by_cases e:s=t
 ·rw [if_pos e,decide_eq_true (by simp [e])]
 ·rw [if_neg e,h.2 s];congr 1;exact decide_eq_decide.2 (by simp [e])⟩
def CurI (out:Row) (b:List UInt8) (n:Nat) (s:List UInt8):Prop:=2≤n∧n≤100001∧((s=b∧TakenTo out b n)∨(b∈out∧3≤n∧s=cand b (n - 1)∧TakenTo out b (n - 1)))
theorem CurI.step {out:Row} {b s:List UInt8} {n:Nat} (h:CurI out b n s) (hs:s∈out) (ho:out.length≤1000):n≤1001∧TakenTo out b n∧CurI out b (n+1) (cand b n):=by
 obtain ⟨h1,h0,h2⟩:=h
 have key:b∈out∧TakenTo out b n:=by
  rcases h2 with ⟨rfl,h3⟩ | ⟨h3,h4,rfl,h5⟩
  ·exact ⟨hs,h3⟩
  ·refine ⟨h3,fun j j1 j2=>?_⟩
   rcases Nat.lt_or_ge j (n - 1) with q | q
   ·exact h5 j j1 q
   ·rw [show j=n - 1 by omega];exact hs
 have le:n≤1001:=by
  rcases Nat.lt_or_ge n 100000 with q | q
  ·have:=takenTo_le key.1 key.2 q;omega
  ·have:=takenTo_le (n:=99999) key.1 (fun j j1 j2=>key.2 j j1 (by omega)) (by omega);omega
 exact ⟨le,key.2,by omega,by omega,.inr ⟨key.1,by omega,by rw [Nat.add_sub_cancel],by rw [Nat.add_sub_cancel];exact key.2⟩⟩
theorem CurI.fin {out:Row} {b s:List UInt8} {n:Nat} (h:CurI out b n s) (hs:s∉out) (ho:out.length≤1000):s=nameN out b:=by
 refine IsFree.uniq (out:=out) (b:=b) ⟨hs,?_⟩ (nameN_free (by omega))
 obtain ⟨h1,h0,h2⟩:=h
 rcases h2 with ⟨rfl,h3⟩ | ⟨h3,h4,rfl,h5⟩
 ·exact .inl rfl
 ·exact .inr ⟨h3,n - 1,by omega,rfl,h5⟩
theorem strs_app (a b:Row):strs a++strs b=strs (a++b):=by simp [strs]
end Go.Proofs.YtkgbbdoeodmkgaaGreatDoor
namespace Go.Proofs.YtkgbbdoeodmkgaaGreatDoor
open Go Go.Proofs Go.Abs
variable {G:Globals}
end Go.Proofs.YtkgbbdoeodmkgaaGreatDoor
namespace Go.Proofs.YtkgbbdoeodmkgaaGreatDoor
open Go Go.Proofs Go.Abs
variable {G:Globals}
end Go.Proofs.YtkgbbdoeodmkgaaGreatDoor
namespace Go.Proofs.YtkgbbdoeodmkgaaGreatDoor
open Go Go.Proofs Go.Abs
variable {G:Globals}
abbrev Cel:=List UInt8 × Bool
abbrev CelC (c:Cel):List D:=[.bool c.2,S c.1]
def celsD (l:List Cel):List D:=l.flatMap CelC
abbrev CelS (l:List Cel) (full:Bool):D:=.sl l.length full (celsD l)
structure Col where
 name:List UInt8
 cells:List Cel
def noC:Cel:=([],false)
theorem celsD_length:∀ l:List Cel,(celsD l).length=2*l.length
 | []=>rfl
 | o::l=>by
   have ih:=celsD_length l
   simp only [celsD,List.flatMap_cons,List.length_append,List.length_cons,List.length_nil] at ih ⊢
   omega
theorem celsD_get:∀ {l:List Cel} {k:Nat},k<l.length→((celsD l).drop (k*2)).take 2=CelC (l.getD k noC)
 | [],k,h=>absurd h (Nat.not_lt_zero _)
 | o::l,0,_=>by simp [celsD]
 | o::l,k+1,h=>by
   have ih:=celsD_get (l:=l) (k:=k) (by simpa using h)
   have e2:celsD (o::l)=.bool o.2::S o.1::celsD l:=rfl
   rw [show (k+1)*2=k*2+2 by omega,e2]
   simpa using ih
end Go.Proofs.YtkgbbdoeodmkgaaGreatDoor
namespace Go.Proofs.YtkgbbdoeodmkgaaGreatDoor
open Go Go.Proofs Go.Abs
variable {G:Globals}
end Go.Proofs.YtkgbbdoeodmkgaaGreatDoor
namespace Go.Proofs.YtkgbbdoeodmkgaaGreatDoor
open Go Go.Proofs Go.Abs
variable {G:Globals}
end Go.Proofs.YtkgbbdoeodmkgaaGreatDoor
namespace Go.Proofs.YtkgbbdoeodmkgaaGreatDoor
open Go Go.Proofs Go.Abs
variable {G:Globals}
set_option maxHeartbeats 8000000 in
set_option maxRecDepth 100000 in
theorem sameCells_spec (c:Col) (fa fb:Bool) (hc:c.cells.length≤1000000):Ctr Tryz.prog G 12 [.d (.agg [S c.name,CelS c.cells fa]),.d (.agg [S c.name,CelS c.cells fb])] [] (.d (.bool true)) []:=by
 refine Ctr.pure (M:=M0) hmix Tryz.func12 rfl go12 ?_
 have lc:=celsD_length c.cells
 simp (config:={maxSteps:=1000000}) (disch:=((try simp only [awL]);omega)) only [QR,QS,QT,QU,QV,QW,QX,QY,QZ,Q0,Q1,Q2,lc,Tryz.f12,↓awU,awV,awF,Qa,Qb,Qc,Qd,forall_const,↓reduceIte,↓reduceDIte,↓Qe,Qf,Qg,Qh,Qi,Qj,Qk,Ql,Qm,Qn,Qo,Qp,Qq,Qr,Qs,implies_true,Qt,Qu,Qv,Qw,Qx,Qy,Qz,QA,QB,QC,QD,QE,QF,QG,QH,QI,QJ,QK,QL,QM,QN,QO,QP,QQ]
 refine LoopC.fr 4194316 (α:=Nat) (fun i=>c.cells.length - i) (fun i=>[(23,.d (.int .i64 (i:Nat)))]) (fun _=>[.box [.d (S c.name),.d (CelS c.cells fa)],.box [.d (S c.name),.d (CelS c.cells fb)]]) (fun i=>i≤c.cells.length) 0 (Nat.zero_le _) ?_ ?_
 ·exact ⟨[some 0,some 1],rfl,by simp,by simp [setsA,keepA,SWeak,AWeak],by simp [HWeak,BWeak,SWeak,AWeak]⟩
 ·intro i hi
  simp only [awK,Nat.reduceMod,Nat.reduceDiv,reduceIte]
  rcases Nat.lt_or_ge i c.cells.length with h6 | h6
  ·have gc:=celsD_get h6
   generalize c.cells.getD i noC=x at *
   simp (config:={maxSteps:=1000000}) (disch:=((try simp only [awL]);omega)) only [QR,QS,QT,QU,QV,QW,QX,QY,QZ,Q0,Q1,Q2,lc,gc,beq_self_eq_true,↓awU,awV,awF,Qa,Qb,Qc,Qd,forall_const,↓reduceIte,↓reduceDIte,↓Qe,Qf,Qg,Qh,Qi,Qj,Qk,Ql,Qm,Qn,Qo,Qp,Qq,Qr,Qs,implies_true,Qt,Qu,Qv,Qw,Qx,Qy,Qz,QA,QB,QC,QD,QE,QF,QG,QH,QI,QJ,QK,QL,QM,QN,QO,QP,QQ]
   exact ⟨by rfl,i+1,h6,by simp only;omega,⟨[some 0,some 1],rfl,by simp,by simp [setsA,keepA,SWeak,AWeak],by simp [HWeak,BWeak,SWeak,AWeak]⟩⟩
  ·simp (config:={maxSteps:=1000000}) (disch:=((try simp only [awL]);omega)) only [QR,QS,QT,QU,QV,QW,QX,QY,QZ,Q0,Q1,Q2,lc,↓awU,awV,awF,Qa,Qb,Qc,Qd,forall_const,↓reduceIte,↓reduceDIte,↓Qe,Qf,Qg,Qh,Qi,Qj,Qk,Ql,Qm,Qn,Qo,Qp,Qq,Qr,Qs,implies_true,Qt,Qu,Qv,Qw,Qx,Qy,Qz,QA,QB,QC,QD,QE,QF,QG,QH,QI,QJ,QK,QL,QM,QN,QO,QP,QQ]
   first | done | rfl | exact ⟨by rfl,by rfl⟩
end Go.Proofs.YtkgbbdoeodmkgaaGreatDoor
namespace Go.Proofs.YtkgbbdoeodmkgaaGreatDoor
open Go Go.Proofs Go.Abs Go.RowKit Go.Shelf
variable {G:Globals}
def Tryz.laysCount_ren:Go.Shelf.Ren:=⟨fun | 138=>57 | 195=>90 | 218=>92 | 143=>58 | 219=>93 | 217=>120 | 225=>121 | 224=>122 | 267=>123 | 266=>143 | 314=>144 | n=>n,fun | 9=>9 | 3=>3 | 4=>4 | 5=>5 | 0=>0 | 46=>127 | 146=>134 | 51=>107 | n=>n,fun | 1=>4 | n=>n⟩
theorem Tryz.laysCount:Go.Proofs.Lays.n138 Tryz.prog Tryz.laysCount_ren where
 mixed:=by kernel_rfl
 f138:=Tryz.func57.trans (congrArg some (by kernel_rfl))
 f143:=Tryz.func58.trans (congrArg some (by kernel_rfl))
 f195:=Tryz.func90.trans (congrArg some (by kernel_rfl))
 f217:=Tryz.func120.trans (congrArg some (by kernel_rfl))
 f218:=Tryz.func92.trans (congrArg some (by kernel_rfl))
 f219:=Tryz.func93.trans (congrArg some (by kernel_rfl))
 f224:=Tryz.func122.trans (congrArg some (by kernel_rfl))
 f225:=Tryz.func121.trans (congrArg some (by kernel_rfl))
 f266:=Tryz.func143.trans (congrArg some (by kernel_rfl))
 f267:=Tryz.func123.trans (congrArg some (by kernel_rfl))
 f314:=Tryz.func144.trans (congrArg some (by kernel_rfl))
 t0:=Tryz.underlying0
 a0:=Tryz.isAgg0
 z0:=Tryz.sizeOf0
 v0:=Tryz.zeroValue0
 t3:=Tryz.underlying3
 a3:=Tryz.isAgg3
 z3:=Tryz.sizeOf3
 v3:=Tryz.zeroValue3
 t4:=Tryz.underlying4
 a4:=Tryz.isAgg4
 z4:=Tryz.sizeOf4
 v4:=Tryz.zeroValue4
 t5:=Tryz.underlying5
 a5:=Tryz.isAgg5
 z5:=Tryz.sizeOf5
 v5:=Tryz.zeroValue5
 t9:=Tryz.underlying9
 a9:=Tryz.isAgg9
 z9:=Tryz.sizeOf9
 v9:=Tryz.zeroValue9
 t46:=Tryz.underlying127
 a46:=Tryz.isAgg127
 z46:=Tryz.sizeOf127
 v46:=Tryz.zeroValue127
 t51:=Tryz.underlying107
 a51:=Tryz.isAgg107
 z51:=Tryz.sizeOf107
 v51:=Tryz.zeroValue107
 t146:=Tryz.underlying134
 a146:=Tryz.isAgg134
 z146:=Tryz.sizeOf134
 v146:=Tryz.zeroValue134
 g1:=by kernel_rfl
def Tryz.laysContains_ren:Go.Shelf.Ren:=⟨fun | 144=>45 | 143=>58 | 219=>93 | 217=>120 | 225=>121 | 224=>122 | 267=>123 | 266=>143 | 314=>144 | n=>n,fun | 9=>9 | 4=>4 | 3=>3 | 5=>5 | 46=>127 | 146=>134 | 51=>107 | n=>n,fun | 1=>4 | n=>n⟩
theorem Tryz.laysContains:Go.Proofs.Lays.n144 Tryz.prog Tryz.laysContains_ren where
 mixed:=by kernel_rfl
 f143:=Tryz.func58.trans (congrArg some (by kernel_rfl))
 f144:=Tryz.func45.trans (congrArg some (by kernel_rfl))
 f217:=Tryz.func120.trans (congrArg some (by kernel_rfl))
 f219:=Tryz.func93.trans (congrArg some (by kernel_rfl))
 f224:=Tryz.func122.trans (congrArg some (by kernel_rfl))
 f225:=Tryz.func121.trans (congrArg some (by kernel_rfl))
 f266:=Tryz.func143.trans (congrArg some (by kernel_rfl))
 f267:=Tryz.func123.trans (congrArg some (by kernel_rfl))
 f314:=Tryz.func144.trans (congrArg some (by kernel_rfl))
 t3:=Tryz.underlying3
 a3:=Tryz.isAgg3
 z3:=Tryz.sizeOf3
 v3:=Tryz.zeroValue3
 t4:=Tryz.underlying4
 a4:=Tryz.isAgg4
 z4:=Tryz.sizeOf4
 v4:=Tryz.zeroValue4
 t5:=Tryz.underlying5
 a5:=Tryz.isAgg5
 z5:=Tryz.sizeOf5
 v5:=Tryz.zeroValue5
 t9:=Tryz.underlying9
 a9:=Tryz.isAgg9
 z9:=Tryz.sizeOf9
 v9:=Tryz.zeroValue9
 t46:=Tryz.underlying127
 a46:=Tryz.isAgg127
 z46:=Tryz.sizeOf127
 v46:=Tryz.zeroValue127
 t51:=Tryz.underlying107
 a51:=Tryz.isAgg107
 z51:=Tryz.sizeOf107
 v51:=Tryz.zeroValue107
 t146:=Tryz.underlying134
 a146:=Tryz.isAgg134
 z146:=Tryz.sizeOf134
 v146:=Tryz.zeroValue134
 g1:=by kernel_rfl
theorem contains1_spec (s:List UInt8) (c:UInt8):Ctr Tryz.prog G 45 [.d (S s),.d (S [c])] [] (.d (.bool (decide (c∈s)))) [] :=
 Ctr.of_calls_ss go45 fun h w=>(Any.strings_Contains_one Tryz.laysContains (bs s) c w).mono (by
  rintro e w' ⟨rfl,rfl⟩
  have e1:decide (0≤Lib.indexByte (bs s).data.toList c)=decide (c∈s):=by
   have e0:(bs s).data.toList=s:=rfl
   rw [e0]
   obtain ⟨i1,i2⟩:=cut_index c s
   by_cases h:c∈s
   ·obtain ⟨k,g1,_⟩:=i1 h
    rw [g1,decide_eq_true h,decide_eq_true (by omega)]
   ·obtain ⟨g1,_⟩:=i2 h
    rw [g1,decide_eq_false h,decide_eq_false (by omega)]
  rw [e1]
  exact ⟨_,rfl,.bool _,.refl _ _⟩)
theorem count_spec (s:List UInt8) (c:UInt8):Ctr Tryz.prog G 57 [.d (S s),.d (S [c])] [] (.d (.int .i64 (s.count c:Nat))) [] :=
 Ctr.of_calls_ss go57 fun h w=>(Any.strings_Count_one Tryz.laysCount (bs s) c w).mono (by
  rintro e w' ⟨rfl,rfl⟩;exact ⟨_,rfl,.int _ _,.refl _ _⟩)
def splB (c:UInt8) (s:List UInt8):List (List UInt8) :=
 if h:c∈s then cutL c s::splB c (cutR c s) else [s]
termination_by s.length
decreasing_by exact cutR_lt h
theorem splB_more {c:UInt8} {s:List UInt8} (h:c∈s):splB c s=cutL c s::splB c (cutR c s):=by rw [splB,dif_pos h]
theorem splB_last {c:UInt8} {s:List UInt8} (h:c∉s):splB c s=[s]:=by rw [splB,dif_neg h]
theorem count_cut {c:UInt8}:∀ {s:List UInt8},c∈s→s.count c=(cutR c s).count c+1
 | x::l,h=>by
   rw [cutR]
   by_cases e:x=c
   ·subst e;simp
   ·rw [if_neg e,← count_cut (s:=l) (by rcases List.mem_cons.1 h with q | q;exact absurd q.symm e;exact q),List.count_cons_of_ne e]
theorem splB_len (c:UInt8):∀ (n:Nat) (s:List UInt8),s.length=n→(splB c s).length=s.count c+1:=by
 intro n
 induction n using Nat.strongRecOn with
 | ind n ih =>
  intro s hn
  by_cases h:c∈s
  ·rw [splB_more h,List.length_cons,ih _ (by have:=cutR_lt h;omega) (cutR c s) rfl,count_cut h]
  ·rw [splB_last h,List.count_eq_zero_of_not_mem h];rfl
theorem sIndexB_spec (s:List UInt8) (c:UInt8) (hs:s.length<2 ^ 62):Ctr Tryz.prog G 58 [.d (S s),.d (S [c])] [] (.d (.int .i64 (Lib.indexByte s c))) []:=by
 refine Ctr.pure (M:=M0) hmix Tryz.func58 rfl go58 ?_
 simp (config:={maxSteps:=1000000}) (disch:=((try simp only [awL]);omega)) only [QR,QS,QT,QU,QV,QW,QX,QY,QZ,Q0,Q1,Q2,Tryz.f58,↓awU,awV,awF,Qa,Qb,Qc,Qd,forall_const,↓reduceIte,↓reduceDIte,↓Qe,Qf,Qg,Qh,Qi,Qj,Qk,Ql,Qm,Qn,Qo,Qp,Qq,Qr,Qs,implies_true,Qt,Qu,Qv,Qw,Qx,Qy,Qz,QA,QB,QC,QD,QE,QF,QG,QH,QI,QJ,QK,QL,QM,QN,QO,QP,QQ]
 refine CallC.pure (index1_spec s c hs) ?_
 simp (config:={maxSteps:=1000000}) (disch:=((try simp only [awL]);omega)) only [QR,QS,QT,QU,QV,QW,QX,QY,QZ,Q0,Q1,Q2,↓awU,awV,awF,Qa,Qb,Qc,Qd,forall_const,↓reduceIte,↓reduceDIte,↓Qe,Qf,Qg,Qh,Qi,Qj,Qk,Ql,Qm,Qn,Qo,Qp,Qq,Qr,Qs,implies_true,Qt,Qu,Qv,Qw,Qx,Qy,Qz,QA,QB,QC,QD,QE,QF,QG,QH,QI,QJ,QK,QL,QM,QN,QO,QP,QQ]
def fillB (N:Nat) (l:List (List UInt8)):List D:=strs l++List.replicate (N - l.length) (.str ByteArray.empty)
theorem fillB_len {N:Nat} {l:List (List UInt8)} (h:l.length≤N):(fillB N l).length=N:=by
 unfold fillB;rw [List.length_append,strs_length,List.length_replicate];omega
theorem fillB_set {N:Nat} {l:List (List UInt8)} (h:l.length<N) (x:List UInt8):(fillB N l).take l.length++[S x]++(fillB N l).drop (l.length+1)=fillB N (l++[x]):=by
 unfold fillB
 obtain ⟨d,hd⟩:∃ d,N - l.length=d+1:=⟨N - l.length - 1,by omega⟩
 have e:N - (l++[x]).length=d:=by rw [List.length_append,List.length_singleton];omega
 rw [hd,e,List.take_append_of_le_length (by rw [strs_length];exact Nat.le_refl _),List.take_of_length_le (by rw [strs_length];exact Nat.le_refl _),List.drop_append,List.drop_of_length_le (by rw [strs_length];omega),strs_length]
 have e2:l.length+1 - l.length=1:=by omega
 rw [e2,List.replicate_succ]
 simp [strs]
theorem fillB_setL {N:Nat} {l:List (List UInt8)} (h:l.length<N) (x:List UInt8):(fillB N l).set l.length (S x)=fillB N (l++[x]):=by
 rw [← fillB_set h,List.set_eq_take_append_cons_drop,if_pos (by rw [fillB_len (by omega)];exact h)]
 simp
set_option maxHeartbeats 4000000 in
set_option maxRecDepth 100000 in
theorem genSplit_spec (c:UInt8) (s:List UInt8) (hs:s.length≤1000000000):Ctr Tryz.prog G 41 [.d (S s),.d (S [c]),.d (.int .i64 0),.d (.int .i64 (-1))] [] (.d (Ss (splB c s) false)) []:=by
 refine Ctr.pure (M:=M0) hmix Tryz.func41 rfl go41 ?_
 have cl:s.count c≤s.length:=List.count_le_length
 have sl:=splB_len c _ s rfl
 have e1:((s.count c:Nat):Int)+1=((s.count c+1:Nat):Int):=by omega
 have cn:([c]=[])=False:=by simp
 obtain ⟨L,hL⟩:∃ L,L=splB c s:=⟨_,rfl⟩
 rw [← hL] at sl ⊢
 simp (config:={maxSteps:=1000000}) (disch:=((try simp only [awL]);omega)) only [QR,QS,QT,QU,QV,QW,QX,QY,QZ,Q0,Q1,Q2,cn,Tryz.f41,↓awU,awV,awF,Qa,Qb,Qc,Qd,forall_const,↓reduceIte,↓reduceDIte,↓Qe,Qf,Qg,Qh,Qi,Qj,Qk,Ql,Qm,Qn,Qo,Qp,Qq,Qr,Qs,implies_true,Qt,Qu,Qv,Qw,Qx,Qy,Qz,QA,QB,QC,QD,QE,QF,QG,QH,QI,QJ,QK,QL,QM,QN,QO,QP,QQ]
 refine CallC.of (count_spec s c) (by rfl) ?_
 simp (config:={maxSteps:=1000000}) (disch:=((try simp only [awL]);omega)) only [QR,QS,QT,QU,QV,QW,QX,QY,QZ,Q0,Q1,Q2,e1,↓awU,awV,awF,Qa,Qb,Qc,Qd,forall_const,↓reduceIte,↓reduceDIte,↓Qe,Qf,Qg,Qh,Qi,Qj,Qk,Ql,Qm,Qn,Qo,Qp,Qq,Qr,Qs,implies_true,Qt,Qu,Qv,Qw,Qx,Qy,Qz,QA,QB,QC,QD,QE,QF,QG,QH,QI,QJ,QK,QL,QM,QN,QO,QP,QQ]
 have z0:zerosD [D.str ByteArray.empty] (s.count c+1)=fillB (s.count c+1) []:=by
  unfold fillB
  rw [List.length_nil,Nat.sub_zero]
  simp [zerosD,strs,Nat.mod_one,List.map_const']
 rw [z0]
 generalize s.count c=N at *
 refine LoopC.fx 526 (α:=Row × List UInt8) (β:=Row × List UInt8) (fun x=>x.2.length) (fun x=>[(0,.d (S x.2)),(10,.d (.int .i64 (x.1.length:Nat)))]) (fun x=>[.row false (fillB (N+1) x.1)])
  (fun x=>x.2.length≤1000000000∧L=x.1++splB c x.2) 512 (fun y=>[(0,.d (S y.2)),(10,.d (.int .i64 (y.1.length:Nat)))]) (fun y=>[.row false (fillB (N+1) y.1)]) (fun y=>L=y.1++[y.2]) ([],s) ⟨hs,hL⟩ ?_ ?_ ?_
 ·exact ⟨[some 0],rfl,by simp,by simp [setsA,keepA,SWeak,AWeak],by simp [HWeak,BWeak,SWeak,AWeak]⟩
 ·rintro ⟨d,r⟩ ⟨h1,h2⟩
  simp only at h1 h2
  have ll:d.length+(splB c r).length=N+1:=by rw [← sl,h2,List.length_append]
  simp only [awK,Nat.reduceMod,Nat.reduceDiv,reduceIte]
  by_cases h:c∈r
  ·obtain ⟨i1,i2⟩:=cut_index c r
   obtain ⟨k,g1,g2,g3,g4⟩:=i1 h
   have hlt:=cutR_lt h
   have h3:=h2
   rw [splB_more h] at h3
   have h4:L=(d++[cutL c r])++splB c (cutR c r):=by rw [h3];simp
   have l2:=splB_len c _ (cutR c r) rfl
   have lm:d.length+1<N+1:=by rw [splB_more h,List.length_cons] at ll;omega
   have fs:=fillB_setL (N:=N+1) (l:=d) (by omega) (cutL c r)
   have fl:=fillB_len (N:=N+1) (l:=d) (by omega)
   have tl:(d++[cutL c r]).length=d.length+1:=by simp
   generalize d++[cutL c r]=d2 at *
   have k1:((k:Nat):Int)+1=((k+1:Nat):Int):=by omega
   simp (config:={maxSteps:=1000000}) (disch:=((try simp only [awL]);omega)) only [QR,QS,QT,QU,QV,QW,QX,QY,QZ,Q0,Q1,Q2,↓awU,awV,awF,Qa,Qb,Qc,Qd,forall_const,↓reduceIte,↓reduceDIte,↓Qe,Qf,Qg,Qh,Qi,Qj,Qk,Ql,Qm,Qn,Qo,Qp,Qq,Qr,Qs,implies_true,Qt,Qu,Qv,Qw,Qx,Qy,Qz,QA,QB,QC,QD,QE,QF,QG,QH,QI,QJ,QK,QL,QM,QN,QO,QP,QQ]
   refine CallC.of (sIndexB_spec r c (by omega)) (by rfl) ?_
   rw [g1]
   simp (config:={maxSteps:=1000000}) (disch:=((try simp only [awL]);omega)) only [QR,QS,QT,QU,QV,QW,QX,QY,QZ,Q0,Q1,Q2,Int.add_zero,k1,fl,g3,g4,fs,↓awU,awV,awF,Qa,Qb,Qc,Qd,forall_const,↓reduceIte,↓reduceDIte,↓Qe,Qf,Qg,Qh,Qi,Qj,Qk,Ql,Qm,Qn,Qo,Qp,Qq,Qr,Qs,implies_true,Qt,Qu,Qv,Qw,Qx,Qy,Qz,QA,QB,QC,QD,QE,QF,QG,QH,QI,QJ,QK,QL,QM,QN,QO,QP,QQ]
   exact ⟨(d2,cutR c r),⟨by simp only;omega,h4⟩,hlt,⟨[some 0],rfl,by simp,by simp [setsA,keepA,SWeak,AWeak,tl],by simp [HWeak,BWeak,SWeak,AWeak]⟩⟩
  ·have h3:=h2
   rw [splB_last h] at h3 ll
   have lm:d.length=N:=by rw [List.length_singleton] at ll;omega
   simp (config:={maxSteps:=1000000}) (disch:=((try simp only [awL]);omega)) only [QR,QS,QT,QU,QV,QW,QX,QY,QZ,Q0,Q1,Q2,↓awU,awV,awF,Qa,Qb,Qc,Qd,forall_const,↓reduceIte,↓reduceDIte,↓Qe,Qf,Qg,Qh,Qi,Qj,Qk,Ql,Qm,Qn,Qo,Qp,Qq,Qr,Qs,implies_true,Qt,Qu,Qv,Qw,Qx,Qy,Qz,QA,QB,QC,QD,QE,QF,QG,QH,QI,QJ,QK,QL,QM,QN,QO,QP,QQ]
   exact ⟨(d,r),h3,⟨[some 0],rfl,by simp,by simp [setsA,keepA,SWeak,AWeak],by simp [HWeak,BWeak,SWeak,AWeak]⟩⟩
 ·rintro ⟨d,r⟩ h3
  simp only at h3
  have lm:d.length=N:=by rw [h3,List.length_append,List.length_singleton] at sl;omega
  have fs:=fillB_setL (N:=N+1) (l:=d) (by omega) r
  have fl:=fillB_len (N:=N+1) (l:=d) (by omega)
  have fe:fillB (N+1) (d++[r])=strs L:=by
   rw [h3];unfold fillB
   rw [List.length_append,List.length_singleton,lm,Nat.sub_self];simp
  simp only [awK,Nat.reduceMod,Nat.reduceDiv,reduceIte]
  simp (config:={maxSteps:=1000000}) (disch:=((try simp only [awL]);omega)) only [QR,QS,QT,QU,QV,QW,QX,QY,QZ,Q0,Q1,Q2,fl,fs,fe,↓awU,awV,awF,Qa,Qb,Qc,Qd,forall_const,↓reduceIte,↓reduceDIte,↓Qe,Qf,Qg,Qh,Qi,Qj,Qk,Ql,Qm,Qn,Qo,Qp,Qq,Qr,Qs,implies_true,Qt,Qu,Qv,Qw,Qx,Qy,Qz,QA,QB,QC,QD,QE,QF,QG,QH,QI,QJ,QK,QL,QM,QN,QO,QP,QQ]
  have ll:L.length=d.length+1:=by rw [h3];simp
  rw [← ll,cut_all (strs_length).symm]
end Go.Proofs.YtkgbbdoeodmkgaaGreatDoor
namespace Go.Proofs.YtkgbbdoeodmkgaaGreatDoor
open Go Go.Proofs Go.Abs
variable {G:Globals}
def knownL:Row:=[[78,65],[78,47,65],[110,47,97],[110,117,108,108],[78,85,76,76],[110,111,110,101],[78,111,110,101],[110,97,110],[78,97,78],[45],[45,45],[63],[46],[35,78,47,65]]
def HK (G:Globals):Prop:=G 0=some (strs knownL)
theorem known_cut:cut (strs knownL) 0 14=strs knownL:=rfl
theorem known_one:(strs knownL).all D.one=true:=rfl
theorem cloneS_spec (l:Row) (full:Bool) (hl:l.length<2 ^ 40):Ctr Tryz.prog G 36 [.d (Ss l full)] [] (.d (Ss l false)) []:=by
 refine Ctr.of_body Tryz.func36 rfl go36 rfl ?_
 have sl:=@strs_length l
 refine Tri.seq (Tri.of_awp (M:=M0) hmix _ _ _ _ ?_)
 simp (config:={maxSteps:=1000000}) (disch:=((try simp only [awL]);omega)) only [QR,QS,QT,QU,QV,QW,QX,QY,QZ,Q0,Q1,Q2,aseq_normal,Tryz.f36,↓awU,awV,awF,Qa,Qb,Qc,Qd,forall_const,↓reduceIte,↓reduceDIte,↓Qe,Qf,Qg,Qh,Qi,Qj,Qk,Ql,Qm,Qn,Qo,Qp,Qq,Qr,Qs,implies_true,Qt,Qu,Qv,Qw,Qx,Qy,Qz,QA,QB,QC,QD,QE,QF,QG,QH,QI,QJ,QK,QL,QM,QN,QO,QP,QQ]
 refine Tri.seq (Tri.seq (Tri.nilRegion (e:=9) (by kernel_rfl) rfl ?_ ?_))
 ·simp
 intro b hb
 simp only [aseq_normal]
 refine Tri.of_awp (M:=M0) hmix _ _ _ _ ?_
 cases b
 ·simp (config:={maxSteps:=1000000}) (disch:=((try simp only [awL]);omega)) only [QR,QS,QT,QU,QV,QW,QX,QY,QZ,Q0,Q1,Q2,aseq_normal,Tryz.f36,aseq_ret,↓awU,awV,awF,Qa,Qb,Qc,Qd,forall_const,↓reduceIte,↓reduceDIte,↓Qe,Qf,Qg,Qh,Qi,Qj,Qk,Ql,Qm,Qn,Qo,Qp,Qq,Qr,Qs,implies_true,Qt,Qu,Qv,Qw,Qx,Qy,Qz,QA,QB,QC,QD,QE,QF,QG,QH,QI,QJ,QK,QL,QM,QN,QO,QP,QQ]
  refine Tri.of_awp (M:=M0) hmix _ _ _ _ ?_
  simp (config:={maxSteps:=1000000}) (disch:=((try simp only [awL]);omega)) only [QR,QS,QT,QU,QV,QW,QX,QY,QZ,Q0,Q1,Q2,aseq_normal,Tryz.f36,aseq_ret,↓awU,awV,awF,Qa,Qb,Qc,Qd,forall_const,↓reduceIte,↓reduceDIte,↓Qe,Qf,Qg,Qh,Qi,Qj,Qk,Ql,Qm,Qn,Qo,Qp,Qq,Qr,Qs,implies_true,Qt,Qu,Qv,Qw,Qx,Qy,Qz,QA,QB,QC,QD,QE,QF,QG,QH,QI,QJ,QK,QL,QM,QN,QO,QP,QQ]
  have cu:cut (strs l) 0 l.length=strs l:=cut_all sl.symm
  refine ⟨[],rfl,List.nodup_nil,trivial,.inr ⟨Ss l false,?_,?_,rfl⟩⟩
  ·simp [sealA,cu]
  ·simp only [unf_sl,strs_unf]
 ·simp (config:={maxSteps:=1000000}) (disch:=((try simp only [awL]);omega)) only [QR,QS,QT,QU,QV,QW,QX,QY,QZ,Q0,Q1,Q2,aseq_normal,Tryz.f36,aseq_ret,↓awU,awV,awF,Qa,Qb,Qc,Qd,forall_const,↓reduceIte,↓reduceDIte,↓Qe,Qf,Qg,Qh,Qi,Qj,Qk,Ql,Qm,Qn,Qo,Qp,Qq,Qr,Qs,implies_true,Qt,Qu,Qv,Qw,Qx,Qy,Qz,QA,QB,QC,QD,QE,QF,QG,QH,QI,QJ,QK,QL,QM,QN,QO,QP,QQ]
  have h0:l=[]:=List.length_eq_zero_iff.1 (hb rfl)
  subst h0
  exact ⟨[],rfl,List.nodup_nil,trivial,.inr ⟨.sl 0 true [],rfl,rfl,rfl⟩⟩
theorem markers_spec (hK:HK G):Ctr Tryz.prog G 15 [] [] (.d (Ss knownL false)) []:=by
 refine Ctr.pure (M:=M0) hmix Tryz.func15 rfl go15 ?_
 have hK':G 0=some (strs knownL):=hK
 simp (config:={maxSteps:=1000000}) (disch:=((try simp only [awL]);omega)) only [QR,QS,QT,QU,QV,QW,QX,QY,QZ,Q0,Q1,Q2,hK',known_cut,known_one,Tryz.f15,↓awU,awV,awF,Qa,Qb,Qc,Qd,forall_const,↓reduceIte,↓reduceDIte,↓Qe,Qf,Qg,Qh,Qi,Qj,Qk,Ql,Qm,Qn,Qo,Qp,Qq,Qr,Qs,implies_true,Qt,Qu,Qv,Qw,Qx,Qy,Qz,QA,QB,QC,QD,QE,QF,QG,QH,QI,QJ,QK,QL,QM,QN,QO,QP,QQ]
 refine CallC.of (cloneS_spec knownL false (by decide)) (by rfl) ?_
 simp (config:={maxSteps:=1000000}) (disch:=((try simp only [awL]);omega)) only [QR,QS,QT,QU,QV,QW,QX,QY,QZ,Q0,Q1,Q2,↓awU,awV,awF,Qa,Qb,Qc,Qd,forall_const,↓reduceIte,↓reduceDIte,↓Qe,Qf,Qg,Qh,Qi,Qj,Qk,Ql,Qm,Qn,Qo,Qp,Qq,Qr,Qs,implies_true,Qt,Qu,Qv,Qw,Qx,Qy,Qz,QA,QB,QC,QD,QE,QF,QG,QH,QI,QJ,QK,QL,QM,QN,QO,QP,QQ]
 first | done | rfl
theorem rmarkers_spec:Ctr Tryz.prog G 26 [] [] (.d (Ss knownL false)) []:=by
 refine Ctr.pure (M:=M0) hmix Tryz.func26 rfl go26 ?_
 simp (config:={maxSteps:=1000000}) (disch:=((try simp only [awL]);omega)) only [QR,QS,QT,QU,QV,QW,QX,QY,QZ,Q0,Q1,Q2,Tryz.f26,↓awU,awV,awF,Qa,Qb,Qc,Qd,forall_const,↓reduceIte,↓reduceDIte,↓Qe,Qf,Qg,Qh,Qi,Qj,Qk,Ql,Qm,Qn,Qo,Qp,Qq,Qr,Qs,implies_true,Qt,Qu,Qv,Qw,Qx,Qy,Qz,QA,QB,QC,QD,QE,QF,QG,QH,QI,QJ,QK,QL,QM,QN,QO,QP,QQ]
 first | done | rfl
def isMk (m:List UInt8) (x:Cel):Bool:=!x.2 && decide (Lib.trimB x.1 32=m)
def isOt (x:Cel):Bool:=!x.2 && (!decide (Lib.trimB x.1 32∈knownL) && (!decide (Lib.trimB x.1 32=[]) && !numB (Lib.trimB x.1 32)))
def nullO (l:List Cel):List Opt:=(knownL.filter fun m=>decide (0<l.countP (isMk m))).map fun m=>⟨m,l.countP (isMk m),l.countP isOt,0⟩
def nullP (l:List Cel) (n:Nat):List Opt:=((knownL.take n).filter fun m=>decide (0<l.countP (isMk m))).map fun m=>⟨m,l.countP (isMk m),l.countP isOt,0⟩
theorem nullP_all (l:List Cel):nullP l 14=nullO l:=rfl
theorem nullP_step (l:List Cel) {n:Nat} (h:n<14):nullP l (n+1)=if 0<l.countP (isMk (knownL.getD n [])) then nullP l n++[⟨knownL.getD n [],l.countP (isMk (knownL.getD n [])),l.countP isOt,0⟩] else nullP l n:=by
 unfold nullP
 rw [List.take_add_one,getD_some (d:=[]) (show n<knownL.length from h)]
 simp only [Option.toList_some,List.filter_append,List.map_append]
 by_cases e:0<l.countP (isMk (knownL.getD n []))
 ·rw [if_pos e]
  have:([knownL.getD n []].filter fun m=>decide (0<l.countP (isMk m)))=[knownL.getD n []]:=by rw [List.filter_cons,if_pos (decide_eq_true e)];rfl
  rw [this];rfl
 ·rw [if_neg e]
  have:([knownL.getD n []].filter fun m=>decide (0<l.countP (isMk m)))=[]:=by rw [List.filter_cons,if_neg (by rw [decide_eq_false e];exact Bool.false_ne_true)];rfl
  rw [this];simp
theorem countP_step {l:List Cel} {i:Nat} (p:Cel→Bool) (h:i<l.length):(l.take (i+1)).countP p=(l.take i).countP p+(if p (l.getD i noC)=true then 1 else 0):=by
 rw [List.take_add_one,getD_some (d:=noC) h,List.countP_append]
 simp only [Option.toList_some,List.countP_cons,List.countP_nil,Nat.zero_add]
theorem countP_le_n {l:List Cel} (p:Cel→Bool) {m:Nat} (h:l.length≤m) (i:Nat):(l.take i).countP p≤m:=Nat.le_trans List.countP_le_length (by rw [List.length_take];omega)
end Go.Proofs.YtkgbbdoeodmkgaaGreatDoor
namespace Go.Proofs.YtkgbbdoeodmkgaaGreatDoor
open Go Go.Proofs Go.Abs Go.RowKit Go.ChangeShapes Go.WideShapes Go.ChangeAt Go.Shelf Go.Joins Go.Deep
theorem gKnown:Tryz.prog.globalNamed "tablefinder/null.known" = some 0:=by kernel_rfl
theorem tKnown:(Tryz.prog.globals[0]?).map (·.type)=some 63:=by kernel_rfl
theorem cStr1:Tryz.prog.cellsOf 9=1:=by kernel_rfl
theorem known_data {H:Type}:(Rows.laid_tablefinder_null_known:DataW H)=.agg (knownL.map fun s=>.lit (.string s)):=rfl
theorem known_cells {X:World} (h:Lib.VarReads Tryz.prog X "tablefinder/null.known" Rows.laid_tablefinder_null_known):∀ i,i<14→X.cell? ⟨0,i,none⟩=some (.string (bs (knownL.getD i []))):=by
 obtain ⟨g,t,cs,fuel,p,hg,ht,hv,hd⟩:=h
 obtain rfl:=Option.some.inj (gKnown.symm.trans hg)
 obtain rfl:=Option.some.inj (tKnown.symm.trans ht)
 obtain ⟨xs,m,rfl,hx,hl,hn,he⟩:=DataW.trod_array Tryz.underlying63 hd
 rw [known_data,cStr1] at *
 simp only [Prod.mk.injEq,DataW.agg.injEq] at hx
 intro i hi
 have h1:=he i hi
 have hxi:xs[i]? = some xs[i]:=List.getElem?_eq_getElem (by omega)
 rw [hxi] at h1
 obtain ⟨s,hcs,hy,_⟩:=DataW.trod_string Tryz.underlying9 h1
 have h2:(xs.map (·.1))[i]? = some (.lit (.string s.data.toList)):=by rw [List.getElem?_map,hxi,hy];rfl
 rw [← hx.1,List.getElem?_map,getD_some (d:=[]) (show i<knownL.length from hi)] at h2
 have h3:knownL.getD i []=s.data.toList:=by simpa using h2
 rw [World.var?_cell hg hv i,h3,← bs_of s]
 have:=congrArg (·[0]?) hcs
 simpa [List.getElem?_take,List.getElem?_drop] using this
def G3 (b:Bool):Globals:=fun g=>if g=0 then some (strs knownL) else G2 b g
theorem hT3 {b:Bool}:HT (G3 b):=⟨rfl,rfl⟩
theorem hK3 {b:Bool}:HK (G3 b):=rfl
theorem hG3 {b:Bool}:Num.HG (G3 b):=by simp [Num.HG,G3,G2]
theorem globOK3 {X:World} {b:Bool} (h0:GlobOK (G2 b) X) (h:Lib.VarReads Tryz.prog X "tablefinder/null.known" Rows.laid_tablefinder_null_known):GlobOK (G3 b) X:=by
 have hc:=known_cells h
 intro g ds hgd
 simp only [G3] at hgd
 split at hgd
 ·rename_i hgg
  subst hgg
  cases hgd
  refine ⟨fun i=>.string (bs (knownL.getD i [])),fun i x hx=>?_,fun i x hx=>?_⟩
  ·have hi:i<14:=by have:=(List.getElem?_eq_some_iff.1 hx).1;simpa [strs,knownL] using this
   exact hc i hi
  ·have hi:i<14:=by have:=(List.getElem?_eq_some_iff.1 hx).1;simpa [strs,knownL] using this
   have:(strs knownL)[i]? = some (S (knownL.getD i [])):=by
    rw [strs,List.getElem?_map,getD_some (d:=[]) (show i<knownL.length from hi)];rfl
   rw [this] at hx
   cases hx
   exact .str _
 ·exact h0 g ds hgd
end Go.Proofs.YtkgbbdoeodmkgaaGreatDoor
