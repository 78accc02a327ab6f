/-
  Contracts of the functions, one after another.
-/
import Derived.Test.YtdpjcghiegggbaaGreatDoorMb2
import Derived.Laws.IdiomRangeMap
import Derived.Test.YtdpjcghiegggbaaGreatDoorCards
import Derived.Test.YtdpjcghiegggbaaGreatDoorTie
import Derived.Lib.LaidTab
import Derived.LaidLaws
import Derived.Shelf.Vars
import Derived.Lib.SmallJoins
set_option linter.all false
open Go.Abs renaming ofVal→Qa,ofVal0→Qb,isShift→Qc,aggK→Qd,purePost→Qe,combine→Qf,idsA→Qg,cellsA→Qh,numsOf→Qi,srcA→Qj,calleeA→Qk,refsA→Ql,isScalar→Qm,scalarD→Qn,scalar0→Qo,putL→Qr,unfA→Qs,sidsB→QJ,keyKD→QL,isIntK→QM,aggD→QN,aggL→QO,eqKs→QP,boxRow→QQ,nextC_more→QT,nextC_over→QU,bs_size→QV,bs_extract→QW,bs_toList→QX,bs_append→QY,byteAt_bs→QZ,bs_cells→Q0,nums_length→Q1,nums_getD→Q2
open Go.Abs.AV renaming one→Qp
open Go.Abs.D renaming one→Qq
open Go.IntKind renaming signed→Qt
open Nat renaming reduceAdd→Qu,reduceSub→Qv,reduceMul→Qw,reducePow→Qx,reduceDiv→Qy,reduceMod→Qz,reduceEqDiff→QI,reduceBEq→QK
open Int renaming reduceAdd→QA,reduceSub→QB,reduceMul→QC,reducePow→QD,reduceNeg→QE,reduceToNat→QF,reduceLT→QG,reduceLE→QH
open Option renaming toList_some→QR,toList_none→QS
namespace Go.Proofs.YtdpjcghiegggbaaGreatDoor
open Go Go.Proofs Go.Abs
variable {G:Globals}
theorem ex_year {N:Int} (h0:0≤N):∀ k:Nat,N<bgn (1+(k:Int))→∃ y:Int,1≤y∧y≤k∧bgn y≤N∧N<bgn (y+1)
 | 0,h=>by have:bgn (1+((0:Nat):Int))=0:=rfl;omega
 | k+1,h=>by
   by_cases q:N<bgn (1+(k:Int))
   ·obtain ⟨y,a,b,c,d⟩:=ex_year h0 k q
    exact ⟨y,a,by omega,c,d⟩
   ·exact ⟨1+(k:Int),by omega,by omega,by omega,by rw [show (1:Int)+k+1=1+((k+1:Nat):Int) by omega];exact h⟩
theorem ex_month {y R:Int} (h0:0≤R):∀ k:Nat,R<monS y k→∃ m,m<k∧monS y m≤R∧R<monS y (m+1)
 | 0,h=>by rw [monS] at h;omega
 | k+1,h=>by
   by_cases q:R<monS y k
   ·obtain ⟨m,a,b,c⟩:=ex_month h0 k q
    exact ⟨m,by omega,b,c⟩
   ·exact ⟨k,by omega,by omega,h⟩
theorem ex_dt {N:Int} (h0:0≤N) (h1:N<3652059):∃ y m r,IsDt N y m r:=by
 obtain ⟨y,a,b,c,d⟩:=ex_year h0 9999 (by have:=bgn_end;rw [show (1:Int)+((9999:Nat):Int)=10000 by decide];omega)
 obtain ⟨m,e,f,g⟩:=ex_month (y:=y) (R:=N - bgn y) (by omega) 12 (by rw [monS_12];have:=bgn_succ a;omega)
 exact ⟨y,m,N - bgn y - monS y m,a,by omega,e,by omega,by omega,by rw [monS] at g;omega⟩
theorem IsDt.range {N y:Int} {m:Nat} {r:Int} (h:IsDt N y m r):0≤N∧N<3652059:=by
 have a:=h.year
 have b:=bgn_le h.1 (by have:=h.2.1;omega)
 have c:bgn (y+1)≤bgn 10000:=by
  rcases Int.lt_or_le (y+1) 10000 with q | q
  ·have:=bgn_lt (y:=y+1) (z:=10000) (by have:=h.1;omega) q
   have:=bgn_succ (y:=y+1) (by have:=h.1;omega)
   have:365≤yrL (y+1):=by unfold yrL;split<;>omega
   omega
  ·have:y+1=10000:=by have:=h.2.1;omega
   rw [this];exact Int.le_refl _
 rw [bgn_end] at c
 omega
theorem IsDt.le_of {N y z:Int} {m:Nat} {r:Int} (h:IsDt N y m r) (hz:1≤z) (hb:bgn z≤N):z≤y:=by
 rcases Int.lt_or_le y z with q | q
 ·have:=bgn_lt h.1 q;have:=h.year;omega
 ·exact q
set_option maxHeartbeats 4000000 in
theorem tdate_spec (n:Int) {y:Int} {m:Nat} {r:Int} (h:IsDt (n+719162) y m r) :
  Ctr Tryz.prog G 10 [.d (.int .i64 n)] [] (.d (.tup [.int .i64 y,.int .i64 (m+1:Nat),.int .i64 (r+1),.bool true])) []:=by
 refine Ctr.pure (M:=M0) hmix Tryz.func10 rfl go10 ?_
 have rg:=h.range
 have hy:=h.year
 obtain ⟨h1,h2,h3,h4,h5,h6⟩:=h
 have dl:dayV 9999 12 31=2932896∧okDt 9999 12 31=true:=by decide +kernel
 have sp:=day_spec (G:=G) 9999 12 31 (by decide) (by decide) (by decide) (by decide) (by decide) (by decide)
 rw [dl.1,dl.2] at sp
 obtain ⟨N,hN⟩:∃ N,N=n+719162:=⟨_,rfl⟩
 rw [← hN] at rg hy h4
 have q1:N.tdiv 146097=N / 146097:=tdiv_pos _ (by omega)
 have q2:N.tmod 146097=N % 146097:=tmod_pos _ (by omega)
 have q3:(N % 146097).tdiv 36524=N % 146097 / 36524:=tdiv_pos _ (by omega)
 obtain ⟨y0,hy0⟩:∃ y0,y0=N / 146097*400+min (N % 146097 / 36524) 3*100+1:=⟨_,rfl⟩
 have y01:1≤y0∧y0≤10000:=by omega
 have b0:bgn y0≤N:=by
  rw [bgn_eq y01.1,hy0]
  have:N / 146097*400+min (N % 146097 / 36524) 3*100+1 - 1=400*(N / 146097)+100*min (N % 146097 / 36524) 3:=by omega
  rw [this]
  omega
 have hD:IsDt N y m r:=⟨h1,h2,h3,h4,h5,h6⟩
 have yle:=hD.le_of y01.1 b0
 have mn:(if 3<N % 146097 / 36524 then 3 else N % 146097 / 36524)=min (N % 146097 / 36524) 3:=by split<;>omega
 have e0:n+719162=N:=hN.symm
 have f0:N / 146097*400+min (N % 146097 / 36524) 3*100+1=y0:=hy0.symm
 simp (config:={maxSteps:=1000000}) (disch:=((try simp only [awL]);omega)) only [QR,QS,QT,QU,QV,QW,QX,QY,QZ,Q0,Q1,Q2,Tryz.f10,↓awU,awV,awF,Qa,Qb,Qc,Qd,forall_const,↓reduceIte,↓reduceDIte,↓Qe,Qf,Qg,Qh,Qi,Qj,Qk,Ql,Qm,Qn,Qo,Qp,Qq,Qr,Qs,implies_true,Qt,Qu,Qv,Qw,Qx,Qy,Qz,QA,QB,QC,QD,QE,QF,QG,QH,QI,QJ,QK,QL,QM,QN,QO,QP,QQ]
 refine CallC.of sp (by rfl) ?_
 simp (config:={maxSteps:=1000000}) (disch:=((try simp only [awL]);omega)) only [QR,QS,QT,QU,QV,QW,QX,QY,QZ,Q0,Q1,Q2,e0,q1,q2,q3,mn,f0,↓awU,awV,awF,Qa,Qb,Qc,Qd,forall_const,↓reduceIte,↓reduceDIte,↓Qe,Qf,Qg,Qh,Qi,Qj,Qk,Ql,Qm,Qn,Qo,Qp,Qq,Qr,Qs,implies_true,Qt,Qu,Qv,Qw,Qx,Qy,Qz,QA,QB,QC,QD,QE,QF,QG,QH,QI,QJ,QK,QL,QM,QN,QO,QP,QQ]
 refine LoopC.fr 256 (α:=Int) (fun x=>(y - x).toNat) (fun x=>[(2,.d (.int .i64 x))]) (fun _=>[]) (fun x=>1≤x∧x≤y∧bgn x≤N) y0 ⟨y01.1,yle,b0⟩ ?_ ?_
 ·exact ⟨[],rfl,by simp,by simp [setsA,keepA,SWeak,AWeak],by simp [HWeak,BWeak,SWeak,AWeak]⟩
 rintro x ⟨x1,x2,x3⟩
 have bx:=bgn_le x1 (by omega)
 simp only [awK,Nat.reduceMod,Nat.reduceDiv,reduceIte]
 rcases Int.lt_or_le x y with q | q
 ·have bm:=bgn_lt x1 q
  simp (config:={maxSteps:=1000000}) (disch:=((try simp only [awL]);omega)) only [QR,QS,QT,QU,QV,QW,QX,QY,QZ,Q0,Q1,Q2,↓awU,awV,awF,Qa,Qb,Qc,Qd,forall_const,↓reduceIte,↓reduceDIte,↓Qe,Qf,Qg,Qh,Qi,Qj,Qk,Ql,Qm,Qn,Qo,Qp,Qq,Qr,Qs,implies_true,Qt,Qu,Qv,Qw,Qx,Qy,Qz,QA,QB,QC,QD,QE,QF,QG,QH,QI,QJ,QK,QL,QM,QN,QO,QP,QQ]
  refine CallC.of (began_spec (x+1) (by omega) (by omega)) (by rfl) ?_
  simp (config:={maxSteps:=1000000}) (disch:=((try simp only [awL]);omega)) only [QR,QS,QT,QU,QV,QW,QX,QY,QZ,Q0,Q1,Q2,↓awU,awV,awF,Qa,Qb,Qc,Qd,forall_const,↓reduceIte,↓reduceDIte,↓Qe,Qf,Qg,Qh,Qi,Qj,Qk,Ql,Qm,Qn,Qo,Qp,Qq,Qr,Qs,implies_true,Qt,Qu,Qv,Qw,Qx,Qy,Qz,QA,QB,QC,QD,QE,QF,QG,QH,QI,QJ,QK,QL,QM,QN,QO,QP,QQ]
  first
  | exact ⟨x+1,⟨by omega,by omega,by omega⟩,by simp only;omega,⟨[],rfl,by simp,by simp [setsA,keepA,SWeak,AWeak],by simp [HWeak,BWeak,SWeak,AWeak]⟩⟩
 have e:x=y:=by omega
 subst e
 have after:True:=trivial
 by_cases y9:x<9999
 ·simp (config:={maxSteps:=1000000}) (disch:=((try simp only [awL]);omega)) only [QR,QS,QT,QU,QV,QW,QX,QY,QZ,Q0,Q1,Q2,↓awU,awV,awF,Qa,Qb,Qc,Qd,forall_const,↓reduceIte,↓reduceDIte,↓Qe,Qf,Qg,Qh,Qi,Qj,Qk,Ql,Qm,Qn,Qo,Qp,Qq,Qr,Qs,implies_true,Qt,Qu,Qv,Qw,Qx,Qy,Qz,QA,QB,QC,QD,QE,QF,QG,QH,QI,QJ,QK,QL,QM,QN,QO,QP,QQ]
  refine CallC.of (began_spec (x+1) (by omega) (by omega)) (by rfl) ?_
  simp (config:={maxSteps:=1000000}) (disch:=((try simp only [awL]);omega)) only [QR,QS,QT,QU,QV,QW,QX,QY,QZ,Q0,Q1,Q2,↓awU,awV,awF,Qa,Qb,Qc,Qd,forall_const,↓reduceIte,↓reduceDIte,↓Qe,Qf,Qg,Qh,Qi,Qj,Qk,Ql,Qm,Qn,Qo,Qp,Qq,Qr,Qs,implies_true,Qt,Qu,Qv,Qw,Qx,Qy,Qz,QA,QB,QC,QD,QE,QF,QG,QH,QI,QJ,QK,QL,QM,QN,QO,QP,QQ]
  refine CallC.of (began_spec x (by omega) (by omega)) (by rfl) ?_
  simp (config:={maxSteps:=1000000}) (disch:=((try simp only [awL]);omega)) only [QR,QS,QT,QU,QV,QW,QX,QY,QZ,Q0,Q1,Q2,↓awU,awV,awF,Qa,Qb,Qc,Qd,forall_const,↓reduceIte,↓reduceDIte,↓Qe,Qf,Qg,Qh,Qi,Qj,Qk,Ql,Qm,Qn,Qo,Qp,Qq,Qr,Qs,implies_true,Qt,Qu,Qv,Qw,Qx,Qy,Qz,QA,QB,QC,QD,QE,QF,QG,QH,QI,QJ,QK,QL,QM,QN,QO,QP,QQ]
  refine LoopC.fr 4 (α:=Nat) (fun j=>m - j) (fun j=>[(3,.d (.int .i64 (j+1:Nat))),(8,.d (.int .i64 (N - bgn x - monS x j)))]) (fun _=>[]) (fun j=>j≤m) 0 (Nat.zero_le _) ?_ ?_
  ·exact ⟨[],rfl,by simp,by simp [setsA,keepA,SWeak,AWeak,monS],by simp [HWeak,BWeak,SWeak,AWeak]⟩
  ·intro j hj
   have mj:=monS_le x j
   have lj:=lenM_pos x ((j+1:Nat):Int)
   have ms:monS x (j+1)=monS x j+lenM x (j+1:Nat):=rfl
   simp only [awK,Nat.reduceMod,Nat.reduceDiv,reduceIte]
   simp (config:={maxSteps:=1000000}) (disch:=((try simp only [awL]);omega)) only [QR,QS,QT,QU,QV,QW,QX,QY,QZ,Q0,Q1,Q2,↓awU,awV,awF,Qa,Qb,Qc,Qd,forall_const,↓reduceIte,↓reduceDIte,↓Qe,Qf,Qg,Qh,Qi,Qj,Qk,Ql,Qm,Qn,Qo,Qp,Qq,Qr,Qs,implies_true,Qt,Qu,Qv,Qw,Qx,Qy,Qz,QA,QB,QC,QD,QE,QF,QG,QH,QI,QJ,QK,QL,QM,QN,QO,QP,QQ]
   refine CallC.of (length_spec x ((j+1:Nat):Int) (by omega) (by omega) (by omega) (by omega)) (by rfl) ?_
   rcases Nat.lt_or_ge j m with h | h
   ·have:=monS_lt (y:=x) h
    have e1:N - bgn x - monS x j - lenM x ((j+1:Nat):Int)=N - bgn x - monS x (j+1):=by omega
    simp (config:={maxSteps:=1000000}) (disch:=((try simp only [awL]);omega)) only [QR,QS,QT,QU,QV,QW,QX,QY,QZ,Q0,Q1,Q2,↓awU,awV,awF,Qa,Qb,Qc,Qd,forall_const,↓reduceIte,↓reduceDIte,↓Qe,Qf,Qg,Qh,Qi,Qj,Qk,Ql,Qm,Qn,Qo,Qp,Qq,Qr,Qs,implies_true,Qt,Qu,Qv,Qw,Qx,Qy,Qz,QA,QB,QC,QD,QE,QF,QG,QH,QI,QJ,QK,QL,QM,QN,QO,QP,QQ]
    refine CallC.of (length_spec x ((j+1:Nat):Int) (by omega) (by omega) (by omega) (by omega)) (by rfl) ?_
    simp (config:={maxSteps:=1000000}) (disch:=((try simp only [awL]);omega)) only [QR,QS,QT,QU,QV,QW,QX,QY,QZ,Q0,Q1,Q2,e1,↓awU,awV,awF,Qa,Qb,Qc,Qd,forall_const,↓reduceIte,↓reduceDIte,↓Qe,Qf,Qg,Qh,Qi,Qj,Qk,Ql,Qm,Qn,Qo,Qp,Qq,Qr,Qs,implies_true,Qt,Qu,Qv,Qw,Qx,Qy,Qz,QA,QB,QC,QD,QE,QF,QG,QH,QI,QJ,QK,QL,QM,QN,QO,QP,QQ]
    first
    | exact ⟨j+1,h,by simp only;omega,⟨[],rfl,by simp,by simp [setsA,keepA,SWeak,AWeak],by simp [HWeak,BWeak,SWeak,AWeak]⟩⟩
   ·have e:j=m:=by omega
    subst e
    have e1:N - bgn x - monS x j=r:=by omega
    simp (config:={maxSteps:=1000000}) (disch:=((try simp only [awL]);omega)) only [QR,QS,QT,QU,QV,QW,QX,QY,QZ,Q0,Q1,Q2,e1,↓awU,awV,awF,Qa,Qb,Qc,Qd,forall_const,↓reduceIte,↓reduceDIte,↓Qe,Qf,Qg,Qh,Qi,Qj,Qk,Ql,Qm,Qn,Qo,Qp,Qq,Qr,Qs,implies_true,Qt,Qu,Qv,Qw,Qx,Qy,Qz,QA,QB,QC,QD,QE,QF,QG,QH,QI,QJ,QK,QL,QM,QN,QO,QP,QQ]
    first | done | rfl
 ·simp (config:={maxSteps:=1000000}) (disch:=((try simp only [awL]);omega)) only [QR,QS,QT,QU,QV,QW,QX,QY,QZ,Q0,Q1,Q2,↓awU,awV,awF,Qa,Qb,Qc,Qd,forall_const,↓reduceIte,↓reduceDIte,↓Qe,Qf,Qg,Qh,Qi,Qj,Qk,Ql,Qm,Qn,Qo,Qp,Qq,Qr,Qs,implies_true,Qt,Qu,Qv,Qw,Qx,Qy,Qz,QA,QB,QC,QD,QE,QF,QG,QH,QI,QJ,QK,QL,QM,QN,QO,QP,QQ]
  refine CallC.of (began_spec x (by omega) (by omega)) (by rfl) ?_
  simp (config:={maxSteps:=1000000}) (disch:=((try simp only [awL]);omega)) only [QR,QS,QT,QU,QV,QW,QX,QY,QZ,Q0,Q1,Q2,↓awU,awV,awF,Qa,Qb,Qc,Qd,forall_const,↓reduceIte,↓reduceDIte,↓Qe,Qf,Qg,Qh,Qi,Qj,Qk,Ql,Qm,Qn,Qo,Qp,Qq,Qr,Qs,implies_true,Qt,Qu,Qv,Qw,Qx,Qy,Qz,QA,QB,QC,QD,QE,QF,QG,QH,QI,QJ,QK,QL,QM,QN,QO,QP,QQ]
  refine LoopC.fr 4 (α:=Nat) (fun j=>m - j) (fun j=>[(3,.d (.int .i64 (j+1:Nat))),(8,.d (.int .i64 (N - bgn x - monS x j)))]) (fun _=>[]) (fun j=>j≤m) 0 (Nat.zero_le _) ?_ ?_
  ·exact ⟨[],rfl,by simp,by simp [setsA,keepA,SWeak,AWeak,monS],by simp [HWeak,BWeak,SWeak,AWeak]⟩
  ·intro j hj
   have mj:=monS_le x j
   have lj:=lenM_pos x ((j+1:Nat):Int)
   have ms:monS x (j+1)=monS x j+lenM x (j+1:Nat):=rfl
   simp only [awK,Nat.reduceMod,Nat.reduceDiv,reduceIte]
   simp (config:={maxSteps:=1000000}) (disch:=((try simp only [awL]);omega)) only [QR,QS,QT,QU,QV,QW,QX,QY,QZ,Q0,Q1,Q2,↓awU,awV,awF,Qa,Qb,Qc,Qd,forall_const,↓reduceIte,↓reduceDIte,↓Qe,Qf,Qg,Qh,Qi,Qj,Qk,Ql,Qm,Qn,Qo,Qp,Qq,Qr,Qs,implies_true,Qt,Qu,Qv,Qw,Qx,Qy,Qz,QA,QB,QC,QD,QE,QF,QG,QH,QI,QJ,QK,QL,QM,QN,QO,QP,QQ]
   refine CallC.of (length_spec x ((j+1:Nat):Int) (by omega) (by omega) (by omega) (by omega)) (by rfl) ?_
   rcases Nat.lt_or_ge j m with h | h
   ·have:=monS_lt (y:=x) h
    have e1:N - bgn x - monS x j - lenM x ((j+1:Nat):Int)=N - bgn x - monS x (j+1):=by omega
    simp (config:={maxSteps:=1000000}) (disch:=((try simp only [awL]);omega)) only [QR,QS,QT,QU,QV,QW,QX,QY,QZ,Q0,Q1,Q2,↓awU,awV,awF,Qa,Qb,Qc,Qd,forall_const,↓reduceIte,↓reduceDIte,↓Qe,Qf,Qg,Qh,Qi,Qj,Qk,Ql,Qm,Qn,Qo,Qp,Qq,Qr,Qs,implies_true,Qt,Qu,Qv,Qw,Qx,Qy,Qz,QA,QB,QC,QD,QE,QF,QG,QH,QI,QJ,QK,QL,QM,QN,QO,QP,QQ]
    refine CallC.of (length_spec x ((j+1:Nat):Int) (by omega) (by omega) (by omega) (by omega)) (by rfl) ?_
    simp (config:={maxSteps:=1000000}) (disch:=((try simp only [awL]);omega)) only [QR,QS,QT,QU,QV,QW,QX,QY,QZ,Q0,Q1,Q2,e1,↓awU,awV,awF,Qa,Qb,Qc,Qd,forall_const,↓reduceIte,↓reduceDIte,↓Qe,Qf,Qg,Qh,Qi,Qj,Qk,Ql,Qm,Qn,Qo,Qp,Qq,Qr,Qs,implies_true,Qt,Qu,Qv,Qw,Qx,Qy,Qz,QA,QB,QC,QD,QE,QF,QG,QH,QI,QJ,QK,QL,QM,QN,QO,QP,QQ]
    first
    | exact ⟨j+1,h,by simp only;omega,⟨[],rfl,by simp,by simp [setsA,keepA,SWeak,AWeak],by simp [HWeak,BWeak,SWeak,AWeak]⟩⟩
   ·have e:j=m:=by omega
    subst e
    have e1:N - bgn x - monS x j=r:=by omega
    simp (config:={maxSteps:=1000000}) (disch:=((try simp only [awL]);omega)) only [QR,QS,QT,QU,QV,QW,QX,QY,QZ,Q0,Q1,Q2,e1,↓awU,awV,awF,Qa,Qb,Qc,Qd,forall_const,↓reduceIte,↓reduceDIte,↓Qe,Qf,Qg,Qh,Qi,Qj,Qk,Ql,Qm,Qn,Qo,Qp,Qq,Qr,Qs,implies_true,Qt,Qu,Qv,Qw,Qx,Qy,Qz,QA,QB,QC,QD,QE,QF,QG,QH,QI,QJ,QK,QL,QM,QN,QO,QP,QQ]
    first | done | rfl
end Go.Proofs.YtdpjcghiegggbaaGreatDoor
namespace Go.Proofs.YtdpjcghiegggbaaGreatDoor
open Go Go.Proofs Go.Abs
variable {G:Globals}
end Go.Proofs.YtdpjcghiegggbaaGreatDoor
namespace Go.Proofs.YtdpjcghiegggbaaGreatDoor
open Go Go.Proofs Go.Abs
variable {G:Globals}
def kindE (w:List UInt8) (f g:D):D:=.agg [S w,f,g]
def kFn (f:Nat):D:=.fn (.func f) [] []
def kindsM:List (D × D):=[(.int .i64 1,kindE [116,101,120,116] .nilf (kFn 65)),(.int .i64 2,kindE [98,111,111,108] (kFn 66) (kFn 67)),
 (.int .i64 3,kindE [105,110,116,101,103,101,114] (kFn 68) (kFn 69)),(.int .i64 4,kindE [100,101,99,105,109,97,108] (kFn 70) (kFn 69)),
 (.int .i64 5,kindE [100,97,116,101] (kFn 71) (kFn 72))]
set_option maxHeartbeats 4000000 in
set_option maxRecDepth 100000 in
theorem kinds_spec:Ctr Tryz.prog G 39 [] [] (.mp 0) [.map kindsM]:=by
 refine Ctr.body (M:=M0) hmix Tryz.func39 rfl go39 ?_
 simp (config:={maxSteps:=1000000}) (disch:=((try simp only [awL]);omega)) only [QR,QS,QT,QU,QV,QW,QX,QY,QZ,Q0,Q1,Q2,Tryz.f39,↓awU,awV,awF,Qa,Qb,Qc,Qd,forall_const,↓reduceIte,↓reduceDIte,↓Qe,Qf,Qg,Qh,Qi,Qj,Qk,Ql,Qm,Qn,Qo,Qp,Qq,Qr,Qs,implies_true,Qt,Qu,Qv,Qw,Qx,Qy,Qz,QA,QB,QC,QD,QE,QF,QG,QH,QI,QJ,QK,QL,QM,QN,QO,QP,QQ]
 refine ⟨by rfl,by rfl,by rfl,by rfl,by rfl,?_⟩
 show RetC 0 [ABlk.map kindsM] (AV.mp 0) (AV.mp 0) [ABlk.map kindsM]
 exact ⟨[some 0],rfl,by simp,by simp [HWeak,BWeak,SWeak,AWeak],.inl (by simp [AWeak,SWeak])⟩
set_option maxHeartbeats 4000000 in
set_option maxRecDepth 100000 in
theorem canon4_spec (hG:Num.HG G) (s:List UInt8) (hs:s.length≤2000000):Ctr Tryz.prog G 12 [.d (.int .i64 4),.d (S s)] [] (.d (.tup [S (if Num.decOk (Lib.trimB s 32)=true then canD (Lib.trimB s 32) else []),.bool (Num.decOk (Lib.trimB s 32))])) []:=by
 refine Ctr.pure (M:=M0) hmix Tryz.func12 rfl go12 ?_
 have tl:(Lib.trimB s 32).length≤s.length:=Nat.le_trans (List.dropWhile_sublist _).length_le (trimRB_le s 32)
 have kk:keysOK Tryz.prog 3 kindsM=true:=rfl
 simp (config:={maxSteps:=1000000}) (disch:=((try simp only [awL]);omega)) only [QR,QS,QT,QU,QV,QW,QX,QY,QZ,Q0,Q1,Q2,Tryz.f12,↓awU,awV,awF,Qa,Qb,Qc,Qd,forall_const,↓reduceIte,↓reduceDIte,↓Qe,Qf,Qg,Qh,Qi,Qj,Qk,Ql,Qm,Qn,Qo,Qp,Qq,Qr,Qs,implies_true,Qt,Qu,Qv,Qw,Qx,Qy,Qz,QA,QB,QC,QD,QE,QF,QG,QH,QI,QJ,QK,QL,QM,QN,QO,QP,QQ]
 refine CallC.by kinds_spec (by rfl) (by rfl) (Nat.zero_le _) ?_
 have lk:lookV (.agg [.str ByteArray.empty,.nilf,.nilf]) kindsM (.int .i64 4) true=.tup [.agg [S [100,101,99,105,109,97,108],.fn (.func 70) [] [],.fn (.func 69) [] []],.bool true]:=rfl
 simp (config:={maxSteps:=1000000}) (disch:=((try simp only [awL]);omega)) only [QR,QS,QT,QU,QV,QW,QX,QY,QZ,Q0,Q1,Q2,kk,lk,↓awU,awV,awF,Qa,Qb,Qc,Qd,forall_const,↓reduceIte,↓reduceDIte,↓Qe,Qf,Qg,Qh,Qi,Qj,Qk,Ql,Qm,Qn,Qo,Qp,Qq,Qr,Qs,implies_true,Qt,Qu,Qv,Qw,Qx,Qy,Qz,QA,QB,QC,QD,QE,QF,QG,QH,QI,QJ,QK,QL,QM,QN,QO,QP,QQ]
 refine CallC.of (ttrim_spec s (by omega)) (by rfl) ?_
 simp (config:={maxSteps:=1000000}) (disch:=((try simp only [awL]);omega)) only [QR,QS,QT,QU,QV,QW,QX,QY,QZ,Q0,Q1,Q2,↓awU,awV,awF,Qa,Qb,Qc,Qd,forall_const,↓reduceIte,↓reduceDIte,↓Qe,Qf,Qg,Qh,Qi,Qj,Qk,Ql,Qm,Qn,Qo,Qp,Qq,Qr,Qs,implies_true,Qt,Qu,Qv,Qw,Qx,Qy,Qz,QA,QB,QC,QD,QE,QF,QG,QH,QI,QJ,QK,QL,QM,QN,QO,QP,QQ]
 refine CallC.of (tdecimal_spec hG (Lib.trimB s 32) (by omega)) (by rfl) ?_
 simp (config:={maxSteps:=1000000}) (disch:=((try simp only [awL]);omega)) only [QR,QS,QT,QU,QV,QW,QX,QY,QZ,Q0,Q1,Q2,↓awU,awV,awF,Qa,Qb,Qc,Qd,forall_const,↓reduceIte,↓reduceDIte,↓Qe,Qf,Qg,Qh,Qi,Qj,Qk,Ql,Qm,Qn,Qo,Qp,Qq,Qr,Qs,implies_true,Qt,Qu,Qv,Qw,Qx,Qy,Qz,QA,QB,QC,QD,QE,QF,QG,QH,QI,QJ,QK,QL,QM,QN,QO,QP,QQ]
 first | done | rfl | exact ⟨by rfl,by rfl⟩
end Go.Proofs.YtdpjcghiegggbaaGreatDoor
namespace Go.Proofs.YtdpjcghiegggbaaGreatDoor.Dst
def c1 (a b:Int):Nat:=if a=b then 0 else 1
def lev:List Int→List Int→Nat
 | [],y=>y.length
 | x,[]=>x.length
 | a::x,b::y=>min (lev x y+c1 a b) (min (lev x (b::y)+1) (lev (a::x) y+1))
termination_by x y=>x.length+y.length
theorem lev_nil_left (y:List Int):lev [] y=y.length:=by unfold lev;rfl
theorem lev_nil_right (x:List Int):lev x []=x.length:=by cases x<;>(unfold lev;rfl)
theorem lev_cons (a b:Int) (x y:List Int):lev (a::x) (b::y)=min (lev x y+c1 a b) (min (lev x (b::y)+1) (lev (a::x) y+1)):=by
 conv=>lhs;unfold lev
inductive Ed:List Int→List Int→Nat→Prop
 | nil:Ed [] [] 0
 | sub {x y n} (a b):Ed x y n→Ed (a::x) (b::y) (n+c1 a b)
 | del {x y n} (a):Ed x y n→Ed (a::x) y (n+1)
 | ins {x y n} (b):Ed x y n→Ed x (b::y) (n+1)
theorem Ed.left:∀ x:List Int,Ed x [] x.length
 | []=>.nil
 | a::x=>.del a (Ed.left x)
theorem Ed.right:∀ x:List Int,Ed [] x x.length
 | []=>.nil
 | a::x=>.ins a (Ed.right x)
theorem lev_le_left {x y:List Int} (a:Int):lev (a::x) y≤lev x y+1:=by
 cases y with
 | nil=>rw [lev_nil_right,lev_nil_right];simp
 | cons b y=>rw [lev_cons];omega
theorem lev_le_right {x y:List Int} (b:Int):lev x (b::y)≤lev x y+1:=by
 cases x with
 | nil=>rw [lev_nil_left,lev_nil_left];simp
 | cons a x=>rw [lev_cons];omega
theorem lev_le_sub {x y:List Int} (a b:Int):lev (a::x) (b::y)≤lev x y+c1 a b:=by rw [lev_cons];omega
theorem Ed.le {x y:List Int} {n:Nat} (h:Ed x y n):lev x y≤n:=by
 induction h with
 | nil=>rw [lev_nil_left];simp
 | sub a b _ ih=>exact Nat.le_trans (lev_le_sub a b) (by omega)
 | del a _ ih=>exact Nat.le_trans (lev_le_left a) (by omega)
 | ins b _ ih=>exact Nat.le_trans (lev_le_right b) (by omega)
theorem Ed.lev:∀ x y:List Int,Ed x y (lev x y)
 | [],y=>by rw [lev_nil_left];exact .right y
 | a::x,[]=>by rw [lev_nil_right];exact .left _
 | a::x,b::y=>by
   rw [lev_cons]
   have h1:=Ed.lev x y
   have h2:=Ed.lev x (b::y)
   have h3:=Ed.lev (a::x) y
   rcases Nat.le_total (Go.Proofs.YtdpjcghiegggbaaGreatDoor.Dst.lev x y+c1 a b) (min (Go.Proofs.YtdpjcghiegggbaaGreatDoor.Dst.lev x (b::y)+1) (Go.Proofs.YtdpjcghiegggbaaGreatDoor.Dst.lev (a::x) y+1)) with h | h
   ·rw [Nat.min_eq_left h];exact .sub a b h1
   ·rw [Nat.min_eq_right h]
    rcases Nat.le_total (Go.Proofs.YtdpjcghiegggbaaGreatDoor.Dst.lev x (b::y)+1) (Go.Proofs.YtdpjcghiegggbaaGreatDoor.Dst.lev (a::x) y+1) with h | h
    ·rw [Nat.min_eq_left h];exact .del a h2
    ·rw [Nat.min_eq_right h];exact .ins b h3
termination_by x y=>x.length+y.length
theorem Ed.symm {x y:List Int} {n:Nat} (h:Ed x y n):Ed y x n:=by
 induction h with
 | nil=>exact .nil
 | sub a b _ ih =>
  have e:c1 a b=c1 b a:=by unfold c1;split<;>split<;>omega
  rw [e];exact .sub b a ih
 | del a _ ih=>exact .ins a ih
 | ins b _ ih=>exact .del b ih
theorem Ed.refl:∀ x:List Int,Ed x x 0
 | []=>.nil
 | a::x=>by have:=Ed.sub a a (Ed.refl x);simpa [c1] using this
theorem Ed.zero {x y:List Int} {n:Nat} (h:Ed x y n):n=0→x=y:=by
 induction h with
 | nil=>intro _;rfl
 | sub a b _ ih =>
  intro e
  have:a=b:=by unfold c1 at e;split at e<;>first | assumption | omega
  rw [ih (by omega),this]
 | del a _ ih=>intro e;omega
 | ins b _ ih=>intro e;omega
theorem Ed.append {x y:List Int} {n:Nat} (h:Ed x y n) (z:List Int):Ed (x++z) (y++z) n:=by
 induction h with
 | nil=>exact .refl z
 | sub a b _ ih=>exact .sub a b ih
 | del a _ ih=>exact .del a ih
 | ins b _ ih=>exact .ins b ih
theorem Ed.snoc_sub {x y:List Int} {n:Nat} (h:Ed x y n) (a b:Int):Ed (x++[a]) (y++[b]) (n+c1 a b):=by
 induction h with
 | nil=>exact .sub a b .nil
 | sub p q _ ih=>have:=Ed.sub p q ih;simp only [List.cons_append];rw [Nat.add_right_comm];exact this
 | del p _ ih=>have:=Ed.del p ih;simp only [List.cons_append];rw [Nat.add_right_comm];exact this
 | ins p _ ih=>have:=Ed.ins p ih;simp only [List.cons_append];rw [Nat.add_right_comm];exact this
theorem Ed.snoc_del {x y:List Int} {n:Nat} (h:Ed x y n) (a:Int):Ed (x++[a]) y (n+1):=by
 induction h with
 | nil=>exact .del a .nil
 | sub p q _ ih=>have:=Ed.sub p q ih;simp only [List.cons_append];rw [Nat.add_right_comm];exact this
 | del p _ ih=>have:=Ed.del p ih;simp only [List.cons_append];exact this
 | ins p _ ih=>exact .ins p ih
theorem Ed.snoc_ins {x y:List Int} {n:Nat} (h:Ed x y n) (b:Int):Ed x (y++[b]) (n+1):=(h.symm.snoc_del b).symm
theorem Ed.reverse {x y:List Int} {n:Nat} (h:Ed x y n):Ed x.reverse y.reverse n:=by
 induction h with
 | nil=>exact .nil
 | sub a b _ ih=>rw [List.reverse_cons,List.reverse_cons];exact ih.snoc_sub a b
 | del a _ ih=>rw [List.reverse_cons];exact ih.snoc_del a
 | ins b _ ih=>rw [List.reverse_cons];exact ih.snoc_ins b
end Go.Proofs.YtdpjcghiegggbaaGreatDoor.Dst
namespace Go.Proofs.YtdpjcghiegggbaaGreatDoor.Dst
abbrev bl (x y:List UInt8):Bool:=Op.bytesLess x y
theorem bl_irrefl:∀ x:List UInt8,bl x x=false
 | []=>rfl
 | a::x=>by
   show (decide (a<a) || (a == a && bl x x))=false
   rw [bl_irrefl x];simp
def Asc (l:List (List UInt8)):Prop:=l.Pairwise fun x y=>bl x y=true
theorem Asc.tail {x:List UInt8} {l:List (List UInt8)} (h:Asc (x::l)):Asc l:=(List.pairwise_cons.1 h).2
def dedup:List (List UInt8)→List (List UInt8)
 | x::y::l=>if x=y then dedup (y::l) else x::dedup (y::l)
 | l=>l
theorem Asc.nodup {l:List (List UInt8)} (h:Asc l):l.Nodup:=List.Pairwise.imp (fun {x y} hxy e=>by subst e;rw [bl_irrefl] at hxy;cases hxy) h
end Go.Proofs.YtdpjcghiegggbaaGreatDoor.Dst
namespace Go.Proofs.YtdpjcghiegggbaaGreatDoor.Dst
open Go.Abs
def foldB (c:UInt8):UInt8:=if 65≤c.toNat∧c.toNat≤90 then c+32 else c
theorem foldB_nat (c:UInt8):(foldB c).toNat=if 65≤c.toNat∧c.toNat≤90 then c.toNat+32 else c.toNat:=by
 unfold foldB
 split
 ·rw [UInt8.toNat_add];show (c.toNat+32) % 256=_;omega
 ·rfl
end Go.Proofs.YtdpjcghiegggbaaGreatDoor.Dst
namespace Go.Proofs.YtdpjcghiegggbaaGreatDoor.Dst
open Go.Abs
end Go.Proofs.YtdpjcghiegggbaaGreatDoor.Dst
namespace Go.Proofs.YtdpjcghiegggbaaGreatDoor.Dst
open Go Go.Proofs Go.Abs
variable {G:Globals}
abbrev M0:Muts:=fun _=>false
abbrev S (l:List UInt8):D:=.str (bs l)
end Go.Proofs.YtdpjcghiegggbaaGreatDoor.Dst
namespace Go.Proofs.YtdpjcghiegggbaaGreatDoor.Dst
open Go Go.Proofs Go.Abs
variable {G:Globals}
def foldMid (l:List UInt8) (i:Nat):List UInt8:=(l.take i).map foldB++l.drop i
theorem foldMid_length {l:List UInt8} {i:Nat} (h:i≤l.length):(foldMid l i).length=l.length:=by simp [foldMid];omega
theorem foldMid_get {l:List UInt8} {i:Nat} (h:i<l.length):(foldMid l i).getD i 0=l.getD i 0:=by
 have hl:((l.take i).map foldB).length=i:=by rw [List.length_map,List.length_take];omega
 rw [foldMid,List.getD_eq_getElem?_getD,List.getElem?_append_right (by omega),hl,Nat.sub_self,List.getElem?_drop,Nat.add_zero,← List.getD_eq_getElem?_getD]
theorem foldMid_set {l:List UInt8} {i:Nat} (h:i<l.length):(foldMid l i).set i (foldB (l.getD i 0))=foldMid l (i+1):=by
 have hl:((l.take i).map foldB).length=i:=by rw [List.length_map,List.length_take];omega
 rw [foldMid,foldMid,List.set_append,if_neg (by omega),hl,Nat.sub_self,List.drop_eq_getElem_cons h,List.set_cons_zero,List.take_add_one,List.getElem?_eq_getElem h,List.getD_eq_getElem?_getD,List.getElem?_eq_getElem h]
 simp only [Option.toList_some,Option.getD_some,List.map_append,List.map_cons,List.map_nil,List.append_assoc,List.cons_append,List.nil_append]
theorem foldMid_same {l:List UInt8} {i:Nat} (h:i<l.length) (hc:foldB (l.getD i 0)=l.getD i 0):foldMid l (i+1)=foldMid l i:=by
 rw [← foldMid_set h,hc]
 have hg:=foldMid_get h
 have hl:=foldMid_length (l:=l) (i:=i) (by omega)
 rw [List.getD_eq_getElem?_getD,List.getElem?_eq_getElem (by omega)] at hg
 simp only [Option.getD_some] at hg
 rw [← hg,List.set_getElem_self]
theorem nums_set {l:List UInt8} {i:Nat} {c:UInt8}:(nums l).set i (c.toNat:Int)=nums (l.set i c):=by simp [nums,List.map_set]
theorem cells_nums {l:List UInt8}:(l.map fun b=>D.int .u8 (b.toNat:Int))=ints .u8 (nums l):=by simp [ints,nums]
set_option maxRecDepth 100000 in
theorem fold_spec (l:List UInt8) (hl:l.length≤2000000):Ctr Tryz.prog G 91 [.d (S l)] [] (.d (S (l.map foldB))) []:=by
 refine Ctr.pure (M:=M0) hmix Tryz.func91 rfl go91 ?_
 simp (config:={maxSteps:=1000000}) (disch:=((try simp only [awL]);omega)) only [QR,QS,QT,QU,QV,QW,QX,QY,QZ,Q0,Q1,Q2,Tryz.f91,cells_nums,↓awU,awV,awF,Qa,Qb,Qc,Qd,forall_const,↓reduceIte,↓reduceDIte,↓Qe,Qf,Qg,Qh,Qi,Qj,Qk,Ql,Qm,Qn,Qo,Qp,Qq,Qr,Qs,implies_true,Qt,Qu,Qv,Qw,Qx,Qy,Qz,QA,QB,QC,QD,QE,QF,QG,QH,QI,QJ,QK,QL,QM,QN,QO,QP,QQ]
 refine LoopC.fr 776 (α:=Nat) (fun i=>l.length - i) (fun i=>[(10,.d (.int .i64 i))]) (fun i=>[.row false (ints .u8 (nums (foldMid l i)))]) (fun i=>i≤l.length) 0 (Nat.zero_le _) ?_ ?_
 ·exact ⟨[some 0],rfl,by simp,by simp [setsA,keepA,SWeak,AWeak],by simp [HWeak,BWeak,SWeak,AWeak,foldMid]⟩
 ·intro i hi
  have ml:=foldMid_length hi
  have nl:=@nums_length (foldMid l i)
  simp only [awK,Nat.reduceMod,Nat.reduceDiv,reduceIte]
  rcases Nat.lt_or_ge i l.length with h | h
  ·have mg:=foldMid_get h
   have fs:=foldMid_set h
   have fb:=foldB_nat (l.getD i 0)
   have fe:=foldMid_same h
   have hb:(l.getD i 0).toNat<256:=(l.getD i 0).toNat_lt
   by_cases h1:65≤(l.getD i 0).toNat∧(l.getD i 0).toNat≤90
   ·rw [if_pos h1] at fb
    obtain ⟨h1,h2⟩:=h1
    have hs1:(nums (foldMid l i)).set i (((l.getD i 0).toNat:Int) - 65+97)=nums (foldMid l (i+1)):=by
     rw [← fs,← nums_set,fb];congr 1;omega
    have hs2:(nums (foldMid l i)).set i (((l.getD i 0).toNat:Int)+32)=nums (foldMid l (i+1)):=by
     rw [← fs,← nums_set,fb];congr 1
    simp (config:={maxSteps:=1000000}) (disch:=((try simp only [awL]);omega)) only [QR,QS,QT,QU,QV,QW,QX,QY,QZ,Q0,Q1,Q2,nl,ml,mg,hs1,hs2,↓awU,awV,awF,Qa,Qb,Qc,Qd,forall_const,↓reduceIte,↓reduceDIte,↓Qe,Qf,Qg,Qh,Qi,Qj,Qk,Ql,Qm,Qn,Qo,Qp,Qq,Qr,Qs,implies_true,Qt,Qu,Qv,Qw,Qx,Qy,Qz,QA,QB,QC,QD,QE,QF,QG,QH,QI,QJ,QK,QL,QM,QN,QO,QP,QQ]
    first
    | exact ⟨i+1,h,by simp only;omega,⟨[some 0],rfl,by simp,by simp [setsA,keepA,SWeak,AWeak],by simp [HWeak,BWeak,SWeak,AWeak]⟩⟩
    | exact ⟨by rfl,i+1,h,by simp only;omega,⟨[some 0],rfl,by simp,by simp [setsA,keepA,SWeak,AWeak],by simp [HWeak,BWeak,SWeak,AWeak]⟩⟩
    | trace_state
   ·rw [if_neg h1] at fb
    have e:=fe (UInt8.toNat_inj.1 fb)
    rcases (by omega:(l.getD i 0).toNat<65∨90<(l.getD i 0).toNat) with h2 | h2
    ·simp (config:={maxSteps:=1000000}) (disch:=((try simp only [awL]);omega)) only [QR,QS,QT,QU,QV,QW,QX,QY,QZ,Q0,Q1,Q2,nl,ml,mg,↓awU,awV,awF,Qa,Qb,Qc,Qd,forall_const,↓reduceIte,↓reduceDIte,↓Qe,Qf,Qg,Qh,Qi,Qj,Qk,Ql,Qm,Qn,Qo,Qp,Qq,Qr,Qs,implies_true,Qt,Qu,Qv,Qw,Qx,Qy,Qz,QA,QB,QC,QD,QE,QF,QG,QH,QI,QJ,QK,QL,QM,QN,QO,QP,QQ]
     first
     | exact ⟨i+1,h,by simp only;omega,⟨[some 0],rfl,by simp,by simp [setsA,keepA,SWeak,AWeak],by simp [HWeak,BWeak,SWeak,AWeak,e]⟩⟩
     | exact ⟨by rfl,i+1,h,by simp only;omega,⟨[some 0],rfl,by simp,by simp [setsA,keepA,SWeak,AWeak],by simp [HWeak,BWeak,SWeak,AWeak,e]⟩⟩
     | trace_state
    ·simp (config:={maxSteps:=1000000}) (disch:=((try simp only [awL]);omega)) only [QR,QS,QT,QU,QV,QW,QX,QY,QZ,Q0,Q1,Q2,nl,ml,mg,↓awU,awV,awF,Qa,Qb,Qc,Qd,forall_const,↓reduceIte,↓reduceDIte,↓Qe,Qf,Qg,Qh,Qi,Qj,Qk,Ql,Qm,Qn,Qo,Qp,Qq,Qr,Qs,implies_true,Qt,Qu,Qv,Qw,Qx,Qy,Qz,QA,QB,QC,QD,QE,QF,QG,QH,QI,QJ,QK,QL,QM,QN,QO,QP,QQ]
     first
     | exact ⟨i+1,h,by simp only;omega,⟨[some 0],rfl,by simp,by simp [setsA,keepA,SWeak,AWeak],by simp [HWeak,BWeak,SWeak,AWeak,e]⟩⟩
     | exact ⟨by rfl,i+1,h,by simp only;omega,⟨[some 0],rfl,by simp,by simp [setsA,keepA,SWeak,AWeak],by simp [HWeak,BWeak,SWeak,AWeak,e]⟩⟩
     | trace_state
  ·obtain rfl:i=l.length:=by omega
   have em:foldMid l l.length=l.map foldB:=by simp [foldMid]
   have ht:(nums (foldMid l l.length)).take l.length=nums (foldMid l l.length):=List.take_of_length_le (by omega)
   simp (config:={maxSteps:=1000000}) (disch:=((try simp only [awL]);omega)) only [QR,QS,QT,QU,QV,QW,QX,QY,QZ,Q0,Q1,Q2,nl,ml,numsOf_ints,ht,strOfNums_nums,↓awU,awV,awF,Qa,Qb,Qc,Qd,forall_const,↓reduceIte,↓reduceDIte,↓Qe,Qf,Qg,Qh,Qi,Qj,Qk,Ql,Qm,Qn,Qo,Qp,Qq,Qr,Qs,implies_true,Qt,Qu,Qv,Qw,Qx,Qy,Qz,QA,QB,QC,QD,QE,QF,QG,QH,QI,QJ,QK,QL,QM,QN,QO,QP,QQ]
   first
   | rw [em]
   | trace_state
end Go.Proofs.YtdpjcghiegggbaaGreatDoor.Dst
namespace Go.Proofs.YtdpjcghiegggbaaGreatDoor
open Go Go.Proofs Go.Abs
variable {G:Globals}
def isTr (t:List UInt8):Bool:=decide (t.map Dst.foldB=[116,114,117,101]) || decide (t.map Dst.foldB=[121,101,115])
def isFa (t:List UInt8):Bool:=decide (t.map Dst.foldB=[102,97,108,115,101]) || decide (t.map Dst.foldB=[110,111])
def okBo (t:List UInt8):Bool:=isTr t || isFa t
def canBo (t:List UInt8):List UInt8:=if isTr t=true then [116,114,117,101] else if isFa t=true then [102,97,108,115,101] else []
theorem bo_cases (t:List UInt8) :
  (t.map Dst.foldB=[116,114,117,101]∧canBo t=[116,114,117,101]∧okBo t=true)∨(t.map Dst.foldB=[121,101,115]∧canBo t=[116,114,117,101]∧okBo t=true) ∨
  (t.map Dst.foldB=[102,97,108,115,101]∧canBo t=[102,97,108,115,101]∧okBo t=true)∨(t.map Dst.foldB=[110,111]∧canBo t=[102,97,108,115,101]∧okBo t=true) ∨
  (((t.map Dst.foldB=[116,114,117,101])=False)∧((t.map Dst.foldB=[121,101,115])=False)∧((t.map Dst.foldB=[102,97,108,115,101])=False)∧((t.map Dst.foldB=[110,111])=False)∧canBo t=[]∧okBo t=false):=by
 unfold canBo okBo isTr isFa
 generalize t.map Dst.foldB=f
 by_cases e1:f=[116,114,117,101]
 ·subst e1;exact .inl ⟨rfl,rfl,rfl⟩
 by_cases e2:f=[121,101,115]
 ·subst e2;exact .inr (.inl ⟨rfl,rfl,rfl⟩)
 by_cases e3:f=[102,97,108,115,101]
 ·subst e3;exact .inr (.inr (.inl ⟨rfl,rfl,rfl⟩))
 by_cases e4:f=[110,111]
 ·subst e4;exact .inr (.inr (.inr (.inl ⟨rfl,rfl,rfl⟩)))
 rw [decide_eq_false e1,decide_eq_false e2,decide_eq_false e3,decide_eq_false e4]
 exact .inr (.inr (.inr (.inr ⟨eq_false e1,eq_false e2,eq_false e3,eq_false e4,rfl,rfl⟩)))
set_option maxHeartbeats 4000000 in
set_option maxRecDepth 100000 in
theorem boolean_spec (t:List UInt8) (ht:t.length≤2000000):Ctr Tryz.prog G 66 [.d (S t)] [] (.d (.tup [S (canBo t),.bool (okBo t)])) []:=by
 refine Ctr.pure (M:=M0) hmix Tryz.func66 rfl go66 ?_
 have sp:=Dst.fold_spec (G:=G) t ht
 have cs:=bo_cases t
 generalize canBo t=c at *
 generalize okBo t=o at *
 generalize t.map Dst.foldB=f at *
 simp (config:={maxSteps:=1000000}) (disch:=((try simp only [awL]);omega)) only [QR,QS,QT,QU,QV,QW,QX,QY,QZ,Q0,Q1,Q2,Tryz.f66,↓awU,awV,awF,Qa,Qb,Qc,Qd,forall_const,↓reduceIte,↓reduceDIte,↓Qe,Qf,Qg,Qh,Qi,Qj,Qk,Ql,Qm,Qn,Qo,Qp,Qq,Qr,Qs,implies_true,Qt,Qu,Qv,Qw,Qx,Qy,Qz,QA,QB,QC,QD,QE,QF,QG,QH,QI,QJ,QK,QL,QM,QN,QO,QP,QQ]
 refine CallC.of sp (by rfl) ?_
 rcases cs with ⟨e,rfl,rfl⟩ | ⟨e,rfl,rfl⟩ | ⟨e,rfl,rfl⟩ | ⟨e,rfl,rfl⟩ | ⟨n1,n2,n3,n4,rfl,rfl⟩
 ·have n1:(f=[116,114,117,101])=True:=eq_true e
  simp (config:={maxSteps:=1000000}) (disch:=((try simp only [awL]);omega)) only [QR,QS,QT,QU,QV,QW,QX,QY,QZ,Q0,Q1,Q2,n1,↓awU,awV,awF,Qa,Qb,Qc,Qd,forall_const,↓reduceIte,↓reduceDIte,↓Qe,Qf,Qg,Qh,Qi,Qj,Qk,Ql,Qm,Qn,Qo,Qp,Qq,Qr,Qs,implies_true,Qt,Qu,Qv,Qw,Qx,Qy,Qz,QA,QB,QC,QD,QE,QF,QG,QH,QI,QJ,QK,QL,QM,QN,QO,QP,QQ]
  first | done | rfl
 ·have n1:(f=[116,114,117,101])=False:=eq_false (by rw [e];decide)
  have n2:(f=[121,101,115])=True:=eq_true e
  simp (config:={maxSteps:=1000000}) (disch:=((try simp only [awL]);omega)) only [QR,QS,QT,QU,QV,QW,QX,QY,QZ,Q0,Q1,Q2,n1,n2,↓awU,awV,awF,Qa,Qb,Qc,Qd,forall_const,↓reduceIte,↓reduceDIte,↓Qe,Qf,Qg,Qh,Qi,Qj,Qk,Ql,Qm,Qn,Qo,Qp,Qq,Qr,Qs,implies_true,Qt,Qu,Qv,Qw,Qx,Qy,Qz,QA,QB,QC,QD,QE,QF,QG,QH,QI,QJ,QK,QL,QM,QN,QO,QP,QQ]
  first | done | rfl
 ·have n1:(f=[116,114,117,101])=False:=eq_false (by rw [e];decide)
  have n2:(f=[121,101,115])=False:=eq_false (by rw [e];decide)
  have n3:(f=[102,97,108,115,101])=True:=eq_true e
  simp (config:={maxSteps:=1000000}) (disch:=((try simp only [awL]);omega)) only [QR,QS,QT,QU,QV,QW,QX,QY,QZ,Q0,Q1,Q2,n1,n2,n3,↓awU,awV,awF,Qa,Qb,Qc,Qd,forall_const,↓reduceIte,↓reduceDIte,↓Qe,Qf,Qg,Qh,Qi,Qj,Qk,Ql,Qm,Qn,Qo,Qp,Qq,Qr,Qs,implies_true,Qt,Qu,Qv,Qw,Qx,Qy,Qz,QA,QB,QC,QD,QE,QF,QG,QH,QI,QJ,QK,QL,QM,QN,QO,QP,QQ]
  first | done | rfl
 ·have n1:(f=[116,114,117,101])=False:=eq_false (by rw [e];decide)
  have n2:(f=[121,101,115])=False:=eq_false (by rw [e];decide)
  have n3:(f=[102,97,108,115,101])=False:=eq_false (by rw [e];decide)
  have n4:(f=[110,111])=True:=eq_true e
  simp (config:={maxSteps:=1000000}) (disch:=((try simp only [awL]);omega)) only [QR,QS,QT,QU,QV,QW,QX,QY,QZ,Q0,Q1,Q2,n1,n2,n3,n4,↓awU,awV,awF,Qa,Qb,Qc,Qd,forall_const,↓reduceIte,↓reduceDIte,↓Qe,Qf,Qg,Qh,Qi,Qj,Qk,Ql,Qm,Qn,Qo,Qp,Qq,Qr,Qs,implies_true,Qt,Qu,Qv,Qw,Qx,Qy,Qz,QA,QB,QC,QD,QE,QF,QG,QH,QI,QJ,QK,QL,QM,QN,QO,QP,QQ]
  first | done | rfl
 ·simp (config:={maxSteps:=1000000}) (disch:=((try simp only [awL]);omega)) only [QR,QS,QT,QU,QV,QW,QX,QY,QZ,Q0,Q1,Q2,n1,n2,n3,n4,↓awU,awV,awF,Qa,Qb,Qc,Qd,forall_const,↓reduceIte,↓reduceDIte,↓Qe,Qf,Qg,Qh,Qi,Qj,Qk,Ql,Qm,Qn,Qo,Qp,Qq,Qr,Qs,implies_true,Qt,Qu,Qv,Qw,Qx,Qy,Qz,QA,QB,QC,QD,QE,QF,QG,QH,QI,QJ,QK,QL,QM,QN,QO,QP,QQ]
  first | done | rfl
def okIn (t:List UInt8):Bool:=!decide ((46:UInt8)∈t) && Num.decOk t
def canIn (t:List UInt8):List UInt8:=if okIn t=true then canD t else []
def canDe (t:List UInt8):List UInt8:=if Num.decOk t=true then canD t else []
set_option maxHeartbeats 4000000 in
set_option maxRecDepth 100000 in
theorem integer_spec (hG:Num.HG G) (t:List UInt8) (ht:t.length≤2000000):Ctr Tryz.prog G 68 [.d (S t)] [] (.d (.tup [S (canIn t),.bool (okIn t)])) []:=by
 refine Ctr.pure (M:=M0) hmix Tryz.func68 rfl go68 ?_
 have sp:=contains1_spec (G:=G) t 46
 obtain ⟨r,hr⟩:∃ r,r=D.tup [S (canIn t),D.bool (okIn t)]:=⟨_,rfl⟩
 rw [← hr]
 unfold canIn okIn at hr
 have sd:=tdecimal_spec hG t ht
 by_cases e:(46:UInt8)∈t
 ·rw [decide_eq_true e] at hr sp
  rw [Bool.not_true,Bool.false_and,if_neg Bool.false_ne_true] at hr
  subst hr
  simp (config:={maxSteps:=1000000}) (disch:=((try simp only [awL]);omega)) only [QR,QS,QT,QU,QV,QW,QX,QY,QZ,Q0,Q1,Q2,Tryz.f68,↓awU,awV,awF,Qa,Qb,Qc,Qd,forall_const,↓reduceIte,↓reduceDIte,↓Qe,Qf,Qg,Qh,Qi,Qj,Qk,Ql,Qm,Qn,Qo,Qp,Qq,Qr,Qs,implies_true,Qt,Qu,Qv,Qw,Qx,Qy,Qz,QA,QB,QC,QD,QE,QF,QG,QH,QI,QJ,QK,QL,QM,QN,QO,QP,QQ]
  refine CallC.of sp (by rfl) ?_
  simp (config:={maxSteps:=1000000}) (disch:=((try simp only [awL]);omega)) only [QR,QS,QT,QU,QV,QW,QX,QY,QZ,Q0,Q1,Q2,↓awU,awV,awF,Qa,Qb,Qc,Qd,forall_const,↓reduceIte,↓reduceDIte,↓Qe,Qf,Qg,Qh,Qi,Qj,Qk,Ql,Qm,Qn,Qo,Qp,Qq,Qr,Qs,implies_true,Qt,Qu,Qv,Qw,Qx,Qy,Qz,QA,QB,QC,QD,QE,QF,QG,QH,QI,QJ,QK,QL,QM,QN,QO,QP,QQ]
  first | done | rfl
 ·rw [decide_eq_false e] at hr sp
  rw [Bool.not_false,Bool.true_and] at hr
  subst hr
  generalize (if Num.decOk t=true then canD t else [])=x at *
  simp (config:={maxSteps:=1000000}) (disch:=((try simp only [awL]);omega)) only [QR,QS,QT,QU,QV,QW,QX,QY,QZ,Q0,Q1,Q2,Tryz.f68,↓awU,awV,awF,Qa,Qb,Qc,Qd,forall_const,↓reduceIte,↓reduceDIte,↓Qe,Qf,Qg,Qh,Qi,Qj,Qk,Ql,Qm,Qn,Qo,Qp,Qq,Qr,Qs,implies_true,Qt,Qu,Qv,Qw,Qx,Qy,Qz,QA,QB,QC,QD,QE,QF,QG,QH,QI,QJ,QK,QL,QM,QN,QO,QP,QQ]
  refine CallC.of sp (by rfl) ?_
  simp (config:={maxSteps:=1000000}) (disch:=((try simp only [awL]);omega)) only [QR,QS,QT,QU,QV,QW,QX,QY,QZ,Q0,Q1,Q2,↓awU,awV,awF,Qa,Qb,Qc,Qd,forall_const,↓reduceIte,↓reduceDIte,↓Qe,Qf,Qg,Qh,Qi,Qj,Qk,Ql,Qm,Qn,Qo,Qp,Qq,Qr,Qs,implies_true,Qt,Qu,Qv,Qw,Qx,Qy,Qz,QA,QB,QC,QD,QE,QF,QG,QH,QI,QJ,QK,QL,QM,QN,QO,QP,QQ]
  refine CallC.of sd (by rfl) ?_
  simp (config:={maxSteps:=1000000}) (disch:=((try simp only [awL]);omega)) only [QR,QS,QT,QU,QV,QW,QX,QY,QZ,Q0,Q1,Q2,↓awU,awV,awF,Qa,Qb,Qc,Qd,forall_const,↓reduceIte,↓reduceDIte,↓Qe,Qf,Qg,Qh,Qi,Qj,Qk,Ql,Qm,Qn,Qo,Qp,Qq,Qr,Qs,implies_true,Qt,Qu,Qv,Qw,Qx,Qy,Qz,QA,QB,QC,QD,QE,QF,QG,QH,QI,QJ,QK,QL,QM,QN,QO,QP,QQ]
  first | done | rfl
end Go.Proofs.YtdpjcghiegggbaaGreatDoor
namespace Go.Proofs.YtdpjcghiegggbaaGreatDoor
open Go Go.Proofs Go.Abs
variable {G:Globals}
theorem tsplit_spec (c:UInt8) (s:List UInt8) (hs:s.length≤1000000000):Ctr Tryz.prog G 107 [.d (S s),.d (S [c])] [] (.d (Ss (splB c s) false)) []:=by
 refine Ctr.pure (M:=M0) hmix Tryz.func107 rfl go107 ?_
 simp (config:={maxSteps:=1000000}) (disch:=((try simp only [awL]);omega)) only [QR,QS,QT,QU,QV,QW,QX,QY,QZ,Q0,Q1,Q2,Tryz.f107,↓awU,awV,awF,Qa,Qb,Qc,Qd,forall_const,↓reduceIte,↓reduceDIte,↓Qe,Qf,Qg,Qh,Qi,Qj,Qk,Ql,Qm,Qn,Qo,Qp,Qq,Qr,Qs,implies_true,Qt,Qu,Qv,Qw,Qx,Qy,Qz,QA,QB,QC,QD,QE,QF,QG,QH,QI,QJ,QK,QL,QM,QN,QO,QP,QQ]
 refine CallC.of (genSplit_spec c s hs) (by rfl) ?_
 simp (config:={maxSteps:=1000000}) (disch:=((try simp only [awL]);omega)) only [QR,QS,QT,QU,QV,QW,QX,QY,QZ,Q0,Q1,Q2,↓awU,awV,awF,Qa,Qb,Qc,Qd,forall_const,↓reduceIte,↓reduceDIte,↓Qe,Qf,Qg,Qh,Qi,Qj,Qk,Ql,Qm,Qn,Qo,Qp,Qq,Qr,Qs,implies_true,Qt,Qu,Qv,Qw,Qx,Qy,Qz,QA,QB,QC,QD,QE,QF,QG,QH,QI,QJ,QK,QL,QM,QN,QO,QP,QQ]
 first | done | rfl
def dst (t:List UInt8) (i:Nat):T3 :=
 match i with
 | 0=>([],[],[])
 | 1=>step3 45 t ([],[],[])
 | 2=>step3 47 t (step3 45 t ([],[],[]))
 | _=>ymd t
theorem step3_eq {c:UInt8} {t a b d:List UInt8} (x:T3) (e:splB c t=[a,b,d]):step3 c t x=(a,b,d):=by unfold step3;rw [e,if_pos (show [a,b,d].length=3 from rfl)];rfl
theorem step3_no {c:UInt8} {t:List UInt8} (x:T3) (h:(splB c t).length≠3):step3 c t x=x:=by unfold step3;rw [if_neg h]
def MDa:Muts:=fun k=>k == 2000024
theorem MDa_n {k:Nat} (h:k≠2000024):MDa k=false:=by simp only [MDa,beq_eq_false_iff_ne];exact h
def cutsB:List AV:=[.d (.str ⟨#[45]⟩),.ptr 0 0,.ptr 1 0,.ptr 2 0,.d (.str ⟨#[47]⟩),.ptr 0 0,.ptr 1 0,.ptr 2 0,.d (.str ⟨#[46]⟩),.ptr 2 0,.ptr 1 0,.ptr 0 0]
theorem ymd_len (t:List UInt8):(ymd t).1.length≤t.length∧(ymd t).2.1.length≤t.length∧(ymd t).2.2.length≤t.length:=by
 rcases ymd_cases t with e | ⟨c,_,e⟩ | e
 ·rw [e];exact ⟨Nat.zero_le _,Nat.zero_le _,Nat.zero_le _⟩
 ·have:=congrArg List.length e
  simp only [List.length_append,List.length_cons] at this
  omega
 ·have:=congrArg List.length e
  simp only [List.length_append,List.length_cons] at this
  omega
set_option maxHeartbeats 16000000 in
set_option maxRecDepth 100000 in
theorem tdtext_spec (hE:HE G) (hP:HP G) (t:List UInt8) (ht:t.length≤2000000):Ctr Tryz.prog G 71 [.d (S t)] [] (.d (.tup [S (canDt t),.bool (okD t)])) []:=by
 refine Ctr.pure (M:=MDa) hmix Tryz.func71 rfl go71 ?_
 have mk:markK MDa (some 24)=true:=rfl
 have hb0:ByteArray.empty=bs []:=rfl
 simp (config:={maxSteps:=1000000}) (disch:=((try simp only [awL]);omega)) only [QR,QS,QT,QU,QV,QW,QX,QY,QZ,Q0,Q1,Q2,MDa_n,mk,Tryz.f71,↓awU,awV,awF,Qa,Qb,Qc,Qd,forall_const,↓reduceIte,↓reduceDIte,↓Qe,Qf,Qg,Qh,Qi,Qj,Qk,Ql,Qm,Qn,Qo,Qp,Qq,Qr,Qs,implies_true,Qt,Qu,Qv,Qw,Qx,Qy,Qz,QA,QB,QC,QD,QE,QF,QG,QH,QI,QJ,QK,QL,QM,QN,QO,QP,QQ]
 refine LoopC.fx 50331761 (α:=Nat) (β:=Unit) (fun i=>3 - i) (fun i=>[(26,.d (.int .i64 (i:Nat)))])
  (fun i=>[.box [.d (S (dst t i).1)],.box [.d (S (dst t i).2.1)],.box [.d (S (dst t i).2.2)],.box cutsB]) (fun i=>i≤3)
  112 (fun _=>[]) (fun _=>[.box [.d (S (ymd t).1)],.box [.d (S (ymd t).2.1)],.box [.d (S (ymd t).2.2)],.box cutsB]) (fun _=>True) 0 (Nat.zero_le _) ?_ ?_ ?_
 ·exact ⟨[some 0,some 1,some 2,some 3],rfl,by simp,by simp [setsA,keepA,SWeak,AWeak],by simp [HWeak,BWeak,SWeak,AWeak,cutsB,dst,hb0]⟩
 ·intro i hi
  simp only [awK,Nat.reduceMod,Nat.reduceDiv,reduceIte]
  unfold cutsB
  rcases (by omega:i=0∨i=1∨i=2∨i=3) with e | e | e | e
  ·subst e
   have sp:=tsplit_spec (G:=G) 45 t (by omega)
   by_cases h:(splB 45 t).length=3
   ·obtain ⟨a,b,d,e,_⟩:=spl3_of h
    rw [e,show Ss [a,b,d] false=.sl 3 false [S a,S b,S d] from rfl] at sp
    have n0:dst t 0=([],[],[]):=rfl
    have n1:dst t 1=(a,b,d):=step3_eq _ e
    simp (config:={maxSteps:=1000000}) (disch:=((try simp only [awL]);omega)) only [QR,QS,QT,QU,QV,QW,QX,QY,QZ,Q0,Q1,Q2,MDa_n,mk,↓awU,awV,awF,Qa,Qb,Qc,Qd,forall_const,↓reduceIte,↓reduceDIte,↓Qe,Qf,Qg,Qh,Qi,Qj,Qk,Ql,Qm,Qn,Qo,Qp,Qq,Qr,Qs,implies_true,Qt,Qu,Qv,Qw,Qx,Qy,Qz,QA,QB,QC,QD,QE,QF,QG,QH,QI,QJ,QK,QL,QM,QN,QO,QP,QQ]
    refine CallC.of sp (by rfl) ?_
    simp (config:={maxSteps:=1000000}) (disch:=((try simp only [awL]);omega)) only [QR,QS,QT,QU,QV,QW,QX,QY,QZ,Q0,Q1,Q2,MDa_n,mk,↓awU,awV,awF,Qa,Qb,Qc,Qd,forall_const,↓reduceIte,↓reduceDIte,↓Qe,Qf,Qg,Qh,Qi,Qj,Qk,Ql,Qm,Qn,Qo,Qp,Qq,Qr,Qs,implies_true,Qt,Qu,Qv,Qw,Qx,Qy,Qz,QA,QB,QC,QD,QE,QF,QG,QH,QI,QJ,QK,QL,QM,QN,QO,QP,QQ]
    first
    | exact ⟨0+1,by omega,by simp only;omega,⟨[some 0,some 1,some 2,some 3],rfl,by simp,by simp [setsA,keepA,SWeak,AWeak],by simp [HWeak,BWeak,SWeak,AWeak,cutsB,n1]⟩⟩
    | exact ⟨by rfl,0+1,by omega,by simp only;omega,⟨[some 0,some 1,some 2,some 3],rfl,by simp,by simp [setsA,keepA,SWeak,AWeak],by simp [HWeak,BWeak,SWeak,AWeak,cutsB,n1]⟩⟩
   ·have n1:dst t 1=dst t 0:=step3_no _ h
    generalize splB 45 t=L at *
    simp (config:={maxSteps:=1000000}) (disch:=((try simp only [awL]);omega)) only [QR,QS,QT,QU,QV,QW,QX,QY,QZ,Q0,Q1,Q2,MDa_n,mk,↓awU,awV,awF,Qa,Qb,Qc,Qd,forall_const,↓reduceIte,↓reduceDIte,↓Qe,Qf,Qg,Qh,Qi,Qj,Qk,Ql,Qm,Qn,Qo,Qp,Qq,Qr,Qs,implies_true,Qt,Qu,Qv,Qw,Qx,Qy,Qz,QA,QB,QC,QD,QE,QF,QG,QH,QI,QJ,QK,QL,QM,QN,QO,QP,QQ]
    refine CallC.of sp (by rfl) ?_
    simp (config:={maxSteps:=1000000}) (disch:=((try simp only [awL]);omega)) only [QR,QS,QT,QU,QV,QW,QX,QY,QZ,Q0,Q1,Q2,MDa_n,mk,↓awU,awV,awF,Qa,Qb,Qc,Qd,forall_const,↓reduceIte,↓reduceDIte,↓Qe,Qf,Qg,Qh,Qi,Qj,Qk,Ql,Qm,Qn,Qo,Qp,Qq,Qr,Qs,implies_true,Qt,Qu,Qv,Qw,Qx,Qy,Qz,QA,QB,QC,QD,QE,QF,QG,QH,QI,QJ,QK,QL,QM,QN,QO,QP,QQ]
    first
    | exact ⟨0+1,by omega,by simp only;omega,⟨[some 0,some 1,some 2,some 3],rfl,by simp,by simp [setsA,keepA,SWeak,AWeak],by simp [HWeak,BWeak,SWeak,AWeak,cutsB,n1]⟩⟩
    | exact ⟨by rfl,0+1,by omega,by simp only;omega,⟨[some 0,some 1,some 2,some 3],rfl,by simp,by simp [setsA,keepA,SWeak,AWeak],by simp [HWeak,BWeak,SWeak,AWeak,cutsB,n1]⟩⟩
  ·subst e
   have sp:=tsplit_spec (G:=G) 47 t (by omega)
   by_cases h:(splB 47 t).length=3
   ·obtain ⟨a,b,d,e,_⟩:=spl3_of h
    rw [e,show Ss [a,b,d] false=.sl 3 false [S a,S b,S d] from rfl] at sp
    have n1:dst t 2=(a,b,d):=step3_eq _ e
    simp (config:={maxSteps:=1000000}) (disch:=((try simp only [awL]);omega)) only [QR,QS,QT,QU,QV,QW,QX,QY,QZ,Q0,Q1,Q2,MDa_n,mk,↓awU,awV,awF,Qa,Qb,Qc,Qd,forall_const,↓reduceIte,↓reduceDIte,↓Qe,Qf,Qg,Qh,Qi,Qj,Qk,Ql,Qm,Qn,Qo,Qp,Qq,Qr,Qs,implies_true,Qt,Qu,Qv,Qw,Qx,Qy,Qz,QA,QB,QC,QD,QE,QF,QG,QH,QI,QJ,QK,QL,QM,QN,QO,QP,QQ]
    refine CallC.of sp (by rfl) ?_
    simp (config:={maxSteps:=1000000}) (disch:=((try simp only [awL]);omega)) only [QR,QS,QT,QU,QV,QW,QX,QY,QZ,Q0,Q1,Q2,MDa_n,mk,↓awU,awV,awF,Qa,Qb,Qc,Qd,forall_const,↓reduceIte,↓reduceDIte,↓Qe,Qf,Qg,Qh,Qi,Qj,Qk,Ql,Qm,Qn,Qo,Qp,Qq,Qr,Qs,implies_true,Qt,Qu,Qv,Qw,Qx,Qy,Qz,QA,QB,QC,QD,QE,QF,QG,QH,QI,QJ,QK,QL,QM,QN,QO,QP,QQ]
    first
    | exact ⟨1+1,by omega,by simp only;omega,⟨[some 0,some 1,some 2,some 3],rfl,by simp,by simp [setsA,keepA,SWeak,AWeak],by simp [HWeak,BWeak,SWeak,AWeak,cutsB,n1]⟩⟩
    | exact ⟨by rfl,1+1,by omega,by simp only;omega,⟨[some 0,some 1,some 2,some 3],rfl,by simp,by simp [setsA,keepA,SWeak,AWeak],by simp [HWeak,BWeak,SWeak,AWeak,cutsB,n1]⟩⟩
   ·have n1:dst t 2=dst t 1:=step3_no _ h
    generalize splB 47 t=L at *
    simp (config:={maxSteps:=1000000}) (disch:=((try simp only [awL]);omega)) only [QR,QS,QT,QU,QV,QW,QX,QY,QZ,Q0,Q1,Q2,MDa_n,mk,↓awU,awV,awF,Qa,Qb,Qc,Qd,forall_const,↓reduceIte,↓reduceDIte,↓Qe,Qf,Qg,Qh,Qi,Qj,Qk,Ql,Qm,Qn,Qo,Qp,Qq,Qr,Qs,implies_true,Qt,Qu,Qv,Qw,Qx,Qy,Qz,QA,QB,QC,QD,QE,QF,QG,QH,QI,QJ,QK,QL,QM,QN,QO,QP,QQ]
    refine CallC.of sp (by rfl) ?_
    simp (config:={maxSteps:=1000000}) (disch:=((try simp only [awL]);omega)) only [QR,QS,QT,QU,QV,QW,QX,QY,QZ,Q0,Q1,Q2,MDa_n,mk,↓awU,awV,awF,Qa,Qb,Qc,Qd,forall_const,↓reduceIte,↓reduceDIte,↓Qe,Qf,Qg,Qh,Qi,Qj,Qk,Ql,Qm,Qn,Qo,Qp,Qq,Qr,Qs,implies_true,Qt,Qu,Qv,Qw,Qx,Qy,Qz,QA,QB,QC,QD,QE,QF,QG,QH,QI,QJ,QK,QL,QM,QN,QO,QP,QQ]
    first
    | exact ⟨1+1,by omega,by simp only;omega,⟨[some 0,some 1,some 2,some 3],rfl,by simp,by simp [setsA,keepA,SWeak,AWeak],by simp [HWeak,BWeak,SWeak,AWeak,cutsB,n1]⟩⟩
    | exact ⟨by rfl,1+1,by omega,by simp only;omega,⟨[some 0,some 1,some 2,some 3],rfl,by simp,by simp [setsA,keepA,SWeak,AWeak],by simp [HWeak,BWeak,SWeak,AWeak,cutsB,n1]⟩⟩
  ·subst e
   have sp:=tsplit_spec (G:=G) 46 t (by omega)
   by_cases h:(splB 46 t).length=3
   ·obtain ⟨a,b,d,e,_⟩:=spl3_of h
    rw [e,show Ss [a,b,d] false=.sl 3 false [S a,S b,S d] from rfl] at sp
    have n1:dst t 3=(d,b,a):=by show ymd t=_;unfold ymd;rw [step3_eq _ e];rfl
    simp (config:={maxSteps:=1000000}) (disch:=((try simp only [awL]);omega)) only [QR,QS,QT,QU,QV,QW,QX,QY,QZ,Q0,Q1,Q2,MDa_n,mk,↓awU,awV,awF,Qa,Qb,Qc,Qd,forall_const,↓reduceIte,↓reduceDIte,↓Qe,Qf,Qg,Qh,Qi,Qj,Qk,Ql,Qm,Qn,Qo,Qp,Qq,Qr,Qs,implies_true,Qt,Qu,Qv,Qw,Qx,Qy,Qz,QA,QB,QC,QD,QE,QF,QG,QH,QI,QJ,QK,QL,QM,QN,QO,QP,QQ]
    refine CallC.of sp (by rfl) ?_
    simp (config:={maxSteps:=1000000}) (disch:=((try simp only [awL]);omega)) only [QR,QS,QT,QU,QV,QW,QX,QY,QZ,Q0,Q1,Q2,MDa_n,mk,↓awU,awV,awF,Qa,Qb,Qc,Qd,forall_const,↓reduceIte,↓reduceDIte,↓Qe,Qf,Qg,Qh,Qi,Qj,Qk,Ql,Qm,Qn,Qo,Qp,Qq,Qr,Qs,implies_true,Qt,Qu,Qv,Qw,Qx,Qy,Qz,QA,QB,QC,QD,QE,QF,QG,QH,QI,QJ,QK,QL,QM,QN,QO,QP,QQ]
    first
    | exact ⟨2+1,by omega,by simp only;omega,⟨[some 0,some 1,some 2,some 3],rfl,by simp,by simp [setsA,keepA,SWeak,AWeak],by simp [HWeak,BWeak,SWeak,AWeak,cutsB,n1]⟩⟩
    | exact ⟨by rfl,2+1,by omega,by simp only;omega,⟨[some 0,some 1,some 2,some 3],rfl,by simp,by simp [setsA,keepA,SWeak,AWeak],by simp [HWeak,BWeak,SWeak,AWeak,cutsB,n1]⟩⟩
   ·have n1:dst t 3=dst t 2:=by show ymd t=_;unfold ymd;rw [step3_no _ h];rfl
    generalize splB 46 t=L at *
    simp (config:={maxSteps:=1000000}) (disch:=((try simp only [awL]);omega)) only [QR,QS,QT,QU,QV,QW,QX,QY,QZ,Q0,Q1,Q2,MDa_n,mk,↓awU,awV,awF,Qa,Qb,Qc,Qd,forall_const,↓reduceIte,↓reduceDIte,↓Qe,Qf,Qg,Qh,Qi,Qj,Qk,Ql,Qm,Qn,Qo,Qp,Qq,Qr,Qs,implies_true,Qt,Qu,Qv,Qw,Qx,Qy,Qz,QA,QB,QC,QD,QE,QF,QG,QH,QI,QJ,QK,QL,QM,QN,QO,QP,QQ]
    refine CallC.of sp (by rfl) ?_
    simp (config:={maxSteps:=1000000}) (disch:=((try simp only [awL]);omega)) only [QR,QS,QT,QU,QV,QW,QX,QY,QZ,Q0,Q1,Q2,MDa_n,mk,↓awU,awV,awF,Qa,Qb,Qc,Qd,forall_const,↓reduceIte,↓reduceDIte,↓Qe,Qf,Qg,Qh,Qi,Qj,Qk,Ql,Qm,Qn,Qo,Qp,Qq,Qr,Qs,implies_true,Qt,Qu,Qv,Qw,Qx,Qy,Qz,QA,QB,QC,QD,QE,QF,QG,QH,QI,QJ,QK,QL,QM,QN,QO,QP,QQ]
    first
    | exact ⟨2+1,by omega,by simp only;omega,⟨[some 0,some 1,some 2,some 3],rfl,by simp,by simp [setsA,keepA,SWeak,AWeak],by simp [HWeak,BWeak,SWeak,AWeak,cutsB,n1]⟩⟩
    | exact ⟨by rfl,2+1,by omega,by simp only;omega,⟨[some 0,some 1,some 2,some 3],rfl,by simp,by simp [setsA,keepA,SWeak,AWeak],by simp [HWeak,BWeak,SWeak,AWeak,cutsB,n1]⟩⟩
  ·subst e
   have n1:dst t 3=ymd t:=rfl
   simp (config:={maxSteps:=1000000}) (disch:=((try simp only [awL]);omega)) only [QR,QS,QT,QU,QV,QW,QX,QY,QZ,Q0,Q1,Q2,MDa_n,mk,↓awU,awV,awF,Qa,Qb,Qc,Qd,forall_const,↓reduceIte,↓reduceDIte,↓Qe,Qf,Qg,Qh,Qi,Qj,Qk,Ql,Qm,Qn,Qo,Qp,Qq,Qr,Qs,implies_true,Qt,Qu,Qv,Qw,Qx,Qy,Qz,QA,QB,QC,QD,QE,QF,QG,QH,QI,QJ,QK,QL,QM,QN,QO,QP,QQ]
   first
   | exact ⟨(),trivial,⟨[some 0,some 1,some 2,some 3],rfl,by simp,by simp [setsA,keepA,SWeak,AWeak],by simp [HWeak,BWeak,SWeak,AWeak,cutsB,n1]⟩⟩
 ·rintro ⟨⟩ -
  simp only [awK,Nat.reduceMod,Nat.reduceDiv,reduceIte]
  obtain ⟨l1,l2,l3⟩:=ymd_len t
  have s1:=tfield_spec hE hP (ymd t).1 4 (by omega) (by omega)
  have s2:=tfield_spec hE hP (ymd t).2.1 2 (by omega) (by omega)
  have s3:=tfield_spec hE hP (ymd t).2.2 2 (by omega) (by omega)
  obtain ⟨y1,y2⟩:=fldR_i64 (ymd t).1 4
  obtain ⟨m1,m2⟩:=fldR_i64 (ymd t).2.1 2
  obtain ⟨d1,d2⟩:=fldR_i64 (ymd t).2.2 2
  have oe:=okP_eq t
  have ce:=@canP_eq t
  unfold okP at oe ce
  rw [oe] at ce
  have ck:=okDt_pos (y:=(pY t).1) (m:=(pM t).1) (d:=(pD t).1)
  unfold pY pM pD at *
  have sd:=day_spec (G:=G) _ _ _ y1 y2 m1 m2 d1 d2
  generalize (ymd t).1=Y at *
  generalize (ymd t).2.1=M at *
  generalize (ymd t).2.2=D at *
  generalize fldR Y 4=yp at *
  generalize fldR M 2=mp at *
  generalize fldR D 2=dp at *
  obtain ⟨y,yb⟩:=yp
  obtain ⟨m,mb⟩:=mp
  obtain ⟨d,db⟩:=dp
  simp only at *
  generalize hcd:canDt t=C at *
  have cn:okD t=false→C=[]:=fun q=>by rw [← hcd];unfold canDt;rw [if_neg (by rw [q];decide)]
  generalize okD t=ok at *
  generalize dayV y m d=dv at *
  simp (config:={maxSteps:=1000000}) (disch:=((try simp only [awL]);omega)) only [QR,QS,QT,QU,QV,QW,QX,QY,QZ,Q0,Q1,Q2,MDa_n,mk,↓awU,awV,awF,Qa,Qb,Qc,Qd,forall_const,↓reduceIte,↓reduceDIte,↓Qe,Qf,Qg,Qh,Qi,Qj,Qk,Ql,Qm,Qn,Qo,Qp,Qq,Qr,Qs,implies_true,Qt,Qu,Qv,Qw,Qx,Qy,Qz,QA,QB,QC,QD,QE,QF,QG,QH,QI,QJ,QK,QL,QM,QN,QO,QP,QQ]
  refine CallC.of s1 (by rfl) ?_
  simp (config:={maxSteps:=1000000}) (disch:=((try simp only [awL]);omega)) only [QR,QS,QT,QU,QV,QW,QX,QY,QZ,Q0,Q1,Q2,MDa_n,mk,↓awU,awV,awF,Qa,Qb,Qc,Qd,forall_const,↓reduceIte,↓reduceDIte,↓Qe,Qf,Qg,Qh,Qi,Qj,Qk,Ql,Qm,Qn,Qo,Qp,Qq,Qr,Qs,implies_true,Qt,Qu,Qv,Qw,Qx,Qy,Qz,QA,QB,QC,QD,QE,QF,QG,QH,QI,QJ,QK,QL,QM,QN,QO,QP,QQ]
  refine CallC.of s2 (by rfl) ?_
  simp (config:={maxSteps:=1000000}) (disch:=((try simp only [awL]);omega)) only [QR,QS,QT,QU,QV,QW,QX,QY,QZ,Q0,Q1,Q2,MDa_n,mk,↓awU,awV,awF,Qa,Qb,Qc,Qd,forall_const,↓reduceIte,↓reduceDIte,↓Qe,Qf,Qg,Qh,Qi,Qj,Qk,Ql,Qm,Qn,Qo,Qp,Qq,Qr,Qs,implies_true,Qt,Qu,Qv,Qw,Qx,Qy,Qz,QA,QB,QC,QD,QE,QF,QG,QH,QI,QJ,QK,QL,QM,QN,QO,QP,QQ]
  refine CallC.of s3 (by rfl) ?_
  simp (config:={maxSteps:=1000000}) (disch:=((try simp only [awL]);omega)) only [QR,QS,QT,QU,QV,QW,QX,QY,QZ,Q0,Q1,Q2,MDa_n,mk,↓awU,awV,awF,Qa,Qb,Qc,Qd,forall_const,↓reduceIte,↓reduceDIte,↓Qe,Qf,Qg,Qh,Qi,Qj,Qk,Ql,Qm,Qn,Qo,Qp,Qq,Qr,Qs,implies_true,Qt,Qu,Qv,Qw,Qx,Qy,Qz,QA,QB,QC,QD,QE,QF,QG,QH,QI,QJ,QK,QL,QM,QN,QO,QP,QQ]
  refine CallC.of sd (by rfl) ?_
  cases h0:okDt y m d
  ·rw [h0] at oe
   obtain rfl:ok=false:=by rw [← oe];rfl
   rw [cn rfl]
   simp (config:={maxSteps:=1000000}) (disch:=((try simp only [awL]);omega)) only [QR,QS,QT,QU,QV,QW,QX,QY,QZ,Q0,Q1,Q2,MDa_n,mk,↓awU,awV,awF,Qa,Qb,Qc,Qd,forall_const,↓reduceIte,↓reduceDIte,↓Qe,Qf,Qg,Qh,Qi,Qj,Qk,Ql,Qm,Qn,Qo,Qp,Qq,Qr,Qs,implies_true,Qt,Qu,Qv,Qw,Qx,Qy,Qz,QA,QB,QC,QD,QE,QF,QG,QH,QI,QJ,QK,QL,QM,QN,QO,QP,QQ]
   first | done | rfl
  cases yb
  ·rw [h0] at oe
   obtain rfl:ok=false:=by rw [← oe];rfl
   rw [cn rfl]
   simp (config:={maxSteps:=1000000}) (disch:=((try simp only [awL]);omega)) only [QR,QS,QT,QU,QV,QW,QX,QY,QZ,Q0,Q1,Q2,MDa_n,mk,↓awU,awV,awF,Qa,Qb,Qc,Qd,forall_const,↓reduceIte,↓reduceDIte,↓Qe,Qf,Qg,Qh,Qi,Qj,Qk,Ql,Qm,Qn,Qo,Qp,Qq,Qr,Qs,implies_true,Qt,Qu,Qv,Qw,Qx,Qy,Qz,QA,QB,QC,QD,QE,QF,QG,QH,QI,QJ,QK,QL,QM,QN,QO,QP,QQ]
   first | done | rfl
  cases mb
  ·rw [h0] at oe
   obtain rfl:ok=false:=by rw [← oe];rfl
   rw [cn rfl]
   simp (config:={maxSteps:=1000000}) (disch:=((try simp only [awL]);omega)) only [QR,QS,QT,QU,QV,QW,QX,QY,QZ,Q0,Q1,Q2,MDa_n,mk,↓awU,awV,awF,Qa,Qb,Qc,Qd,forall_const,↓reduceIte,↓reduceDIte,↓Qe,Qf,Qg,Qh,Qi,Qj,Qk,Ql,Qm,Qn,Qo,Qp,Qq,Qr,Qs,implies_true,Qt,Qu,Qv,Qw,Qx,Qy,Qz,QA,QB,QC,QD,QE,QF,QG,QH,QI,QJ,QK,QL,QM,QN,QO,QP,QQ]
   first | done | rfl
  cases db
  ·rw [h0] at oe
   obtain rfl:ok=false:=by rw [← oe];rfl
   rw [cn rfl]
   simp (config:={maxSteps:=1000000}) (disch:=((try simp only [awL]);omega)) only [QR,QS,QT,QU,QV,QW,QX,QY,QZ,Q0,Q1,Q2,MDa_n,mk,↓awU,awV,awF,Qa,Qb,Qc,Qd,forall_const,↓reduceIte,↓reduceDIte,↓Qe,Qf,Qg,Qh,Qi,Qj,Qk,Ql,Qm,Qn,Qo,Qp,Qq,Qr,Qs,implies_true,Qt,Qu,Qv,Qw,Qx,Qy,Qz,QA,QB,QC,QD,QE,QF,QG,QH,QI,QJ,QK,QL,QM,QN,QO,QP,QQ]
   first | done | rfl
  rw [h0] at oe
  obtain rfl:ok=true:=by rw [← oe];rfl
  have ce:=ce rfl
  obtain ⟨p1,p2,p3,p4,p5,p6⟩:=ck h0
  have t4:(10:Nat) ^ 4=10000:=by decide
  have t2:(10:Nat) ^ 2=100:=by decide
  have a1:(padP y 4).length=4:=by
   obtain ⟨n,rfl⟩:∃ n:Nat,y=n:=⟨y.toNat,by omega⟩
   rw [padP_eq (by decide) (by omega),padN_len]
  have a2:(padP m 2).length=2:=by
   obtain ⟨n,rfl⟩:∃ n:Nat,m=n:=⟨m.toNat,by omega⟩
   rw [padP_eq (by decide) (by omega),padN_len]
  have a3:(padP d 2).length=2:=by
   obtain ⟨n,rfl⟩:∃ n:Nat,d=n:=⟨d.toNat,by omega⟩
   rw [padP_eq (by decide) (by omega),padN_len]
  have q1:=padded_spec hP y 4 (by omega) (by omega) (by decide)
  have q2:=padded_spec hP m 2 (by omega) (by omega) (by decide)
  have q3:=padded_spec hP d 2 (by omega) (by omega) (by decide)
  rw [← ce]
  generalize padP y 4=ys at *
  generalize padP m 2=ms at *
  generalize padP d 2=ds at *
  simp (config:={maxSteps:=1000000}) (disch:=((try simp only [awL]);omega)) only [QR,QS,QT,QU,QV,QW,QX,QY,QZ,Q0,Q1,Q2,MDa_n,mk,↓awU,awV,awF,Qa,Qb,Qc,Qd,forall_const,↓reduceIte,↓reduceDIte,↓Qe,Qf,Qg,Qh,Qi,Qj,Qk,Ql,Qm,Qn,Qo,Qp,Qq,Qr,Qs,implies_true,Qt,Qu,Qv,Qw,Qx,Qy,Qz,QA,QB,QC,QD,QE,QF,QG,QH,QI,QJ,QK,QL,QM,QN,QO,QP,QQ]
  refine CallC.of q1 (by rfl) ?_
  simp (config:={maxSteps:=1000000}) (disch:=((try simp only [awL]);omega)) only [QR,QS,QT,QU,QV,QW,QX,QY,QZ,Q0,Q1,Q2,MDa_n,mk,↓awU,awV,awF,Qa,Qb,Qc,Qd,forall_const,↓reduceIte,↓reduceDIte,↓Qe,Qf,Qg,Qh,Qi,Qj,Qk,Ql,Qm,Qn,Qo,Qp,Qq,Qr,Qs,implies_true,Qt,Qu,Qv,Qw,Qx,Qy,Qz,QA,QB,QC,QD,QE,QF,QG,QH,QI,QJ,QK,QL,QM,QN,QO,QP,QQ]
  refine CallC.of q2 (by rfl) ?_
  simp (config:={maxSteps:=1000000}) (disch:=((try simp only [awL]);omega)) only [QR,QS,QT,QU,QV,QW,QX,QY,QZ,Q0,Q1,Q2,MDa_n,mk,↓awU,awV,awF,Qa,Qb,Qc,Qd,forall_const,↓reduceIte,↓reduceDIte,↓Qe,Qf,Qg,Qh,Qi,Qj,Qk,Ql,Qm,Qn,Qo,Qp,Qq,Qr,Qs,implies_true,Qt,Qu,Qv,Qw,Qx,Qy,Qz,QA,QB,QC,QD,QE,QF,QG,QH,QI,QJ,QK,QL,QM,QN,QO,QP,QQ]
  refine CallC.of q3 (by rfl) ?_
  simp (config:={maxSteps:=1000000}) (disch:=((try simp only [awL]);omega)) only [QR,QS,QT,QU,QV,QW,QX,QY,QZ,Q0,Q1,Q2,MDa_n,mk,List.append_assoc,↓awU,awV,awF,Qa,Qb,Qc,Qd,forall_const,↓reduceIte,↓reduceDIte,↓Qe,Qf,Qg,Qh,Qi,Qj,Qk,Ql,Qm,Qn,Qo,Qp,Qq,Qr,Qs,implies_true,Qt,Qu,Qv,Qw,Qx,Qy,Qz,QA,QB,QC,QD,QE,QF,QG,QH,QI,QJ,QK,QL,QM,QN,QO,QP,QQ]
  first | done | rfl | (simp only [List.append_assoc,List.singleton_append];rfl)
end Go.Proofs.YtdpjcghiegggbaaGreatDoor
namespace Go.Proofs.YtdpjcghiegggbaaGreatDoor.Num
open Go Go.Proofs Go.Abs
variable {G:Globals}
end Go.Proofs.YtdpjcghiegggbaaGreatDoor.Num
namespace Go.Proofs.YtdpjcghiegggbaaGreatDoor.Num
open Go Go.Proofs Go.Abs
variable {G:Globals}
abbrev ex:List UInt8:=[45,49,50,46,53,48]
end Go.Proofs.YtdpjcghiegggbaaGreatDoor.Num
namespace Go.Proofs.YtdpjcghiegggbaaGreatDoor.Num
open Go Go.Proofs Go.Abs
end Go.Proofs.YtdpjcghiegggbaaGreatDoor.Num
namespace Go.Proofs.YtdpjcghiegggbaaGreatDoor
open Go Go.Proofs Go.Abs
namespace Decs
abbrev dg (b:UInt8):Bool:=Num.dig10.contains b
structure Dig2 (F B:List UInt8):Prop where
 f1:1≤F.length
 fd:∀ b∈F,dg b=true
 bd:∀ b∈B,dg b=true
structure Dec (F B:List UInt8):Prop where
 f1:1≤F.length
 f2:F.length≤15
 fd:∀ b∈F,dg b=true
 b2:B.length≤9
 bd:∀ b∈B,dg b=true
theorem Dec.two {F B:List UInt8} (h:Dec F B):Dig2 F B:=⟨h.f1,h.fd,h.bd⟩
def pt (F B:List UInt8):List UInt8:=F++(if B=[] then [] else 46::B)
theorem dropW (c:UInt8):∀ l:List UInt8,∃ k,l=List.replicate k c++l.dropWhile (· == c)
 | []=>⟨0,rfl⟩
 | b::l=>by
   by_cases e:b=c
   ·obtain ⟨k,hk⟩:=dropW c l
    refine ⟨k+1,?_⟩
    rw [List.dropWhile_cons,if_pos (by simpa using e),List.replicate_succ,List.cons_append,← hk,e]
   ·exact ⟨0,by rw [List.dropWhile_cons,if_neg (by simpa using e)];rfl⟩
def dv (neg:Bool) (F B:List UInt8):Rat:=Rat.divInt (if neg=true then -(Num.decNum (F++B):Int) else (Num.decNum (F++B):Int)) ((10 ^ B.length:Nat):Int)
end Decs
end Go.Proofs.YtdpjcghiegggbaaGreatDoor
namespace Go.Proofs.YtdpjcghiegggbaaGreatDoor
open Go Go.Proofs Go.Abs
variable {G:Globals}
def okK (k:Int) (s:List UInt8):Bool :=
 if k=1 then true else if k=2 then okBo (Lib.trimB s 32) else if k=3 then okIn (Lib.trimB s 32) else if k=4 then Num.decOk (Lib.trimB s 32) else if k=5 then okD (Lib.trimB s 32) else false
def cnK (k:Int) (s:List UInt8):List UInt8 :=
 if k=1 then s else if k=2 then canBo (Lib.trimB s 32) else if k=3 then canIn (Lib.trimB s 32) else if k=4 then canDe (Lib.trimB s 32) else if k=5 then canDt (Lib.trimB s 32) else []
def kOf (k:Int):Prop:=k=1∨k=2∨k=3∨k=4∨k=5
theorem k_cases (k:Int):k=1∨k=2∨k=3∨k=4∨k=5∨¬ kOf k:=by unfold kOf;omega
def noK:D:=.agg [.str ByteArray.empty,.nilf,.nilf]
theorem look_no {k:Int} (h:¬ kOf k):lookV noK kindsM (.int .i64 k) true=.tup [noK,.bool false]:=by
 unfold kOf at h
 have f:∀ n:Int,(n=1∨n=2∨n=3∨n=4∨n=5)→keyEq (.int .i64 k) (.int .i64 n)=false:=fun n hn=>by
  show (k == n)=false
  rw [beq_eq_false_iff_ne];omega
 unfold lookV kindsM
 rw [findE,if_neg (by rw [f 1 (by omega)];decide),findE,if_neg (by rw [f 2 (by omega)];decide),findE,if_neg (by rw [f 3 (by omega)];decide),findE,if_neg (by rw [f 4 (by omega)];decide),findE,if_neg (by rw [f 5 (by omega)];decide),findE]
 rfl
theorem okK_no {k:Int} (h:¬ kOf k) (s:List UInt8):okK k s=false∧cnK k s=[]:=by
 unfold kOf at h
 unfold okK cnK
 rw [if_neg (by omega),if_neg (by omega),if_neg (by omega),if_neg (by omega),if_neg (by omega),if_neg (by omega),if_neg (by omega),if_neg (by omega),if_neg (by omega),if_neg (by omega)]
 exact ⟨rfl,rfl⟩
set_option maxRecDepth 100000 in
theorem kk_int:keysOK Tryz.prog 3 kindsM=true:=rfl
set_option maxHeartbeats 16000000 in
set_option maxRecDepth 100000 in
theorem canon_spec (hG:Num.HG G) (hE:HE G) (hP:HP G) (k:Int) (k1:-9223372036854775808≤k) (k2:k≤9223372036854775807) (s:List UInt8) (hs:s.length≤2000000) :
  Ctr Tryz.prog G 12 [.d (.int .i64 k),.d (S s)] [] (.d (.tup [S (cnK k s),.bool (okK k s)])) []:=by
 have tl:(Lib.trimB s 32).length≤s.length:=Nat.le_trans (List.dropWhile_sublist _).length_le (trimRB_le s 32)
 have kk:=kk_int
 have hno:(.agg [.str ByteArray.empty,.nilf,.nilf]:D)=noK:=rfl
 refine Ctr.pure (M:=M0) hmix Tryz.func12 rfl go12 ?_
 rcases k_cases k with rfl | rfl | rfl | rfl | rfl | h
 ·have lk:lookV (.agg [.str ByteArray.empty,.nilf,.nilf]) kindsM (.int .i64 1) true=.tup [.agg [S [116,101,120,116],.nilf,.fn (.func 65) [] []],.bool true]:=rfl
  show _
  simp (config:={maxSteps:=1000000}) (disch:=((try simp only [awL]);omega)) only [QR,QS,QT,QU,QV,QW,QX,QY,QZ,Q0,Q1,Q2,Tryz.f12,↓awU,awV,awF,Qa,Qb,Qc,Qd,forall_const,↓reduceIte,↓reduceDIte,↓Qe,Qf,Qg,Qh,Qi,Qj,Qk,Ql,Qm,Qn,Qo,Qp,Qq,Qr,Qs,implies_true,Qt,Qu,Qv,Qw,Qx,Qy,Qz,QA,QB,QC,QD,QE,QF,QG,QH,QI,QJ,QK,QL,QM,QN,QO,QP,QQ]
  refine CallC.by kinds_spec (by rfl) (by rfl) (Nat.zero_le _) ?_
  simp (config:={maxSteps:=1000000}) (disch:=((try simp only [awL]);omega)) only [QR,QS,QT,QU,QV,QW,QX,QY,QZ,Q0,Q1,Q2,kk,lk,↓awU,awV,awF,Qa,Qb,Qc,Qd,forall_const,↓reduceIte,↓reduceDIte,↓Qe,Qf,Qg,Qh,Qi,Qj,Qk,Ql,Qm,Qn,Qo,Qp,Qq,Qr,Qs,implies_true,Qt,Qu,Qv,Qw,Qx,Qy,Qz,QA,QB,QC,QD,QE,QF,QG,QH,QI,QJ,QK,QL,QM,QN,QO,QP,QQ]
  first | done | rfl | exact ⟨by rfl,by rfl⟩
 ·have lk:lookV (.agg [.str ByteArray.empty,.nilf,.nilf]) kindsM (.int .i64 2) true=.tup [.agg [S [98,111,111,108],.fn (.func 66) [] [],.fn (.func 67) [] []],.bool true]:=rfl
  show _
  simp (config:={maxSteps:=1000000}) (disch:=((try simp only [awL]);omega)) only [QR,QS,QT,QU,QV,QW,QX,QY,QZ,Q0,Q1,Q2,Tryz.f12,↓awU,awV,awF,Qa,Qb,Qc,Qd,forall_const,↓reduceIte,↓reduceDIte,↓Qe,Qf,Qg,Qh,Qi,Qj,Qk,Ql,Qm,Qn,Qo,Qp,Qq,Qr,Qs,implies_true,Qt,Qu,Qv,Qw,Qx,Qy,Qz,QA,QB,QC,QD,QE,QF,QG,QH,QI,QJ,QK,QL,QM,QN,QO,QP,QQ]
  refine CallC.by kinds_spec (by rfl) (by rfl) (Nat.zero_le _) ?_
  simp (config:={maxSteps:=1000000}) (disch:=((try simp only [awL]);omega)) only [QR,QS,QT,QU,QV,QW,QX,QY,QZ,Q0,Q1,Q2,kk,lk,↓awU,awV,awF,Qa,Qb,Qc,Qd,forall_const,↓reduceIte,↓reduceDIte,↓Qe,Qf,Qg,Qh,Qi,Qj,Qk,Ql,Qm,Qn,Qo,Qp,Qq,Qr,Qs,implies_true,Qt,Qu,Qv,Qw,Qx,Qy,Qz,QA,QB,QC,QD,QE,QF,QG,QH,QI,QJ,QK,QL,QM,QN,QO,QP,QQ]
  refine CallC.of (ttrim_spec s (by omega)) (by rfl) ?_
  simp (config:={maxSteps:=1000000}) (disch:=((try simp only [awL]);omega)) only [QR,QS,QT,QU,QV,QW,QX,QY,QZ,Q0,Q1,Q2,↓awU,awV,awF,Qa,Qb,Qc,Qd,forall_const,↓reduceIte,↓reduceDIte,↓Qe,Qf,Qg,Qh,Qi,Qj,Qk,Ql,Qm,Qn,Qo,Qp,Qq,Qr,Qs,implies_true,Qt,Qu,Qv,Qw,Qx,Qy,Qz,QA,QB,QC,QD,QE,QF,QG,QH,QI,QJ,QK,QL,QM,QN,QO,QP,QQ]
  refine CallC.of (boolean_spec (Lib.trimB s 32) (by omega)) (by rfl) ?_
  simp (config:={maxSteps:=1000000}) (disch:=((try simp only [awL]);omega)) only [QR,QS,QT,QU,QV,QW,QX,QY,QZ,Q0,Q1,Q2,↓awU,awV,awF,Qa,Qb,Qc,Qd,forall_const,↓reduceIte,↓reduceDIte,↓Qe,Qf,Qg,Qh,Qi,Qj,Qk,Ql,Qm,Qn,Qo,Qp,Qq,Qr,Qs,implies_true,Qt,Qu,Qv,Qw,Qx,Qy,Qz,QA,QB,QC,QD,QE,QF,QG,QH,QI,QJ,QK,QL,QM,QN,QO,QP,QQ]
  first | done | rfl | exact ⟨by rfl,by rfl⟩
 ·have lk:lookV (.agg [.str ByteArray.empty,.nilf,.nilf]) kindsM (.int .i64 3) true=.tup [.agg [S [105,110,116,101,103,101,114],.fn (.func 68) [] [],.fn (.func 69) [] []],.bool true]:=rfl
  show _
  simp (config:={maxSteps:=1000000}) (disch:=((try simp only [awL]);omega)) only [QR,QS,QT,QU,QV,QW,QX,QY,QZ,Q0,Q1,Q2,Tryz.f12,↓awU,awV,awF,Qa,Qb,Qc,Qd,forall_const,↓reduceIte,↓reduceDIte,↓Qe,Qf,Qg,Qh,Qi,Qj,Qk,Ql,Qm,Qn,Qo,Qp,Qq,Qr,Qs,implies_true,Qt,Qu,Qv,Qw,Qx,Qy,Qz,QA,QB,QC,QD,QE,QF,QG,QH,QI,QJ,QK,QL,QM,QN,QO,QP,QQ]
  refine CallC.by kinds_spec (by rfl) (by rfl) (Nat.zero_le _) ?_
  simp (config:={maxSteps:=1000000}) (disch:=((try simp only [awL]);omega)) only [QR,QS,QT,QU,QV,QW,QX,QY,QZ,Q0,Q1,Q2,kk,lk,↓awU,awV,awF,Qa,Qb,Qc,Qd,forall_const,↓reduceIte,↓reduceDIte,↓Qe,Qf,Qg,Qh,Qi,Qj,Qk,Ql,Qm,Qn,Qo,Qp,Qq,Qr,Qs,implies_true,Qt,Qu,Qv,Qw,Qx,Qy,Qz,QA,QB,QC,QD,QE,QF,QG,QH,QI,QJ,QK,QL,QM,QN,QO,QP,QQ]
  refine CallC.of (ttrim_spec s (by omega)) (by rfl) ?_
  simp (config:={maxSteps:=1000000}) (disch:=((try simp only [awL]);omega)) only [QR,QS,QT,QU,QV,QW,QX,QY,QZ,Q0,Q1,Q2,↓awU,awV,awF,Qa,Qb,Qc,Qd,forall_const,↓reduceIte,↓reduceDIte,↓Qe,Qf,Qg,Qh,Qi,Qj,Qk,Ql,Qm,Qn,Qo,Qp,Qq,Qr,Qs,implies_true,Qt,Qu,Qv,Qw,Qx,Qy,Qz,QA,QB,QC,QD,QE,QF,QG,QH,QI,QJ,QK,QL,QM,QN,QO,QP,QQ]
  refine CallC.of (integer_spec hG (Lib.trimB s 32) (by omega)) (by rfl) ?_
  simp (config:={maxSteps:=1000000}) (disch:=((try simp only [awL]);omega)) only [QR,QS,QT,QU,QV,QW,QX,QY,QZ,Q0,Q1,Q2,↓awU,awV,awF,Qa,Qb,Qc,Qd,forall_const,↓reduceIte,↓reduceDIte,↓Qe,Qf,Qg,Qh,Qi,Qj,Qk,Ql,Qm,Qn,Qo,Qp,Qq,Qr,Qs,implies_true,Qt,Qu,Qv,Qw,Qx,Qy,Qz,QA,QB,QC,QD,QE,QF,QG,QH,QI,QJ,QK,QL,QM,QN,QO,QP,QQ]
  first | done | rfl | exact ⟨by rfl,by rfl⟩
 ·have lk:lookV (.agg [.str ByteArray.empty,.nilf,.nilf]) kindsM (.int .i64 4) true=.tup [.agg [S [100,101,99,105,109,97,108],.fn (.func 70) [] [],.fn (.func 69) [] []],.bool true]:=rfl
  show _
  simp (config:={maxSteps:=1000000}) (disch:=((try simp only [awL]);omega)) only [QR,QS,QT,QU,QV,QW,QX,QY,QZ,Q0,Q1,Q2,Tryz.f12,↓awU,awV,awF,Qa,Qb,Qc,Qd,forall_const,↓reduceIte,↓reduceDIte,↓Qe,Qf,Qg,Qh,Qi,Qj,Qk,Ql,Qm,Qn,Qo,Qp,Qq,Qr,Qs,implies_true,Qt,Qu,Qv,Qw,Qx,Qy,Qz,QA,QB,QC,QD,QE,QF,QG,QH,QI,QJ,QK,QL,QM,QN,QO,QP,QQ]
  refine CallC.by kinds_spec (by rfl) (by rfl) (Nat.zero_le _) ?_
  simp (config:={maxSteps:=1000000}) (disch:=((try simp only [awL]);omega)) only [QR,QS,QT,QU,QV,QW,QX,QY,QZ,Q0,Q1,Q2,kk,lk,↓awU,awV,awF,Qa,Qb,Qc,Qd,forall_const,↓reduceIte,↓reduceDIte,↓Qe,Qf,Qg,Qh,Qi,Qj,Qk,Ql,Qm,Qn,Qo,Qp,Qq,Qr,Qs,implies_true,Qt,Qu,Qv,Qw,Qx,Qy,Qz,QA,QB,QC,QD,QE,QF,QG,QH,QI,QJ,QK,QL,QM,QN,QO,QP,QQ]
  refine CallC.of (ttrim_spec s (by omega)) (by rfl) ?_
  simp (config:={maxSteps:=1000000}) (disch:=((try simp only [awL]);omega)) only [QR,QS,QT,QU,QV,QW,QX,QY,QZ,Q0,Q1,Q2,↓awU,awV,awF,Qa,Qb,Qc,Qd,forall_const,↓reduceIte,↓reduceDIte,↓Qe,Qf,Qg,Qh,Qi,Qj,Qk,Ql,Qm,Qn,Qo,Qp,Qq,Qr,Qs,implies_true,Qt,Qu,Qv,Qw,Qx,Qy,Qz,QA,QB,QC,QD,QE,QF,QG,QH,QI,QJ,QK,QL,QM,QN,QO,QP,QQ]
  refine CallC.of (tdecimal_spec hG (Lib.trimB s 32) (by omega)) (by rfl) ?_
  simp (config:={maxSteps:=1000000}) (disch:=((try simp only [awL]);omega)) only [QR,QS,QT,QU,QV,QW,QX,QY,QZ,Q0,Q1,Q2,↓awU,awV,awF,Qa,Qb,Qc,Qd,forall_const,↓reduceIte,↓reduceDIte,↓Qe,Qf,Qg,Qh,Qi,Qj,Qk,Ql,Qm,Qn,Qo,Qp,Qq,Qr,Qs,implies_true,Qt,Qu,Qv,Qw,Qx,Qy,Qz,QA,QB,QC,QD,QE,QF,QG,QH,QI,QJ,QK,QL,QM,QN,QO,QP,QQ]
  first | done | rfl | exact ⟨by rfl,by rfl⟩
 ·have lk:lookV (.agg [.str ByteArray.empty,.nilf,.nilf]) kindsM (.int .i64 5) true=.tup [.agg [S [100,97,116,101],.fn (.func 71) [] [],.fn (.func 72) [] []],.bool true]:=rfl
  show _
  simp (config:={maxSteps:=1000000}) (disch:=((try simp only [awL]);omega)) only [QR,QS,QT,QU,QV,QW,QX,QY,QZ,Q0,Q1,Q2,Tryz.f12,↓awU,awV,awF,Qa,Qb,Qc,Qd,forall_const,↓reduceIte,↓reduceDIte,↓Qe,Qf,Qg,Qh,Qi,Qj,Qk,Ql,Qm,Qn,Qo,Qp,Qq,Qr,Qs,implies_true,Qt,Qu,Qv,Qw,Qx,Qy,Qz,QA,QB,QC,QD,QE,QF,QG,QH,QI,QJ,QK,QL,QM,QN,QO,QP,QQ]
  refine CallC.by kinds_spec (by rfl) (by rfl) (Nat.zero_le _) ?_
  simp (config:={maxSteps:=1000000}) (disch:=((try simp only [awL]);omega)) only [QR,QS,QT,QU,QV,QW,QX,QY,QZ,Q0,Q1,Q2,kk,lk,↓awU,awV,awF,Qa,Qb,Qc,Qd,forall_const,↓reduceIte,↓reduceDIte,↓Qe,Qf,Qg,Qh,Qi,Qj,Qk,Ql,Qm,Qn,Qo,Qp,Qq,Qr,Qs,implies_true,Qt,Qu,Qv,Qw,Qx,Qy,Qz,QA,QB,QC,QD,QE,QF,QG,QH,QI,QJ,QK,QL,QM,QN,QO,QP,QQ]
  refine CallC.of (ttrim_spec s (by omega)) (by rfl) ?_
  simp (config:={maxSteps:=1000000}) (disch:=((try simp only [awL]);omega)) only [QR,QS,QT,QU,QV,QW,QX,QY,QZ,Q0,Q1,Q2,↓awU,awV,awF,Qa,Qb,Qc,Qd,forall_const,↓reduceIte,↓reduceDIte,↓Qe,Qf,Qg,Qh,Qi,Qj,Qk,Ql,Qm,Qn,Qo,Qp,Qq,Qr,Qs,implies_true,Qt,Qu,Qv,Qw,Qx,Qy,Qz,QA,QB,QC,QD,QE,QF,QG,QH,QI,QJ,QK,QL,QM,QN,QO,QP,QQ]
  refine CallC.of (tdtext_spec hE hP (Lib.trimB s 32) (by omega)) (by rfl) ?_
  simp (config:={maxSteps:=1000000}) (disch:=((try simp only [awL]);omega)) only [QR,QS,QT,QU,QV,QW,QX,QY,QZ,Q0,Q1,Q2,↓awU,awV,awF,Qa,Qb,Qc,Qd,forall_const,↓reduceIte,↓reduceDIte,↓Qe,Qf,Qg,Qh,Qi,Qj,Qk,Ql,Qm,Qn,Qo,Qp,Qq,Qr,Qs,implies_true,Qt,Qu,Qv,Qw,Qx,Qy,Qz,QA,QB,QC,QD,QE,QF,QG,QH,QI,QJ,QK,QL,QM,QN,QO,QP,QQ]
  first | done | rfl | exact ⟨by rfl,by rfl⟩
 ·have lk:=look_no h
  unfold noK at lk
  rw [(okK_no h s).1,(okK_no h s).2]
  simp (config:={maxSteps:=1000000}) (disch:=((try simp only [awL]);omega)) only [QR,QS,QT,QU,QV,QW,QX,QY,QZ,Q0,Q1,Q2,Tryz.f12,↓awU,awV,awF,Qa,Qb,Qc,Qd,forall_const,↓reduceIte,↓reduceDIte,↓Qe,Qf,Qg,Qh,Qi,Qj,Qk,Ql,Qm,Qn,Qo,Qp,Qq,Qr,Qs,implies_true,Qt,Qu,Qv,Qw,Qx,Qy,Qz,QA,QB,QC,QD,QE,QF,QG,QH,QI,QJ,QK,QL,QM,QN,QO,QP,QQ]
  refine CallC.by kinds_spec (by rfl) (by rfl) (Nat.zero_le _) ?_
  simp (config:={maxSteps:=1000000}) (disch:=((try simp only [awL]);omega)) only [QR,QS,QT,QU,QV,QW,QX,QY,QZ,Q0,Q1,Q2,kk,lk,↓awU,awV,awF,Qa,Qb,Qc,Qd,forall_const,↓reduceIte,↓reduceDIte,↓Qe,Qf,Qg,Qh,Qi,Qj,Qk,Ql,Qm,Qn,Qo,Qp,Qq,Qr,Qs,implies_true,Qt,Qu,Qv,Qw,Qx,Qy,Qz,QA,QB,QC,QD,QE,QF,QG,QH,QI,QJ,QK,QL,QM,QN,QO,QP,QQ]
  first | done | rfl | exact ⟨by rfl,by rfl⟩
instance (k:Int):Decidable (kOf k):=by unfold kOf;exact inferInstance
def nmK (k:Int):List UInt8:=if k=1 then [116,101,120,116] else if k=2 then [98,111,111,108] else if k=3 then [105,110,116,101,103,101,114] else if k=4 then [100,101,99,105,109,97,108] else if k=5 then [100,97,116,101] else []
end Go.Proofs.YtdpjcghiegggbaaGreatDoor
namespace Go.Proofs.YtdpjcghiegggbaaGreatDoor
open Go Go.Proofs Go.Abs Go.RowKit
variable {G:Globals}
def Keeps {α:Type} (m:Sem α):Prop:=∀ (P:Program) (W W':World) (v:α),m.run P W=.ok v W'→W'.tape=W.tape
theorem Keeps.pure {α:Type} (a:α):Keeps (Sem.pure a):=fun P W W' v h=>by simp only [Sem.run] at h;cases h;rfl
theorem Keeps.bind {α β:Type} {m:Sem α} {f:α→Sem β} (h:Keeps m) (g:∀ a,Keeps (f a)):Keeps (m >>= f):=fun P W W' v e=>by
 rw [Sem.run_bind] at e
 cases q:m.run P W with
 | ok a w=>rw [q] at e;exact (g a P w W' v e).trans (h P W w a q)
 | halt x w=>rw [q] at e;cases e
theorem Keeps.getObj (r:Nat):Keeps (getObj r):=fun P W W' v e=>by
 simp only [Go.getObj,Sem.run] at e
 split at e
 ·cases e
 ·cases e;rfl
 ·cases e
theorem Keeps.setObj (r:Nat) (o:Obj):Keeps (setObj r o):=fun P W W' v e=>by
 simp only [Go.setObj,Sem.run] at e
 split at e
 ·cases e
 ·cases e;rfl
 ·cases e
theorem Keeps.halt {α:Type} (x:Halt):Keeps (Sem.halt x:Sem α):=fun P W W' v e=>by simp only [Sem.run] at e;cases e
theorem set_same {w w':World} {r:Nat} {o x:Obj} (h:w'.heap=w.heap.setIfInBounds r o) (hr:w.heap[r]? = some x):w'.heap[r]? = some o:=by
 have:r<w.heap.size:=by
  rcases Nat.lt_or_ge r w.heap.size with q | q
  ·exact q
  ·rw [Array.getElem?_eq_none q] at hr;cases hr
 rw [h];simp [this]
theorem set_other {w w':World} {r k:Nat} {o:Obj} (h:w'.heap=w.heap.setIfInBounds r o) (hk:k≠r):w'.heap[k]? = w.heap[k]?:=by
 rw [h,Array.getElem?_setIfInBounds,if_neg (Ne.symm hk)]
def FnV (v:Value):Prop:=v=.nilFunc∨∃ f x y,v=.func f x y
theorem FnV.of {h:Held} {v:Value} {d:D} (hd:d=.nilf∨∃ n,d=kFn n) (r:RD h v d):FnV v:=by
 rcases hd with rfl | ⟨n,rfl⟩
 ·exact .inl (show R h (fun _=>none) v (.d .nilf) from .d _ _ r).nilf_inv
 ·obtain ⟨x,y,e⟩:=(show R h (fun _=>none) v (.d (.fn (.func n) [] [])) from .d _ _ r).fn_inv
  exact .inr ⟨_,x,y,e⟩
theorem FnV.store {P:Program} {v:Value} (hv:FnV v) (w:World) (c:Array Value) (T:TypeId) (i:Nat) (hi:i<c.size) :
  (store ⟨w.heap.size,i,none⟩ v).run P (w.alloc (.cells c T))=.ok () (w.alloc (.cells (c.setIfInBounds i v) T)):=by
 have h1:(w.alloc (.cells c T)).cell? ⟨w.heap.size,i,none⟩=some c[i]:=by
  rw [World.cell?];simp only [heap_alloc_new,Option.isSome_none,Bool.false_eq_true,if_false]
  exact Array.getElem?_eq_getElem hi
 have h2:=World.frozen?_alloc_new w c T i
 have h3:=World.setCell_alloc_new (w:=w) c T i v
 rcases hv with rfl | ⟨f,x,y,rfl⟩
 ·unfold Go.store;simp only [Sem.run,h1,h2,h3,Bool.false_eq_true,if_false]
 ·unfold Go.store;simp only [Sem.run,h1,h2,h3,Bool.false_eq_true,if_false]
structure NmR (r g:Nat) (es:Array MapEntry) (clock:Nat) (s:List UInt8) (w1 wr:World):Prop where
 bel:Below r w1 wr
 mp:wr.heap[g]? = some (.map es clock)
 it:∃ seen c0,wr.heap[r]? = some (.mapIter (some g) clock seen c0)∧clock≤c0∧∀ x∈es.toList,seen.contains x.born=true→∀ n:Int,x.key=.int .i64 n→nmK n≠s
theorem NmR.step {r g:Nat} {es:Array MapEntry} {clock:Nat} {s:List UInt8} {w1 wr w2 w3:World} (h:NmR r g es clock s w1 wr) (hg:g<r) (hn:(es.toList.map (·.born)).Nodup) {seen:Array Nat} {c0:Nat} (hr:wr.heap[r]? = some (.mapIter (some g) clock seen c0))
  (hno:∀ x∈es.toList,seen.contains x.born=true→∀ n:Int,x.key=.int .i64 n→nmK n≠s) {e:MapEntry} (he:e∈es.toList)
  (h2:w2.heap=wr.heap.setIfInBounds r (.mapIter (some g) clock (seen.push e.born) clock)) (o2:w2.os=wr.os) (t2:w2.tape=wr.tape) (u2:w2.output=wr.output) (h3:Below w2.heap.size w2 w3) {n:Int} (hk:e.key=.int .i64 n) (hne:nmK n≠s) :
  NmR r g es clock s w1 w3:=by
 have sz:w2.heap.size=wr.heap.size:=by rw [h2];simp
 have rlt:r<wr.heap.size:=by
  rcases Nat.lt_or_ge r wr.heap.size with q | q
  ·exact q
  ·rw [Array.getElem?_eq_none q] at hr;cases hr
 refine ⟨h.bel.trans (Below.trans (b:=w2) ⟨o2,t2,u2,by omega,fun k hk=>set_other h2 (by omega)⟩ (h3.mono (by omega))),?_,?_⟩
 ·rw [h3.block g (by omega),set_other h2 (by omega)];exact h.mp
 ·refine ⟨seen.push e.born,clock,?_,Nat.le_refl _,fun x hx hc m hm=>?_⟩
  ·rw [h3.block r (by omega)];exact set_same h2 hr
  ·rw [contains_push] at hc
   rcases Bool.or_eq_true _ _▸hc with q | q
   ·exact hno x hx q m hm
   ·obtain rfl:x=e:=born_inj hn hx he (beq_iff_eq.1 q)
    rw [hk] at hm;cases hm;exact hne
end Go.Proofs.YtdpjcghiegggbaaGreatDoor
namespace Go.Proofs.YtdpjcghiegggbaaGreatDoor
open Go Go.Proofs Go.Abs
variable {G:Globals}
theorem getD_le {l:List Nat} {m:Nat} (h:∀ i,i<l.length→l.getD i 0≤m) (i:Nat):l.getD i 0≤m:=by
 rcases Nat.lt_or_ge i l.length with h1 | h1
 ·exact h i h1
 ·rw [List.getD_eq_getElem?_getD,List.getElem?_eq_none h1];exact Nat.zero_le _
end Go.Proofs.YtdpjcghiegggbaaGreatDoor
namespace Go.Proofs.YtdpjcghiegggbaaGreatDoor
open Go Go.Proofs Go.Abs
variable {G:Globals}
end Go.Proofs.YtdpjcghiegggbaaGreatDoor
namespace Go.Proofs.YtdpjcghiegggbaaGreatDoor
open Go Go.Proofs Go.Abs
variable {G:Globals}
def nots (q:List Bool):List Bool:=q.map not
end Go.Proofs.YtdpjcghiegggbaaGreatDoor
namespace Go.Proofs.YtdpjcghiegggbaaGreatDoor
open Go Go.Proofs Go.Abs
variable {G:Globals}
theorem dg_byte {n:Nat} (h:n<10):(UInt8.ofNat (48+n)).toNat=48+n:=by simp;omega
theorem dec_ne (n:Nat):Lib.decDigits n≠[]:=by
 intro e
 have:=congrArg List.length e
 rw [Lib.decDigits_length] at this
 have:=Lib.nDigits_pos n
 simp at *;omega
theorem natGo_dec:∀ (n:Nat) (t:List UInt8),n<100000000→natGo 0 0 (Lib.decDigits n++t)=natGo n (Lib.decDigits n).length t:=by
 intro n
 induction n using Nat.strongRecOn with
 | _ n ih =>
  intro t hn
  rw [Lib.decDigits]
  split
  ·rw [List.singleton_append,natGo,dg_byte (by omega),if_neg (by omega)]
   congr 1;omega
  ·rw [List.append_assoc,ih _ (by omega) _ (by omega),List.singleton_append,natGo,dg_byte (by omega),if_neg (by omega),List.length_append]
   congr 1;omega
def natO (p:List UInt8):Option Nat:=match natGo 0 0 p with | some n=>if p=[] then none else some n | none=>none
theorem natO_dec {n:Nat} (hn:n<100000000):natO (Lib.decDigits n)=some n:=by
 have:=natGo_dec n [] hn
 rw [List.append_nil] at this
 rw [natO,this,natGo]
 simp only [if_neg (dec_ne n)]
end Go.Proofs.YtdpjcghiegggbaaGreatDoor
namespace Go.Proofs.YtdpjcghiegggbaaGreatDoor
open Go Go.Proofs Go.Abs
variable {G:Globals}
end Go.Proofs.YtdpjcghiegggbaaGreatDoor
namespace Go.Proofs.YtdpjcghiegggbaaGreatDoor
open Go Go.Proofs Go.Abs
variable {G:Globals}
end Go.Proofs.YtdpjcghiegggbaaGreatDoor
namespace Go.Proofs.YtdpjcghiegggbaaGreatDoor
open Go Go.Proofs Go.Abs
variable {G:Globals}
def LayI (l:List Nat):Prop:=l≠[]∧l.getD 0 0=0∧l.length≤4∧(∀ i,i<l.length→l.getD i 0≤12*i)∧∀ i,i+1<l.length→l.getD i 0<l.getD (i+1) 0
theorem LayI.step {l:List Nat} (h:LayI l) (hl:l.length<4) {c:Nat} (hc:c<12):LayI (l++[l.getD (l.length - 1) 0+1+c]):=by
 obtain ⟨h1,h2,h3,h4,h5⟩:=h
 have lp:0<l.length:=List.length_pos_iff.2 h1
 have old:∀ i,i<l.length→(l++[l.getD (l.length - 1) 0+1+c]).getD i 0=l.getD i 0:=fun i hi=>by
  rw [List.getD_eq_getElem?_getD,List.getElem?_append_left hi,← List.getD_eq_getElem?_getD]
 have new:(l++[l.getD (l.length - 1) 0+1+c]).getD l.length 0=l.getD (l.length - 1) 0+1+c:=by
  rw [List.getD_eq_getElem?_getD,List.getElem?_append_right (Nat.le_refl _),Nat.sub_self];rfl
 refine ⟨by simp,by rw [old 0 lp,h2],by rw [List.length_append,List.length_singleton];omega,fun i hi=>?_,fun i hi=>?_⟩
 ·rw [List.length_append,List.length_singleton] at hi
  rcases Nat.lt_or_ge i l.length with h | h
  ·rw [old i h];exact h4 i h
  ·obtain rfl:i=l.length:=by omega
   rw [new]
   have:=h4 (l.length - 1) (by omega)
   omega
 ·rw [List.length_append,List.length_singleton] at hi
  rcases Nat.lt_or_ge (i+1) l.length with h | h
  ·rw [old i (by omega),old (i+1) h];exact h5 i h
  ·have e:i+1=l.length:=by omega
   rw [e,new,old i (by omega)]
   have:i=l.length - 1:=by omega
   rw [this];omega
end Go.Proofs.YtdpjcghiegggbaaGreatDoor
namespace Go.Proofs.YtdpjcghiegggbaaGreatDoor
open Go Go.Proofs Go.Abs
def okT (s:List UInt8):Prop:=Lib.validD s=true∧s.length≤30
instance (s:List UInt8):Decidable (okT s):=by unfold okT;exact inferInstance
end Go.Proofs.YtdpjcghiegggbaaGreatDoor
namespace Go.Proofs.YtdpjcghiegggbaaGreatDoor
open Go Go.Proofs Go.Abs
variable {G:Globals}
def OkS (t:List Int):Prop:=∀ i,0≤t.getD i 0∧t.getD i 0≤255
theorem OkS.take {t:List Int} (h:OkS t):OkM (t.take 300):=by
 refine ⟨by rw [List.length_take];omega,fun i=>?_⟩
 rcases Nat.lt_or_ge i 300 with h1 | h1
 ·have:=h i
  rw [List.getD_eq_getElem?_getD,List.getElem?_take,if_pos h1,← List.getD_eq_getElem?_getD]
  exact this
 ·rw [List.getD_eq_getElem?_getD,List.getElem?_take,if_neg (by omega)];decide
end Go.Proofs.YtdpjcghiegggbaaGreatDoor
namespace Go.Proofs.YtdpjcghiegggbaaGreatDoor
open Go Go.Proofs Go.Abs
variable {G:Globals}
def okGW (g:List Row):Prop:=g.length≤1000000000∧∀ r∈g,r.length≤1000000000∧∀ s∈r,s.length≤9223372036854775807
theorem okGrid.w {g:List Row} (h:okGrid g):okGW g:=⟨h.1,fun r hr=>⟨(h.2 r hr).1,fun s hs=>by have:=(h.2 r hr).2 s hs;omega⟩⟩
def atG (g:List Row) (r c:Int):List UInt8:=if r<0∨c<0 then [] else (g.getD r.toNat []).getD c.toNat []
def widG (g:List Row):Nat:=g.foldl (fun m r=>max m r.length) 0
end Go.Proofs.YtdpjcghiegggbaaGreatDoor
namespace Go.Proofs.YtdpjcghiegggbaaGreatDoor
open Go Go.Proofs Go.Abs
variable {G:Globals}
end Go.Proofs.YtdpjcghiegggbaaGreatDoor
namespace Go.Proofs.YtdpjcghiegggbaaGreatDoor
open Go Go.Proofs Go.Abs
variable {G:Globals}
end Go.Proofs.YtdpjcghiegggbaaGreatDoor
namespace Go.Proofs.YtdpjcghiegggbaaGreatDoor
open Go Go.Proofs Go.Abs
end Go.Proofs.YtdpjcghiegggbaaGreatDoor
namespace Go.Proofs.YtdpjcghiegggbaaGreatDoor
open Go Go.Proofs Go.Abs
variable {G:Globals}
theorem atG_len {g:List Row} {m:Nat} (h:∀ r∈g,∀ s∈r,s.length≤m) (i k:Int):(atG g i k).length≤m:=by
 unfold atG
 split
 ·simp
 ·rcases Nat.lt_or_ge i.toNat g.length with h1 | h1
  ·have m1:=h _ (memD (d:=[]) h1)
   generalize g.getD i.toNat []=r at *
   rcases Nat.lt_or_ge k.toNat r.length with h2 | h2
   ·exact m1 _ (memD (d:=[]) h2)
   ·rw [List.getD_eq_getElem?_getD,List.getElem?_eq_none h2];simp
  ·have e:g.getD i.toNat []=[]:=by rw [List.getD_eq_getElem?_getD,List.getElem?_eq_none h1];rfl
   rw [e];simp
theorem okGrid.at {g:List Row} (h:okGrid g) (i k:Int):(atG g i k).length≤1000000000:=atG_len (fun r hr s hs=>(h.2 r hr).2 s hs) i k
end Go.Proofs.YtdpjcghiegggbaaGreatDoor
namespace Go.Proofs.YtdpjcghiegggbaaGreatDoor
open Go Go.Proofs Go.Abs
theorem LayI.mono {l:List Nat} (h:LayI l):∀ i,i+1<l.length→l.getD i 0≤l.getD (i+1) 0:=fun i hi=>Nat.le_of_lt (h.2.2.2.2 i hi)
theorem LayI.le {l:List Nat} (h:LayI l) (i:Nat):l.getD i 0≤48:=getD_le (fun i hi=>by have:=h.2.2.2.1 i hi;have:=h.2.2.1;omega) i
theorem LayI.pos {l:List Nat} (h:LayI l):0<l.length:=List.length_pos_iff.2 h.1
end Go.Proofs.YtdpjcghiegggbaaGreatDoor
namespace Go.Proofs.YtdpjcghiegggbaaGreatDoor
open Go Go.Proofs Go.Abs
variable {G:Globals}
end Go.Proofs.YtdpjcghiegggbaaGreatDoor
namespace Go.Proofs.YtdpjcghiegggbaaGreatDoor
open Go Go.Proofs Go.Abs
variable {G:Globals}
set_option maxRecDepth 100000 in
theorem mmod_spec (n m:Int) (hn1:-9223372036854775808≤n) (hn2:n≤9223372036854775807) (h0:0<m) (h1:m<4611686018427387904) :
  Ctr Tryz.prog G 9 [.d (.int .i64 n),.d (.int .i64 m)] [] (.d (.int .i64 (n % m))) []:=by
 have e:=Int.tmod_eq_emod (a:=n) (b:=m)
 have p1:=Int.emod_nonneg n (show m≠0 by omega)
 have p2:=Int.emod_lt_of_pos n h0
 have c0:-m<n.tmod m∧n.tmod m<m:=⟨Int.lt_tmod_of_pos n h0,Int.tmod_lt_of_pos n h0⟩
 have hh:(n.tmod m<0→n.tmod m+m=n % m)∧(¬ n.tmod m<0→n.tmod m=n % m):=by
  rw [e]
  split
  ·exact ⟨fun h=>by omega,fun _=>by omega⟩
  ·exact ⟨fun h=>by omega,fun h=>by omega⟩
 clear e
 refine Ctr.pure (M:=M0) hmix Tryz.func9 rfl go9 ?_
 simp (config:={maxSteps:=1000000}) (disch:=((try simp only [awL]);omega)) only [Tryz.f9,↓awU,awV,awF,Qa,Qb,Qc,Qd,forall_const,↓reduceIte,↓reduceDIte,↓Qe,Qf,Qg,Qh,Qi,Qj,Qk,Ql,Qm,Qn,Qo,Qp,Qq,Qr,Qs,implies_true,Qt,Qu,Qv,Qw,Qx,Qy,Qz,QA,QB,QC,QD,QE,QF,QG,QH,QI,QJ,QK,QL,QM,QN,QO,QP,QQ]
end Go.Proofs.YtdpjcghiegggbaaGreatDoor
namespace Go.Proofs.YtdpjcghiegggbaaGreatDoor
open Go Go.Proofs Go.Abs
variable {G:Globals}
def cmpI (x y:Int):Int:=if x<y then -1 else if y<x then 1 else 0
theorem isNaN_spec (x:Int):Ctr Tryz.prog G 83 [.d (.int .i64 x)] [] (.d (.bool false)) []:=by
 refine Ctr.pure (M:=M0) hmix Tryz.func83 rfl go83 ?_
 simp (config:={maxSteps:=1000000}) (disch:=((try simp only [awL]);omega)) only [QR,QS,QT,QU,QV,QW,QX,QY,QZ,Q0,Q1,Q2,Tryz.f83,↓awU,awV,awF,Qa,Qb,Qc,Qd,forall_const,↓reduceIte,↓reduceDIte,↓Qe,Qf,Qg,Qh,Qi,Qj,Qk,Ql,Qm,Qn,Qo,Qp,Qq,Qr,Qs,implies_true,Qt,Qu,Qv,Qw,Qx,Qy,Qz,QA,QB,QC,QD,QE,QF,QG,QH,QI,QJ,QK,QL,QM,QN,QO,QP,QQ]
 try rfl
theorem compare_spec (x y:Int):Ctr Tryz.prog G 50 [.d (.int .i64 x),.d (.int .i64 y)] [] (.d (.int .i64 (cmpI x y))) []:=by
 refine Ctr.pure (M:=M0) hmix Tryz.func50 rfl go50 ?_
 obtain ⟨r,hr⟩:∃ r,r=cmpI x y:=⟨_,rfl⟩
 rw [← hr]
 unfold cmpI at hr
 simp (config:={maxSteps:=1000000}) (disch:=((try simp only [awL]);omega)) only [QR,QS,QT,QU,QV,QW,QX,QY,QZ,Q0,Q1,Q2,Tryz.f50,↓awU,awV,awF,Qa,Qb,Qc,Qd,forall_const,↓reduceIte,↓reduceDIte,↓Qe,Qf,Qg,Qh,Qi,Qj,Qk,Ql,Qm,Qn,Qo,Qp,Qq,Qr,Qs,implies_true,Qt,Qu,Qv,Qw,Qx,Qy,Qz,QA,QB,QC,QD,QE,QF,QG,QH,QI,QJ,QK,QL,QM,QN,QO,QP,QQ]
 refine CallC.pure (isNaN_spec x) ?_
 simp (config:={maxSteps:=1000000}) (disch:=((try simp only [awL]);omega)) only [QR,QS,QT,QU,QV,QW,QX,QY,QZ,Q0,Q1,Q2,↓awU,awV,awF,Qa,Qb,Qc,Qd,forall_const,↓reduceIte,↓reduceDIte,↓Qe,Qf,Qg,Qh,Qi,Qj,Qk,Ql,Qm,Qn,Qo,Qp,Qq,Qr,Qs,implies_true,Qt,Qu,Qv,Qw,Qx,Qy,Qz,QA,QB,QC,QD,QE,QF,QG,QH,QI,QJ,QK,QL,QM,QN,QO,QP,QQ]
 refine CallC.pure (isNaN_spec y) ?_
 rcases (by omega:x<y∨y<x∨(¬ x<y∧¬ y<x)) with h | h | ⟨h1,h2⟩
 ·rw [if_pos h] at hr
  simp (config:={maxSteps:=1000000}) (disch:=((try simp only [awL]);omega)) only [QR,QS,QT,QU,QV,QW,QX,QY,QZ,Q0,Q1,Q2,↓awU,awV,awF,Qa,Qb,Qc,Qd,forall_const,↓reduceIte,↓reduceDIte,↓Qe,Qf,Qg,Qh,Qi,Qj,Qk,Ql,Qm,Qn,Qo,Qp,Qq,Qr,Qs,implies_true,Qt,Qu,Qv,Qw,Qx,Qy,Qz,QA,QB,QC,QD,QE,QF,QG,QH,QI,QJ,QK,QL,QM,QN,QO,QP,QQ]
  all_goals rw [hr]
 ·rw [if_neg (by omega),if_pos h] at hr
  simp (config:={maxSteps:=1000000}) (disch:=((try simp only [awL]);omega)) only [QR,QS,QT,QU,QV,QW,QX,QY,QZ,Q0,Q1,Q2,↓awU,awV,awF,Qa,Qb,Qc,Qd,forall_const,↓reduceIte,↓reduceDIte,↓Qe,Qf,Qg,Qh,Qi,Qj,Qk,Ql,Qm,Qn,Qo,Qp,Qq,Qr,Qs,implies_true,Qt,Qu,Qv,Qw,Qx,Qy,Qz,QA,QB,QC,QD,QE,QF,QG,QH,QI,QJ,QK,QL,QM,QN,QO,QP,QQ]
  all_goals rw [hr]
 ·rw [if_neg h1,if_neg h2] at hr
  simp (config:={maxSteps:=1000000}) (disch:=((try simp only [awL]);omega)) only [QR,QS,QT,QU,QV,QW,QX,QY,QZ,Q0,Q1,Q2,↓awU,awV,awF,Qa,Qb,Qc,Qd,forall_const,↓reduceIte,↓reduceDIte,↓Qe,Qf,Qg,Qh,Qi,Qj,Qk,Ql,Qm,Qn,Qo,Qp,Qq,Qr,Qs,implies_true,Qt,Qu,Qv,Qw,Qx,Qy,Qz,QA,QB,QC,QD,QE,QF,QG,QH,QI,QJ,QK,QL,QM,QN,QO,QP,QQ]
  all_goals rw [hr]
structure Opt where
 txt:List UInt8
 fr:Nat
 ag:Nat
 wd:Nat
abbrev Opt.cells (o:Opt):List D:=[S o.txt,.int .i64 o.fr,.int .i64 o.ag]
end Go.Proofs.YtdpjcghiegggbaaGreatDoor
namespace Go.Proofs.YtdpjcghiegggbaaGreatDoor
open Go Go.Proofs Go.Abs
variable {G:Globals}
end Go.Proofs.YtdpjcghiegggbaaGreatDoor
namespace Go.Proofs.YtdpjcghiegggbaaGreatDoor
open Go Go.Proofs Go.Abs
variable {G:Globals}
end Go.Proofs.YtdpjcghiegggbaaGreatDoor
namespace Go.Proofs.YtdpjcghiegggbaaGreatDoor
open Go Go.Proofs Go.Abs
variable {G:Globals}
theorem bs_beq {a b:List UInt8}:(bs a == bs b)=decide (a=b):=by
 have e:(bs a == bs b)=(a.toArray == b.toArray):=rfl
 rw [e]
 by_cases h:a=b
 ·subst h;simp
 ·rw [decide_eq_false h]
  exact beq_eq_false_iff_ne.2 fun q=>h (by simpa using q)
end Go.Proofs.YtdpjcghiegggbaaGreatDoor
namespace Go.Proofs.YtdpjcghiegggbaaGreatDoor
open Go Go.Proofs Go.Abs
variable {G:Globals}
end Go.Proofs.YtdpjcghiegggbaaGreatDoor
namespace Go.Proofs.YtdpjcghiegggbaaGreatDoor
open Go Go.Proofs Go.Abs
variable {G:Globals}
def updR (k d:D):List (D × D)→List (D × D)
 | []=>[(k,d)]
 | x::r=>if keyEq k x.1=true then (k,d)::r else x::updR k d r
theorem updE_R (k d:D):∀ m:List (D × D),updE m k d=updR k d m
 | []=>rfl
 | x::r=>by
   have ih:=updE_R k d r
   unfold updE at ih ⊢
   rw [findE,updR]
   by_cases h:keyEq k x.1=true
   ·rw [if_pos h,if_pos h];rfl
   ·rw [if_neg h,if_neg h]
    cases hf:findE k r with
    | none=>rw [hf] at ih;simp only [Option.map_none];rw [← ih];rfl
    | some y=>rw [hf] at ih;simp only [Option.map_some];rw [← ih];rfl
theorem keyEq_S (a b:List UInt8):keyEq (S a) (S b)=decide (a=b):=bs_beq
def KeyS (m:List (D × D)):Prop:=∀ e∈m,∃ s,e.1=S s
theorem KeyS.nil:KeyS []:=fun _ h=>by cases h
theorem KeyS.upd {m:List (D × D)} (h:KeyS m) (t:List UInt8) (d:D):KeyS (updE m (S t) d):=by
 rw [updE_R]
 induction m with
 | nil=>intro e he;exact ⟨t,by simp [updR] at he;rw [he]⟩
 | cons x r ih =>
  have i2:=ih fun e he=>h e (List.mem_cons_of_mem _ he)
  intro e he
  rw [updR] at he
  split at he
  ·rcases List.mem_cons.1 he with rfl | he
   ·exact ⟨t,rfl⟩
   ·exact h e (List.mem_cons_of_mem _ he)
  ·rcases List.mem_cons.1 he with rfl | he
   ·exact h _ (by simp)
   ·exact i2 e he
theorem KeyS.ok {m:List (D × D)} (h:KeyS m):keysOK Tryz.prog 9 m=true:=by
 unfold keysOK
 refine List.all_eq_true.2 fun e he=>?_
 obtain ⟨s,hs⟩:=h e he
 rw [hs]
 unfold isKeyD
 rw [ti9]
 rfl
theorem look_upd {m:List (D × D)} (h:KeyS m) (z d:D) (s t:List UInt8):lookV z (updE m (S t) d) (S s) false=if s=t then d else lookV z m (S s) false:=by
 rw [updE_R]
 induction m with
 | nil =>
  have e1:findE (S s) (updR (S t) d [])=if keyEq (S s) (S t)=true then some (0,d) else none:=rfl
  unfold lookV
  rw [e1,keyEq_S]
  by_cases e:s=t
  ·rw [if_pos e,if_pos (by simpa using e)];rfl
  ·rw [if_neg e,if_neg (by simpa using e)];rfl
 | cons x r ih =>
  have i2:=ih fun e he=>h e (List.mem_cons_of_mem _ he)
  obtain ⟨c,hc⟩:=h x (by simp)
  have look_cons:∀ (y:D × D) (l:List (D × D)) (c:List UInt8),y.1=S c→lookV z (y::l) (S s) false=if s=c then y.2 else lookV z l (S s) false:=by
   intro y l c hy
   unfold lookV
   rw [findE,hy,keyEq_S]
   by_cases e:s=c
   ·rw [if_pos e,if_pos (by simpa using e)];rfl
   ·rw [if_neg e,if_neg (by simpa using e)]
    cases findE (S s) l<;>rfl
  rw [updR,hc,keyEq_S]
  by_cases e:t=c
  ·rw [if_pos (by simpa using e),look_cons _ _ t rfl,look_cons _ _ c hc,← e]
   by_cases e2:s=t
   ·rw [if_pos e2,if_pos e2]
   ·rw [if_neg e2,if_neg e2,if_neg e2]
  ·rw [if_neg (by simpa using e),look_cons _ _ c hc,look_cons _ _ c hc,i2]
   by_cases e2:s=c
   ·rw [if_pos e2,if_neg (by rw [e2];exact fun q=>e q.symm),if_pos e2]
   ·rw [if_neg e2,if_neg e2]
def lastR (g:List Row) (n k:Nat):Row:=(List.range k).map fun (i:Nat)=>Lib.trimB (atG g ((n:Int) - 1) i) 32
theorem lastR_succ (g:List Row) (n k:Nat):lastR g n (k+1)=lastR g n k++[Lib.trimB (atG g ((n:Int) - 1) k) 32]:=by
 unfold lastR;rw [List.range_succ,List.map_append];rfl
def EvI (g:List Row) (m:Nat) (x:Nat × List (D × D)):Prop:=x.1≤widG g∧KeyS x.2∧(m=0∨∀ s,lookV (.bool false) x.2 (S s) false=.bool (decide (s∈lastR g m x.1)))
theorem EvI.z {g:List Row} {k:Nat} {mp:List (D × D)} (h:k≤widG g) (hm:KeyS mp):EvI g 0 (k,mp):=⟨h,hm,.inl rfl⟩
theorem EvI.s {g:List Row} {m k:Nat} {mp:List (D × D)} {l:List UInt8} (h:k+1≤widG g) (hm:KeyS mp) (hl:∀ s,lookV (.bool false) mp (S s) false=.bool (decide (s∈lastR g m k))) (e:l=Lib.trimB (atG g ((m:Int) - 1) k) 32) :
  EvI g m (k+1,updE mp (S l) (.bool true)):=⟨h,hm.upd _ _,.inr fun s=>by
 rw [look_upd hm,hl s,lastR_succ,← e]
 by_cases q:s=l
 ·rw [if_pos q,decide_eq_true (by simp [q])]
 ·rw [if_neg q];congr 1;exact decide_eq_decide.2 (by simp [q])⟩
end Go.Proofs.YtdpjcghiegggbaaGreatDoor
namespace Go.Proofs.YtdpjcghiegggbaaGreatDoor
open Go Go.Proofs Go.Abs
variable {G:Globals}
end Go.Proofs.YtdpjcghiegggbaaGreatDoor
namespace Go.Proofs.YtdpjcghiegggbaaGreatDoor
open Go Go.Proofs Go.Abs
variable {G:Globals}
end Go.Proofs.YtdpjcghiegggbaaGreatDoor
namespace Go.Proofs.YtdpjcghiegggbaaGreatDoor
open Go Go.Proofs Go.Abs
variable {G:Globals}
end Go.Proofs.YtdpjcghiegggbaaGreatDoor
namespace Go.Proofs.YtdpjcghiegggbaaGreatDoor
open Go Go.Proofs Go.Abs
variable {G:Globals}
end Go.Proofs.YtdpjcghiegggbaaGreatDoor
namespace Go.Proofs.YtdpjcghiegggbaaGreatDoor
open Go Go.Proofs Go.Abs
def okH (g:List Row):Prop:=g.length≤100∧∀ r∈g,r.length≤1000∧∀ s∈r,s.length≤1048576
theorem okH.ok {g:List Row} (h:okH g):okGrid g:=⟨by have:=h.1;omega,fun r hr=>⟨by have:=(h.2 r hr).1;omega,fun s hs=>by have:=(h.2 r hr).2 s hs;omega⟩⟩
theorem okH.at {g:List Row} (h:okH g) (i k:Int):(atG g i k).length≤1048576:=atG_len (fun r hr s hs=>(h.2 r hr).2 s hs) i k
def cand (b:List UInt8) (n:Nat):List UInt8:=b++[32]++Lib.decDigits n
theorem dec_inj {a b:Nat} (ha:a<100000000) (hb:b<100000000) (h:Lib.decDigits a=Lib.decDigits b):a=b:=by
 have e:=natO_dec ha
 rw [h,natO_dec hb] at e
 exact (Option.some.inj e).symm
theorem cand_inj {b:List UInt8} {m n:Nat} (hm:m<100000000) (hn:n<100000000) (h:cand b m=cand b n):m=n:=dec_inj hm hn (List.append_cancel_left h)
theorem cand_ne (b:List UInt8) (n:Nat):cand b n≠b:=fun h=>by
 have:=congrArg List.length h
 simp [cand] at this
def cands (b:List UInt8):Nat→List (List UInt8)
 | 0=>[b]
 | n+1=>cand b (n+2)::cands b n
theorem cands_len (b:List UInt8):∀ n,(cands b n).length=n+1
 | 0=>rfl
 | n+1=>by rw [cands,List.length_cons,cands_len b n]
theorem cands_mem {b s:List UInt8}:∀ {n},s∈cands b n→s=b∨∃ j,2≤j∧j≤n+1∧s=cand b j
 | 0,h=>.inl (List.mem_singleton.1 h)
 | n+1,h=>by
   rcases List.mem_cons.1 h with h | h
   ·exact .inr ⟨n+2,by omega,by omega,h⟩
   ·rcases cands_mem h with h | ⟨j,h1,h2,h3⟩
    ·exact .inl h
    ·exact .inr ⟨j,h1,by omega,h3⟩
theorem cands_nodup (b:List UInt8):∀ n,n<1000000→(cands b n).Nodup
 | 0,_=>List.nodup_cons.2 ⟨by simp,List.nodup_nil⟩
 | n+1,hn=>List.nodup_cons.2 ⟨fun h=>by
   rcases cands_mem h with h | ⟨j,h1,h2,h3⟩
   ·exact cand_ne _ _ h
   ·have:=cand_inj (by omega) (by omega) h3;omega,cands_nodup b n (by omega)⟩
theorem nodup_le:∀ {l out:List (List UInt8)},l.Nodup→(∀ s∈l,s∈out)→l.length≤out.length
 | [],_,_,_=>Nat.zero_le _
 | x::l,out,h,hs=>by
   obtain ⟨h1,h2⟩:=List.nodup_cons.1 h
   have hx:=hs x (by simp)
   have i:=nodup_le (l:=l) (out:=out.erase x) h2 fun s q=>by
    refine (List.mem_erase_of_ne (fun e=>?_)).2 (hs s (List.mem_cons_of_mem _ q))
    subst e;exact h1 q
   rw [List.length_erase_of_mem hx] at i
   have:=List.length_pos_of_mem hx
   simp only [List.length_cons];omega
def TakenTo (out:Row) (b:List UInt8) (n:Nat):Prop:=∀ j,2≤j→j<n→cand b j∈out
theorem takenTo_le {out:Row} {b:List UInt8} {n:Nat} (hb:b∈out) (h:TakenTo out b n) (hn:n<100000):n≤out.length+1:=by
 rcases Nat.lt_or_ge n 2 with h2 | h2
 ·omega
 ·have:=nodup_le (cands_nodup b (n - 2) (by omega)) (out:=out) fun s hs=>by
   rcases cands_mem hs with rfl | ⟨j,h1,h3,rfl⟩
   ·exact hb
   ·exact h j h1 (by omega)
  rw [cands_len] at this
  omega
def IsFree (out:Row) (b s:List UInt8):Prop:=s∉out∧(s=b∨(b∈out∧∃ n,2≤n∧s=cand b n∧TakenTo out b n))
theorem IsFree.uniq {out:Row} {b s t:List UInt8} (h1:IsFree out b s) (h2:IsFree out b t):s=t:=by
 obtain ⟨a1,a2⟩:=h1
 obtain ⟨b1,b2⟩:=h2
 rcases a2 with rfl | ⟨a2,n,a3,rfl,a4⟩
 ·rcases b2 with rfl | ⟨b2,_⟩
  ·rfl
  ·exact absurd b2 a1
 ·rcases b2 with rfl | ⟨b2,m,b3,rfl,b4⟩
  ·exact absurd a2 b1
  ·rcases Nat.lt_trichotomy n m with q | q | q
   ·exact absurd (b4 n a3 q) a1
   ·rw [q]
   ·exact absurd (a4 m b3 q) b1
def pickN (out:Row) (b:List UInt8):Nat→Nat→List UInt8
 | 0,n=>cand b n
 | f+1,n=>if cand b n∈out then pickN out b f (n+1) else cand b n
def nameN (out:Row) (b:List UInt8):List UInt8:=if b∈out then pickN out b out.length 2 else b
theorem pickN_free {out:Row} {b:List UInt8} (hb:b∈out) (ho:out.length<10000):∀ (f n:Nat),2≤n→TakenTo out b n→out.length+2≤f+n→n≤out.length+2→IsFree out b (pickN out b f n)
 | 0,n,h2,ht,hf,hn=>by
   rw [pickN]
   refine ⟨fun h=>?_,.inr ⟨hb,n,h2,rfl,ht⟩⟩
   have:=takenTo_le hb (n:=n+1) (fun j h1 h3=>by
    rcases Nat.lt_or_ge j n with q | q
    ·exact ht j h1 q
    ·rw [show j=n by omega];exact h) (by omega)
   omega
 | f+1,n,h2,ht,hf,hn=>by
   rw [pickN]
   by_cases h:cand b n∈out
   ·rw [if_pos h]
    have t2:TakenTo out b (n+1):=fun j h1 h3=>by
     rcases Nat.lt_or_ge j n with q | q
     ·exact ht j h1 q
     ·rw [show j=n by omega];exact h
    have:=takenTo_le hb t2 (by omega)
    exact pickN_free hb ho f (n+1) (by omega) t2 (by omega) (by omega)
   ·rw [if_neg h]
    exact ⟨h,.inr ⟨hb,n,h2,rfl,ht⟩⟩
theorem nameN_free {out:Row} {b:List UInt8} (ho:out.length<10000):IsFree out b (nameN out b):=by
 unfold nameN
 by_cases h:b∈out
 ·rw [if_pos h]
  exact pickN_free h ho _ _ (by omega) (fun j h1 h2=>by omega) (by omega) (by omega)
 ·rw [if_neg h];exact ⟨h,.inl rfl⟩
end Go.Proofs.YtdpjcghiegggbaaGreatDoor
namespace Go.Proofs.YtdpjcghiegggbaaGreatDoor
open Go Go.Proofs Go.Abs
variable {G:Globals}
def NxI (out:Row) (mn:List (D × D)):Prop:=KeyS mn∧∀ b,∃ nx:Nat,lookV (.int .i64 0) mn (S b) false=.int .i64 nx∧nx≤100000∧TakenTo out b nx
theorem NxI.nil (out:Row):NxI out []:=⟨KeyS.nil,fun b=>⟨0,rfl,by omega,fun j h1 h2=>by omega⟩⟩
theorem NxI.upd {out:Row} {mn:List (D × D)} (h:NxI out mn) {b:List UInt8} {n:Nat} (hn:n≤100000) (ht:TakenTo out b n):NxI out (updE mn (S b) (.int .i64 n)):=⟨h.1.upd _ _,fun c=>by
 rw [look_upd h.1]
 by_cases e:c=b
 ·rw [if_pos e];subst e;exact ⟨n,rfl,hn,ht⟩
 ·rw [if_neg e];exact h.2 c⟩
def TkI (out:Row) (mt:List (D × D)):Prop:=KeyS mt∧∀ s,lookV (.bool false) mt (S s) false=.bool (decide (s∈out))
theorem TkI.nil:TkI [] []:=⟨KeyS.nil,fun s=>rfl⟩
theorem TkI.upd {out:Row} {mt:List (D × D)} (h:TkI out mt) (t:List UInt8):TkI (out++[t]) (updE mt (S t) (.bool true)):=⟨h.1.upd _ _,fun s=>by
 rw [look_upd h.1]
 by_cases e:s=t
 ·rw [if_pos e,decide_eq_true (by simp [e])]
 ·rw [if_neg e,h.2 s];congr 1;exact decide_eq_decide.2 (by simp [e])⟩
def CurI (out:Row) (b:List UInt8) (n:Nat) (s:List UInt8):Prop:=2≤n∧n≤100001∧((s=b∧TakenTo out b n)∨(b∈out∧3≤n∧s=cand b (n - 1)∧TakenTo out b (n - 1)))
theorem CurI.step {out:Row} {b s:List UInt8} {n:Nat} (h:CurI out b n s) (hs:s∈out) (ho:out.length≤1000):n≤1001∧TakenTo out b n∧CurI out b (n+1) (cand b n):=by
 obtain ⟨h1,h0,h2⟩:=h
 have key:b∈out∧TakenTo out b n:=by
  rcases h2 with ⟨rfl,h3⟩ | ⟨h3,h4,rfl,h5⟩
  ·exact ⟨hs,h3⟩
  ·refine ⟨h3,fun j j1 j2=>?_⟩
   rcases Nat.lt_or_ge j (n - 1) with q | q
   ·exact h5 j j1 q
   ·rw [show j=n - 1 by omega];exact hs
 have le:n≤1001:=by
  rcases Nat.lt_or_ge n 100000 with q | q
  ·have:=takenTo_le key.1 key.2 q;omega
  ·have:=takenTo_le (n:=99999) key.1 (fun j j1 j2=>key.2 j j1 (by omega)) (by omega);omega
 exact ⟨le,key.2,by omega,by omega,.inr ⟨key.1,by omega,by rw [Nat.add_sub_cancel],by rw [Nat.add_sub_cancel];exact key.2⟩⟩
theorem CurI.fin {out:Row} {b s:List UInt8} {n:Nat} (h:CurI out b n s) (hs:s∉out) (ho:out.length≤1000):s=nameN out b:=by
 refine IsFree.uniq (out:=out) (b:=b) ⟨hs,?_⟩ (nameN_free (by omega))
 obtain ⟨h1,h0,h2⟩:=h
 rcases h2 with ⟨rfl,h3⟩ | ⟨h3,h4,rfl,h5⟩
 ·exact .inl rfl
 ·exact .inr ⟨h3,n - 1,by omega,rfl,h5⟩
end Go.Proofs.YtdpjcghiegggbaaGreatDoor
namespace Go.Proofs.YtdpjcghiegggbaaGreatDoor
open Go Go.Proofs Go.Abs
variable {G:Globals}
end Go.Proofs.YtdpjcghiegggbaaGreatDoor
namespace Go.Proofs.YtdpjcghiegggbaaGreatDoor
open Go Go.Proofs Go.Abs
variable {G:Globals}
end Go.Proofs.YtdpjcghiegggbaaGreatDoor
namespace Go.Proofs.YtdpjcghiegggbaaGreatDoor
open Go Go.Proofs Go.Abs
variable {G:Globals}
abbrev Cel:=List UInt8 × Bool
def noC:Cel:=([],false)
end Go.Proofs.YtdpjcghiegggbaaGreatDoor
namespace Go.Proofs.YtdpjcghiegggbaaGreatDoor
open Go Go.Proofs Go.Abs
variable {G:Globals}
end Go.Proofs.YtdpjcghiegggbaaGreatDoor
namespace Go.Proofs.YtdpjcghiegggbaaGreatDoor
open Go Go.Proofs Go.Abs
variable {G:Globals}
end Go.Proofs.YtdpjcghiegggbaaGreatDoor
namespace Go.Proofs.YtdpjcghiegggbaaGreatDoor
open Go Go.Proofs Go.Abs
variable {G:Globals}
end Go.Proofs.YtdpjcghiegggbaaGreatDoor
namespace Go.Proofs.YtdpjcghiegggbaaGreatDoor
open Go Go.Proofs Go.Abs
variable {G:Globals}
end Go.Proofs.YtdpjcghiegggbaaGreatDoor
namespace Go.Proofs.YtdpjcghiegggbaaGreatDoor.Num
open Go Go.Proofs Go.Abs
variable {G:Globals}
def OkM (t:List Int):Prop:=t.length≤300∧∀ i,0≤t.getD i 0∧t.getD i 0≤255
def pk (t:List Int) (k:Nat) (n:Int):Int:=t.getD k 0 % n
end Go.Proofs.YtdpjcghiegggbaaGreatDoor.Num
namespace Go.Proofs.YtdpjcghiegggbaaGreatDoor.Num
open Go Go.Proofs Go.Abs
variable {G:Globals}
def Fw (k:Nat) (x:Rat):Prop:=sz x.num≤k∧(toW x.den).length≤k
theorem Fw.mono {k m:Nat} {x:Rat} (h:Fw k x) (hk:k≤m):Fw m x:=⟨Nat.le_trans h.1 hk,Nat.le_trans h.2 hk⟩
end Go.Proofs.YtdpjcghiegggbaaGreatDoor.Num
namespace Go.Proofs.YtdpjcghiegggbaaGreatDoor.Num
open Go Go.Proofs Go.Abs
variable {G:Globals}
def OkS (t:List Int):Prop:=∀ i,0≤t.getD i 0∧t.getD i 0≤255
theorem OkS.take {t:List Int} (h:OkS t):OkM (t.take 300):=by
 refine ⟨by rw [List.length_take];omega,fun i=>?_⟩
 rw [List.getD_eq_getElem?_getD,List.getElem?_take]
 split
 ·rw [← List.getD_eq_getElem?_getD];exact h i
 ·simp
end Go.Proofs.YtdpjcghiegggbaaGreatDoor.Num
namespace Go.Proofs.YtdpjcghiegggbaaGreatDoor.Num
open Go Go.Proofs Go.Abs
variable {G:Globals}
def resF (n d:Int):D:=if d=0 then .tup [Zf,.int .i64 8] else if FV (Rat.divInt n d) then .tup [Frac (Rat.divInt n d),.int .i64 0] else .tup [Zf,.int .i64 3]
end Go.Proofs.YtdpjcghiegggbaaGreatDoor.Num
namespace Go.Proofs.YtdpjcghiegggbaaGreatDoor
open Go Go.Proofs Go.Abs
variable {G:Globals}
end Go.Proofs.YtdpjcghiegggbaaGreatDoor
namespace Go.Proofs.YtdpjcghiegggbaaGreatDoor
open Go Go.Proofs Go.Abs
variable {G:Globals}
def okU (l:List Cel):Prop:=l.length≤1000000∧∀ x∈l,x.1.length≤9223372036854775807
theorem okU.at {l:List Cel} (h:okU l) {i:Nat} (hi:i<l.length):(l.getD i noC).1.length≤9223372036854775807:=h.2 _ (memD (d:=noC) hi)
end Go.Proofs.YtdpjcghiegggbaaGreatDoor
namespace Go.Proofs.YtdpjcghiegggbaaGreatDoor
open Go Go.Proofs Go.Abs
variable {G:Globals}
end Go.Proofs.YtdpjcghiegggbaaGreatDoor
namespace Go.Proofs.YtdpjcghiegggbaaGreatDoor
open Go Go.Proofs Go.Abs
variable {G:Globals}
end Go.Proofs.YtdpjcghiegggbaaGreatDoor
namespace Go.Proofs.YtdpjcghiegggbaaGreatDoor
open Go Go.Proofs Go.Abs
variable {G:Globals}
def okY (l:List Cel):Prop:=l.length≤1000000∧∀ x∈l,x.1.length≤2000000
theorem okY.at {l:List Cel} (h:okY l) {i:Nat} (hi:i<l.length):(l.getD i noC).1.length≤2000000:=h.2 _ (memD (d:=noC) hi)
end Go.Proofs.YtdpjcghiegggbaaGreatDoor
namespace Go.Proofs.YtdpjcghiegggbaaGreatDoor
open Go Go.Proofs Go.Abs Go.RowKit Go.ChangeShapes Go.WideShapes Go.ChangeAt Go.Shelf Go.Joins Go.Deep
theorem own:ownKnob Tryz.prog.godebug=none:=by kernel_rfl
theorem laidOut:laidOutB Tryz.prog=true:=by kernel_rfl
theorem gOne:Tryz.prog.globalNamed "tablefinder/fraction.one" = some 1:=by kernel_rfl
theorem tOne:(Tryz.prog.globals[1]?).map (·.type)=some 121:=by kernel_rfl
theorem cU32:Tryz.prog.cellsOf 106=1:=by kernel_rfl
theorem mem_getD' {l:List Int} {i:Nat} {d:Int} (h:i<l.length):l.getD i d∈l:=by
 rw [List.getD_eq_getElem?_getD,List.getElem?_eq_getElem h];exact List.getElem_mem h
theorem cU8:Tryz.prog.cellsOf 5=1:=by kernel_rfl
theorem cU64:Tryz.prog.cellsOf 124=1:=by kernel_rfl
theorem list_u8 {l:List Int} (h:∀ n∈l,(Lit.int .u8 n).wf=true):∀ i,0≤l.getD i 0∧l.getD i 0≤255:=by
 intro i
 rcases Nat.lt_or_ge i l.length with hi | hi
 ·have:=h _ (mem_getD' (d:=0) hi)
  simp [Lit.wf,IntKind.min,IntKind.max,IntKind.bits,IntKind.signed] at this
  rw [List.getD_eq_getElem?_getD]
  omega
 ·rw [List.getD_eq_getElem?_getD,List.getElem?_eq_none hi];simp
def ReadV (X:World) (g:Nat) (ds:List D):Prop:=∃ vs:Nat→Value,(∀ (i:Nat) x,ds[i]? = some x→X.cell? ⟨g,i,none⟩=some (vs i))∧(∀ (i:Nat) x,ds[i]? = some x→RD (heldW X) (vs i) x)
theorem one_read {X:World} (h:Lib.VarReads Tryz.prog X "tablefinder/fraction.one" Rows.laid_tablefinder_fraction_one):ReadV X 1 [Num.W [1]]:=by
 obtain ⟨g,t,cs,fuel,p,hg,ht,hv,hd⟩:=h
 obtain rfl:=Option.some.inj (gOne.symm.trans hg)
 obtain rfl:=Option.some.inj (tOne.symm.trans ht)
 rcases open_ints Tryz.underlying121 Tryz.underlying106 cU32 hd with ⟨_,hx⟩ | ⟨a,len,cap,zs,hcs,_,hl,hm,hz,hx,hcell,_⟩
 ·simp [Rows.laid_tablefinder_fraction_one] at hx
 ·have hz:zs.length=cap:=by simpa using hz
  simp only [Rows.laid_tablefinder_fraction_one,Prod.mk.injEq,DataW.slice.injEq] at hx
  obtain ⟨⟨h1,h2⟩,_⟩:=hx
  have e1:(zs.take len).length=1:=by
   have:=congrArg List.length h1;simpa [lits] using this.symm
  have e2:(zs.drop len).length=0:=by
   have:=congrArg List.length h2;simpa [lits] using this.symm
  have e3:len=1∧cap=1:=by simp at e1 e2;omega
  obtain ⟨rfl,rfl⟩:=e3
  obtain ⟨z,rfl⟩:∃ z,zs=[z]:=by
   match zs,hz with
   | [z],_=>exact ⟨z,rfl⟩
  have ez:z=1:=by
   have:=h1;simp [lits] at this;exact this.symm
  subst ez
  have hz0:=World.var?_cell hg hv 0
  have e4:cs[0]? = some (.slice (some a) 1 1):=by
   have:cs=#[.slice (some a) 1 1]:=by rw [← Array.toArray_toList (xs:=cs),hcs]
   rw [this];rfl
  rw [e4] at hz0
  rcases RD_ints (W:=X) (k:=.u32) hl (by simp) hcell with hr | hr
  ·refine ⟨fun _=>.slice (some a) 1 1,fun i x hx=>?_,fun i x hx=>?_⟩
   ·rcases i with _ | i
    ·exact hz0
    ·simp at hx
   ·rcases i with _ | i
    ·simp at hx;subst hx;exact hr
    ·simp at hx
  ·cases hr
theorem pow_eq:(Rows.laid_internal_strconv_uint64pow10:DataW Unit)=Lib.tabData .u64 Lib.pow10Tab:=by kernel_rfl
theorem gPow:Tryz.prog.globalNamed "internal/strconv.uint64pow10" = some 2:=by kernel_rfl
theorem tPow:(Tryz.prog.globals[2]?).map (·.type)=some 194:=by kernel_rfl
theorem cPow:Tryz.prog.cellsOf 194=20:=by kernel_rfl
theorem pow_read {X:World} (h3:Lib.VarReads Tryz.prog X "internal/strconv.uint64pow10" Rows.laid_internal_strconv_uint64pow10):ReadV X 2 (ints .u64 Lib.pow10Tab):=by
 rw [pow_eq] at h3
 obtain ⟨g',t,cs,fuel,p,hg',ht',hvar,hd⟩:=h3
 obtain rfl:=Option.some.inj (gPow.symm.trans hg')
 obtain rfl:=Option.some.inj (tPow.symm.trans ht')
 have hcs:=Lib.cells_of_tab Tryz.underlying194 Tryz.underlying124 cU64 cPow hd
 refine ⟨fun i=>.int .u64 (Lib.pow10Tab.getD i 0),fun i x hx=>?_,fun i x hx=>?_⟩
 ·have hi:i<Lib.pow10Tab.length:=by have:=(List.getElem?_eq_some_iff.1 hx).1;simpa [ints] using this
  show X.cell? ⟨_,i,none⟩=_
  rw [World.var?_cell hg' hvar i,← Array.getElem?_toList,hcs]
  simp [hi]
 ·have hi:i<Lib.pow10Tab.length:=by have:=(List.getElem?_eq_some_iff.1 hx).1;simpa [ints] using this
  simp only [ints,List.getElem?_map,List.getElem?_eq_getElem hi,Option.map_some,Option.some.injEq] at hx
  subst hx
  show RD _ (Value.int .u64 (Lib.pow10Tab.getD i 0)) _
  rw [List.getD_eq_getElem?_getD,List.getElem?_eq_getElem hi]
  exact .int _ _
theorem gSyn:Tryz.prog.globalNamed "strconv.ErrSyntax" = some 4:=by kernel_rfl
theorem tSyn:(Tryz.prog.globals[4]?).map (·.type)=some 135:=by kernel_rfl
theorem gRan:Tryz.prog.globalNamed "strconv.ErrRange" = some 5:=by kernel_rfl
theorem tRan:(Tryz.prog.globals[5]?).map (·.type)=some 135:=by kernel_rfl
theorem iface_read {X:World} {g:Nat} {n nm:String} {d:DataW Unit} (hg0:Tryz.prog.globalNamed n=some g) (ht0:(Tryz.prog.globals[g]?).map (·.type)=some 135) (h:Lib.VarReads Tryz.prog X n (.iface nm d)):ReadV X g [.ifc]:=by
 obtain ⟨g',t,cs,fuel,p,hg,ht,hv,hd⟩:=h
 obtain rfl:=Option.some.inj (hg0.symm.trans hg)
 obtain rfl:=Option.some.inj (ht0.symm.trans ht)
 obtain ⟨f2,u,v,hcs,_,_⟩:=iface_of_trod Tryz.underlying135 hd
 have hc:X.cell? ⟨g,0,none⟩=some (.iface u v):=by
  rw [World.var?_cell hg hv 0,← Array.getElem?_toList,hcs]
  rfl
 refine ⟨fun _=>.iface u v,fun i x hx=>?_,fun i x hx=>?_⟩
 ·rcases i with _ | i
  ·exact hc
  ·simp at hx
 ·rcases i with _ | i
  ·simp at hx;subst hx;exact .ifc _ _
  ·simp at hx
def G6:Globals:=fun g=>if g=1 then some [Num.W [1]] else if g=2 then some (ints .u64 Lib.pow10Tab)
 else if g=4 then some [.ifc] else if g=5 then some [.ifc] else none
theorem hG6:Num.HG G6:=by simp [Num.HG,G6]
theorem hP6:HP G6:=rfl
theorem hE6:HE G6:=⟨rfl,rfl⟩
theorem globOK6 {X:World} (h1:Lib.VarReads Tryz.prog X "tablefinder/fraction.one" Rows.laid_tablefinder_fraction_one) (h2:Lib.VarReads Tryz.prog X "internal/strconv.uint64pow10" Rows.laid_internal_strconv_uint64pow10)
  (h3:Lib.VarReads Tryz.prog X "strconv.ErrSyntax" Rows.laid_strconv_ErrSyntax) (h4:Lib.VarReads Tryz.prog X "strconv.ErrRange" Rows.laid_strconv_ErrRange):GlobOK G6 X:=by
 intro g ds hgd
 unfold G6 at hgd
 split at hgd
 ·rename_i e;subst e;cases hgd;exact one_read h1
 ·split at hgd
  ·rename_i e;subst e;cases hgd;exact pow_read h2
  ·split at hgd
   ·rename_i e;subst e;cases hgd;exact iface_read gSyn tSyn h3
   ·split at hgd
    ·rename_i e;subst e;cases hgd;exact iface_read gRan tRan h4
    ·cases hgd
end Go.Proofs.YtdpjcghiegggbaaGreatDoor
