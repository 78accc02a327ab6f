/-
  Contracts of the functions, one after another.
-/
import Derived.Test.YtdpjcghiegggbaaGreatDoorMb3
import Derived.Laws.IdiomRangeMap
set_option linter.all false
open Go.Abs renaming HWeak→HW,BWeak→BW,SWeak→SW,AWeak→AW,setsA→sA,keepA→kA
open Go.Proofs.Tryz renaming prog→TP
set_option maxHeartbeats 16000000
set_option maxRecDepth 1000000
open Go.Abs renaming purePost→Qe
open Nat renaming reduceAdd→Qu,reduceSub→Qv,reduceMul→Qw,reducePow→Qx,reduceDiv→Qy,reduceMod→Qz,reduceEqDiff→QI,reduceBEq→QK
open Int renaming reduceAdd→QA,reduceSub→QB,reduceMul→QC,reducePow→QD,reduceNeg→QE,reduceToNat→QF,reduceLT→QG,reduceLE→QH
namespace Go.Proofs.YtdpjcghiegggbaaGreatDoor
open Go Go.Proofs Go.Abs
variable {G:Globals}
theorem day_spec (y m d:Int) (y1:-9223372036854775808≤y) (y2:y≤9223372036854775807) (m1:-9223372036854775808≤m) (m2:m≤9223372036854775807) (d1:-9223372036854775808≤d) (d2:d≤9223372036854775807) :
  Ctr TP G 36 [.d (.int .i64 y),.d (.int .i64 m),.d (.int .i64 d)] [] (.d (.tup [.int .i64 (dayV y m d),.bool (okDt y m d)])) []:=by
 refine Ctr.pure (M:=M0) hmix Tryz.func36 rfl go36 ?_
 have lp:=lenM_pos y m
 by_cases ok:1≤y∧y≤9999∧1≤m∧m≤12∧1≤d∧d≤lenM y m
 ·have okd:okDt y m d=true:=decide_eq_true ok
  have dv:dayV y m d=dayN y m d:=by unfold dayV;rw [if_pos okd]
  rw [okd,dv]
  obtain ⟨o1,o2,o3,o4,o5,o6⟩:=ok
  have bl:=bgn_le o1 (by omega)
  obtain ⟨k,hk,hk2⟩:∃ k:Nat,m=(k+1:Nat)∧k≤11:=⟨(m - 1).toNat,by omega,by omega⟩
  have ml:=monS_le y k
  have e0:dayN y m d=bgn y+monS y k+d - 1 - 719162:=by unfold dayN;rw [show (m - 1).toNat=k by omega]
  rw [e0]
  simp (config:={maxSteps:=1000000}) (disch:=(try simp only [awL]);omega) only [awS,Tryz.f36,↓awU,awV,awX,awF,↓reduceIte,↓reduceDIte,↓Qe,Qu,Qv,Qw,Qx,Qy,Qz,QA,QB,QC,QD,QE,QF,QG,QH,QI,QK]
  refine CallC.of (length_spec y m y1 y2 m1 m2) (by rfl) ?_
  simp (config:={maxSteps:=1000000}) (disch:=(try simp only [awL]);omega) only [awS,↓awU,awV,awX,awF,↓reduceIte,↓reduceDIte,↓Qe,Qu,Qv,Qw,Qx,Qy,Qz,QA,QB,QC,QD,QE,QF,QG,QH,QI,QK]
  refine CallC.of (began_spec y o1 (by omega)) (by rfl) ?_
  simp (config:={maxSteps:=1000000}) (disch:=(try simp only [awL]);omega) only [awS,↓awU,awV,awX,awF,↓reduceIte,↓reduceDIte,↓Qe,Qu,Qv,Qw,Qx,Qy,Qz,QA,QB,QC,QD,QE,QF,QG,QH,QI,QK]
  refine LoopC.fr 3 (α:=Nat) (fun i=>k - i) (fun i=>[(8,.d (.int .i64 (bgn y+d - 1+monS y i))),(9,.d (.int .i64 (i+1:Nat)))]) (fun _=>[]) (fun i=>i≤k) 0 (Nat.zero_le _) ?_ ?_
  ·exact ⟨[],rfl,by simp,by simp [sA,kA,SW,AW,monS],by simp [HW,BW,SW,AW]⟩
  ·intro i hi
   have mi:=monS_le y i
   have ms:monS y (i+1)=monS y i+lenM y (i+1:Nat):=rfl
   have mi2:=monS_le y (i+1)
   simp only [awK,Nat.reduceMod,Nat.reduceDiv,reduceIte]
   rcases Nat.lt_or_ge i k with h | h
   ·simp (config:={maxSteps:=1000000}) (disch:=(try simp only [awL]);omega) only [awS,↓awU,awV,awX,awF,↓reduceIte,↓reduceDIte,↓Qe,Qu,Qv,Qw,Qx,Qy,Qz,QA,QB,QC,QD,QE,QF,QG,QH,QI,QK]
    refine CallC.of (length_spec y ((i+1:Nat):Int) y1 y2 (by omega) (by omega)) (by rfl) ?_
    have e1:bgn y+d - 1+monS y i+lenM y ((i+1:Nat):Int)=bgn y+d - 1+monS y (i+1):=by omega
    have l2:=lenM_pos y ((i+1:Nat):Int)
    simp (config:={maxSteps:=1000000}) (disch:=(try simp only [awL]);omega) only [awS,e1,↓awU,awV,awX,awF,↓reduceIte,↓reduceDIte,↓Qe,Qu,Qv,Qw,Qx,Qy,Qz,QA,QB,QC,QD,QE,QF,QG,QH,QI,QK]
    first
    | exact ⟨i+1,h,by simp only;omega,⟨[],rfl,by simp,by simp [sA,kA,SW,AW],by simp [HW,BW,SW,AW]⟩⟩
   ·have e:i=k:=by omega
    subst e
    have e2:bgn y+d - 1+monS y i - 719162=bgn y+monS y i+d - 1 - 719162:=by omega
    simp (config:={maxSteps:=1000000}) (disch:=(try simp only [awL]);omega) only [awS,e2,↓awU,awV,awX,awF,↓reduceIte,↓reduceDIte,↓Qe,Qu,Qv,Qw,Qx,Qy,Qz,QA,QB,QC,QD,QE,QF,QG,QH,QI,QK]
    first | done | rfl
 ·have okd:okDt y m d=false:=decide_eq_false ok
  have dv:dayV y m d=0:=by unfold dayV;rw [okd];rfl
  rw [okd,dv]
  by_cases o1:1≤y
  ·by_cases o2:y≤9999
   ·by_cases o3:1≤m
    ·by_cases o4:m≤12
     ·by_cases o5:1≤d
      ·have o6:¬ d≤lenM y m:=fun q=>ok ⟨o1,o2,o3,o4,o5,q⟩
       simp (config:={maxSteps:=1000000}) (disch:=(try simp only [awL]);omega) only [awS,Tryz.f36,↓awU,awV,awX,awF,↓reduceIte,↓reduceDIte,↓Qe,Qu,Qv,Qw,Qx,Qy,Qz,QA,QB,QC,QD,QE,QF,QG,QH,QI,QK]
       refine CallC.of (length_spec y m y1 y2 m1 m2) (by rfl) ?_
       simp (config:={maxSteps:=1000000}) (disch:=(try simp only [awL]);omega) only [awS,↓awU,awV,awX,awF,↓reduceIte,↓reduceDIte,↓Qe,Qu,Qv,Qw,Qx,Qy,Qz,QA,QB,QC,QD,QE,QF,QG,QH,QI,QK]
       first | done | rfl
      ·simp (config:={maxSteps:=1000000}) (disch:=(try simp only [awL]);omega) only [awS,Tryz.f36,↓awU,awV,awX,awF,↓reduceIte,↓reduceDIte,↓Qe,Qu,Qv,Qw,Qx,Qy,Qz,QA,QB,QC,QD,QE,QF,QG,QH,QI,QK]
       first | done | rfl
     ·simp (config:={maxSteps:=1000000}) (disch:=(try simp only [awL]);omega) only [awS,Tryz.f36,↓awU,awV,awX,awF,↓reduceIte,↓reduceDIte,↓Qe,Qu,Qv,Qw,Qx,Qy,Qz,QA,QB,QC,QD,QE,QF,QG,QH,QI,QK]
      first | done | rfl
    ·simp (config:={maxSteps:=1000000}) (disch:=(try simp only [awL]);omega) only [awS,Tryz.f36,↓awU,awV,awX,awF,↓reduceIte,↓reduceDIte,↓Qe,Qu,Qv,Qw,Qx,Qy,Qz,QA,QB,QC,QD,QE,QF,QG,QH,QI,QK]
     first | done | rfl
   ·simp (config:={maxSteps:=1000000}) (disch:=(try simp only [awL]);omega) only [awS,Tryz.f36,↓awU,awV,awX,awF,↓reduceIte,↓reduceDIte,↓Qe,Qu,Qv,Qw,Qx,Qy,Qz,QA,QB,QC,QD,QE,QF,QG,QH,QI,QK]
    first | done | rfl
  ·simp (config:={maxSteps:=1000000}) (disch:=(try simp only [awL]);omega) only [awS,Tryz.f36,↓awU,awV,awX,awF,↓reduceIte,↓reduceDIte,↓Qe,Qu,Qv,Qw,Qx,Qy,Qz,QA,QB,QC,QD,QE,QF,QG,QH,QI,QK]
   first | done | rfl
theorem rday_spec (y m d:Int) (y1:-9223372036854775808≤y) (y2:y≤9223372036854775807) (m1:-9223372036854775808≤m) (m2:m≤9223372036854775807) (d1:-9223372036854775808≤d) (d2:d≤9223372036854775807) :
  Ctr TP G 60 [.d (.int .i64 y),.d (.int .i64 m),.d (.int .i64 d)] [] (.d (.tup [.int .i64 (dayV y m d),.bool (okDt y m d)])) []:=by
 refine Ctr.pure (M:=M0) hmix Tryz.func60 rfl go60 ?_
 have lp:=lenM_pos y m
 by_cases ok:1≤y∧y≤9999∧1≤m∧m≤12∧1≤d∧d≤lenM y m
 ·have okd:okDt y m d=true:=decide_eq_true ok
  have dv:dayV y m d=dayN y m d:=by unfold dayV;rw [if_pos okd]
  rw [okd,dv]
  obtain ⟨o1,o2,o3,o4,o5,o6⟩:=ok
  have bl:=bgn_le o1 (by omega)
  obtain ⟨k,hk,hk2⟩:∃ k:Nat,m=(k+1:Nat)∧k≤11:=⟨(m - 1).toNat,by omega,by omega⟩
  have ml:=monS_le y k
  have e0:dayN y m d=bgn y+monS y k+d - 1 - 719162:=by unfold dayN;rw [show (m - 1).toNat=k by omega]
  rw [e0]
  simp (config:={maxSteps:=1000000}) (disch:=(try simp only [awL]);omega) only [awS,Tryz.f60,↓awU,awV,awX,awF,↓reduceIte,↓reduceDIte,↓Qe,Qu,Qv,Qw,Qx,Qy,Qz,QA,QB,QC,QD,QE,QF,QG,QH,QI,QK]
  refine CallC.of (rlength_spec y m y1 y2 m1 m2) (by rfl) ?_
  simp (config:={maxSteps:=1000000}) (disch:=(try simp only [awL]);omega) only [awS,↓awU,awV,awX,awF,↓reduceIte,↓reduceDIte,↓Qe,Qu,Qv,Qw,Qx,Qy,Qz,QA,QB,QC,QD,QE,QF,QG,QH,QI,QK]
  refine LoopC.fx 7 (α:=Nat) (β:=Unit) (fun i=>y.toNat - i) (fun i=>[(8,.d (.int .i64 (bgn (i+1:Nat)))),(9,.d (.int .i64 (i+1:Nat)))]) (fun _=>[]) (fun i=>((i+1:Nat):Int)≤y) 7 (fun _=>[(8,.d (.int .i64 (bgn y)))]) (fun _=>[]) (fun _=>True) 0 (by omega) ?_ ?_ ?_
  ·exact ⟨[],rfl,by simp,by simp [sA,kA,SW,AW,bgn_one],by simp [HW,BW,SW,AW]⟩
  ·intro i hi
   have bi:=bgn_le (y:=((i+1:Nat):Int)) (by omega) (by omega)
   have bs:=bgn_succ (y:=((i+1:Nat):Int)) (by omega)
   unfold yrL at bs
   have c1:((i+1:Nat):Int)+1=((i+1+1:Nat):Int):=by omega
   rw [c1] at bs
   simp only [awK,Nat.reduceMod,Nat.reduceDiv,reduceIte]
   by_cases h:((i+1:Nat):Int)<y
   ·simp (config:={maxSteps:=1000000}) (disch:=(try simp only [awL]);omega) only [awS,↓awU,awV,awX,awF,↓reduceIte,↓reduceDIte,↓Qe,Qu,Qv,Qw,Qx,Qy,Qz,QA,QB,QC,QD,QE,QF,QG,QH,QI,QK]
    refine CallC.of (rleap_spec ((i+1:Nat):Int) (by omega) (by omega)) (by rfl) ?_
    cases lb:leapB ((i+1:Nat):Int)
    ·rw [lb,if_neg Bool.false_ne_true] at bs
     have e1:bgn ((i+1:Nat):Int)+365=bgn ((i+1+1:Nat):Int):=bs.symm
     simp (config:={maxSteps:=1000000}) (disch:=(try simp only [awL]);omega) only [awS,e1,↓awU,awV,awX,awF,↓reduceIte,↓reduceDIte,↓Qe,Qu,Qv,Qw,Qx,Qy,Qz,QA,QB,QC,QD,QE,QF,QG,QH,QI,QK]
     first
     | exact ⟨i+1,by omega,by simp only;omega,⟨[],rfl,by simp,by simp [sA,kA,SW,AW],by simp [HW,BW,SW,AW]⟩⟩
    ·rw [lb,if_pos rfl] at bs
     have e1:bgn ((i+1:Nat):Int)+365+1=bgn ((i+1+1:Nat):Int):=by omega
     simp (config:={maxSteps:=1000000}) (disch:=(try simp only [awL]);omega) only [awS,e1,↓awU,awV,awX,awF,↓reduceIte,↓reduceDIte,↓Qe,Qu,Qv,Qw,Qx,Qy,Qz,QA,QB,QC,QD,QE,QF,QG,QH,QI,QK]
     first
     | exact ⟨i+1,by omega,by simp only;omega,⟨[],rfl,by simp,by simp [sA,kA,SW,AW],by simp [HW,BW,SW,AW]⟩⟩
   ·have e:((i+1:Nat):Int)=y:=by omega
    rw [e] at bi
    simp (config:={maxSteps:=1000000}) (disch:=(try simp only [awL]);omega) only [awS,↓awU,awV,awX,awF,↓reduceIte,↓reduceDIte,↓Qe,Qu,Qv,Qw,Qx,Qy,Qz,QA,QB,QC,QD,QE,QF,QG,QH,QI,QK]
    first
    | (refine ⟨(),trivial,?_⟩;rw [e];exact ⟨[],rfl,by simp,by simp [sA,kA,SW,AW],by simp [HW,BW,SW,AW]⟩)
  rintro ⟨⟩ -
  simp only [awK,Nat.reduceMod,Nat.reduceDiv,reduceIte]
  simp (config:={maxSteps:=1000000}) (disch:=(try simp only [awL]);omega) only [awS,↓awU,awV,awX,awF,↓reduceIte,↓reduceDIte,↓Qe,Qu,Qv,Qw,Qx,Qy,Qz,QA,QB,QC,QD,QE,QF,QG,QH,QI,QK]
  refine LoopC.fr 7 (α:=Nat) (fun i=>k - i) (fun i=>[(8,.d (.int .i64 (bgn y+monS y i))),(10,.d (.int .i64 (i+1:Nat)))]) (fun _=>[]) (fun i=>i≤k) 0 (Nat.zero_le _) ?_ ?_
  ·exact ⟨[],rfl,by simp,by simp [sA,kA,SW,AW,monS],by simp [HW,BW,SW,AW]⟩
  ·intro i hi
   have mi:=monS_le y i
   have ms:monS y (i+1)=monS y i+lenM y (i+1:Nat):=rfl
   have mi2:=monS_le y (i+1)
   simp only [awK,Nat.reduceMod,Nat.reduceDiv,reduceIte]
   rcases Nat.lt_or_ge i k with h | h
   ·simp (config:={maxSteps:=1000000}) (disch:=(try simp only [awL]);omega) only [awS,↓awU,awV,awX,awF,↓reduceIte,↓reduceDIte,↓Qe,Qu,Qv,Qw,Qx,Qy,Qz,QA,QB,QC,QD,QE,QF,QG,QH,QI,QK]
    refine CallC.of (rlength_spec y ((i+1:Nat):Int) y1 y2 (by omega) (by omega)) (by rfl) ?_
    have e1:bgn y+monS y i+lenM y ((i+1:Nat):Int)=bgn y+monS y (i+1):=by omega
    have l2:=lenM_pos y ((i+1:Nat):Int)
    simp (config:={maxSteps:=1000000}) (disch:=(try simp only [awL]);omega) only [awS,e1,↓awU,awV,awX,awF,↓reduceIte,↓reduceDIte,↓Qe,Qu,Qv,Qw,Qx,Qy,Qz,QA,QB,QC,QD,QE,QF,QG,QH,QI,QK]
    first
    | exact ⟨i+1,h,by simp only;omega,⟨[],rfl,by simp,by simp [sA,kA,SW,AW],by simp [HW,BW,SW,AW]⟩⟩
   ·have e:i=k:=by omega
    subst e
    have e2:bgn y+monS y i+d - 1 - 719162=bgn y+monS y i+d - 1 - 719162:=rfl
    simp (config:={maxSteps:=1000000}) (disch:=(try simp only [awL]);omega) only [awS,e2,↓awU,awV,awX,awF,↓reduceIte,↓reduceDIte,↓Qe,Qu,Qv,Qw,Qx,Qy,Qz,QA,QB,QC,QD,QE,QF,QG,QH,QI,QK]
    first | done | rfl
 ·have okd:okDt y m d=false:=decide_eq_false ok
  have dv:dayV y m d=0:=by unfold dayV;rw [okd];rfl
  rw [okd,dv]
  by_cases o1:1≤y
  ·by_cases o2:y≤9999
   ·by_cases o3:1≤m
    ·by_cases o4:m≤12
     ·by_cases o5:1≤d
      ·have o6:¬ d≤lenM y m:=fun q=>ok ⟨o1,o2,o3,o4,o5,q⟩
       simp (config:={maxSteps:=1000000}) (disch:=(try simp only [awL]);omega) only [awS,Tryz.f60,↓awU,awV,awX,awF,↓reduceIte,↓reduceDIte,↓Qe,Qu,Qv,Qw,Qx,Qy,Qz,QA,QB,QC,QD,QE,QF,QG,QH,QI,QK]
       refine CallC.of (rlength_spec y m y1 y2 m1 m2) (by rfl) ?_
       simp (config:={maxSteps:=1000000}) (disch:=(try simp only [awL]);omega) only [awS,↓awU,awV,awX,awF,↓reduceIte,↓reduceDIte,↓Qe,Qu,Qv,Qw,Qx,Qy,Qz,QA,QB,QC,QD,QE,QF,QG,QH,QI,QK]
       first | done | rfl
      ·simp (config:={maxSteps:=1000000}) (disch:=(try simp only [awL]);omega) only [awS,Tryz.f60,↓awU,awV,awX,awF,↓reduceIte,↓reduceDIte,↓Qe,Qu,Qv,Qw,Qx,Qy,Qz,QA,QB,QC,QD,QE,QF,QG,QH,QI,QK]
       first | done | rfl
     ·simp (config:={maxSteps:=1000000}) (disch:=(try simp only [awL]);omega) only [awS,Tryz.f60,↓awU,awV,awX,awF,↓reduceIte,↓reduceDIte,↓Qe,Qu,Qv,Qw,Qx,Qy,Qz,QA,QB,QC,QD,QE,QF,QG,QH,QI,QK]
      first | done | rfl
    ·simp (config:={maxSteps:=1000000}) (disch:=(try simp only [awL]);omega) only [awS,Tryz.f60,↓awU,awV,awX,awF,↓reduceIte,↓reduceDIte,↓Qe,Qu,Qv,Qw,Qx,Qy,Qz,QA,QB,QC,QD,QE,QF,QG,QH,QI,QK]
     first | done | rfl
   ·simp (config:={maxSteps:=1000000}) (disch:=(try simp only [awL]);omega) only [awS,Tryz.f60,↓awU,awV,awX,awF,↓reduceIte,↓reduceDIte,↓Qe,Qu,Qv,Qw,Qx,Qy,Qz,QA,QB,QC,QD,QE,QF,QG,QH,QI,QK]
    first | done | rfl
  ·simp (config:={maxSteps:=1000000}) (disch:=(try simp only [awL]);omega) only [awS,Tryz.f60,↓awU,awV,awX,awF,↓reduceIte,↓reduceDIte,↓Qe,Qu,Qv,Qw,Qx,Qy,Qz,QA,QB,QC,QD,QE,QF,QG,QH,QI,QK]
   first | done | rfl
theorem IsDt.range {N y:Int} {m:Nat} {r:Int} (h:IsDt N y m r):0≤N∧N<3652059:=by
 have a:=h.year
 have b:=bgn_le h.1 (by have:=h.2.1;omega)
 have c:bgn (y+1)≤bgn 10000:=by
  rcases Int.lt_or_le (y+1) 10000 with q | q
  ·have:=bgn_lt (y:=y+1) (z:=10000) (by have:=h.1;omega) q
   have:=bgn_succ (y:=y+1) (by have:=h.1;omega)
   have:365≤yrL (y+1):=by unfold yrL;split<;>omega
   omega
  ·have:y+1=10000:=by have:=h.2.1;omega
   rw [this];exact Int.le_refl _
 rw [bgn_end] at c
 omega
theorem IsDt.le_of {N y z:Int} {m:Nat} {r:Int} (h:IsDt N y m r) (hz:1≤z) (hb:bgn z≤N):z≤y:=by
 rcases Int.lt_or_le y z with q | q
 ·have:=bgn_lt h.1 q;have:=h.year;omega
 ·exact q
theorem tdate_spec (n:Int) {y:Int} {m:Nat} {r:Int} (h:IsDt (n+719162) y m r) :
  Ctr TP G 10 [.d (.int .i64 n)] [] (.d (.tup [.int .i64 y,.int .i64 (m+1:Nat),.int .i64 (r+1),.bool true])) []:=by
 refine Ctr.pure (M:=M0) hmix Tryz.func10 rfl go10 ?_
 have rg:=h.range
 have hy:=h.year
 obtain ⟨h1,h2,h3,h4,h5,h6⟩:=h
 have dl:dayV 9999 12 31=2932896∧okDt 9999 12 31=true:=by decide +kernel
 have sp:=day_spec (G:=G) 9999 12 31 (by decide) (by decide) (by decide) (by decide) (by decide) (by decide)
 rw [dl.1,dl.2] at sp
 obtain ⟨N,hN⟩:∃ N,N=n+719162:=⟨_,rfl⟩
 rw [← hN] at rg hy h4
 have q1:N.tdiv 146097=N / 146097:=tdiv_pos _ (by omega)
 have q2:N.tmod 146097=N % 146097:=tmod_pos _ (by omega)
 have q3:(N % 146097).tdiv 36524=N % 146097 / 36524:=tdiv_pos _ (by omega)
 obtain ⟨y0,hy0⟩:∃ y0,y0=N / 146097*400+min (N % 146097 / 36524) 3*100+1:=⟨_,rfl⟩
 have y01:1≤y0∧y0≤10000:=by omega
 have b0:bgn y0≤N:=by
  rw [bgn_eq y01.1,hy0]
  have:N / 146097*400+min (N % 146097 / 36524) 3*100+1 - 1=400*(N / 146097)+100*min (N % 146097 / 36524) 3:=by omega
  rw [this]
  omega
 have hD:IsDt N y m r:=⟨h1,h2,h3,h4,h5,h6⟩
 have yle:=hD.le_of y01.1 b0
 have mn:(if 3<N % 146097 / 36524 then 3 else N % 146097 / 36524)=min (N % 146097 / 36524) 3:=by split<;>omega
 have e0:n+719162=N:=hN.symm
 have f0:N / 146097*400+min (N % 146097 / 36524) 3*100+1=y0:=hy0.symm
 simp (config:={maxSteps:=1000000}) (disch:=(try simp only [awL]);omega) only [awS,Tryz.f10,↓awU,awV,awX,awF,↓reduceIte,↓reduceDIte,↓Qe,Qu,Qv,Qw,Qx,Qy,Qz,QA,QB,QC,QD,QE,QF,QG,QH,QI,QK]
 refine CallC.of sp (by rfl) ?_
 simp (config:={maxSteps:=1000000}) (disch:=(try simp only [awL]);omega) only [awS,e0,q1,q2,q3,mn,f0,↓awU,awV,awX,awF,↓reduceIte,↓reduceDIte,↓Qe,Qu,Qv,Qw,Qx,Qy,Qz,QA,QB,QC,QD,QE,QF,QG,QH,QI,QK]
 refine LoopC.fr 256 (α:=Int) (fun x=>(y - x).toNat) (fun x=>[(2,.d (.int .i64 x))]) (fun _=>[]) (fun x=>1≤x∧x≤y∧bgn x≤N) y0 ⟨y01.1,yle,b0⟩ ?_ ?_
 ·exact ⟨[],rfl,by simp,by simp [sA,kA,SW,AW],by simp [HW,BW,SW,AW]⟩
 rintro x ⟨x1,x2,x3⟩
 have bx:=bgn_le x1 (by omega)
 simp only [awK,Nat.reduceMod,Nat.reduceDiv,reduceIte]
 rcases Int.lt_or_le x y with q | q
 ·have bm:=bgn_lt x1 q
  simp (config:={maxSteps:=1000000}) (disch:=(try simp only [awL]);omega) only [awS,↓awU,awV,awX,awF,↓reduceIte,↓reduceDIte,↓Qe,Qu,Qv,Qw,Qx,Qy,Qz,QA,QB,QC,QD,QE,QF,QG,QH,QI,QK]
  refine CallC.of (began_spec (x+1) (by omega) (by omega)) (by rfl) ?_
  simp (config:={maxSteps:=1000000}) (disch:=(try simp only [awL]);omega) only [awS,↓awU,awV,awX,awF,↓reduceIte,↓reduceDIte,↓Qe,Qu,Qv,Qw,Qx,Qy,Qz,QA,QB,QC,QD,QE,QF,QG,QH,QI,QK]
  first
  | exact ⟨x+1,⟨by omega,by omega,by omega⟩,by simp only;omega,⟨[],rfl,by simp,by simp [sA,kA,SW,AW],by simp [HW,BW,SW,AW]⟩⟩
 have e:x=y:=by omega
 subst e
 have after:True:=trivial
 by_cases y9:x<9999
 ·simp (config:={maxSteps:=1000000}) (disch:=(try simp only [awL]);omega) only [awS,↓awU,awV,awX,awF,↓reduceIte,↓reduceDIte,↓Qe,Qu,Qv,Qw,Qx,Qy,Qz,QA,QB,QC,QD,QE,QF,QG,QH,QI,QK]
  refine CallC.of (began_spec (x+1) (by omega) (by omega)) (by rfl) ?_
  simp (config:={maxSteps:=1000000}) (disch:=(try simp only [awL]);omega) only [awS,↓awU,awV,awX,awF,↓reduceIte,↓reduceDIte,↓Qe,Qu,Qv,Qw,Qx,Qy,Qz,QA,QB,QC,QD,QE,QF,QG,QH,QI,QK]
  refine CallC.of (began_spec x (by omega) (by omega)) (by rfl) ?_
  simp (config:={maxSteps:=1000000}) (disch:=(try simp only [awL]);omega) only [awS,↓awU,awV,awX,awF,↓reduceIte,↓reduceDIte,↓Qe,Qu,Qv,Qw,Qx,Qy,Qz,QA,QB,QC,QD,QE,QF,QG,QH,QI,QK]
  refine LoopC.fr 4 (α:=Nat) (fun j=>m - j) (fun j=>[(3,.d (.int .i64 (j+1:Nat))),(8,.d (.int .i64 (N - bgn x - monS x j)))]) (fun _=>[]) (fun j=>j≤m) 0 (Nat.zero_le _) ?_ ?_
  ·exact ⟨[],rfl,by simp,by simp [sA,kA,SW,AW,monS],by simp [HW,BW,SW,AW]⟩
  ·intro j hj
   have mj:=monS_le x j
   have lj:=lenM_pos x ((j+1:Nat):Int)
   have ms:monS x (j+1)=monS x j+lenM x (j+1:Nat):=rfl
   simp only [awK,Nat.reduceMod,Nat.reduceDiv,reduceIte]
   simp (config:={maxSteps:=1000000}) (disch:=(try simp only [awL]);omega) only [awS,↓awU,awV,awX,awF,↓reduceIte,↓reduceDIte,↓Qe,Qu,Qv,Qw,Qx,Qy,Qz,QA,QB,QC,QD,QE,QF,QG,QH,QI,QK]
   refine CallC.of (length_spec x ((j+1:Nat):Int) (by omega) (by omega) (by omega) (by omega)) (by rfl) ?_
   rcases Nat.lt_or_ge j m with h | h
   ·have:=monS_lt (y:=x) h
    have e1:N - bgn x - monS x j - lenM x ((j+1:Nat):Int)=N - bgn x - monS x (j+1):=by omega
    simp (config:={maxSteps:=1000000}) (disch:=(try simp only [awL]);omega) only [awS,↓awU,awV,awX,awF,↓reduceIte,↓reduceDIte,↓Qe,Qu,Qv,Qw,Qx,Qy,Qz,QA,QB,QC,QD,QE,QF,QG,QH,QI,QK]
    refine CallC.of (length_spec x ((j+1:Nat):Int) (by omega) (by omega) (by omega) (by omega)) (by rfl) ?_
    simp (config:={maxSteps:=1000000}) (disch:=(try simp only [awL]);omega) only [awS,e1,↓awU,awV,awX,awF,↓reduceIte,↓reduceDIte,↓Qe,Qu,Qv,Qw,Qx,Qy,Qz,QA,QB,QC,QD,QE,QF,QG,QH,QI,QK]
    first
    | exact ⟨j+1,h,by simp only;omega,⟨[],rfl,by simp,by simp [sA,kA,SW,AW],by simp [HW,BW,SW,AW]⟩⟩
   ·have e:j=m:=by omega
    subst e
    have e1:N - bgn x - monS x j=r:=by omega
    simp (config:={maxSteps:=1000000}) (disch:=(try simp only [awL]);omega) only [awS,e1,↓awU,awV,awX,awF,↓reduceIte,↓reduceDIte,↓Qe,Qu,Qv,Qw,Qx,Qy,Qz,QA,QB,QC,QD,QE,QF,QG,QH,QI,QK]
    first | done | rfl
 ·simp (config:={maxSteps:=1000000}) (disch:=(try simp only [awL]);omega) only [awS,↓awU,awV,awX,awF,↓reduceIte,↓reduceDIte,↓Qe,Qu,Qv,Qw,Qx,Qy,Qz,QA,QB,QC,QD,QE,QF,QG,QH,QI,QK]
  refine CallC.of (began_spec x (by omega) (by omega)) (by rfl) ?_
  simp (config:={maxSteps:=1000000}) (disch:=(try simp only [awL]);omega) only [awS,↓awU,awV,awX,awF,↓reduceIte,↓reduceDIte,↓Qe,Qu,Qv,Qw,Qx,Qy,Qz,QA,QB,QC,QD,QE,QF,QG,QH,QI,QK]
  refine LoopC.fr 4 (α:=Nat) (fun j=>m - j) (fun j=>[(3,.d (.int .i64 (j+1:Nat))),(8,.d (.int .i64 (N - bgn x - monS x j)))]) (fun _=>[]) (fun j=>j≤m) 0 (Nat.zero_le _) ?_ ?_
  ·exact ⟨[],rfl,by simp,by simp [sA,kA,SW,AW,monS],by simp [HW,BW,SW,AW]⟩
  ·intro j hj
   have mj:=monS_le x j
   have lj:=lenM_pos x ((j+1:Nat):Int)
   have ms:monS x (j+1)=monS x j+lenM x (j+1:Nat):=rfl
   simp only [awK,Nat.reduceMod,Nat.reduceDiv,reduceIte]
   simp (config:={maxSteps:=1000000}) (disch:=(try simp only [awL]);omega) only [awS,↓awU,awV,awX,awF,↓reduceIte,↓reduceDIte,↓Qe,Qu,Qv,Qw,Qx,Qy,Qz,QA,QB,QC,QD,QE,QF,QG,QH,QI,QK]
   refine CallC.of (length_spec x ((j+1:Nat):Int) (by omega) (by omega) (by omega) (by omega)) (by rfl) ?_
   rcases Nat.lt_or_ge j m with h | h
   ·have:=monS_lt (y:=x) h
    have e1:N - bgn x - monS x j - lenM x ((j+1:Nat):Int)=N - bgn x - monS x (j+1):=by omega
    simp (config:={maxSteps:=1000000}) (disch:=(try simp only [awL]);omega) only [awS,↓awU,awV,awX,awF,↓reduceIte,↓reduceDIte,↓Qe,Qu,Qv,Qw,Qx,Qy,Qz,QA,QB,QC,QD,QE,QF,QG,QH,QI,QK]
    refine CallC.of (length_spec x ((j+1:Nat):Int) (by omega) (by omega) (by omega) (by omega)) (by rfl) ?_
    simp (config:={maxSteps:=1000000}) (disch:=(try simp only [awL]);omega) only [awS,e1,↓awU,awV,awX,awF,↓reduceIte,↓reduceDIte,↓Qe,Qu,Qv,Qw,Qx,Qy,Qz,QA,QB,QC,QD,QE,QF,QG,QH,QI,QK]
    first
    | exact ⟨j+1,h,by simp only;omega,⟨[],rfl,by simp,by simp [sA,kA,SW,AW],by simp [HW,BW,SW,AW]⟩⟩
   ·have e:j=m:=by omega
    subst e
    have e1:N - bgn x - monS x j=r:=by omega
    simp (config:={maxSteps:=1000000}) (disch:=(try simp only [awL]);omega) only [awS,e1,↓awU,awV,awX,awF,↓reduceIte,↓reduceDIte,↓Qe,Qu,Qv,Qw,Qx,Qy,Qz,QA,QB,QC,QD,QE,QF,QG,QH,QI,QK]
    first | done | rfl
def kindE (w:List UInt8) (f g:D):D:=.agg [S w,f,g]
def kFn (f:Nat):D:=.fn (.func f) [] []
def kindsM:List (D × D):=[(.int .i64 1,kindE [116,101,120,116] .nilf (kFn 65)),(.int .i64 2,kindE [98,111,111,108] (kFn 66) (kFn 67)),
 (.int .i64 3,kindE [105,110,116,101,103,101,114] (kFn 68) (kFn 69)),(.int .i64 4,kindE [100,101,99,105,109,97,108] (kFn 70) (kFn 69)),
 (.int .i64 5,kindE [100,97,116,101] (kFn 71) (kFn 72))]
theorem kinds_spec:Ctr TP G 39 [] [] (.mp 0) [.map kindsM]:=by
 refine Ctr.body (M:=M0) hmix Tryz.func39 rfl go39 ?_
 simp (config:={maxSteps:=1000000}) (disch:=(try simp only [awL]);omega) only [awS,Tryz.f39,↓awU,awV,awX,awF,↓reduceIte,↓reduceDIte,↓Qe,Qu,Qv,Qw,Qx,Qy,Qz,QA,QB,QC,QD,QE,QF,QG,QH,QI,QK]
 refine ⟨by rfl,by rfl,by rfl,by rfl,by rfl,?_⟩
 show RetC 0 [ABlk.map kindsM] (AV.mp 0) (AV.mp 0) [ABlk.map kindsM]
 exact ⟨[some 0],rfl,by simp,by simp [HW,BW,SW,AW],.inl (by simp [AW,SW])⟩
theorem canon4_spec (hG:Num.HG G) (s:List UInt8) (hs:s.length≤2000000):Ctr TP G 12 [.d (.int .i64 4),.d (S s)] [] (.d (.tup [S (if Num.decOk (Lib.trimB s 32)=true then canD (Lib.trimB s 32) else []),.bool (Num.decOk (Lib.trimB s 32))])) []:=by
 refine Ctr.pure (M:=M0) hmix Tryz.func12 rfl go12 ?_
 have tl:(Lib.trimB s 32).length≤s.length:=Nat.le_trans (List.dropWhile_sublist _).length_le (trimRB_le s 32)
 have kk:keysOK TP 3 kindsM=true:=rfl
 simp (config:={maxSteps:=1000000}) (disch:=(try simp only [awL]);omega) only [awS,Tryz.f12,↓awU,awV,awX,awF,↓reduceIte,↓reduceDIte,↓Qe,Qu,Qv,Qw,Qx,Qy,Qz,QA,QB,QC,QD,QE,QF,QG,QH,QI,QK]
 refine CallC.by kinds_spec (by rfl) (by rfl) (Nat.zero_le _) ?_
 have lk:lookV (.agg [.str ByteArray.empty,.nilf,.nilf]) kindsM (.int .i64 4) true=.tup [.agg [S [100,101,99,105,109,97,108],.fn (.func 70) [] [],.fn (.func 69) [] []],.bool true]:=rfl
 simp (config:={maxSteps:=1000000}) (disch:=(try simp only [awL]);omega) only [awS,kk,lk,↓awU,awV,awX,awF,↓reduceIte,↓reduceDIte,↓Qe,Qu,Qv,Qw,Qx,Qy,Qz,QA,QB,QC,QD,QE,QF,QG,QH,QI,QK]
 refine CallC.of (ttrim_spec s (by omega)) (by rfl) ?_
 simp (config:={maxSteps:=1000000}) (disch:=(try simp only [awL]);omega) only [awS,↓awU,awV,awX,awF,↓reduceIte,↓reduceDIte,↓Qe,Qu,Qv,Qw,Qx,Qy,Qz,QA,QB,QC,QD,QE,QF,QG,QH,QI,QK]
 refine CallC.of (tdecimal_spec hG (Lib.trimB s 32) (by omega)) (by rfl) ?_
 simp (config:={maxSteps:=1000000}) (disch:=(try simp only [awL]);omega) only [awS,↓awU,awV,awX,awF,↓reduceIte,↓reduceDIte,↓Qe,Qu,Qv,Qw,Qx,Qy,Qz,QA,QB,QC,QD,QE,QF,QG,QH,QI,QK]
 first | done | rfl | exact ⟨by rfl,by rfl⟩
end Go.Proofs.YtdpjcghiegggbaaGreatDoor
namespace Go.Proofs.YtdpjcghiegggbaaGreatDoor.Dst
def c1 (a b:Int):Nat:=if a=b then 0 else 1
def lev:List Int→List Int→Nat
 | [],y=>y.length
 | x,[]=>x.length
 | a::x,b::y=>min (lev x y+c1 a b) (min (lev x (b::y)+1) (lev (a::x) y+1))
termination_by x y=>x.length+y.length
theorem lev_nil_left (y:List Int):lev [] y=y.length:=by unfold lev;rfl
theorem lev_nil_right (x:List Int):lev x []=x.length:=by cases x<;>(unfold lev;rfl)
theorem lev_cons (a b:Int) (x y:List Int):lev (a::x) (b::y)=min (lev x y+c1 a b) (min (lev x (b::y)+1) (lev (a::x) y+1)):=by
 conv=>lhs;unfold lev
inductive Ed:List Int→List Int→Nat→Prop
 | nil:Ed [] [] 0
 | sub {x y n} (a b):Ed x y n→Ed (a::x) (b::y) (n+c1 a b)
 | del {x y n} (a):Ed x y n→Ed (a::x) y (n+1)
 | ins {x y n} (b):Ed x y n→Ed x (b::y) (n+1)
theorem Ed.left:∀ x:List Int,Ed x [] x.length
 | []=>.nil
 | a::x=>.del a (Ed.left x)
theorem Ed.right:∀ x:List Int,Ed [] x x.length
 | []=>.nil
 | a::x=>.ins a (Ed.right x)
theorem lev_le_left {x y:List Int} (a:Int):lev (a::x) y≤lev x y+1:=by
 cases y with
 | nil=>rw [lev_nil_right,lev_nil_right];simp
 | cons b y=>rw [lev_cons];omega
theorem lev_le_right {x y:List Int} (b:Int):lev x (b::y)≤lev x y+1:=by
 cases x with
 | nil=>rw [lev_nil_left,lev_nil_left];simp
 | cons a x=>rw [lev_cons];omega
theorem lev_le_sub {x y:List Int} (a b:Int):lev (a::x) (b::y)≤lev x y+c1 a b:=by rw [lev_cons];omega
theorem Ed.le {x y:List Int} {n:Nat} (h:Ed x y n):lev x y≤n:=by
 induction h with
 | nil=>rw [lev_nil_left];simp
 | sub a b _ ih=>exact Nat.le_trans (lev_le_sub a b) (by omega)
 | del a _ ih=>exact Nat.le_trans (lev_le_left a) (by omega)
 | ins b _ ih=>exact Nat.le_trans (lev_le_right b) (by omega)
theorem Ed.lev:∀ x y:List Int,Ed x y (lev x y)
 | [],y=>by rw [lev_nil_left];exact .right y
 | a::x,[]=>by rw [lev_nil_right];exact .left _
 | a::x,b::y=>by
   rw [lev_cons]
   have h1:=Ed.lev x y
   have h2:=Ed.lev x (b::y)
   have h3:=Ed.lev (a::x) y
   rcases Nat.le_total (Go.Proofs.YtdpjcghiegggbaaGreatDoor.Dst.lev x y+c1 a b) (min (Go.Proofs.YtdpjcghiegggbaaGreatDoor.Dst.lev x (b::y)+1) (Go.Proofs.YtdpjcghiegggbaaGreatDoor.Dst.lev (a::x) y+1)) with h | h
   ·rw [Nat.min_eq_left h];exact .sub a b h1
   ·rw [Nat.min_eq_right h]
    rcases Nat.le_total (Go.Proofs.YtdpjcghiegggbaaGreatDoor.Dst.lev x (b::y)+1) (Go.Proofs.YtdpjcghiegggbaaGreatDoor.Dst.lev (a::x) y+1) with h | h
    ·rw [Nat.min_eq_left h];exact .del a h2
    ·rw [Nat.min_eq_right h];exact .ins b h3
termination_by x y=>x.length+y.length
theorem Ed.symm {x y:List Int} {n:Nat} (h:Ed x y n):Ed y x n:=by
 induction h with
 | nil=>exact .nil
 | sub a b _ ih =>
  have e:c1 a b=c1 b a:=by unfold c1;split<;>split<;>omega
  rw [e];exact .sub b a ih
 | del a _ ih=>exact .ins a ih
 | ins b _ ih=>exact .del b ih
theorem Ed.refl:∀ x:List Int,Ed x x 0
 | []=>.nil
 | a::x=>by have:=Ed.sub a a (Ed.refl x);simpa [c1] using this
theorem Ed.zero {x y:List Int} {n:Nat} (h:Ed x y n):n=0→x=y:=by
 induction h with
 | nil=>intro _;rfl
 | sub a b _ ih =>
  intro e
  have:a=b:=by unfold c1 at e;split at e<;>first | assumption | omega
  rw [ih (by omega),this]
 | del a _ ih=>intro e;omega
 | ins b _ ih=>intro e;omega
theorem Ed.bound {x y:List Int} {n:Nat} (h:Ed x y n):x.length≤y.length+n∧y.length≤x.length+n:=by
 induction h with
 | nil=>simp
 | sub a b _ ih=>simp;omega
 | del a _ ih=>simp;omega
 | ins b _ ih=>simp;omega
theorem Ed.append {x y:List Int} {n:Nat} (h:Ed x y n) (z:List Int):Ed (x++z) (y++z) n:=by
 induction h with
 | nil=>exact .refl z
 | sub a b _ ih=>exact .sub a b ih
 | del a _ ih=>exact .del a ih
 | ins b _ ih=>exact .ins b ih
theorem Ed.snoc_sub {x y:List Int} {n:Nat} (h:Ed x y n) (a b:Int):Ed (x++[a]) (y++[b]) (n+c1 a b):=by
 induction h with
 | nil=>exact .sub a b .nil
 | sub p q _ ih=>have:=Ed.sub p q ih;simp only [List.cons_append];rw [Nat.add_right_comm];exact this
 | del p _ ih=>have:=Ed.del p ih;simp only [List.cons_append];rw [Nat.add_right_comm];exact this
 | ins p _ ih=>have:=Ed.ins p ih;simp only [List.cons_append];rw [Nat.add_right_comm];exact this
theorem Ed.snoc_del {x y:List Int} {n:Nat} (h:Ed x y n) (a:Int):Ed (x++[a]) y (n+1):=by
 induction h with
 | nil=>exact .del a .nil
 | sub p q _ ih=>have:=Ed.sub p q ih;simp only [List.cons_append];rw [Nat.add_right_comm];exact this
 | del p _ ih=>have:=Ed.del p ih;simp only [List.cons_append];exact this
 | ins p _ ih=>exact .ins p ih
theorem Ed.snoc_ins {x y:List Int} {n:Nat} (h:Ed x y n) (b:Int):Ed x (y++[b]) (n+1):=(h.symm.snoc_del b).symm
theorem Ed.reverse {x y:List Int} {n:Nat} (h:Ed x y n):Ed x.reverse y.reverse n:=by
 induction h with
 | nil=>exact .nil
 | sub a b _ ih=>rw [List.reverse_cons,List.reverse_cons];exact ih.snoc_sub a b
 | del a _ ih=>rw [List.reverse_cons];exact ih.snoc_del a
 | ins b _ ih=>rw [List.reverse_cons];exact ih.snoc_ins b
abbrev bl (x y:List UInt8):Bool:=Op.bytesLess x y
theorem bl_irrefl:∀ x:List UInt8,bl x x=false
 | []=>rfl
 | a::x=>by
   show (decide (a<a) || (a == a && bl x x))=false
   rw [bl_irrefl x];simp
def Asc (l:List (List UInt8)):Prop:=l.Pairwise fun x y=>bl x y=true
theorem Asc.tail {x:List UInt8} {l:List (List UInt8)} (h:Asc (x::l)):Asc l:=(List.pairwise_cons.1 h).2
def dedup:List (List UInt8)→List (List UInt8)
 | x::y::l=>if x=y then dedup (y::l) else x::dedup (y::l)
 | l=>l
theorem Asc.nodup {l:List (List UInt8)} (h:Asc l):l.Nodup:=List.Pairwise.imp (fun {x y} hxy e=>by subst e;rw [bl_irrefl] at hxy;cases hxy) h
end Go.Proofs.YtdpjcghiegggbaaGreatDoor.Dst
namespace Go.Proofs.YtdpjcghiegggbaaGreatDoor.Dst
open Go.Abs
def foldB (c:UInt8):UInt8:=if 65≤c.toNat∧c.toNat≤90 then c+32 else c
theorem foldB_nat (c:UInt8):(foldB c).toNat=if 65≤c.toNat∧c.toNat≤90 then c.toNat+32 else c.toNat:=by
 unfold foldB
 split
 ·rw [UInt8.toNat_add];show (c.toNat+32) % 256=_;omega
 ·rfl
def wordsL:List (List UInt8):=[[97,110,110],[98,111,98],[99,121],[66,101,114,110],[85,108,109],[78,101,119,32,89,111,114,107],[121,111,114,107,32,110,101,119],[97,45,49],[98,45,50,50],[120],[122,195,188,114,105,99,104],[65,110,110],[98,111],[99,97,116],[98,97,116],[114,97,116]]
end Go.Proofs.YtdpjcghiegggbaaGreatDoor.Dst
namespace Go.Proofs.YtdpjcghiegggbaaGreatDoor.Dst
open Go Go.Proofs Go.Abs
variable {G:Globals}
abbrev M0:Muts:=fun _=>false
abbrev S (l:List UInt8):D:=.str (bs l)
def foldMid (l:List UInt8) (i:Nat):List UInt8:=(l.take i).map foldB++l.drop i
theorem foldMid_length {l:List UInt8} {i:Nat} (h:i≤l.length):(foldMid l i).length=l.length:=by simp [foldMid];omega
theorem foldMid_get {l:List UInt8} {i:Nat} (h:i<l.length):(foldMid l i).getD i 0=l.getD i 0:=by
 have hl:((l.take i).map foldB).length=i:=by rw [List.length_map,List.length_take];omega
 rw [foldMid,List.getD_eq_getElem?_getD,List.getElem?_append_right (by omega),hl,Nat.sub_self,List.getElem?_drop,Nat.add_zero,← List.getD_eq_getElem?_getD]
theorem foldMid_set {l:List UInt8} {i:Nat} (h:i<l.length):(foldMid l i).set i (foldB (l.getD i 0))=foldMid l (i+1):=by
 have hl:((l.take i).map foldB).length=i:=by rw [List.length_map,List.length_take];omega
 rw [foldMid,foldMid,List.set_append,if_neg (by omega),hl,Nat.sub_self,List.drop_eq_getElem_cons h,List.set_cons_zero,List.take_add_one,List.getElem?_eq_getElem h,List.getD_eq_getElem?_getD,List.getElem?_eq_getElem h]
 simp only [Option.toList_some,Option.getD_some,List.map_append,List.map_cons,List.map_nil,List.append_assoc,List.cons_append,List.nil_append]
theorem foldMid_same {l:List UInt8} {i:Nat} (h:i<l.length) (hc:foldB (l.getD i 0)=l.getD i 0):foldMid l (i+1)=foldMid l i:=by
 rw [← foldMid_set h,hc]
 have hg:=foldMid_get h
 have hl:=foldMid_length (l:=l) (i:=i) (by omega)
 rw [List.getD_eq_getElem?_getD,List.getElem?_eq_getElem (by omega)] at hg
 simp only [Option.getD_some] at hg
 rw [← hg,List.set_getElem_self]
theorem nums_set {l:List UInt8} {i:Nat} {c:UInt8}:(nums l).set i (c.toNat:Int)=nums (l.set i c):=by simp [nums,List.map_set]
theorem cells_nums {l:List UInt8}:(l.map fun b=>D.int .u8 (b.toNat:Int))=ints .u8 (nums l):=by simp [ints,nums]
theorem fold_spec (l:List UInt8) (hl:l.length≤2000000):Ctr TP G 91 [.d (S l)] [] (.d (S (l.map foldB))) []:=by
 refine Ctr.pure (M:=M0) hmix Tryz.func91 rfl go91 ?_
 simp (config:={maxSteps:=1000000}) (disch:=(try simp only [awL]);omega) only [awS,Tryz.f91,cells_nums,↓awU,awV,awX,awF,↓reduceIte,↓reduceDIte,↓Qe,Qu,Qv,Qw,Qx,Qy,Qz,QA,QB,QC,QD,QE,QF,QG,QH,QI,QK]
 refine LoopC.fr 776 (α:=Nat) (fun i=>l.length - i) (fun i=>[(10,.d (.int .i64 i))]) (fun i=>[.row false (ints .u8 (nums (foldMid l i)))]) (fun i=>i≤l.length) 0 (Nat.zero_le _) ?_ ?_
 ·exact ⟨[some 0],rfl,by simp,by simp [sA,kA,SW,AW],by simp [HW,BW,SW,AW,foldMid]⟩
 ·intro i hi
  have ml:=foldMid_length hi
  have nl:=@nums_length (foldMid l i)
  simp only [awK,Nat.reduceMod,Nat.reduceDiv,reduceIte]
  rcases Nat.lt_or_ge i l.length with h | h
  ·have mg:=foldMid_get h
   have fs:=foldMid_set h
   have fb:=foldB_nat (l.getD i 0)
   have fe:=foldMid_same h
   have hb:(l.getD i 0).toNat<256:=(l.getD i 0).toNat_lt
   by_cases h1:65≤(l.getD i 0).toNat∧(l.getD i 0).toNat≤90
   ·rw [if_pos h1] at fb
    obtain ⟨h1,h2⟩:=h1
    have hs1:(nums (foldMid l i)).set i (((l.getD i 0).toNat:Int) - 65+97)=nums (foldMid l (i+1)):=by
     rw [← fs,← nums_set,fb];congr 1;omega
    have hs2:(nums (foldMid l i)).set i (((l.getD i 0).toNat:Int)+32)=nums (foldMid l (i+1)):=by
     rw [← fs,← nums_set,fb];congr 1
    simp (config:={maxSteps:=1000000}) (disch:=(try simp only [awL]);omega) only [awS,nl,ml,mg,hs1,hs2,↓awU,awV,awX,awF,↓reduceIte,↓reduceDIte,↓Qe,Qu,Qv,Qw,Qx,Qy,Qz,QA,QB,QC,QD,QE,QF,QG,QH,QI,QK]
    first
    | exact ⟨i+1,h,by simp only;omega,⟨[some 0],rfl,by simp,by simp [sA,kA,SW,AW],by simp [HW,BW,SW,AW]⟩⟩
    | exact ⟨by rfl,i+1,h,by simp only;omega,⟨[some 0],rfl,by simp,by simp [sA,kA,SW,AW],by simp [HW,BW,SW,AW]⟩⟩
    | trace_state
   ·rw [if_neg h1] at fb
    have e:=fe (UInt8.toNat_inj.1 fb)
    rcases (by omega:(l.getD i 0).toNat<65∨90<(l.getD i 0).toNat) with h2 | h2
    ·simp (config:={maxSteps:=1000000}) (disch:=(try simp only [awL]);omega) only [awS,nl,ml,mg,↓awU,awV,awX,awF,↓reduceIte,↓reduceDIte,↓Qe,Qu,Qv,Qw,Qx,Qy,Qz,QA,QB,QC,QD,QE,QF,QG,QH,QI,QK]
     first
     | exact ⟨i+1,h,by simp only;omega,⟨[some 0],rfl,by simp,by simp [sA,kA,SW,AW],by simp [HW,BW,SW,AW,e]⟩⟩
     | exact ⟨by rfl,i+1,h,by simp only;omega,⟨[some 0],rfl,by simp,by simp [sA,kA,SW,AW],by simp [HW,BW,SW,AW,e]⟩⟩
     | trace_state
    ·simp (config:={maxSteps:=1000000}) (disch:=(try simp only [awL]);omega) only [awS,nl,ml,mg,↓awU,awV,awX,awF,↓reduceIte,↓reduceDIte,↓Qe,Qu,Qv,Qw,Qx,Qy,Qz,QA,QB,QC,QD,QE,QF,QG,QH,QI,QK]
     first
     | exact ⟨i+1,h,by simp only;omega,⟨[some 0],rfl,by simp,by simp [sA,kA,SW,AW],by simp [HW,BW,SW,AW,e]⟩⟩
     | exact ⟨by rfl,i+1,h,by simp only;omega,⟨[some 0],rfl,by simp,by simp [sA,kA,SW,AW],by simp [HW,BW,SW,AW,e]⟩⟩
     | trace_state
  ·obtain rfl:i=l.length:=by omega
   have em:foldMid l l.length=l.map foldB:=by simp [foldMid]
   have ht:(nums (foldMid l l.length)).take l.length=nums (foldMid l l.length):=List.take_of_length_le (by omega)
   simp (config:={maxSteps:=1000000}) (disch:=(try simp only [awL]);omega) only [awS,nl,ml,numsOf_ints,ht,strOfNums_nums,↓awU,awV,awX,awF,↓reduceIte,↓reduceDIte,↓Qe,Qu,Qv,Qw,Qx,Qy,Qz,QA,QB,QC,QD,QE,QF,QG,QH,QI,QK]
   first
   | rw [em]
   | trace_state
theorem rfold_spec (l:List UInt8) (hl:l.length≤2000000):Ctr TP G 55 [.d (S l)] [] (.d (S (l.map foldB))) []:=by
 refine Ctr.pure (M:=M0) hmix Tryz.func55 rfl go55 ?_
 simp (config:={maxSteps:=1000000}) (disch:=(try simp only [awL]);omega) only [awS,Tryz.f55,cells_nums,↓awU,awV,awX,awF,↓reduceIte,↓reduceDIte,↓Qe,Qu,Qv,Qw,Qx,Qy,Qz,QA,QB,QC,QD,QE,QF,QG,QH,QI,QK]
 refine LoopC.fr 264 (α:=Nat) (fun i=>l.length - i) (fun i=>[(9,.d (.int .i64 i))]) (fun i=>[.row false (ints .u8 (nums (foldMid l i)))]) (fun i=>i≤l.length) 0 (Nat.zero_le _) ?_ ?_
 ·exact ⟨[some 0],rfl,by simp,by simp [sA,kA,SW,AW],by simp [HW,BW,SW,AW,foldMid]⟩
 ·intro i hi
  have ml:=foldMid_length hi
  have nl:=@nums_length (foldMid l i)
  simp only [awK,Nat.reduceMod,Nat.reduceDiv,reduceIte]
  rcases Nat.lt_or_ge i l.length with h | h
  ·have mg:=foldMid_get h
   have fs:=foldMid_set h
   have fb:=foldB_nat (l.getD i 0)
   have fe:=foldMid_same h
   have hb:(l.getD i 0).toNat<256:=(l.getD i 0).toNat_lt
   by_cases h1:65≤(l.getD i 0).toNat∧(l.getD i 0).toNat≤90
   ·rw [if_pos h1] at fb
    obtain ⟨h1,h2⟩:=h1
    have hs1:(nums (foldMid l i)).set i (((l.getD i 0).toNat:Int) - 65+97)=nums (foldMid l (i+1)):=by
     rw [← fs,← nums_set,fb];congr 1;omega
    have hs2:(nums (foldMid l i)).set i (((l.getD i 0).toNat:Int)+32)=nums (foldMid l (i+1)):=by
     rw [← fs,← nums_set,fb];congr 1
    simp (config:={maxSteps:=1000000}) (disch:=(try simp only [awL]);omega) only [awS,nl,ml,mg,hs1,hs2,↓awU,awV,awX,awF,↓reduceIte,↓reduceDIte,↓Qe,Qu,Qv,Qw,Qx,Qy,Qz,QA,QB,QC,QD,QE,QF,QG,QH,QI,QK]
    first
    | exact ⟨i+1,h,by simp only;omega,⟨[some 0],rfl,by simp,by simp [sA,kA,SW,AW],by simp [HW,BW,SW,AW]⟩⟩
    | exact ⟨by rfl,i+1,h,by simp only;omega,⟨[some 0],rfl,by simp,by simp [sA,kA,SW,AW],by simp [HW,BW,SW,AW]⟩⟩
    | trace_state
   ·rw [if_neg h1] at fb
    have e:=fe (UInt8.toNat_inj.1 fb)
    rcases (by omega:(l.getD i 0).toNat<65∨90<(l.getD i 0).toNat) with h2 | h2
    ·simp (config:={maxSteps:=1000000}) (disch:=(try simp only [awL]);omega) only [awS,nl,ml,mg,↓awU,awV,awX,awF,↓reduceIte,↓reduceDIte,↓Qe,Qu,Qv,Qw,Qx,Qy,Qz,QA,QB,QC,QD,QE,QF,QG,QH,QI,QK]
     first
     | exact ⟨i+1,h,by simp only;omega,⟨[some 0],rfl,by simp,by simp [sA,kA,SW,AW],by simp [HW,BW,SW,AW,e]⟩⟩
     | exact ⟨by rfl,i+1,h,by simp only;omega,⟨[some 0],rfl,by simp,by simp [sA,kA,SW,AW],by simp [HW,BW,SW,AW,e]⟩⟩
     | trace_state
    ·simp (config:={maxSteps:=1000000}) (disch:=(try simp only [awL]);omega) only [awS,nl,ml,mg,↓awU,awV,awX,awF,↓reduceIte,↓reduceDIte,↓Qe,Qu,Qv,Qw,Qx,Qy,Qz,QA,QB,QC,QD,QE,QF,QG,QH,QI,QK]
     first
     | exact ⟨i+1,h,by simp only;omega,⟨[some 0],rfl,by simp,by simp [sA,kA,SW,AW],by simp [HW,BW,SW,AW,e]⟩⟩
     | exact ⟨by rfl,i+1,h,by simp only;omega,⟨[some 0],rfl,by simp,by simp [sA,kA,SW,AW],by simp [HW,BW,SW,AW,e]⟩⟩
     | trace_state
  ·obtain rfl:i=l.length:=by omega
   have em:foldMid l l.length=l.map foldB:=by simp [foldMid]
   have ht:(nums (foldMid l l.length)).take l.length=nums (foldMid l l.length):=List.take_of_length_le (by omega)
   simp (config:={maxSteps:=1000000}) (disch:=(try simp only [awL]);omega) only [awS,nl,ml,numsOf_ints,ht,strOfNums_nums,↓awU,awV,awX,awF,↓reduceIte,↓reduceDIte,↓Qe,Qu,Qv,Qw,Qx,Qy,Qz,QA,QB,QC,QD,QE,QF,QG,QH,QI,QK]
   first
   | rw [em]
   | trace_state
end Go.Proofs.YtdpjcghiegggbaaGreatDoor.Dst
namespace Go.Proofs.YtdpjcghiegggbaaGreatDoor
open Go Go.Proofs Go.Abs
variable {G:Globals}
def isTr (t:List UInt8):Bool:=decide (t.map Dst.foldB=[116,114,117,101]) || decide (t.map Dst.foldB=[121,101,115])
def isFa (t:List UInt8):Bool:=decide (t.map Dst.foldB=[102,97,108,115,101]) || decide (t.map Dst.foldB=[110,111])
def okBo (t:List UInt8):Bool:=isTr t || isFa t
def canBo (t:List UInt8):List UInt8:=if isTr t=true then [116,114,117,101] else if isFa t=true then [102,97,108,115,101] else []
theorem bo_cases (t:List UInt8) :
  (t.map Dst.foldB=[116,114,117,101]∧canBo t=[116,114,117,101]∧okBo t=true)∨(t.map Dst.foldB=[121,101,115]∧canBo t=[116,114,117,101]∧okBo t=true) ∨
  (t.map Dst.foldB=[102,97,108,115,101]∧canBo t=[102,97,108,115,101]∧okBo t=true)∨(t.map Dst.foldB=[110,111]∧canBo t=[102,97,108,115,101]∧okBo t=true) ∨
  (((t.map Dst.foldB=[116,114,117,101])=False)∧((t.map Dst.foldB=[121,101,115])=False)∧((t.map Dst.foldB=[102,97,108,115,101])=False)∧((t.map Dst.foldB=[110,111])=False)∧canBo t=[]∧okBo t=false):=by
 unfold canBo okBo isTr isFa
 generalize t.map Dst.foldB=f
 by_cases e1:f=[116,114,117,101]
 ·subst e1;exact .inl ⟨rfl,rfl,rfl⟩
 by_cases e2:f=[121,101,115]
 ·subst e2;exact .inr (.inl ⟨rfl,rfl,rfl⟩)
 by_cases e3:f=[102,97,108,115,101]
 ·subst e3;exact .inr (.inr (.inl ⟨rfl,rfl,rfl⟩))
 by_cases e4:f=[110,111]
 ·subst e4;exact .inr (.inr (.inr (.inl ⟨rfl,rfl,rfl⟩)))
 rw [decide_eq_false e1,decide_eq_false e2,decide_eq_false e3,decide_eq_false e4]
 exact .inr (.inr (.inr (.inr ⟨eq_false e1,eq_false e2,eq_false e3,eq_false e4,rfl,rfl⟩)))
theorem boolean_spec (t:List UInt8) (ht:t.length≤2000000):Ctr TP G 66 [.d (S t)] [] (.d (.tup [S (canBo t),.bool (okBo t)])) []:=by
 refine Ctr.pure (M:=M0) hmix Tryz.func66 rfl go66 ?_
 have sp:=Dst.fold_spec (G:=G) t ht
 have cs:=bo_cases t
 generalize canBo t=c at *
 generalize okBo t=o at *
 generalize t.map Dst.foldB=f at *
 simp (config:={maxSteps:=1000000}) (disch:=(try simp only [awL]);omega) only [awS,Tryz.f66,↓awU,awV,awX,awF,↓reduceIte,↓reduceDIte,↓Qe,Qu,Qv,Qw,Qx,Qy,Qz,QA,QB,QC,QD,QE,QF,QG,QH,QI,QK]
 refine CallC.of sp (by rfl) ?_
 rcases cs with ⟨e,rfl,rfl⟩ | ⟨e,rfl,rfl⟩ | ⟨e,rfl,rfl⟩ | ⟨e,rfl,rfl⟩ | ⟨n1,n2,n3,n4,rfl,rfl⟩
 ·have n1:(f=[116,114,117,101])=True:=eq_true e
  simp (config:={maxSteps:=1000000}) (disch:=(try simp only [awL]);omega) only [awS,n1,↓awU,awV,awX,awF,↓reduceIte,↓reduceDIte,↓Qe,Qu,Qv,Qw,Qx,Qy,Qz,QA,QB,QC,QD,QE,QF,QG,QH,QI,QK]
  first | done | rfl
 ·have n1:(f=[116,114,117,101])=False:=eq_false (by rw [e];decide)
  have n2:(f=[121,101,115])=True:=eq_true e
  simp (config:={maxSteps:=1000000}) (disch:=(try simp only [awL]);omega) only [awS,n1,n2,↓awU,awV,awX,awF,↓reduceIte,↓reduceDIte,↓Qe,Qu,Qv,Qw,Qx,Qy,Qz,QA,QB,QC,QD,QE,QF,QG,QH,QI,QK]
  first | done | rfl
 ·have n1:(f=[116,114,117,101])=False:=eq_false (by rw [e];decide)
  have n2:(f=[121,101,115])=False:=eq_false (by rw [e];decide)
  have n3:(f=[102,97,108,115,101])=True:=eq_true e
  simp (config:={maxSteps:=1000000}) (disch:=(try simp only [awL]);omega) only [awS,n1,n2,n3,↓awU,awV,awX,awF,↓reduceIte,↓reduceDIte,↓Qe,Qu,Qv,Qw,Qx,Qy,Qz,QA,QB,QC,QD,QE,QF,QG,QH,QI,QK]
  first | done | rfl
 ·have n1:(f=[116,114,117,101])=False:=eq_false (by rw [e];decide)
  have n2:(f=[121,101,115])=False:=eq_false (by rw [e];decide)
  have n3:(f=[102,97,108,115,101])=False:=eq_false (by rw [e];decide)
  have n4:(f=[110,111])=True:=eq_true e
  simp (config:={maxSteps:=1000000}) (disch:=(try simp only [awL]);omega) only [awS,n1,n2,n3,n4,↓awU,awV,awX,awF,↓reduceIte,↓reduceDIte,↓Qe,Qu,Qv,Qw,Qx,Qy,Qz,QA,QB,QC,QD,QE,QF,QG,QH,QI,QK]
  first | done | rfl
 ·simp (config:={maxSteps:=1000000}) (disch:=(try simp only [awL]);omega) only [awS,n1,n2,n3,n4,↓awU,awV,awX,awF,↓reduceIte,↓reduceDIte,↓Qe,Qu,Qv,Qw,Qx,Qy,Qz,QA,QB,QC,QD,QE,QF,QG,QH,QI,QK]
  first | done | rfl
def okIn (t:List UInt8):Bool:=!decide ((46:UInt8)∈t) && Num.decOk t
def canIn (t:List UInt8):List UInt8:=if okIn t=true then canD t else []
def canDe (t:List UInt8):List UInt8:=if Num.decOk t=true then canD t else []
theorem integer_spec (hG:Num.HG G) (t:List UInt8) (ht:t.length≤2000000):Ctr TP G 68 [.d (S t)] [] (.d (.tup [S (canIn t),.bool (okIn t)])) []:=by
 refine Ctr.pure (M:=M0) hmix Tryz.func68 rfl go68 ?_
 have sp:=contains1_spec (G:=G) t 46
 obtain ⟨r,hr⟩:∃ r,r=D.tup [S (canIn t),D.bool (okIn t)]:=⟨_,rfl⟩
 rw [← hr]
 unfold canIn okIn at hr
 have sd:=tdecimal_spec hG t ht
 by_cases e:(46:UInt8)∈t
 ·rw [decide_eq_true e] at hr sp
  rw [Bool.not_true,Bool.false_and,if_neg Bool.false_ne_true] at hr
  subst hr
  simp (config:={maxSteps:=1000000}) (disch:=(try simp only [awL]);omega) only [awS,Tryz.f68,↓awU,awV,awX,awF,↓reduceIte,↓reduceDIte,↓Qe,Qu,Qv,Qw,Qx,Qy,Qz,QA,QB,QC,QD,QE,QF,QG,QH,QI,QK]
  refine CallC.of sp (by rfl) ?_
  simp (config:={maxSteps:=1000000}) (disch:=(try simp only [awL]);omega) only [awS,↓awU,awV,awX,awF,↓reduceIte,↓reduceDIte,↓Qe,Qu,Qv,Qw,Qx,Qy,Qz,QA,QB,QC,QD,QE,QF,QG,QH,QI,QK]
  first | done | rfl
 ·rw [decide_eq_false e] at hr sp
  rw [Bool.not_false,Bool.true_and] at hr
  subst hr
  generalize (if Num.decOk t=true then canD t else [])=x at *
  simp (config:={maxSteps:=1000000}) (disch:=(try simp only [awL]);omega) only [awS,Tryz.f68,↓awU,awV,awX,awF,↓reduceIte,↓reduceDIte,↓Qe,Qu,Qv,Qw,Qx,Qy,Qz,QA,QB,QC,QD,QE,QF,QG,QH,QI,QK]
  refine CallC.of sp (by rfl) ?_
  simp (config:={maxSteps:=1000000}) (disch:=(try simp only [awL]);omega) only [awS,↓awU,awV,awX,awF,↓reduceIte,↓reduceDIte,↓Qe,Qu,Qv,Qw,Qx,Qy,Qz,QA,QB,QC,QD,QE,QF,QG,QH,QI,QK]
  refine CallC.of sd (by rfl) ?_
  simp (config:={maxSteps:=1000000}) (disch:=(try simp only [awL]);omega) only [awS,↓awU,awV,awX,awF,↓reduceIte,↓reduceDIte,↓Qe,Qu,Qv,Qw,Qx,Qy,Qz,QA,QB,QC,QD,QE,QF,QG,QH,QI,QK]
  first | done | rfl
theorem dInt_one (n:Int):Rat.divInt n 1=(n:Rat):=Rat.num_divInt_den (n:Rat)
theorem whole_spec (n:Int) (h1:-9223372036854775808≤n) (h2:n≤9223372036854775807):Ctr TP G 92 [.d (.int .i64 n)] [] (.d (.tup [Num.Frac (n:Rat),.bool true])) []:=by
 refine Ctr.pure (M:=M0) hmix Tryz.func92 rfl go92 ?_
 have sp:=Num.of_spec (G:=G) n 1 h1 h2 (by decide) (by decide)
 rw [if_neg (by decide),if_neg (by decide),dInt_one] at sp
 simp (config:={maxSteps:=1000000}) (disch:=(try simp only [awL]);omega) only [awS,Tryz.f92,↓awU,awV,awX,awF,↓reduceIte,↓reduceDIte,↓Qe,Qu,Qv,Qw,Qx,Qy,Qz,QA,QB,QC,QD,QE,QF,QG,QH,QI,QK]
 refine CallC.of sp (by rfl) ?_
 simp (config:={maxSteps:=1000000}) (disch:=(try simp only [awL]);omega) only [awS,↓awU,awV,awX,awF,↓reduceIte,↓reduceDIte,↓Qe,Qu,Qv,Qw,Qx,Qy,Qz,QA,QB,QC,QD,QE,QF,QG,QH,QI,QK]
 first | done | rfl
theorem none_spec (s:List UInt8):Ctr TP G 65 [.d (S s)] [] (.d (.tup [Num.Zf,.bool false])) []:=by
 refine Ctr.pure (M:=M0) hmix Tryz.func65 rfl go65 ?_
 simp (config:={maxSteps:=1000000}) (disch:=(try simp only [awL]);omega) only [awS,Tryz.f65,↓awU,awV,awX,awF,↓reduceIte,↓reduceDIte,↓Qe,Qu,Qv,Qw,Qx,Qy,Qz,QA,QB,QC,QD,QE,QF,QG,QH,QI,QK]
 first | done | rfl
def boV (t:List UInt8):Int:=if t=[116,114,117,101] then 1 else 0
theorem truth_spec (t:List UInt8):Ctr TP G 67 [.d (S t)] [] (.d (.tup [Num.Frac (boV t:Rat),.bool true])) []:=by
 refine Ctr.pure (M:=M0) hmix Tryz.func67 rfl go67 ?_
 unfold boV
 by_cases e:t=[116,114,117,101]
 ·have e':(t=[116,114,117,101])=True:=eq_true e
  rw [if_pos e]
  simp (config:={maxSteps:=1000000}) (disch:=(try simp only [awL]);omega) only [awS,e',Tryz.f67,↓awU,awV,awX,awF,↓reduceIte,↓reduceDIte,↓Qe,Qu,Qv,Qw,Qx,Qy,Qz,QA,QB,QC,QD,QE,QF,QG,QH,QI,QK]
  refine CallC.of (whole_spec 1 (by decide) (by decide)) (by rfl) ?_
  simp (config:={maxSteps:=1000000}) (disch:=(try simp only [awL]);omega) only [awS,↓awU,awV,awX,awF,↓reduceIte,↓reduceDIte,↓Qe,Qu,Qv,Qw,Qx,Qy,Qz,QA,QB,QC,QD,QE,QF,QG,QH,QI,QK]
  first | done | rfl
 ·have e':(t=[116,114,117,101])=False:=eq_false e
  rw [if_neg e]
  simp (config:={maxSteps:=1000000}) (disch:=(try simp only [awL]);omega) only [awS,e',Tryz.f67,↓awU,awV,awX,awF,↓reduceIte,↓reduceDIte,↓Qe,Qu,Qv,Qw,Qx,Qy,Qz,QA,QB,QC,QD,QE,QF,QG,QH,QI,QK]
  refine CallC.of (whole_spec 0 (by decide) (by decide)) (by rfl) ?_
  simp (config:={maxSteps:=1000000}) (disch:=(try simp only [awL]);omega) only [awS,↓awU,awV,awX,awF,↓reduceIte,↓reduceDIte,↓Qe,Qu,Qv,Qw,Qx,Qy,Qz,QA,QB,QC,QD,QE,QF,QG,QH,QI,QK]
  first | done | rfl
theorem tsplit_spec (c:UInt8) (s:List UInt8) (hs:s.length≤1000000000):Ctr TP G 107 [.d (S s),.d (S [c])] [] (.d (Ss (splB c s) false)) []:=by
 refine Ctr.pure (M:=M0) hmix Tryz.func107 rfl go107 ?_
 simp (config:={maxSteps:=1000000}) (disch:=(try simp only [awL]);omega) only [awS,Tryz.f107,↓awU,awV,awX,awF,↓reduceIte,↓reduceDIte,↓Qe,Qu,Qv,Qw,Qx,Qy,Qz,QA,QB,QC,QD,QE,QF,QG,QH,QI,QK]
 refine CallC.of (genSplit_spec c s hs) (by rfl) ?_
 simp (config:={maxSteps:=1000000}) (disch:=(try simp only [awL]);omega) only [awS,↓awU,awV,awX,awF,↓reduceIte,↓reduceDIte,↓Qe,Qu,Qv,Qw,Qx,Qy,Qz,QA,QB,QC,QD,QE,QF,QG,QH,QI,QK]
 first | done | rfl
def dst (t:List UInt8) (i:Nat):T3 :=
 match i with
 | 0=>([],[],[])
 | 1=>step3 45 t ([],[],[])
 | 2=>step3 47 t (step3 45 t ([],[],[]))
 | _=>ymd t
theorem step3_eq {c:UInt8} {t a b d:List UInt8} (x:T3) (e:splB c t=[a,b,d]):step3 c t x=(a,b,d):=by unfold step3;rw [e,if_pos (show [a,b,d].length=3 from rfl)];rfl
theorem step3_no {c:UInt8} {t:List UInt8} (x:T3) (h:(splB c t).length≠3):step3 c t x=x:=by unfold step3;rw [if_neg h]
def MDa:Muts:=fun k=>k == 2000024
theorem MDa_n {k:Nat} (h:k≠2000024):MDa k=false:=by simp only [MDa,beq_eq_false_iff_ne];exact h
def cutsB:List AV:=[.d (.str ⟨#[45]⟩),.ptr 0 0,.ptr 1 0,.ptr 2 0,.d (.str ⟨#[47]⟩),.ptr 0 0,.ptr 1 0,.ptr 2 0,.d (.str ⟨#[46]⟩),.ptr 2 0,.ptr 1 0,.ptr 0 0]
theorem ymd_len (t:List UInt8):(ymd t).1.length≤t.length∧(ymd t).2.1.length≤t.length∧(ymd t).2.2.length≤t.length:=by
 rcases ymd_cases t with e | ⟨c,_,e⟩ | e
 ·rw [e];exact ⟨Nat.zero_le _,Nat.zero_le _,Nat.zero_le _⟩
 ·have:=congrArg List.length e
  simp only [List.length_append,List.length_cons] at this
  omega
 ·have:=congrArg List.length e
  simp only [List.length_append,List.length_cons] at this
  omega
theorem tdtext_spec (hE:HE G) (hP:HP G) (t:List UInt8) (ht:t.length≤2000000):Ctr TP G 71 [.d (S t)] [] (.d (.tup [S (canDt t),.bool (okD t)])) []:=by
 refine Ctr.pure (M:=MDa) hmix Tryz.func71 rfl go71 ?_
 have mk:markK MDa (some 24)=true:=rfl
 have hb0:ByteArray.empty=bs []:=rfl
 simp (config:={maxSteps:=1000000}) (disch:=(try simp only [awL]);omega) only [awS,MDa_n,mk,Tryz.f71,↓awU,awV,awX,awF,↓reduceIte,↓reduceDIte,↓Qe,Qu,Qv,Qw,Qx,Qy,Qz,QA,QB,QC,QD,QE,QF,QG,QH,QI,QK]
 refine LoopC.fx 50331761 (α:=Nat) (β:=Unit) (fun i=>3 - i) (fun i=>[(26,.d (.int .i64 (i:Nat)))])
  (fun i=>[.box [.d (S (dst t i).1)],.box [.d (S (dst t i).2.1)],.box [.d (S (dst t i).2.2)],.box cutsB]) (fun i=>i≤3)
  112 (fun _=>[]) (fun _=>[.box [.d (S (ymd t).1)],.box [.d (S (ymd t).2.1)],.box [.d (S (ymd t).2.2)],.box cutsB]) (fun _=>True) 0 (Nat.zero_le _) ?_ ?_ ?_
 ·exact ⟨[some 0,some 1,some 2,some 3],rfl,by simp,by simp [sA,kA,SW,AW],by simp [HW,BW,SW,AW,cutsB,dst,hb0]⟩
 ·intro i hi
  simp only [awK,Nat.reduceMod,Nat.reduceDiv,reduceIte]
  unfold cutsB
  rcases (by omega:i=0∨i=1∨i=2∨i=3) with e | e | e | e
  ·subst e
   have sp:=tsplit_spec (G:=G) 45 t (by omega)
   by_cases h:(splB 45 t).length=3
   ·obtain ⟨a,b,d,e,_⟩:=spl3_of h
    rw [e,show Ss [a,b,d] false=.sl 3 false [S a,S b,S d] from rfl] at sp
    have n0:dst t 0=([],[],[]):=rfl
    have n1:dst t 1=(a,b,d):=step3_eq _ e
    simp (config:={maxSteps:=1000000}) (disch:=(try simp only [awL]);omega) only [awS,MDa_n,mk,↓awU,awV,awX,awF,↓reduceIte,↓reduceDIte,↓Qe,Qu,Qv,Qw,Qx,Qy,Qz,QA,QB,QC,QD,QE,QF,QG,QH,QI,QK]
    refine CallC.of sp (by rfl) ?_
    simp (config:={maxSteps:=1000000}) (disch:=(try simp only [awL]);omega) only [awS,MDa_n,mk,↓awU,awV,awX,awF,↓reduceIte,↓reduceDIte,↓Qe,Qu,Qv,Qw,Qx,Qy,Qz,QA,QB,QC,QD,QE,QF,QG,QH,QI,QK]
    first
    | exact ⟨0+1,by omega,by simp only;omega,⟨[some 0,some 1,some 2,some 3],rfl,by simp,by simp [sA,kA,SW,AW],by simp [HW,BW,SW,AW,cutsB,n1]⟩⟩
    | exact ⟨by rfl,0+1,by omega,by simp only;omega,⟨[some 0,some 1,some 2,some 3],rfl,by simp,by simp [sA,kA,SW,AW],by simp [HW,BW,SW,AW,cutsB,n1]⟩⟩
   ·have n1:dst t 1=dst t 0:=step3_no _ h
    generalize splB 45 t=L at *
    simp (config:={maxSteps:=1000000}) (disch:=(try simp only [awL]);omega) only [awS,MDa_n,mk,↓awU,awV,awX,awF,↓reduceIte,↓reduceDIte,↓Qe,Qu,Qv,Qw,Qx,Qy,Qz,QA,QB,QC,QD,QE,QF,QG,QH,QI,QK]
    refine CallC.of sp (by rfl) ?_
    simp (config:={maxSteps:=1000000}) (disch:=(try simp only [awL]);omega) only [awS,MDa_n,mk,↓awU,awV,awX,awF,↓reduceIte,↓reduceDIte,↓Qe,Qu,Qv,Qw,Qx,Qy,Qz,QA,QB,QC,QD,QE,QF,QG,QH,QI,QK]
    first
    | exact ⟨0+1,by omega,by simp only;omega,⟨[some 0,some 1,some 2,some 3],rfl,by simp,by simp [sA,kA,SW,AW],by simp [HW,BW,SW,AW,cutsB,n1]⟩⟩
    | exact ⟨by rfl,0+1,by omega,by simp only;omega,⟨[some 0,some 1,some 2,some 3],rfl,by simp,by simp [sA,kA,SW,AW],by simp [HW,BW,SW,AW,cutsB,n1]⟩⟩
  ·subst e
   have sp:=tsplit_spec (G:=G) 47 t (by omega)
   by_cases h:(splB 47 t).length=3
   ·obtain ⟨a,b,d,e,_⟩:=spl3_of h
    rw [e,show Ss [a,b,d] false=.sl 3 false [S a,S b,S d] from rfl] at sp
    have n1:dst t 2=(a,b,d):=step3_eq _ e
    simp (config:={maxSteps:=1000000}) (disch:=(try simp only [awL]);omega) only [awS,MDa_n,mk,↓awU,awV,awX,awF,↓reduceIte,↓reduceDIte,↓Qe,Qu,Qv,Qw,Qx,Qy,Qz,QA,QB,QC,QD,QE,QF,QG,QH,QI,QK]
    refine CallC.of sp (by rfl) ?_
    simp (config:={maxSteps:=1000000}) (disch:=(try simp only [awL]);omega) only [awS,MDa_n,mk,↓awU,awV,awX,awF,↓reduceIte,↓reduceDIte,↓Qe,Qu,Qv,Qw,Qx,Qy,Qz,QA,QB,QC,QD,QE,QF,QG,QH,QI,QK]
    first
    | exact ⟨1+1,by omega,by simp only;omega,⟨[some 0,some 1,some 2,some 3],rfl,by simp,by simp [sA,kA,SW,AW],by simp [HW,BW,SW,AW,cutsB,n1]⟩⟩
    | exact ⟨by rfl,1+1,by omega,by simp only;omega,⟨[some 0,some 1,some 2,some 3],rfl,by simp,by simp [sA,kA,SW,AW],by simp [HW,BW,SW,AW,cutsB,n1]⟩⟩
   ·have n1:dst t 2=dst t 1:=step3_no _ h
    generalize splB 47 t=L at *
    simp (config:={maxSteps:=1000000}) (disch:=(try simp only [awL]);omega) only [awS,MDa_n,mk,↓awU,awV,awX,awF,↓reduceIte,↓reduceDIte,↓Qe,Qu,Qv,Qw,Qx,Qy,Qz,QA,QB,QC,QD,QE,QF,QG,QH,QI,QK]
    refine CallC.of sp (by rfl) ?_
    simp (config:={maxSteps:=1000000}) (disch:=(try simp only [awL]);omega) only [awS,MDa_n,mk,↓awU,awV,awX,awF,↓reduceIte,↓reduceDIte,↓Qe,Qu,Qv,Qw,Qx,Qy,Qz,QA,QB,QC,QD,QE,QF,QG,QH,QI,QK]
    first
    | exact ⟨1+1,by omega,by simp only;omega,⟨[some 0,some 1,some 2,some 3],rfl,by simp,by simp [sA,kA,SW,AW],by simp [HW,BW,SW,AW,cutsB,n1]⟩⟩
    | exact ⟨by rfl,1+1,by omega,by simp only;omega,⟨[some 0,some 1,some 2,some 3],rfl,by simp,by simp [sA,kA,SW,AW],by simp [HW,BW,SW,AW,cutsB,n1]⟩⟩
  ·subst e
   have sp:=tsplit_spec (G:=G) 46 t (by omega)
   by_cases h:(splB 46 t).length=3
   ·obtain ⟨a,b,d,e,_⟩:=spl3_of h
    rw [e,show Ss [a,b,d] false=.sl 3 false [S a,S b,S d] from rfl] at sp
    have n1:dst t 3=(d,b,a):=by show ymd t=_;unfold ymd;rw [step3_eq _ e];rfl
    simp (config:={maxSteps:=1000000}) (disch:=(try simp only [awL]);omega) only [awS,MDa_n,mk,↓awU,awV,awX,awF,↓reduceIte,↓reduceDIte,↓Qe,Qu,Qv,Qw,Qx,Qy,Qz,QA,QB,QC,QD,QE,QF,QG,QH,QI,QK]
    refine CallC.of sp (by rfl) ?_
    simp (config:={maxSteps:=1000000}) (disch:=(try simp only [awL]);omega) only [awS,MDa_n,mk,↓awU,awV,awX,awF,↓reduceIte,↓reduceDIte,↓Qe,Qu,Qv,Qw,Qx,Qy,Qz,QA,QB,QC,QD,QE,QF,QG,QH,QI,QK]
    first
    | exact ⟨2+1,by omega,by simp only;omega,⟨[some 0,some 1,some 2,some 3],rfl,by simp,by simp [sA,kA,SW,AW],by simp [HW,BW,SW,AW,cutsB,n1]⟩⟩
    | exact ⟨by rfl,2+1,by omega,by simp only;omega,⟨[some 0,some 1,some 2,some 3],rfl,by simp,by simp [sA,kA,SW,AW],by simp [HW,BW,SW,AW,cutsB,n1]⟩⟩
   ·have n1:dst t 3=dst t 2:=by show ymd t=_;unfold ymd;rw [step3_no _ h];rfl
    generalize splB 46 t=L at *
    simp (config:={maxSteps:=1000000}) (disch:=(try simp only [awL]);omega) only [awS,MDa_n,mk,↓awU,awV,awX,awF,↓reduceIte,↓reduceDIte,↓Qe,Qu,Qv,Qw,Qx,Qy,Qz,QA,QB,QC,QD,QE,QF,QG,QH,QI,QK]
    refine CallC.of sp (by rfl) ?_
    simp (config:={maxSteps:=1000000}) (disch:=(try simp only [awL]);omega) only [awS,MDa_n,mk,↓awU,awV,awX,awF,↓reduceIte,↓reduceDIte,↓Qe,Qu,Qv,Qw,Qx,Qy,Qz,QA,QB,QC,QD,QE,QF,QG,QH,QI,QK]
    first
    | exact ⟨2+1,by omega,by simp only;omega,⟨[some 0,some 1,some 2,some 3],rfl,by simp,by simp [sA,kA,SW,AW],by simp [HW,BW,SW,AW,cutsB,n1]⟩⟩
    | exact ⟨by rfl,2+1,by omega,by simp only;omega,⟨[some 0,some 1,some 2,some 3],rfl,by simp,by simp [sA,kA,SW,AW],by simp [HW,BW,SW,AW,cutsB,n1]⟩⟩
  ·subst e
   have n1:dst t 3=ymd t:=rfl
   simp (config:={maxSteps:=1000000}) (disch:=(try simp only [awL]);omega) only [awS,MDa_n,mk,↓awU,awV,awX,awF,↓reduceIte,↓reduceDIte,↓Qe,Qu,Qv,Qw,Qx,Qy,Qz,QA,QB,QC,QD,QE,QF,QG,QH,QI,QK]
   first
   | exact ⟨(),trivial,⟨[some 0,some 1,some 2,some 3],rfl,by simp,by simp [sA,kA,SW,AW],by simp [HW,BW,SW,AW,cutsB,n1]⟩⟩
 ·rintro ⟨⟩ -
  simp only [awK,Nat.reduceMod,Nat.reduceDiv,reduceIte]
  obtain ⟨l1,l2,l3⟩:=ymd_len t
  have s1:=tfield_spec hE hP (ymd t).1 4 (by omega) (by omega)
  have s2:=tfield_spec hE hP (ymd t).2.1 2 (by omega) (by omega)
  have s3:=tfield_spec hE hP (ymd t).2.2 2 (by omega) (by omega)
  obtain ⟨y1,y2⟩:=fldR_i64 (ymd t).1 4
  obtain ⟨m1,m2⟩:=fldR_i64 (ymd t).2.1 2
  obtain ⟨d1,d2⟩:=fldR_i64 (ymd t).2.2 2
  have oe:=okP_eq t
  have ce:=@canP_eq t
  unfold okP at oe ce
  rw [oe] at ce
  have ck:=okDt_pos (y:=(pY t).1) (m:=(pM t).1) (d:=(pD t).1)
  unfold pY pM pD at *
  have sd:=day_spec (G:=G) _ _ _ y1 y2 m1 m2 d1 d2
  generalize (ymd t).1=Y at *
  generalize (ymd t).2.1=M at *
  generalize (ymd t).2.2=D at *
  generalize fldR Y 4=yp at *
  generalize fldR M 2=mp at *
  generalize fldR D 2=dp at *
  obtain ⟨y,yb⟩:=yp
  obtain ⟨m,mb⟩:=mp
  obtain ⟨d,db⟩:=dp
  simp only at *
  generalize hcd:canDt t=C at *
  have cn:okD t=false→C=[]:=fun q=>by rw [← hcd];unfold canDt;rw [if_neg (by rw [q];decide)]
  generalize okD t=ok at *
  generalize dayV y m d=dv at *
  simp (config:={maxSteps:=1000000}) (disch:=(try simp only [awL]);omega) only [awS,MDa_n,mk,↓awU,awV,awX,awF,↓reduceIte,↓reduceDIte,↓Qe,Qu,Qv,Qw,Qx,Qy,Qz,QA,QB,QC,QD,QE,QF,QG,QH,QI,QK]
  refine CallC.of s1 (by rfl) ?_
  simp (config:={maxSteps:=1000000}) (disch:=(try simp only [awL]);omega) only [awS,MDa_n,mk,↓awU,awV,awX,awF,↓reduceIte,↓reduceDIte,↓Qe,Qu,Qv,Qw,Qx,Qy,Qz,QA,QB,QC,QD,QE,QF,QG,QH,QI,QK]
  refine CallC.of s2 (by rfl) ?_
  simp (config:={maxSteps:=1000000}) (disch:=(try simp only [awL]);omega) only [awS,MDa_n,mk,↓awU,awV,awX,awF,↓reduceIte,↓reduceDIte,↓Qe,Qu,Qv,Qw,Qx,Qy,Qz,QA,QB,QC,QD,QE,QF,QG,QH,QI,QK]
  refine CallC.of s3 (by rfl) ?_
  simp (config:={maxSteps:=1000000}) (disch:=(try simp only [awL]);omega) only [awS,MDa_n,mk,↓awU,awV,awX,awF,↓reduceIte,↓reduceDIte,↓Qe,Qu,Qv,Qw,Qx,Qy,Qz,QA,QB,QC,QD,QE,QF,QG,QH,QI,QK]
  refine CallC.of sd (by rfl) ?_
  cases h0:okDt y m d
  ·rw [h0] at oe
   obtain rfl:ok=false:=by rw [← oe];rfl
   rw [cn rfl]
   simp (config:={maxSteps:=1000000}) (disch:=(try simp only [awL]);omega) only [awS,MDa_n,mk,↓awU,awV,awX,awF,↓reduceIte,↓reduceDIte,↓Qe,Qu,Qv,Qw,Qx,Qy,Qz,QA,QB,QC,QD,QE,QF,QG,QH,QI,QK]
   first | done | rfl
  cases yb
  ·rw [h0] at oe
   obtain rfl:ok=false:=by rw [← oe];rfl
   rw [cn rfl]
   simp (config:={maxSteps:=1000000}) (disch:=(try simp only [awL]);omega) only [awS,MDa_n,mk,↓awU,awV,awX,awF,↓reduceIte,↓reduceDIte,↓Qe,Qu,Qv,Qw,Qx,Qy,Qz,QA,QB,QC,QD,QE,QF,QG,QH,QI,QK]
   first | done | rfl
  cases mb
  ·rw [h0] at oe
   obtain rfl:ok=false:=by rw [← oe];rfl
   rw [cn rfl]
   simp (config:={maxSteps:=1000000}) (disch:=(try simp only [awL]);omega) only [awS,MDa_n,mk,↓awU,awV,awX,awF,↓reduceIte,↓reduceDIte,↓Qe,Qu,Qv,Qw,Qx,Qy,Qz,QA,QB,QC,QD,QE,QF,QG,QH,QI,QK]
   first | done | rfl
  cases db
  ·rw [h0] at oe
   obtain rfl:ok=false:=by rw [← oe];rfl
   rw [cn rfl]
   simp (config:={maxSteps:=1000000}) (disch:=(try simp only [awL]);omega) only [awS,MDa_n,mk,↓awU,awV,awX,awF,↓reduceIte,↓reduceDIte,↓Qe,Qu,Qv,Qw,Qx,Qy,Qz,QA,QB,QC,QD,QE,QF,QG,QH,QI,QK]
   first | done | rfl
  rw [h0] at oe
  obtain rfl:ok=true:=by rw [← oe];rfl
  have ce:=ce rfl
  obtain ⟨p1,p2,p3,p4,p5,p6⟩:=ck h0
  have t4:(10:Nat) ^ 4=10000:=by decide
  have t2:(10:Nat) ^ 2=100:=by decide
  have a1:(padP y 4).length=4:=by
   obtain ⟨n,rfl⟩:∃ n:Nat,y=n:=⟨y.toNat,by omega⟩
   rw [padP_eq (by decide) (by omega),padN_len]
  have a2:(padP m 2).length=2:=by
   obtain ⟨n,rfl⟩:∃ n:Nat,m=n:=⟨m.toNat,by omega⟩
   rw [padP_eq (by decide) (by omega),padN_len]
  have a3:(padP d 2).length=2:=by
   obtain ⟨n,rfl⟩:∃ n:Nat,d=n:=⟨d.toNat,by omega⟩
   rw [padP_eq (by decide) (by omega),padN_len]
  have q1:=padded_spec hP y 4 (by omega) (by omega) (by decide)
  have q2:=padded_spec hP m 2 (by omega) (by omega) (by decide)
  have q3:=padded_spec hP d 2 (by omega) (by omega) (by decide)
  rw [← ce]
  generalize padP y 4=ys at *
  generalize padP m 2=ms at *
  generalize padP d 2=ds at *
  simp (config:={maxSteps:=1000000}) (disch:=(try simp only [awL]);omega) only [awS,MDa_n,mk,↓awU,awV,awX,awF,↓reduceIte,↓reduceDIte,↓Qe,Qu,Qv,Qw,Qx,Qy,Qz,QA,QB,QC,QD,QE,QF,QG,QH,QI,QK]
  refine CallC.of q1 (by rfl) ?_
  simp (config:={maxSteps:=1000000}) (disch:=(try simp only [awL]);omega) only [awS,MDa_n,mk,↓awU,awV,awX,awF,↓reduceIte,↓reduceDIte,↓Qe,Qu,Qv,Qw,Qx,Qy,Qz,QA,QB,QC,QD,QE,QF,QG,QH,QI,QK]
  refine CallC.of q2 (by rfl) ?_
  simp (config:={maxSteps:=1000000}) (disch:=(try simp only [awL]);omega) only [awS,MDa_n,mk,↓awU,awV,awX,awF,↓reduceIte,↓reduceDIte,↓Qe,Qu,Qv,Qw,Qx,Qy,Qz,QA,QB,QC,QD,QE,QF,QG,QH,QI,QK]
  refine CallC.of q3 (by rfl) ?_
  simp (config:={maxSteps:=1000000}) (disch:=(try simp only [awL]);omega) only [awS,MDa_n,mk,List.append_assoc,↓awU,awV,awX,awF,↓reduceIte,↓reduceDIte,↓Qe,Qu,Qv,Qw,Qx,Qy,Qz,QA,QB,QC,QD,QE,QF,QG,QH,QI,QK]
  first | done | rfl | (simp only [List.append_assoc,List.singleton_append];rfl)
theorem atoiD_padN {w n:Nat} (h1:1≤w) (h9:w≤9) (h:n<10 ^ w):atoiD (padN w n)=.tup [.int .i64 n,.nili]:=by unfold atoiD;rw [atoi_padN h1 h9 h]
def dyN (y m d:Nat) (i:Nat):List AV:=[.d (.int .i64 (if 1≤i then (y:Int) else 0)),.d (.int .i64 (if 2≤i then (m:Int) else 0)),.d (.int .i64 (if 3≤i then (d:Int) else 0))]
theorem dayOf_spec (hE:HE G) (y m d:Int) (ok:okDt y m d=true):Ctr TP G 72 [.d (S (dateS y m d))] [] (.d (.tup [Num.Frac (dayV y m d:Rat),.bool true])) []:=by
 refine Ctr.pure (M:=M0) hmix Tryz.func72 rfl go72 ?_
 obtain ⟨p1,p2,p3,p4,p5,p6⟩:=okDt_pos ok
 have t4:(10:Nat) ^ 4=10000:=by decide
 have t2:(10:Nat) ^ 2=100:=by decide
 obtain ⟨y,rfl⟩:∃ n:Nat,y=n:=⟨y.toNat,by omega⟩
 obtain ⟨m,rfl⟩:∃ n:Nat,m=n:=⟨m.toNat,by omega⟩
 obtain ⟨d,rfl⟩:∃ n:Nat,d=n:=⟨d.toNat,by omega⟩
 have sl:=spl_dateS y m d
 have dl:(dateS y m d).length=10:=dateS_len _ _ _
 have sp:=tsplit_spec (G:=G) 45 (dateS y m d) (by omega)
 rw [sl] at sp
 simp only [Int.toNat_natCast] at sp
 have a1:=atoi_spec hE (padN 4 y) (by rw [padN_len];decide)
 have a2:=atoi_spec hE (padN 2 m) (by rw [padN_len];decide)
 have a3:=atoi_spec hE (padN 2 d) (by rw [padN_len];decide)
 rw [atoiD_padN (by decide) (by decide) (by omega)] at a1 a2 a3
 have sd:=day_spec (G:=G) y m d (by omega) (by omega) (by omega) (by omega) (by omega) (by omega)
 have dr:-719162≤dayV y m d∧dayV y m d≤2932896:=by
  have:=(okDt_is ok).range
  unfold dayV
  rw [if_pos ok];omega
 generalize dateS y m d=t at *
 generalize dayV y m d=dv at *
 generalize padN 4 y=ys at *
 generalize padN 2 m=ms at *
 generalize padN 2 d=ds at *
 rw [ok] at sd
 rw [show Ss [ys,ms,ds] false=.sl 3 false [S ys,S ms,S ds] from rfl] at sp
 simp (config:={maxSteps:=1000000}) (disch:=(try simp only [awL]);omega) only [awS,Tryz.f72,↓awU,awV,awX,awF,↓reduceIte,↓reduceDIte,↓Qe,Qu,Qv,Qw,Qx,Qy,Qz,QA,QB,QC,QD,QE,QF,QG,QH,QI,QK]
 refine CallC.of sp (by rfl) ?_
 simp (config:={maxSteps:=1000000}) (disch:=(try simp only [awL]);omega) only [awS,↓awU,awV,awX,awF,↓reduceIte,↓reduceDIte,↓Qe,Qu,Qv,Qw,Qx,Qy,Qz,QA,QB,QC,QD,QE,QF,QG,QH,QI,QK]
 refine LoopC.fx 3092 (α:=Nat) (β:=Unit) (fun i=>3 - i) (fun i=>[(12,.d (.int .i64 (i:Nat)))])
  (fun i=>[.box [.d (.bool false),.d (.sl 0 true []),.d (.bool false),.d (.sl 0 true [])],.box (dyN y m d i)]) (fun i=>i≤3)
  20 (fun _=>[]) (fun _=>[.box [.d (.bool false),.d (.sl 0 true []),.d (.bool false),.d (.sl 0 true [])],.box (dyN y m d 3)]) (fun _=>True) 0 (Nat.zero_le _) ?_ ?_ ?_
 ·first
  | exact ⟨[some 0,some 1],rfl,by simp,by simp [sA,kA,SW,AW],by simp [HW,BW,SW,AW,dyN]⟩
 ·intro i hi
  simp only [awK,Nat.reduceMod,Nat.reduceDiv,reduceIte]
  unfold dyN
  rcases (by omega:i=0∨i=1∨i=2∨i=3) with e | e | e | e
  ·subst e
   simp (config:={maxSteps:=1000000}) (disch:=(try simp only [awL]);omega) only [awS,↓awU,awV,awX,awF,↓reduceIte,↓reduceDIte,↓Qe,Qu,Qv,Qw,Qx,Qy,Qz,QA,QB,QC,QD,QE,QF,QG,QH,QI,QK]
   refine CallC.of a1 (by rfl) ?_
   simp (config:={maxSteps:=1000000}) (disch:=(try simp only [awL]);omega) only [awS,↓awU,awV,awX,awF,↓reduceIte,↓reduceDIte,↓Qe,Qu,Qv,Qw,Qx,Qy,Qz,QA,QB,QC,QD,QE,QF,QG,QH,QI,QK]
   first
   | exact ⟨0+1,by omega,by simp only;omega,⟨[some 0,some 1],rfl,by simp,by simp [sA,kA,SW,AW],by simp [HW,BW,SW,AW,dyN]⟩⟩
   | exact ⟨by rfl,0+1,by omega,by simp only;omega,⟨[some 0,some 1],rfl,by simp,by simp [sA,kA,SW,AW],by simp [HW,BW,SW,AW,dyN]⟩⟩
  ·subst e
   simp (config:={maxSteps:=1000000}) (disch:=(try simp only [awL]);omega) only [awS,↓awU,awV,awX,awF,↓reduceIte,↓reduceDIte,↓Qe,Qu,Qv,Qw,Qx,Qy,Qz,QA,QB,QC,QD,QE,QF,QG,QH,QI,QK]
   refine CallC.of a2 (by rfl) ?_
   simp (config:={maxSteps:=1000000}) (disch:=(try simp only [awL]);omega) only [awS,↓awU,awV,awX,awF,↓reduceIte,↓reduceDIte,↓Qe,Qu,Qv,Qw,Qx,Qy,Qz,QA,QB,QC,QD,QE,QF,QG,QH,QI,QK]
   first
   | exact ⟨1+1,by omega,by simp only;omega,⟨[some 0,some 1],rfl,by simp,by simp [sA,kA,SW,AW],by simp [HW,BW,SW,AW,dyN]⟩⟩
   | exact ⟨by rfl,1+1,by omega,by simp only;omega,⟨[some 0,some 1],rfl,by simp,by simp [sA,kA,SW,AW],by simp [HW,BW,SW,AW,dyN]⟩⟩
  ·subst e
   simp (config:={maxSteps:=1000000}) (disch:=(try simp only [awL]);omega) only [awS,↓awU,awV,awX,awF,↓reduceIte,↓reduceDIte,↓Qe,Qu,Qv,Qw,Qx,Qy,Qz,QA,QB,QC,QD,QE,QF,QG,QH,QI,QK]
   refine CallC.of a3 (by rfl) ?_
   simp (config:={maxSteps:=1000000}) (disch:=(try simp only [awL]);omega) only [awS,↓awU,awV,awX,awF,↓reduceIte,↓reduceDIte,↓Qe,Qu,Qv,Qw,Qx,Qy,Qz,QA,QB,QC,QD,QE,QF,QG,QH,QI,QK]
   first
   | exact ⟨2+1,by omega,by simp only;omega,⟨[some 0,some 1],rfl,by simp,by simp [sA,kA,SW,AW],by simp [HW,BW,SW,AW,dyN]⟩⟩
   | exact ⟨by rfl,2+1,by omega,by simp only;omega,⟨[some 0,some 1],rfl,by simp,by simp [sA,kA,SW,AW],by simp [HW,BW,SW,AW,dyN]⟩⟩
  ·subst e
   simp (config:={maxSteps:=1000000}) (disch:=(try simp only [awL]);omega) only [awS,↓awU,awV,awX,awF,↓reduceIte,↓reduceDIte,↓Qe,Qu,Qv,Qw,Qx,Qy,Qz,QA,QB,QC,QD,QE,QF,QG,QH,QI,QK]
   first
   | exact ⟨(),trivial,⟨[some 0,some 1],rfl,by simp,by simp [sA,kA,SW,AW],by simp [HW,BW,SW,AW,dyN]⟩⟩
 ·rintro ⟨⟩ -
  simp only [awK,Nat.reduceMod,Nat.reduceDiv,reduceIte]
  unfold dyN
  simp (config:={maxSteps:=1000000}) (disch:=(try simp only [awL]);omega) only [awS,↓awU,awV,awX,awF,↓reduceIte,↓reduceDIte,↓Qe,Qu,Qv,Qw,Qx,Qy,Qz,QA,QB,QC,QD,QE,QF,QG,QH,QI,QK]
  refine CallC.of sd (by rfl) ?_
  simp (config:={maxSteps:=1000000}) (disch:=(try simp only [awL]);omega) only [awS,↓awU,awV,awX,awF,↓reduceIte,↓reduceDIte,↓Qe,Qu,Qv,Qw,Qx,Qy,Qz,QA,QB,QC,QD,QE,QF,QG,QH,QI,QK]
  refine CallC.of (whole_spec dv (by omega) (by omega)) (by rfl) ?_
  simp (config:={maxSteps:=1000000}) (disch:=(try simp only [awL]);omega) only [awS,↓awU,awV,awX,awF,↓reduceIte,↓reduceDIte,↓Qe,Qu,Qv,Qw,Qx,Qy,Qz,QA,QB,QC,QD,QE,QF,QG,QH,QI,QK]
  first | done | rfl
end Go.Proofs.YtdpjcghiegggbaaGreatDoor
namespace Go.Proofs.YtdpjcghiegggbaaGreatDoor.Num
open Go Go.Proofs Go.Abs
variable {G:Globals}
abbrev ex:List UInt8:=[45,49,50,46,53,48]
end Go.Proofs.YtdpjcghiegggbaaGreatDoor.Num
namespace Go.Proofs.YtdpjcghiegggbaaGreatDoor.Num
open Go Go.Proofs Go.Abs
end Go.Proofs.YtdpjcghiegggbaaGreatDoor.Num
namespace Go.Proofs.YtdpjcghiegggbaaGreatDoor
open Go Go.Proofs Go.Abs
namespace Decs
abbrev dg (b:UInt8):Bool:=Num.dig10.contains b
theorem cutL_num (c:UInt8):∀ s:List UInt8,cutL c s=Num.cutL c s
 | []=>rfl
 | b::l=>by rw [cutL,Num.cutL,cutL_num c l]
theorem cutR_num (c:UInt8):∀ s:List UInt8,cutR c s=Num.cutR c s
 | []=>rfl
 | b::l=>by rw [cutR,Num.cutR,cutR_num c l]
theorem dg_ne {b:UInt8} (h:dg b=true):b≠46∧b≠45∧b≠43∧b≠32∧b≠47:=by
 have:=Num.dig_range h
 refine ⟨?_,?_,?_,?_,?_⟩<;>rintro rfl<;>revert this<;>decide
structure Dig2 (F B:List UInt8):Prop where
 f1:1≤F.length
 fd:∀ b∈F,dg b=true
 bd:∀ b∈B,dg b=true
structure Dec (F B:List UInt8):Prop where
 f1:1≤F.length
 f2:F.length≤15
 fd:∀ b∈F,dg b=true
 b2:B.length≤9
 bd:∀ b∈B,dg b=true
theorem Dec.two {F B:List UInt8} (h:Dec F B):Dig2 F B:=⟨h.f1,h.fd,h.bd⟩
def pt (F B:List UInt8):List UInt8:=F++(if B=[] then [] else 46::B)
theorem cutL_pt {F:List UInt8} (h:∀ b∈F,dg b=true) (X:List UInt8):Num.cutL 46 (F++46::X)=F∧Num.cutR 46 (F++46::X)=X:=by
 induction F with
 | nil=>simp [Num.cutL,Num.cutR]
 | cons b l ih =>
  have hb:=(dg_ne (h b (List.mem_cons_self ..))).1
  have:=ih (fun c hc=>h c (List.mem_cons_of_mem _ hc))
  rw [List.cons_append,Num.cutL,Num.cutR,if_neg hb,if_neg hb,this.1,this.2]
  exact ⟨rfl,rfl⟩
theorem cut_none {F:List UInt8} (h:∀ b∈F,dg b=true):(46:UInt8)∉F∧Num.cutL 46 F=F∧Num.cutR 46 F=[]:=by
 have hn:(46:UInt8)∉F:=fun hm=>(dg_ne (h _ hm)).1 rfl
 exact ⟨hn,((Num.cut_index 46 F).2 hn).2⟩
theorem pt_cut {F B:List UInt8} (h:Dig2 F B):Num.cutL 46 (pt F B)=F∧Num.cutR 46 (pt F B)=B∧(46∈pt F B↔B≠[]):=by
 unfold pt
 by_cases e:B=[]
 ·rw [if_pos e,List.append_nil]
  have:=cut_none h.fd
  exact ⟨this.2.1,by rw [this.2.2,e],⟨fun q=>absurd q this.1,fun q=>absurd e q⟩⟩
 ·rw [if_neg e]
  have:=cutL_pt h.fd B
  exact ⟨this.1,this.2,⟨fun _=>e,fun _=>by simp⟩⟩
theorem pt_head {F B:List UInt8} (h:Dig2 F B):∃ b l,pt F B=b::l∧dg b=true:=by
 obtain ⟨b,l,e⟩:∃ b l,F=b::l:=by
  match F,h.f1 with
  | b::l,_=>exact ⟨b,l,rfl⟩
 refine ⟨b,l++(if B=[] then [] else 46::B),by unfold pt;rw [e];rfl,h.fd b (by rw [e];exact List.mem_cons_self ..)⟩
def sg (c:Option UInt8) (o:List UInt8):List UInt8:=match c with | none=>o | some c=>c::o
theorem hasP_ne {b c:UInt8} {l:List UInt8} (h:b≠c):Num.hasP (b::l) [c]=false:=by
 unfold Num.hasP
 exact decide_eq_false (by simpa using h)
theorem hasP_eq {c:UInt8} {l:List UInt8}:Num.hasP (c::l) [c]=true:=by
 unfold Num.hasP
 exact decide_eq_true (by simp)
theorem body_sg {F B:List UInt8} (h:Dig2 F B) {c:Option UInt8} (hc:c=none∨c=some 45∨c=some 43):Num.decBody (sg c (pt F B))=pt F B∧Num.decNeg (sg c (pt F B))=decide (c=some 45)∧Num.trimL [43,45] (sg c (pt F B))=pt F B∧((sg c (pt F B)).getD 0 0=45↔c=some 45):=by
 obtain ⟨b,l,e,hb⟩:=pt_head h
 have hn:=dg_ne hb
 have tb:Num.trimL [43,45] (b::l)=b::l:=by
  unfold Num.trimL
  rw [List.dropWhile_cons,if_neg (by simp [hn.2.1,hn.2.2.1])]
 rw [e]
 rcases hc with rfl | rfl | rfl
 ·unfold sg Num.decBody Num.decNeg
  simp only
  rw [hasP_ne hn.2.1,hasP_ne hn.2.2.1]
  refine ⟨by simp,by simp,tb,?_⟩
  simp [hn.2.1]
 ·unfold sg Num.decBody Num.decNeg
  simp only
  rw [hasP_eq]
  refine ⟨by simp,by simp,?_,by simp⟩
  unfold Num.trimL at tb ⊢
  rw [List.dropWhile_cons,if_pos (by decide)]
  exact tb
 ·unfold sg Num.decBody Num.decNeg
  simp only
  rw [hasP_ne (show (43:UInt8)≠45 by decide),hasP_eq]
  refine ⟨by simp,by simp,?_,by simp⟩
  unfold Num.trimL at tb ⊢
  rw [List.dropWhile_cons,if_pos (by decide)]
  exact tb
theorem digB_of {s:List UInt8} {m:Int} (h1:1≤s.length) (h2:(s.length:Int)≤m) (h3:∀ b∈s,dg b=true):Num.digB s m=true:=by
 unfold Num.digB
 rw [decide_eq_true ⟨h1,h2⟩,Bool.true_and,List.all_eq_true]
 exact h3
theorem parts_sg {F B:List UInt8} (h:Dig2 F B) {c:Option UInt8} (hc:c=none∨c=some 45∨c=some 43):Num.decF (sg c (pt F B))=F∧Num.decB (sg c (pt F B))=B:=by
 obtain ⟨h1,_,_⟩:=body_sg h hc
 obtain ⟨p1,p2,p3⟩:=pt_cut h
 exact ⟨by unfold Num.decF;rw [h1,p1],by unfold Num.decB;rw [h1,p2]⟩
theorem ok_sg {F B:List UInt8} (h:Dec F B) {c:Option UInt8} (hc:c=none∨c=some 45∨c=some 43):Num.decOk (sg c (pt F B))=true∧Num.decF (sg c (pt F B))=F∧Num.decB (sg c (pt F B))=B:=by
 obtain ⟨h1,_,_⟩:=body_sg h.two hc
 obtain ⟨p1,p2,p3⟩:=pt_cut h.two
 have eF:Num.decF (sg c (pt F B))=F:=by unfold Num.decF;rw [h1,p1]
 have eB:Num.decB (sg c (pt F B))=B:=by unfold Num.decB;rw [h1,p2]
 refine ⟨?_,eF,eB⟩
 unfold Num.decOk
 rw [eF,eB,h1,digB_of h.f1 (by have:=h.f2;omega) h.fd,Bool.true_and]
 by_cases e:B=[]
 ·rw [decide_eq_false (fun q=>p3.1 q e)];rfl
 ·have bl:1≤B.length:=by
   rcases B with _ | _
   ·exact absurd rfl e
   ·simp
  rw [digB_of bl (by have:=h.b2;omega) h.bd,Bool.or_true]
theorem cut_back {s:List UInt8} (h:(46:UInt8)∈s):s=Num.cutL 46 s++46::Num.cutR 46 s:=by
 induction s with
 | nil=>cases h
 | cons b l ih =>
  rw [Num.cutL,Num.cutR]
  by_cases e:b=46
  ·rw [if_pos e,if_pos e,e];rfl
  ·rw [if_neg e,if_neg e]
   rcases List.mem_cons.1 h with h | h
   ·exact absurd h.symm e
   ·rw [List.cons_append,← ih h]
theorem dec_of {t:List UInt8} (h:Num.decOk t=true):∃ c F B,t=sg c (pt F B)∧Dec F B∧(c=none∨c=some 45∨c=some 43):=by
 have hf:=h
 unfold Num.decOk at h
 rw [Bool.and_eq_true,Bool.or_eq_true] at h
 obtain ⟨h1,h2⟩:=h
 unfold Num.digB at h1
 rw [Bool.and_eq_true,decide_eq_true_eq] at h1
 obtain ⟨⟨l1,l2⟩,ad⟩:=h1
 have fd:=List.all_eq_true.1 ad
 have key:∃ B,Num.decBody t=pt (Num.decF t) B∧Dec (Num.decF t) B:=by
  by_cases e:(46:UInt8)∈Num.decBody t
  ·rcases h2 with h2 | h2
   ·rw [decide_eq_true e] at h2;cases h2
   ·unfold Num.digB at h2
    rw [Bool.and_eq_true,decide_eq_true_eq] at h2
    obtain ⟨⟨m1,m2⟩,bd⟩:=h2
    have bd:=List.all_eq_true.1 bd
    refine ⟨Num.decB t,?_,⟨l1,by omega,fd,by omega,bd⟩⟩
    have hne:Num.decB t≠[]:=by intro q;rw [q] at m1;simp at m1
    have:=cut_back e
    unfold pt
    rw [if_neg hne]
    exact this
  ·refine ⟨[],?_,⟨l1,by omega,fd,by simp,fun b hb=>by cases hb⟩⟩
   unfold pt Num.decF
   rw [if_pos rfl,List.append_nil,((Num.cut_index 46 (Num.decBody t)).2 e).2.1]
 obtain ⟨B,hb,hd⟩:=key
 unfold Num.decBody at hb
 rcases t with _ | ⟨a,l⟩
 ·have:Num.decF []=[]:=rfl
  rw [this] at l1;simp at l1
 ·by_cases q:a=45
  ·subst q
   rw [hasP_eq,if_pos rfl] at hb
   exact ⟨some 45,_,B,by rw [← hb];rfl,hd,.inr (.inl rfl)⟩
  ·rw [hasP_ne q,if_neg Bool.false_ne_true] at hb
   by_cases q2:a=43
   ·subst q2
    rw [hasP_eq,if_pos rfl] at hb
    exact ⟨some 43,_,B,by rw [← hb];rfl,hd,.inr (.inr rfl)⟩
   ·rw [hasP_ne q2,if_neg Bool.false_ne_true] at hb
    exact ⟨none,_,B,by rw [← hb];rfl,hd,.inl rfl⟩
def cF (F:List UInt8):List UInt8:=if Lib.trimLeftB F 48=[] then [48] else Lib.trimLeftB F 48
def cB (B:List UInt8):List UInt8:=Lib.trimRightB B 48
theorem trimL_mem {l:List UInt8} {c b:UInt8} (h:b∈Lib.trimLeftB l c):b∈l:=(List.dropWhile_sublist _).subset h
theorem trimR_mem {l:List UInt8} {c b:UInt8} (h:b∈Lib.trimRightB l c):b∈l:=by
 unfold Lib.trimRightB at h
 exact List.mem_reverse.1 ((List.dropWhile_sublist _).subset (List.mem_reverse.1 h))
theorem canDec {F B:List UInt8} (h:Dec F B):Dec (cF F) (cB B):=by
 have l1:(Lib.trimLeftB F 48).length≤F.length:=(List.dropWhile_sublist _).length_le
 have l2:=trimRB_le B 48
 have f2:=h.f2
 have b2:=h.b2
 refine ⟨?_,?_,?_,by unfold cB;omega,fun b hb=>h.bd b (trimR_mem hb)⟩
 ·unfold cF
  split
  ·simp
  ·rename_i e
   rcases hh:Lib.trimLeftB F 48 with _ | _
   ·exact absurd hh e
   ·simp
 ·unfold cF;split
  ·simp
  ·omega
 ·intro b hb
  unfold cF at hb
  split at hb
  ·rw [List.mem_singleton.1 hb];decide
  ·exact h.fd b (trimL_mem hb)
theorem canO_pt {F B:List UInt8}:canO (Lib.trimLeftB F 48) (Lib.trimRightB B 48)=pt (cF F) (cB B):=rfl
theorem canD_sg {F B:List UInt8} (h:Dec F B) {c:Option UInt8} (hc:c=none∨c=some 45∨c=some 43) :
  canD (sg c (pt F B))=sg (if c=some 45∧pt (cF F) (cB B)≠[48] then some 45 else none) (pt (cF F) (cB B)):=by
 obtain ⟨h1,h2,h3,h4⟩:=body_sg h.two hc
 obtain ⟨p1,p2,p3⟩:=pt_cut h.two
 unfold canD canS
 rw [cutL_num,cutR_num,h3,p1,p2,canO_pt]
 by_cases e:c=some 45
 ·rw [decide_eq_true (h4.2 e)]
  by_cases q:pt (cF F) (cB B)=[48]
  ·rw [if_neg (fun x=>x.2 q),if_neg (fun x=>x.2 q)];rfl
  ·rw [if_pos ⟨rfl,q⟩,if_pos ⟨e,q⟩];rfl
 ·rw [decide_eq_false (fun q=>e (h4.1 q)),if_neg (fun x=>by cases x.1),if_neg (fun x=>e x.1)];rfl
theorem canSg (c:Option UInt8) (p:Prop) [Decidable p]:(if p then some (45:UInt8) else none)=none∨(if p then some (45:UInt8) else none)=some 45∨(if p then some (45:UInt8) else none)=some 43:=by
 split
 ·exact .inr (.inl rfl)
 ·exact .inl rfl
theorem canD_ok {t:List UInt8} (h:Num.decOk t=true):Num.decOk (canD t)=true:=by
 obtain ⟨c,F,B,rfl,hd,hc⟩:=dec_of h
 rw [canD_sg hd hc]
 exact (ok_sg (canDec hd) (canSg c _)).1
theorem num_fold:∀ (B:List UInt8) (v:Nat),B.foldl (fun v b=>v*10+(b.toNat - 48)) v=v*10 ^ B.length+Num.decNum B
 | [],v=>by simp [Num.decNum]
 | b::l,v=>by
   have h1:=num_fold l (v*10+(b.toNat - 48))
   have h2:=num_fold l (0*10+(b.toNat - 48))
   unfold Num.decNum at h1 h2 ⊢
   rw [List.foldl_cons,List.foldl_cons,h1,h2,List.length_cons,Nat.pow_succ]
   rw [Nat.add_mul,Nat.add_mul,Nat.mul_assoc v 10,Nat.mul_comm 10 (10 ^ l.length)]
   omega
theorem num_app (A B:List UInt8):Num.decNum (A++B)=Num.decNum A*10 ^ B.length+Num.decNum B:=by
 have:=num_fold B (Num.decNum A)
 rw [← this]
 unfold Num.decNum
 rw [List.foldl_append]
theorem num_zeros:∀ k:Nat,Num.decNum (List.replicate k 48)=0
 | 0=>rfl
 | k+1=>by
   have:=num_app [48] (List.replicate k 48)
   rw [num_zeros k] at this
   rw [show Num.decNum [48]=0 from rfl,Nat.zero_mul] at this
   rw [List.replicate_succ]
   exact this
theorem dropW (c:UInt8):∀ l:List UInt8,∃ k,l=List.replicate k c++l.dropWhile (· == c)
 | []=>⟨0,rfl⟩
 | b::l=>by
   by_cases e:b=c
   ·obtain ⟨k,hk⟩:=dropW c l
    refine ⟨k+1,?_⟩
    rw [List.dropWhile_cons,if_pos (by simpa using e),List.replicate_succ,List.cons_append,← hk,e]
   ·exact ⟨0,by rw [List.dropWhile_cons,if_neg (by simpa using e)];rfl⟩
theorem left_zeros (F:List UInt8):∃ k,F=List.replicate k 48++Lib.trimLeftB F 48:=dropW 48 F
theorem right_zeros (B:List UInt8):∃ k,B=cB B++List.replicate k 48:=by
 obtain ⟨k,hk⟩:=dropW 48 B.reverse
 refine ⟨k,?_⟩
 have:=congrArg List.reverse hk
 rw [List.reverse_reverse,List.reverse_append,List.reverse_replicate] at this
 exact this
theorem num_left (F X:List UInt8):Num.decNum (F++X)=Num.decNum (cF F++X):=by
 obtain ⟨k,hk⟩:=left_zeros F
 have e:Num.decNum (F++X)=Num.decNum (Lib.trimLeftB F 48++X):=by
  conv=>lhs;rw [hk]
  rw [List.append_assoc,num_app,num_zeros,Nat.zero_mul,Nat.zero_add]
 rw [e]
 unfold cF
 split
 ·rename_i h
  rw [h,num_app [48] X]
  have:Num.decNum [48]=0:=rfl
  rw [this];simp
 ·rfl
def dv (neg:Bool) (F B:List UInt8):Rat:=Rat.divInt (if neg=true then -(Num.decNum (F++B):Int) else (Num.decNum (F++B):Int)) ((10 ^ B.length:Nat):Int)
theorem val_sg {F B:List UInt8} (h:Dig2 F B) {c:Option UInt8} (hc:c=none∨c=some 45∨c=some 43):Num.decVal (sg c (pt F B))=dv (decide (c=some 45)) F B:=by
 obtain ⟨_,h2,_⟩:=body_sg h hc
 obtain ⟨h3,h4⟩:=parts_sg h hc
 unfold Num.decVal dv
 rw [h2,h3,h4]
theorem pow_ne (n:Nat):((10 ^ n:Nat):Int)≠0:=by
 have:0<10 ^ n:=Nat.pow_pos (by decide)
 omega
theorem dv_can (neg:Bool) (F B:List UInt8):dv neg F B=dv neg (cF F) (cB B):=by
 obtain ⟨k,hk⟩:=right_zeros B
 have e1:Num.decNum (F++B)=Num.decNum (cF F++cB B)*10 ^ k:=by
  rw [num_left F B]
  conv=>lhs;rw [hk]
  rw [← List.append_assoc,num_app,num_zeros,List.length_replicate];omega
 have e2:(10 ^ B.length:Nat)=10 ^ (cB B).length*10 ^ k:=by
  conv=>lhs;rw [hk]
  rw [List.length_append,List.length_replicate,Nat.pow_add]
 unfold dv
 rw [e1,e2]
 have e3:(if neg=true then -((Num.decNum (cF F++cB B)*10 ^ k:Nat):Int) else ((Num.decNum (cF F++cB B)*10 ^ k:Nat):Int))=(if neg=true then -(Num.decNum (cF F++cB B):Int) else (Num.decNum (cF F++cB B):Int))*((10 ^ k:Nat):Int):=by
  split
  ·rw [Int.natCast_mul,Int.neg_mul]
  ·rw [Int.natCast_mul]
 rw [e3,Int.natCast_mul,Rat.divInt_mul_right (pow_ne k)]
theorem canD_val {t:List UInt8} (h:Num.decOk t=true):Num.decVal (canD t)=Num.decVal t:=by
 obtain ⟨c,F,B,rfl,hd,hc⟩:=dec_of h
 rw [canD_sg hd hc,val_sg (canDec hd).two (canSg c _),val_sg hd.two hc,dv_can _ F B]
 by_cases e:c=some 45
 ·by_cases q:pt (cF F) (cB B)=[48]
  ·rw [if_neg (fun x=>x.2 q)]
   have hz:Num.decNum (cF F++cB B)=0:=by
    have l1:=(canDec hd).f1
    unfold pt at q
    by_cases eb:cB B=[]
    ·rw [if_pos eb,List.append_nil] at q
     rw [eb,q];rfl
    ·rw [if_neg eb] at q
     have:=congrArg List.length q
     simp at this;omega
   unfold dv
   rw [hz]
   simp
  ·rw [if_pos ⟨e,q⟩,e]
 ·rw [if_neg (fun x=>e x.1),decide_eq_false e];rfl
end Decs
end Go.Proofs.YtdpjcghiegggbaaGreatDoor
namespace Go.Proofs.YtdpjcghiegggbaaGreatDoor
open Go Go.Proofs Go.Abs
variable {G:Globals}
def okK (k:Int) (s:List UInt8):Bool :=
 if k=1 then true else if k=2 then okBo (Lib.trimB s 32) else if k=3 then okIn (Lib.trimB s 32) else if k=4 then Num.decOk (Lib.trimB s 32) else if k=5 then okD (Lib.trimB s 32) else false
def cnK (k:Int) (s:List UInt8):List UInt8 :=
 if k=1 then s else if k=2 then canBo (Lib.trimB s 32) else if k=3 then canIn (Lib.trimB s 32) else if k=4 then canDe (Lib.trimB s 32) else if k=5 then canDt (Lib.trimB s 32) else []
def kOf (k:Int):Prop:=k=1∨k=2∨k=3∨k=4∨k=5
theorem k_cases (k:Int):k=1∨k=2∨k=3∨k=4∨k=5∨¬ kOf k:=by unfold kOf;omega
def noK:D:=.agg [.str ByteArray.empty,.nilf,.nilf]
theorem look_no {k:Int} (h:¬ kOf k):lookV noK kindsM (.int .i64 k) true=.tup [noK,.bool false]:=by
 unfold kOf at h
 have f:∀ n:Int,(n=1∨n=2∨n=3∨n=4∨n=5)→keyEq (.int .i64 k) (.int .i64 n)=false:=fun n hn=>by
  show (k == n)=false
  rw [beq_eq_false_iff_ne];omega
 unfold lookV kindsM
 rw [findE,if_neg (by rw [f 1 (by omega)];decide),findE,if_neg (by rw [f 2 (by omega)];decide),findE,if_neg (by rw [f 3 (by omega)];decide),findE,if_neg (by rw [f 4 (by omega)];decide),findE,if_neg (by rw [f 5 (by omega)];decide),findE]
 rfl
theorem okK_no {k:Int} (h:¬ kOf k) (s:List UInt8):okK k s=false∧cnK k s=[]:=by
 unfold kOf at h
 unfold okK cnK
 rw [if_neg (by omega),if_neg (by omega),if_neg (by omega),if_neg (by omega),if_neg (by omega),if_neg (by omega),if_neg (by omega),if_neg (by omega),if_neg (by omega),if_neg (by omega)]
 exact ⟨rfl,rfl⟩
theorem kk_int:keysOK TP 3 kindsM=true:=rfl
theorem canon_spec (hG:Num.HG G) (hE:HE G) (hP:HP G) (k:Int) (k1:-9223372036854775808≤k) (k2:k≤9223372036854775807) (s:List UInt8) (hs:s.length≤2000000) :
  Ctr TP G 12 [.d (.int .i64 k),.d (S s)] [] (.d (.tup [S (cnK k s),.bool (okK k s)])) []:=by
 have tl:(Lib.trimB s 32).length≤s.length:=Nat.le_trans (List.dropWhile_sublist _).length_le (trimRB_le s 32)
 have kk:=kk_int
 have hno:(.agg [.str ByteArray.empty,.nilf,.nilf]:D)=noK:=rfl
 refine Ctr.pure (M:=M0) hmix Tryz.func12 rfl go12 ?_
 rcases k_cases k with rfl | rfl | rfl | rfl | rfl | h
 ·have lk:lookV (.agg [.str ByteArray.empty,.nilf,.nilf]) kindsM (.int .i64 1) true=.tup [.agg [S [116,101,120,116],.nilf,.fn (.func 65) [] []],.bool true]:=rfl
  show _
  simp (config:={maxSteps:=1000000}) (disch:=(try simp only [awL]);omega) only [awS,Tryz.f12,↓awU,awV,awX,awF,↓reduceIte,↓reduceDIte,↓Qe,Qu,Qv,Qw,Qx,Qy,Qz,QA,QB,QC,QD,QE,QF,QG,QH,QI,QK]
  refine CallC.by kinds_spec (by rfl) (by rfl) (Nat.zero_le _) ?_
  simp (config:={maxSteps:=1000000}) (disch:=(try simp only [awL]);omega) only [awS,kk,lk,↓awU,awV,awX,awF,↓reduceIte,↓reduceDIte,↓Qe,Qu,Qv,Qw,Qx,Qy,Qz,QA,QB,QC,QD,QE,QF,QG,QH,QI,QK]
  first | done | rfl | exact ⟨by rfl,by rfl⟩
 ·have lk:lookV (.agg [.str ByteArray.empty,.nilf,.nilf]) kindsM (.int .i64 2) true=.tup [.agg [S [98,111,111,108],.fn (.func 66) [] [],.fn (.func 67) [] []],.bool true]:=rfl
  show _
  simp (config:={maxSteps:=1000000}) (disch:=(try simp only [awL]);omega) only [awS,Tryz.f12,↓awU,awV,awX,awF,↓reduceIte,↓reduceDIte,↓Qe,Qu,Qv,Qw,Qx,Qy,Qz,QA,QB,QC,QD,QE,QF,QG,QH,QI,QK]
  refine CallC.by kinds_spec (by rfl) (by rfl) (Nat.zero_le _) ?_
  simp (config:={maxSteps:=1000000}) (disch:=(try simp only [awL]);omega) only [awS,kk,lk,↓awU,awV,awX,awF,↓reduceIte,↓reduceDIte,↓Qe,Qu,Qv,Qw,Qx,Qy,Qz,QA,QB,QC,QD,QE,QF,QG,QH,QI,QK]
  refine CallC.of (ttrim_spec s (by omega)) (by rfl) ?_
  simp (config:={maxSteps:=1000000}) (disch:=(try simp only [awL]);omega) only [awS,↓awU,awV,awX,awF,↓reduceIte,↓reduceDIte,↓Qe,Qu,Qv,Qw,Qx,Qy,Qz,QA,QB,QC,QD,QE,QF,QG,QH,QI,QK]
  refine CallC.of (boolean_spec (Lib.trimB s 32) (by omega)) (by rfl) ?_
  simp (config:={maxSteps:=1000000}) (disch:=(try simp only [awL]);omega) only [awS,↓awU,awV,awX,awF,↓reduceIte,↓reduceDIte,↓Qe,Qu,Qv,Qw,Qx,Qy,Qz,QA,QB,QC,QD,QE,QF,QG,QH,QI,QK]
  first | done | rfl | exact ⟨by rfl,by rfl⟩
 ·have lk:lookV (.agg [.str ByteArray.empty,.nilf,.nilf]) kindsM (.int .i64 3) true=.tup [.agg [S [105,110,116,101,103,101,114],.fn (.func 68) [] [],.fn (.func 69) [] []],.bool true]:=rfl
  show _
  simp (config:={maxSteps:=1000000}) (disch:=(try simp only [awL]);omega) only [awS,Tryz.f12,↓awU,awV,awX,awF,↓reduceIte,↓reduceDIte,↓Qe,Qu,Qv,Qw,Qx,Qy,Qz,QA,QB,QC,QD,QE,QF,QG,QH,QI,QK]
  refine CallC.by kinds_spec (by rfl) (by rfl) (Nat.zero_le _) ?_
  simp (config:={maxSteps:=1000000}) (disch:=(try simp only [awL]);omega) only [awS,kk,lk,↓awU,awV,awX,awF,↓reduceIte,↓reduceDIte,↓Qe,Qu,Qv,Qw,Qx,Qy,Qz,QA,QB,QC,QD,QE,QF,QG,QH,QI,QK]
  refine CallC.of (ttrim_spec s (by omega)) (by rfl) ?_
  simp (config:={maxSteps:=1000000}) (disch:=(try simp only [awL]);omega) only [awS,↓awU,awV,awX,awF,↓reduceIte,↓reduceDIte,↓Qe,Qu,Qv,Qw,Qx,Qy,Qz,QA,QB,QC,QD,QE,QF,QG,QH,QI,QK]
  refine CallC.of (integer_spec hG (Lib.trimB s 32) (by omega)) (by rfl) ?_
  simp (config:={maxSteps:=1000000}) (disch:=(try simp only [awL]);omega) only [awS,↓awU,awV,awX,awF,↓reduceIte,↓reduceDIte,↓Qe,Qu,Qv,Qw,Qx,Qy,Qz,QA,QB,QC,QD,QE,QF,QG,QH,QI,QK]
  first | done | rfl | exact ⟨by rfl,by rfl⟩
 ·have lk:lookV (.agg [.str ByteArray.empty,.nilf,.nilf]) kindsM (.int .i64 4) true=.tup [.agg [S [100,101,99,105,109,97,108],.fn (.func 70) [] [],.fn (.func 69) [] []],.bool true]:=rfl
  show _
  simp (config:={maxSteps:=1000000}) (disch:=(try simp only [awL]);omega) only [awS,Tryz.f12,↓awU,awV,awX,awF,↓reduceIte,↓reduceDIte,↓Qe,Qu,Qv,Qw,Qx,Qy,Qz,QA,QB,QC,QD,QE,QF,QG,QH,QI,QK]
  refine CallC.by kinds_spec (by rfl) (by rfl) (Nat.zero_le _) ?_
  simp (config:={maxSteps:=1000000}) (disch:=(try simp only [awL]);omega) only [awS,kk,lk,↓awU,awV,awX,awF,↓reduceIte,↓reduceDIte,↓Qe,Qu,Qv,Qw,Qx,Qy,Qz,QA,QB,QC,QD,QE,QF,QG,QH,QI,QK]
  refine CallC.of (ttrim_spec s (by omega)) (by rfl) ?_
  simp (config:={maxSteps:=1000000}) (disch:=(try simp only [awL]);omega) only [awS,↓awU,awV,awX,awF,↓reduceIte,↓reduceDIte,↓Qe,Qu,Qv,Qw,Qx,Qy,Qz,QA,QB,QC,QD,QE,QF,QG,QH,QI,QK]
  refine CallC.of (tdecimal_spec hG (Lib.trimB s 32) (by omega)) (by rfl) ?_
  simp (config:={maxSteps:=1000000}) (disch:=(try simp only [awL]);omega) only [awS,↓awU,awV,awX,awF,↓reduceIte,↓reduceDIte,↓Qe,Qu,Qv,Qw,Qx,Qy,Qz,QA,QB,QC,QD,QE,QF,QG,QH,QI,QK]
  first | done | rfl | exact ⟨by rfl,by rfl⟩
 ·have lk:lookV (.agg [.str ByteArray.empty,.nilf,.nilf]) kindsM (.int .i64 5) true=.tup [.agg [S [100,97,116,101],.fn (.func 71) [] [],.fn (.func 72) [] []],.bool true]:=rfl
  show _
  simp (config:={maxSteps:=1000000}) (disch:=(try simp only [awL]);omega) only [awS,Tryz.f12,↓awU,awV,awX,awF,↓reduceIte,↓reduceDIte,↓Qe,Qu,Qv,Qw,Qx,Qy,Qz,QA,QB,QC,QD,QE,QF,QG,QH,QI,QK]
  refine CallC.by kinds_spec (by rfl) (by rfl) (Nat.zero_le _) ?_
  simp (config:={maxSteps:=1000000}) (disch:=(try simp only [awL]);omega) only [awS,kk,lk,↓awU,awV,awX,awF,↓reduceIte,↓reduceDIte,↓Qe,Qu,Qv,Qw,Qx,Qy,Qz,QA,QB,QC,QD,QE,QF,QG,QH,QI,QK]
  refine CallC.of (ttrim_spec s (by omega)) (by rfl) ?_
  simp (config:={maxSteps:=1000000}) (disch:=(try simp only [awL]);omega) only [awS,↓awU,awV,awX,awF,↓reduceIte,↓reduceDIte,↓Qe,Qu,Qv,Qw,Qx,Qy,Qz,QA,QB,QC,QD,QE,QF,QG,QH,QI,QK]
  refine CallC.of (tdtext_spec hE hP (Lib.trimB s 32) (by omega)) (by rfl) ?_
  simp (config:={maxSteps:=1000000}) (disch:=(try simp only [awL]);omega) only [awS,↓awU,awV,awX,awF,↓reduceIte,↓reduceDIte,↓Qe,Qu,Qv,Qw,Qx,Qy,Qz,QA,QB,QC,QD,QE,QF,QG,QH,QI,QK]
  first | done | rfl | exact ⟨by rfl,by rfl⟩
 ·have lk:=look_no h
  unfold noK at lk
  rw [(okK_no h s).1,(okK_no h s).2]
  simp (config:={maxSteps:=1000000}) (disch:=(try simp only [awL]);omega) only [awS,Tryz.f12,↓awU,awV,awX,awF,↓reduceIte,↓reduceDIte,↓Qe,Qu,Qv,Qw,Qx,Qy,Qz,QA,QB,QC,QD,QE,QF,QG,QH,QI,QK]
  refine CallC.by kinds_spec (by rfl) (by rfl) (Nat.zero_le _) ?_
  simp (config:={maxSteps:=1000000}) (disch:=(try simp only [awL]);omega) only [awS,kk,lk,↓awU,awV,awX,awF,↓reduceIte,↓reduceDIte,↓Qe,Qu,Qv,Qw,Qx,Qy,Qz,QA,QB,QC,QD,QE,QF,QG,QH,QI,QK]
  first | done | rfl | exact ⟨by rfl,by rfl⟩
theorem canD_small {t:List UInt8} (h:Num.decOk t=true):(canD t).length≤26:=by
 obtain ⟨c,F,B,e,hd,hc⟩:=Decs.dec_of (Decs.canD_ok h)
 rw [e]
 have h1:=hd.f2
 have h2:=hd.b2
 have:(Decs.pt F B).length≤25:=by
  unfold Decs.pt
  rw [List.length_append]
  split
  ·simp;omega
  ·rw [List.length_cons];omega
 unfold Decs.sg
 rcases c with _ | c
 ·simp only;omega
 ·simp only [List.length_cons];omega
theorem rdt_ok {t:List UInt8} (h:okD t=true):okDt (rdt t).1 (rdt t).2.1 (rdt t).2.2.1=true:=by
 unfold okD at h
 unfold rdt at *
 by_cases l:t.length=10
 ·rw [if_pos l] at h ⊢
  by_cases i:isoT t=true
  ·rw [if_pos i] at h ⊢;exact h
  ·rw [if_neg i] at h ⊢
   by_cases j:dotT t=true
   ·rw [if_pos j] at h ⊢;exact h
   ·rw [if_neg j] at h;cases h
 ·rw [if_neg l] at h;cases h
def okV (k:Int) (s:List UInt8):Bool:=okK k s && !decide (k=1)
def dtV (t:List UInt8):Int:=dayV (rdt t).1 (rdt t).2.1 (rdt t).2.2.1
def vlK (k:Int) (s:List UInt8):Rat :=
 if k=2 then (boV (canBo (Lib.trimB s 32)):Rat) else if k=5 then (dtV (Lib.trimB s 32):Rat) else Num.decVal (Lib.trimB s 32)
def valE (k:Int) (s:List UInt8):D:=.tup [if okV k s=true then Num.Frac (vlK k s) else Num.Zf,.bool (okV k s)]
theorem value_spec (hG:Num.HG G) (hE:HE G) (hP:HP G) (k:Int) (k1:-9223372036854775808≤k) (k2:k≤9223372036854775807) (s:List UInt8) (hs:s.length≤2000000) :
  Ctr TP G 17 [.d (.int .i64 k),.d (S s)] [] (.d (valE k s)) []:=by
 have tl:(Lib.trimB s 32).length≤s.length:=Nat.le_trans (List.dropWhile_sublist _).length_le (trimRB_le s 32)
 have kk:=kk_int
 have cs:=canon_spec hG hE hP k k1 k2 s hs
 obtain ⟨r,hr⟩:∃ r,r=valE k s:=⟨_,rfl⟩
 rw [← hr]
 unfold valE okV at hr
 refine Ctr.pure (M:=M0) hmix Tryz.func17 rfl go17 ?_
 cases ok:okK k s
 ·rw [ok] at hr cs
  rw [Bool.false_and,if_neg Bool.false_ne_true] at hr
  subst hr
  simp (config:={maxSteps:=1000000}) (disch:=(try simp only [awL]);omega) only [awS,Tryz.f17,↓awU,awV,awX,awF,↓reduceIte,↓reduceDIte,↓Qe,Qu,Qv,Qw,Qx,Qy,Qz,QA,QB,QC,QD,QE,QF,QG,QH,QI,QK]
  refine CallC.of cs (by rfl) ?_
  simp (config:={maxSteps:=1000000}) (disch:=(try simp only [awL]);omega) only [awS,↓awU,awV,awX,awF,↓reduceIte,↓reduceDIte,↓Qe,Qu,Qv,Qw,Qx,Qy,Qz,QA,QB,QC,QD,QE,QF,QG,QH,QI,QK]
  first | done | rfl
 ·rw [ok] at hr cs
  rw [Bool.true_and] at hr
  rcases k_cases k with rfl | rfl | rfl | rfl | rfl | h
  ·rw [decide_eq_true rfl,Bool.not_true,if_neg Bool.false_ne_true] at hr
   subst hr
   have lk:lookV (.agg [.str ByteArray.empty,.nilf,.nilf]) kindsM (.int .i64 1) false=.agg [S [116,101,120,116],.nilf,.fn (.func 65) [] []]:=rfl
   generalize cnK 1 s=x at *
   simp (config:={maxSteps:=1000000}) (disch:=(try simp only [awL]);omega) only [awS,Tryz.f17,↓awU,awV,awX,awF,↓reduceIte,↓reduceDIte,↓Qe,Qu,Qv,Qw,Qx,Qy,Qz,QA,QB,QC,QD,QE,QF,QG,QH,QI,QK]
   refine CallC.of cs (by rfl) ?_
   simp (config:={maxSteps:=1000000}) (disch:=(try simp only [awL]);omega) only [awS,↓awU,awV,awX,awF,↓reduceIte,↓reduceDIte,↓Qe,Qu,Qv,Qw,Qx,Qy,Qz,QA,QB,QC,QD,QE,QF,QG,QH,QI,QK]
   refine CallC.by kinds_spec (by rfl) (by rfl) (Nat.zero_le _) ?_
   simp (config:={maxSteps:=1000000}) (disch:=(try simp only [awL]);omega) only [awS,kk,lk,↓awU,awV,awX,awF,↓reduceIte,↓reduceDIte,↓Qe,Qu,Qv,Qw,Qx,Qy,Qz,QA,QB,QC,QD,QE,QF,QG,QH,QI,QK]
   refine CallC.of (none_spec x) (by rfl) ?_
   simp (config:={maxSteps:=1000000}) (disch:=(try simp only [awL]);omega) only [awS,↓awU,awV,awX,awF,↓reduceIte,↓reduceDIte,↓Qe,Qu,Qv,Qw,Qx,Qy,Qz,QA,QB,QC,QD,QE,QF,QG,QH,QI,QK]
   first | done | rfl | exact ⟨by rfl,by rfl⟩
  ·rw [decide_eq_false (by decide),Bool.not_false,if_pos rfl] at hr
   have e1:cnK 2 s=canBo (Lib.trimB s 32):=rfl
   have e2:vlK 2 s=(boV (canBo (Lib.trimB s 32)):Rat):=rfl
   rw [e1] at cs
   rw [e2] at hr
   subst hr
   have lk:lookV (.agg [.str ByteArray.empty,.nilf,.nilf]) kindsM (.int .i64 2) false=.agg [S [98,111,111,108],.fn (.func 66) [] [],.fn (.func 67) [] []]:=rfl
   have ts:=truth_spec (G:=G) (canBo (Lib.trimB s 32))
   generalize canBo (Lib.trimB s 32)=x at *
   simp (config:={maxSteps:=1000000}) (disch:=(try simp only [awL]);omega) only [awS,Tryz.f17,↓awU,awV,awX,awF,↓reduceIte,↓reduceDIte,↓Qe,Qu,Qv,Qw,Qx,Qy,Qz,QA,QB,QC,QD,QE,QF,QG,QH,QI,QK]
   refine CallC.of cs (by rfl) ?_
   simp (config:={maxSteps:=1000000}) (disch:=(try simp only [awL]);omega) only [awS,↓awU,awV,awX,awF,↓reduceIte,↓reduceDIte,↓Qe,Qu,Qv,Qw,Qx,Qy,Qz,QA,QB,QC,QD,QE,QF,QG,QH,QI,QK]
   refine CallC.by kinds_spec (by rfl) (by rfl) (Nat.zero_le _) ?_
   simp (config:={maxSteps:=1000000}) (disch:=(try simp only [awL]);omega) only [awS,kk,lk,↓awU,awV,awX,awF,↓reduceIte,↓reduceDIte,↓Qe,Qu,Qv,Qw,Qx,Qy,Qz,QA,QB,QC,QD,QE,QF,QG,QH,QI,QK]
   refine CallC.of ts (by rfl) ?_
   simp (config:={maxSteps:=1000000}) (disch:=(try simp only [awL]);omega) only [awS,↓awU,awV,awX,awF,↓reduceIte,↓reduceDIte,↓Qe,Qu,Qv,Qw,Qx,Qy,Qz,QA,QB,QC,QD,QE,QF,QG,QH,QI,QK]
   first | done | rfl | exact ⟨by rfl,by rfl⟩
  ·rw [decide_eq_false (by decide),Bool.not_false,if_pos rfl] at hr
   have ok2:okIn (Lib.trimB s 32)=true:=ok
   have ok3:Num.decOk (Lib.trimB s 32)=true:=by unfold okIn at ok2;rw [Bool.and_eq_true] at ok2;exact ok2.2
   have e1:cnK 3 s=canD (Lib.trimB s 32):=by show canIn _=_;unfold canIn;rw [if_pos ok2]
   have e2:vlK 3 s=Num.decVal (Lib.trimB s 32):=rfl
   rw [e1] at cs
   rw [e2] at hr
   subst hr
   have lk:lookV (.agg [.str ByteArray.empty,.nilf,.nilf]) kindsM (.int .i64 3) false=.agg [S [105,110,116,101,103,101,114],.fn (.func 68) [] [],.fn (.func 69) [] []]:=rfl
   have ts:=Num.decimalF_spec hG (canD (Lib.trimB s 32)) (Nat.le_trans (canD_small ok3) (by decide))
   rw [Decs.canD_ok ok3,if_pos rfl,Decs.canD_val ok3] at ts
   generalize canD (Lib.trimB s 32)=x at *
   simp (config:={maxSteps:=1000000}) (disch:=(try simp only [awL]);omega) only [awS,Tryz.f17,↓awU,awV,awX,awF,↓reduceIte,↓reduceDIte,↓Qe,Qu,Qv,Qw,Qx,Qy,Qz,QA,QB,QC,QD,QE,QF,QG,QH,QI,QK]
   refine CallC.of cs (by rfl) ?_
   simp (config:={maxSteps:=1000000}) (disch:=(try simp only [awL]);omega) only [awS,↓awU,awV,awX,awF,↓reduceIte,↓reduceDIte,↓Qe,Qu,Qv,Qw,Qx,Qy,Qz,QA,QB,QC,QD,QE,QF,QG,QH,QI,QK]
   refine CallC.by kinds_spec (by rfl) (by rfl) (Nat.zero_le _) ?_
   simp (config:={maxSteps:=1000000}) (disch:=(try simp only [awL]);omega) only [awS,kk,lk,↓awU,awV,awX,awF,↓reduceIte,↓reduceDIte,↓Qe,Qu,Qv,Qw,Qx,Qy,Qz,QA,QB,QC,QD,QE,QF,QG,QH,QI,QK]
   refine CallC.of ts (by rfl) ?_
   simp (config:={maxSteps:=1000000}) (disch:=(try simp only [awL]);omega) only [awS,↓awU,awV,awX,awF,↓reduceIte,↓reduceDIte,↓Qe,Qu,Qv,Qw,Qx,Qy,Qz,QA,QB,QC,QD,QE,QF,QG,QH,QI,QK]
   first | done | rfl | exact ⟨by rfl,by rfl⟩
  ·rw [decide_eq_false (by decide),Bool.not_false,if_pos rfl] at hr
   have ok3:Num.decOk (Lib.trimB s 32)=true:=ok
   have e1:cnK 4 s=canD (Lib.trimB s 32):=by show canDe _=_;unfold canDe;rw [if_pos ok3]
   have e2:vlK 4 s=Num.decVal (Lib.trimB s 32):=rfl
   rw [e1] at cs
   rw [e2] at hr
   subst hr
   have lk:lookV (.agg [.str ByteArray.empty,.nilf,.nilf]) kindsM (.int .i64 4) false=.agg [S [100,101,99,105,109,97,108],.fn (.func 70) [] [],.fn (.func 69) [] []]:=rfl
   have ts:=Num.decimalF_spec hG (canD (Lib.trimB s 32)) (Nat.le_trans (canD_small ok3) (by decide))
   rw [Decs.canD_ok ok3,if_pos rfl,Decs.canD_val ok3] at ts
   generalize canD (Lib.trimB s 32)=x at *
   simp (config:={maxSteps:=1000000}) (disch:=(try simp only [awL]);omega) only [awS,Tryz.f17,↓awU,awV,awX,awF,↓reduceIte,↓reduceDIte,↓Qe,Qu,Qv,Qw,Qx,Qy,Qz,QA,QB,QC,QD,QE,QF,QG,QH,QI,QK]
   refine CallC.of cs (by rfl) ?_
   simp (config:={maxSteps:=1000000}) (disch:=(try simp only [awL]);omega) only [awS,↓awU,awV,awX,awF,↓reduceIte,↓reduceDIte,↓Qe,Qu,Qv,Qw,Qx,Qy,Qz,QA,QB,QC,QD,QE,QF,QG,QH,QI,QK]
   refine CallC.by kinds_spec (by rfl) (by rfl) (Nat.zero_le _) ?_
   simp (config:={maxSteps:=1000000}) (disch:=(try simp only [awL]);omega) only [awS,kk,lk,↓awU,awV,awX,awF,↓reduceIte,↓reduceDIte,↓Qe,Qu,Qv,Qw,Qx,Qy,Qz,QA,QB,QC,QD,QE,QF,QG,QH,QI,QK]
   refine CallC.of ts (by rfl) ?_
   simp (config:={maxSteps:=1000000}) (disch:=(try simp only [awL]);omega) only [awS,↓awU,awV,awX,awF,↓reduceIte,↓reduceDIte,↓Qe,Qu,Qv,Qw,Qx,Qy,Qz,QA,QB,QC,QD,QE,QF,QG,QH,QI,QK]
   first | done | rfl | exact ⟨by rfl,by rfl⟩
  ·rw [decide_eq_false (by decide),Bool.not_false,if_pos rfl] at hr
   have ok3:okD (Lib.trimB s 32)=true:=ok
   have e1:cnK 5 s=dateS (rdt (Lib.trimB s 32)).1 (rdt (Lib.trimB s 32)).2.1 (rdt (Lib.trimB s 32)).2.2.1:=by show canDt _=_;unfold canDt;rw [if_pos ok3]
   have e2:vlK 5 s=(dtV (Lib.trimB s 32):Rat):=rfl
   rw [e1] at cs
   rw [e2] at hr
   unfold dtV at hr
   subst hr
   have lk:lookV (.agg [.str ByteArray.empty,.nilf,.nilf]) kindsM (.int .i64 5) false=.agg [S [100,97,116,101],.fn (.func 71) [] [],.fn (.func 72) [] []]:=rfl
   have ts:=dayOf_spec (G:=G) hE (rdt (Lib.trimB s 32)).1 (rdt (Lib.trimB s 32)).2.1 (rdt (Lib.trimB s 32)).2.2.1 (rdt_ok ok3)
   generalize dayV (rdt (Lib.trimB s 32)).1 (rdt (Lib.trimB s 32)).2.1 (rdt (Lib.trimB s 32)).2.2.1=dv at *
   generalize dateS (rdt (Lib.trimB s 32)).1 (rdt (Lib.trimB s 32)).2.1 (rdt (Lib.trimB s 32)).2.2.1=x at *
   simp (config:={maxSteps:=1000000}) (disch:=(try simp only [awL]);omega) only [awS,Tryz.f17,↓awU,awV,awX,awF,↓reduceIte,↓reduceDIte,↓Qe,Qu,Qv,Qw,Qx,Qy,Qz,QA,QB,QC,QD,QE,QF,QG,QH,QI,QK]
   refine CallC.of cs (by rfl) ?_
   simp (config:={maxSteps:=1000000}) (disch:=(try simp only [awL]);omega) only [awS,↓awU,awV,awX,awF,↓reduceIte,↓reduceDIte,↓Qe,Qu,Qv,Qw,Qx,Qy,Qz,QA,QB,QC,QD,QE,QF,QG,QH,QI,QK]
   refine CallC.by kinds_spec (by rfl) (by rfl) (Nat.zero_le _) ?_
   simp (config:={maxSteps:=1000000}) (disch:=(try simp only [awL]);omega) only [awS,kk,lk,↓awU,awV,awX,awF,↓reduceIte,↓reduceDIte,↓Qe,Qu,Qv,Qw,Qx,Qy,Qz,QA,QB,QC,QD,QE,QF,QG,QH,QI,QK]
   refine CallC.of ts (by rfl) ?_
   simp (config:={maxSteps:=1000000}) (disch:=(try simp only [awL]);omega) only [awS,↓awU,awV,awX,awF,↓reduceIte,↓reduceDIte,↓Qe,Qu,Qv,Qw,Qx,Qy,Qz,QA,QB,QC,QD,QE,QF,QG,QH,QI,QK]
   first | done | rfl | exact ⟨by rfl,by rfl⟩
  ·rw [(okK_no h s).1] at ok;cases ok
def wdL:Row:=[[116,101,120,116],[98,111,111,108],[105,110,116,101,103,101,114],[100,101,99,105,109,97,108],[100,97,116,101]]
instance (k:Int):Decidable (kOf k):=by unfold kOf;exact inferInstance
def nmK (k:Int):List UInt8:=if k=1 then [116,101,120,116] else if k=2 then [98,111,111,108] else if k=3 then [105,110,116,101,103,101,114] else if k=4 then [100,101,99,105,109,97,108] else if k=5 then [100,97,116,101] else []
theorem tname_spec (k:Int) (k1:-9223372036854775808≤k) (k2:k≤9223372036854775807):Ctr TP G 23 [.d (.int .i64 k)] [] (.d (.tup [S (nmK k),.bool (decide (kOf k))])) []:=by
 have kk:=kk_int
 refine Ctr.pure (M:=M0) hmix Tryz.func23 rfl go23 ?_
 rcases k_cases k with rfl | rfl | rfl | rfl | rfl | h
 ·have lk:lookV (.agg [.str ByteArray.empty,.nilf,.nilf]) kindsM (.int .i64 1) true=.tup [.agg [S [116,101,120,116],.nilf,.fn (.func 65) [] []],.bool true]:=rfl
  show _
  simp (config:={maxSteps:=1000000}) (disch:=(try simp only [awL]);omega) only [awS,Tryz.f23,↓awU,awV,awX,awF,↓reduceIte,↓reduceDIte,↓Qe,Qu,Qv,Qw,Qx,Qy,Qz,QA,QB,QC,QD,QE,QF,QG,QH,QI,QK]
  refine CallC.by kinds_spec (by rfl) (by rfl) (Nat.zero_le _) ?_
  simp (config:={maxSteps:=1000000}) (disch:=(try simp only [awL]);omega) only [awS,kk,lk,↓awU,awV,awX,awF,↓reduceIte,↓reduceDIte,↓Qe,Qu,Qv,Qw,Qx,Qy,Qz,QA,QB,QC,QD,QE,QF,QG,QH,QI,QK]
  first | done | rfl | exact ⟨by rfl,by rfl⟩
 ·have lk:lookV (.agg [.str ByteArray.empty,.nilf,.nilf]) kindsM (.int .i64 2) true=.tup [.agg [S [98,111,111,108],.fn (.func 66) [] [],.fn (.func 67) [] []],.bool true]:=rfl
  show _
  simp (config:={maxSteps:=1000000}) (disch:=(try simp only [awL]);omega) only [awS,Tryz.f23,↓awU,awV,awX,awF,↓reduceIte,↓reduceDIte,↓Qe,Qu,Qv,Qw,Qx,Qy,Qz,QA,QB,QC,QD,QE,QF,QG,QH,QI,QK]
  refine CallC.by kinds_spec (by rfl) (by rfl) (Nat.zero_le _) ?_
  simp (config:={maxSteps:=1000000}) (disch:=(try simp only [awL]);omega) only [awS,kk,lk,↓awU,awV,awX,awF,↓reduceIte,↓reduceDIte,↓Qe,Qu,Qv,Qw,Qx,Qy,Qz,QA,QB,QC,QD,QE,QF,QG,QH,QI,QK]
  first | done | rfl | exact ⟨by rfl,by rfl⟩
 ·have lk:lookV (.agg [.str ByteArray.empty,.nilf,.nilf]) kindsM (.int .i64 3) true=.tup [.agg [S [105,110,116,101,103,101,114],.fn (.func 68) [] [],.fn (.func 69) [] []],.bool true]:=rfl
  show _
  simp (config:={maxSteps:=1000000}) (disch:=(try simp only [awL]);omega) only [awS,Tryz.f23,↓awU,awV,awX,awF,↓reduceIte,↓reduceDIte,↓Qe,Qu,Qv,Qw,Qx,Qy,Qz,QA,QB,QC,QD,QE,QF,QG,QH,QI,QK]
  refine CallC.by kinds_spec (by rfl) (by rfl) (Nat.zero_le _) ?_
  simp (config:={maxSteps:=1000000}) (disch:=(try simp only [awL]);omega) only [awS,kk,lk,↓awU,awV,awX,awF,↓reduceIte,↓reduceDIte,↓Qe,Qu,Qv,Qw,Qx,Qy,Qz,QA,QB,QC,QD,QE,QF,QG,QH,QI,QK]
  first | done | rfl | exact ⟨by rfl,by rfl⟩
 ·have lk:lookV (.agg [.str ByteArray.empty,.nilf,.nilf]) kindsM (.int .i64 4) true=.tup [.agg [S [100,101,99,105,109,97,108],.fn (.func 70) [] [],.fn (.func 69) [] []],.bool true]:=rfl
  show _
  simp (config:={maxSteps:=1000000}) (disch:=(try simp only [awL]);omega) only [awS,Tryz.f23,↓awU,awV,awX,awF,↓reduceIte,↓reduceDIte,↓Qe,Qu,Qv,Qw,Qx,Qy,Qz,QA,QB,QC,QD,QE,QF,QG,QH,QI,QK]
  refine CallC.by kinds_spec (by rfl) (by rfl) (Nat.zero_le _) ?_
  simp (config:={maxSteps:=1000000}) (disch:=(try simp only [awL]);omega) only [awS,kk,lk,↓awU,awV,awX,awF,↓reduceIte,↓reduceDIte,↓Qe,Qu,Qv,Qw,Qx,Qy,Qz,QA,QB,QC,QD,QE,QF,QG,QH,QI,QK]
  first | done | rfl | exact ⟨by rfl,by rfl⟩
 ·have lk:lookV (.agg [.str ByteArray.empty,.nilf,.nilf]) kindsM (.int .i64 5) true=.tup [.agg [S [100,97,116,101],.fn (.func 71) [] [],.fn (.func 72) [] []],.bool true]:=rfl
  show _
  simp (config:={maxSteps:=1000000}) (disch:=(try simp only [awL]);omega) only [awS,Tryz.f23,↓awU,awV,awX,awF,↓reduceIte,↓reduceDIte,↓Qe,Qu,Qv,Qw,Qx,Qy,Qz,QA,QB,QC,QD,QE,QF,QG,QH,QI,QK]
  refine CallC.by kinds_spec (by rfl) (by rfl) (Nat.zero_le _) ?_
  simp (config:={maxSteps:=1000000}) (disch:=(try simp only [awL]);omega) only [awS,kk,lk,↓awU,awV,awX,awF,↓reduceIte,↓reduceDIte,↓Qe,Qu,Qv,Qw,Qx,Qy,Qz,QA,QB,QC,QD,QE,QF,QG,QH,QI,QK]
  first | done | rfl | exact ⟨by rfl,by rfl⟩
 ·have lk:=look_no h
  unfold noK at lk
  have e1:nmK k=[]:=by unfold kOf at h;unfold nmK;rw [if_neg (by omega),if_neg (by omega),if_neg (by omega),if_neg (by omega),if_neg (by omega)]
  rw [e1,decide_eq_false h]
  simp (config:={maxSteps:=1000000}) (disch:=(try simp only [awL]);omega) only [awS,Tryz.f23,↓awU,awV,awX,awF,↓reduceIte,↓reduceDIte,↓Qe,Qu,Qv,Qw,Qx,Qy,Qz,QA,QB,QC,QD,QE,QF,QG,QH,QI,QK]
  refine CallC.by kinds_spec (by rfl) (by rfl) (Nat.zero_le _) ?_
  simp (config:={maxSteps:=1000000}) (disch:=(try simp only [awL]);omega) only [awS,kk,lk,↓awU,awV,awX,awF,↓reduceIte,↓reduceDIte,↓Qe,Qu,Qv,Qw,Qx,Qy,Qz,QA,QB,QC,QD,QE,QF,QG,QH,QI,QK]
  first | done | rfl | exact ⟨by rfl,by rfl⟩
end Go.Proofs.YtdpjcghiegggbaaGreatDoor
namespace Go.Proofs.YtdpjcghiegggbaaGreatDoor
open Go Go.Proofs Go.Abs Go.RowKit
variable {G:Globals}
def Keeps {α:Type} (m:Sem α):Prop:=∀ (P:Program) (W W':World) (v:α),m.run P W=.ok v W'→W'.tape=W.tape
theorem Keeps.pure {α:Type} (a:α):Keeps (Sem.pure a):=fun P W W' v h=>by simp only [Sem.run] at h;cases h;rfl
theorem Keeps.pure' {α:Type} (a:α):Keeps (Pure.pure a:Sem α):=Keeps.pure a
theorem Keeps.bind {α β:Type} {m:Sem α} {f:α→Sem β} (h:Keeps m) (g:∀ a,Keeps (f a)):Keeps (m >>= f):=fun P W W' v e=>by
 rw [Sem.run_bind] at e
 cases q:m.run P W with
 | ok a w=>rw [q] at e;exact (g a P w W' v e).trans (h P W w a q)
 | halt x w=>rw [q] at e;cases e
theorem Keeps.getObj (r:Nat):Keeps (getObj r):=fun P W W' v e=>by
 simp only [Go.getObj,Sem.run] at e
 split at e
 ·cases e
 ·cases e;rfl
 ·cases e
theorem Keeps.setObj (r:Nat) (o:Obj):Keeps (setObj r o):=fun P W W' v e=>by
 simp only [Go.setObj,Sem.run] at e
 split at e
 ·cases e
 ·cases e;rfl
 ·cases e
theorem Keeps.choose (q:Question):Keeps (choose q):=fun P W W' v e=>by
 rw [run_choose_drew] at e
 split at e<;>(cases e;rfl)
theorem Keeps.halt {α:Type} (x:Halt):Keeps (Sem.halt x:Sem α):=fun P W W' v e=>by simp only [Sem.run] at e;cases e
theorem next_keeps (it:Value) (ty:TypeId):Keeps (Instr.next it false ty):=by
 unfold Instr.next
 repeat' (first
  | exact Keeps.pure' _
  | exact Keeps.halt _
  | exact Keeps.getObj _
  | exact Keeps.setObj _ _
  | exact Keeps.choose _
  | refine Keeps.bind ?_ fun _=>?_
  | split
  )
theorem next_any {P:Program} (w:World) (ty:TypeId) (r bm since c0:Nat) (seen:Array Nat) (es:Array MapEntry) (clock:Nat) (hr:w.heap[r]? = some (.mapIter (some bm) since seen c0)) (hb:w.heap[bm]? = some (.map es clock))
  (hold:∀ x∈es.toList,x.born<since) (hsc:since≤c0) :
  ((leftOf es seen).size=0∧(Instr.next (.pointer (some ⟨r,0,none⟩)) false ty).run P w=.ok (.tuple #[.bool false]) w) ∨
  ∃ e∈(leftOf es seen).toList,∃ w':World,(Instr.next (.pointer (some ⟨r,0,none⟩)) false ty).run P w=.ok (.tuple #[.bool true,e.key,e.val]) w' ∧
   w'.heap=w.heap.setIfInBounds r (.mapIter (some bm) since (seen.push e.born) clock)∧w'.os=w.os∧w'.output=w.output:=by
 simp only [Instr.next,getObj,Sem.run_bind,Sem.run,hr,hb,Result.andThen,next_test_false seen es since c0 hold hsc,Bool.false_eq_true,if_false]
 unfold leftOf
 have hmem:∀ x∈(Array.filter (fun e=>!seen.contains e.born) es).toList,x.born<since:=fun x hx=>hold x (by simp at hx ⊢;exact hx.1)
 generalize Array.filter (fun e=>!seen.contains e.born) es=L at hmem ⊢
 have e1:L.filter (fun x=>decide (x.born<since))=L:=Array.filter_eq_self.2 (fun x hx=>by simpa using hmem x (by simpa using hx))
 have e2:L.filter (fun x=>decide (x.born ≥ since))=#[]:=by
  rw [Array.filter_eq_empty_iff]
  intro x hx
  have:=hmem x (by simpa using hx)
  simp
  omega
 simp only [e1,e2,Array.append_empty]
 by_cases h0:L.size=0
 ·refine .inl ⟨h0,?_⟩
  obtain rfl:L=#[]:=Array.eq_empty_of_size_eq_zero h0
  simp [choose,Sem.run,Question.forced]
 ·right
  have hne:L.isEmpty=false:=by simp [Array.isEmpty,h0]
  simp only [hne,Bool.false_eq_true,if_false,Array.empty_append,Array.size_map,run_choose_drew]
  have fin:∀ (j:Nat) (v:World),j<L.size→v.heap=w.heap→v.os=w.os→v.output=w.output→∃ e∈L.toList,∃ w':World,
    ((match (Array.map some L)[j]? with
     | some (some e)=>(do setObj r (.mapIter (some bm) since (seen.push e.born) clock);pure (Value.tuple #[.bool true,e.key,e.val]):Sem Value)
     | some none=>pure (Value.tuple #[.bool false])
     | none=>stuck "Next: no such candidate").run P v)=.ok (.tuple #[.bool true,e.key,e.val]) w'∧w'.heap=w.heap.setIfInBounds r (.mapIter (some bm) since (seen.push e.born) clock)∧w'.os=w.os∧w'.output=w.output:=by
   intro j v hj q1 q2 q3
   refine ⟨L[j],by simp,{v with heap:=v.heap.setIfInBounds r (.mapIter (some bm) since (seen.push L[j].born) clock)},?_,by rw [← q1],q2,q3⟩
   simp only [Array.getElem?_map,Array.getElem?_eq_getElem hj,Option.map_some,Sem.run_bind,setObj,Sem.run,q1,hr,Result.andThen]
   rfl
  by_cases hf:(Question.mapNext L.size).forced=true
  ·rw [if_pos hf]
   exact fin 0 w (by omega) rfl rfl rfl
  ·rw [if_neg hf]
   exact fin _ w.drew (Nat.mod_lt _ (by omega)) rfl rfl rfl
theorem entry_any {P:Program} (w:World) (r bm since:Nat) (seen:Array Nat) (es:Array MapEntry) (clock:Nat) (e:MapEntry) (hr:w.heap[r]? = some (.mapIter (some bm) since (seen.push e.born) clock)) (hb:w.heap[bm]? = some (.map es clock))
  (he:e∈es.toList) (hn:(es.toList.map (·.born)).Nodup):(Instr.entry (.pointer (some ⟨r,0,none⟩))).run P w=.ok (.tuple #[e.key,e.val]) w:=by
 have hf:es.find? (·.born == e.born)=some e:=by rw [← Array.find?_toList];exact find_born e es.toList hn he
 simp only [Instr.entry,getObj,Sem.run_bind,Sem.run,hr,hb,Result.andThen,Array.back?_push,bne_self_eq_false,Bool.false_eq_true,if_false,hf]
 rfl
theorem set_same {w w':World} {r:Nat} {o x:Obj} (h:w'.heap=w.heap.setIfInBounds r o) (hr:w.heap[r]? = some x):w'.heap[r]? = some o:=by
 have:r<w.heap.size:=by
  rcases Nat.lt_or_ge r w.heap.size with q | q
  ·exact q
  ·rw [Array.getElem?_eq_none q] at hr;cases hr
 rw [h];simp [this]
theorem set_other {w w':World} {r k:Nat} {o:Obj} (h:w'.heap=w.heap.setIfInBounds r o) (hk:k≠r):w'.heap[k]? = w.heap[k]?:=by
 rw [h,Array.getElem?_setIfInBounds,if_neg (Ne.symm hk)]
def FnV (v:Value):Prop:=v=.nilFunc∨∃ f x y,v=.func f x y
def KE (es:Array MapEntry):Prop:=(∀ e∈es.toList,∃ (n:Int) (f1 f2:Value),e.key=.int .i64 n∧e.val=.agg #[.string (bs (nmK n)),f1,f2]∧FnV f1∧FnV f2∧kOf n)∧∀ n:Int,kOf n→∃ e∈es.toList,e.key=.int .i64 n
def nmdK (s:List UInt8):Int:=if s=[116,101,120,116] then 1 else if s=[98,111,111,108] then 2 else if s=[105,110,116,101,103,101,114] then 3 else if s=[100,101,99,105,109,97,108] then 4 else if s=[100,97,116,101] then 5 else 0
theorem nmd_of {n:Int} (h:kOf n):nmdK (nmK n)=n:=by
 unfold kOf at h
 rcases h with rfl | rfl | rfl | rfl | rfl<;>decide
theorem nmd_no {s:List UInt8} (h:∀ n,kOf n→nmK n≠s):nmdK s=0:=by
 have h1:=h 1 (by unfold kOf;omega)
 have h2:=h 2 (by unfold kOf;omega)
 have h3:=h 3 (by unfold kOf;omega)
 have h4:=h 4 (by unfold kOf;omega)
 have h5:=h 5 (by unfold kOf;omega)
 unfold nmdK
 rw [if_neg (fun e=>h1 e.symm),if_neg (fun e=>h2 e.symm),if_neg (fun e=>h3 e.symm),if_neg (fun e=>h4 e.symm),if_neg (fun e=>h5 e.symm)]
theorem FnV.of {h:Held} {v:Value} {d:D} (hd:d=.nilf∨∃ n,d=kFn n) (r:RD h v d):FnV v:=by
 rcases hd with rfl | ⟨n,rfl⟩
 ·exact .inl (show R h (fun _=>none) v (.d .nilf) from .d _ _ r).nilf_inv
 ·obtain ⟨x,y,e⟩:=(show R h (fun _=>none) v (.d (.fn (.func n) [] [])) from .d _ _ r).fn_inv
  exact .inr ⟨_,x,y,e⟩
theorem kindsE {h:Held} {es:Array MapEntry} (m:MapR h es kindsM):KE es:=by
 obtain ⟨hs,hm⟩:=m
 have at5:∀ i:Nat,i<5→∃ e p,es[i]? = some e∧kindsM[i]? = some p∧RD h e.key p.1∧RD h e.val p.2:=fun i hi=>by
  have h1:i<es.size:=by rw [hs];exact hi
  have h2:i<kindsM.length:=hi
  exact ⟨es[i],kindsM[i],Array.getElem?_eq_getElem h1,List.getElem?_eq_getElem h2,hm i _ _ (Array.getElem?_eq_getElem h1) (List.getElem?_eq_getElem h2)⟩
 have key:∀ i:Nat,i<5→∃ e,es[i]? = some e∧∃ (f1 f2:Value),e.key=.int .i64 ((i+1:Nat):Int)∧e.val=.agg #[.string (bs (nmK ((i+1:Nat):Int))),f1,f2]∧FnV f1∧FnV f2:=fun i hi=>by
  obtain ⟨e,p,e1,e2,e3,e4⟩:=at5 i hi
  refine ⟨e,e1,?_⟩
  have fin:∀ (n:Int) (x:List UInt8) (f g:D),(f=.nilf∨∃ n,f=kFn n)→(g=.nilf∨∃ n,g=kFn n)→p=(.int .i64 n,kindE x f g)→∃ (f1 f2:Value),e.key=.int .i64 n∧e.val=.agg #[.string (bs x),f1,f2]∧FnV f1∧FnV f2:=by
   rintro n x f g hf hg rfl
   refine ?_
   have k1:=RD.int_val (show RD h e.key (.int .i64 n) from e3)
   have e4:RD h e.val (.agg [S x,f,g]):=e4
   obtain ⟨f1,f2,k2,k3,k4⟩:∃ f1 f2,e.val=.agg #[.string (bs x),f1,f2]∧FnV f1∧FnV f2:=by
    generalize e.val=v at e4
    cases e4 with
    | agg vs _ hl hr =>
     have hl:vs.size=3:=hl
     have r0:=hr 0 vs[0] (S x) (by simp [hl]) rfl
     have r1:=FnV.of hf (hr 1 vs[1] f (by simp [hl]) rfl)
     have r2:=FnV.of hg (hr 2 vs[2] g (by simp [hl]) rfl)
     refine ⟨vs[1],vs[2],?_,r1,r2⟩
     rw [← (show R h (fun _=>none) vs[0] (.d (.str (bs x))) from .d _ _ r0).str_inv]
     congr 1
     apply Array.ext
     ·simpa using hl
     ·intro j h1 h2
      have:j=0∨j=1∨j=2:=by omega
      rcases this with rfl | rfl | rfl<;>rfl
   exact ⟨f1,f2,k1,k2,k3,k4⟩
  have:i=0∨i=1∨i=2∨i=3∨i=4:=by omega
  rcases this with rfl | rfl | rfl | rfl | rfl<;>(cases e2;first | exact fin _ _ _ _ (.inl rfl) (.inr ⟨_,rfl⟩) rfl | exact fin _ _ _ _ (.inr ⟨_,rfl⟩) (.inr ⟨_,rfl⟩) rfl)
 refine ⟨fun e he=>?_,fun n hn=>?_⟩
 ·obtain ⟨i,hi,rfl⟩:=List.getElem_of_mem he
  have hi:i<es.size:=by simpa using hi
  obtain ⟨e,e1,f1,f2,k1,k2,k3,k4⟩:=key i (by rw [hs] at hi;exact hi)
  rw [Array.getElem?_eq_getElem hi] at e1
  cases e1
  rw [Array.getElem_toList]
  refine ⟨_,f1,f2,k1,k2,k3,k4,?_⟩
  have hi:i<5:=by rw [hs] at hi;exact hi
  unfold kOf;omega
 ·obtain ⟨e,e1,f1,f2,k1,k2,_,_⟩:=key (n - 1).toNat (by unfold kOf at hn;omega)
  refine ⟨e,by obtain ⟨q,rfl⟩:=Array.getElem?_eq_some_iff.1 e1;simp,?_⟩
  rw [k1]
  congr 1
  unfold kOf at hn;omega
theorem kinds_calls {h:Held} {ρ:Abs.Place} {w:World} (q:Sim G h ρ (hp []) w) :
  Calls TP 39 #[] w fun e w'=>∃ (g:Nat) (es:Array MapEntry) (clock:Nat),e=.returned (.map (some g))∧w'.heap[g]? = some (.map es clock)∧w.heap.size≤g∧KE es∧Born es clock∧Below w.heap.size w w':=by
 refine ((kinds_spec (G:=G)).2 h ρ w #[] q ⟨rfl,fun i v x hv=>by simp at hv⟩).mono ?_
 rintro e w' ⟨v,h',ρ',rfl,s',rv,st⟩
 obtain ⟨g,S,es,clock,b1,b2,b3,b4,b5⟩:=s'.blk 0 (.map kindsM) rfl
 have ev:v=.map (some g):=by cases rv with | mp _ g' S' hρ=>rw [b1] at hρ;cases hρ;rfl
 have np:∀ i g S,ρ i≠some (g,S):=fun i g S e=>by obtain ⟨_,b,hb⟩:=q.dom i g S e;simp [hp] at hb
 refine ⟨g,es,clock,by rw [ev],b2,?_,kindsE b3,b5,⟨st.os,st.tape,st.output,st.size,fun k hk=>st.keep k hk (fun i S=>np i k S)⟩⟩
 rcases st.rnew 0 g S b1 with ⟨j,S',hj⟩ | hj
 ·exact absurd hj (np _ _ _)
 ·exact hj
theorem bs_beq9 {a b:List UInt8}:(bs a == bs b)=decide (a=b):=by
 have e:(bs a == bs b)=(a.toArray == b.toArray):=rfl
 rw [e]
 by_cases h:a=b
 ·subst h;simp
 ·rw [decide_eq_false h]
  exact beq_eq_false_iff_ne.2 fun q=>h (by simpa using q)
theorem FnV.store {P:Program} {v:Value} (hv:FnV v) (w:World) (c:Array Value) (T:TypeId) (i:Nat) (hi:i<c.size) :
  (store ⟨w.heap.size,i,none⟩ v).run P (w.alloc (.cells c T))=.ok () (w.alloc (.cells (c.setIfInBounds i v) T)):=by
 have h1:(w.alloc (.cells c T)).cell? ⟨w.heap.size,i,none⟩=some c[i]:=by
  rw [World.cell?];simp only [heap_alloc_new,Option.isSome_none,Bool.false_eq_true,if_false]
  exact Array.getElem?_eq_getElem hi
 have h2:=World.frozen?_alloc_new w c T i
 have h3:=World.setCell_alloc_new (w:=w) c T i v
 rcases hv with rfl | ⟨f,x,y,rfl⟩
 ·unfold Go.store;simp only [Sem.run,h1,h2,h3,Bool.false_eq_true,if_false]
 ·unfold Go.store;simp only [Sem.run,h1,h2,h3,Bool.false_eq_true,if_false]
structure NmR (r g:Nat) (es:Array MapEntry) (clock:Nat) (s:List UInt8) (w1 wr:World):Prop where
 bel:Below r w1 wr
 mp:wr.heap[g]? = some (.map es clock)
 it:∃ seen c0,wr.heap[r]? = some (.mapIter (some g) clock seen c0)∧clock≤c0∧∀ x∈es.toList,seen.contains x.born=true→∀ n:Int,x.key=.int .i64 n→nmK n≠s
theorem iter_seen {w:World} {r:Nat} {a:Option Nat} {b d:Nat} {s:Array Nat} (h:w.heap[r]? = some (.mapIter a b s d)):w.iterSeen r=s:=by unfold World.iterSeen;rw [h]
theorem NmR.step {r g:Nat} {es:Array MapEntry} {clock:Nat} {s:List UInt8} {w1 wr w2 w3:World} (h:NmR r g es clock s w1 wr) (hg:g<r) (hn:(es.toList.map (·.born)).Nodup) {seen:Array Nat} {c0:Nat} (hr:wr.heap[r]? = some (.mapIter (some g) clock seen c0))
  (hno:∀ x∈es.toList,seen.contains x.born=true→∀ n:Int,x.key=.int .i64 n→nmK n≠s) {e:MapEntry} (he:e∈es.toList)
  (h2:w2.heap=wr.heap.setIfInBounds r (.mapIter (some g) clock (seen.push e.born) clock)) (o2:w2.os=wr.os) (t2:w2.tape=wr.tape) (u2:w2.output=wr.output) (h3:Below w2.heap.size w2 w3) {n:Int} (hk:e.key=.int .i64 n) (hne:nmK n≠s) :
  NmR r g es clock s w1 w3:=by
 have sz:w2.heap.size=wr.heap.size:=by rw [h2];simp
 have rlt:r<wr.heap.size:=by
  rcases Nat.lt_or_ge r wr.heap.size with q | q
  ·exact q
  ·rw [Array.getElem?_eq_none q] at hr;cases hr
 refine ⟨h.bel.trans (Below.trans (b:=w2) ⟨o2,t2,u2,by omega,fun k hk=>set_other h2 (by omega)⟩ (h3.mono (by omega))),?_,?_⟩
 ·rw [h3.block g (by omega),set_other h2 (by omega)];exact h.mp
 ·refine ⟨seen.push e.born,clock,?_,Nat.le_refl _,fun x hx hc m hm=>?_⟩
  ·rw [h3.block r (by omega)];exact set_same h2 hr
  ·rw [contains_push] at hc
   rcases Bool.or_eq_true _ _▸hc with q | q
   ·exact hno x hx q m hm
   ·obtain rfl:x=e:=born_inj hn hx he (beq_iff_eq.1 q)
    rw [hk] at hm;cases hm;exact hne
theorem named_spec (s:List UInt8):Ctr TP G 33 [.d (S s)] [] (.d (.tup [.int .i64 (nmdK s),.bool (decide (nmdK s≠0))])) []:=by
 refine Ctr.of_calls go33 fun h ρ w vs q r=>?_
 obtain ⟨v,rfl,hv⟩:=r.inv1
 rw [hv.str_inv]
 have kc:=kinds_calls q
 clear hv r q
 go_enter Tryz.func33,Tryz.ntmps33
 go_wp2_with (go_at_call 39;refine kc.mono ?_;rintro e w1 ⟨g,es,clock,rfl,hb,hg,ke,bo,bel⟩;have hrg:=run_range_map (P:=TP) w1 81 3 79 g es clock Tryz.underlying81 hb)
 have hgl:g<w1.heap.size:=by
  rcases Nat.lt_or_ge g w1.heap.size with q | q
  ·exact q
  ·rw [Array.getElem?_eq_none q] at hb;cases hb
 go_loopw [] (NmR w1.heap.size g es clock s w1) (fun w'=>(leftOf es (w'.iterSeen w1.heap.size)).size)
 case atStart =>
  exact ⟨(Below.refl _ w1).alloc (Nat.le_refl _) _,by rw [heap_alloc_old w1 _ hgl];exact hb,⟨#[],clock,heap_alloc_new w1 _,Nat.le_refl _,fun x _ h=>by simp at h⟩⟩
 case round =>
  have hrel0:=hrel
  obtain ⟨bl,hm,seen,c0,hr,hc0,hno⟩:=hrel
  rcases next_any (P:=TP) wr 0 w1.heap.size g clock c0 seen es clock hr hm bo.1 hc0 with ⟨h0,hrun⟩ | ⟨e,he,w2,hrun,hh,ho,hou⟩
  ·have hnx:∀ ty,(Instr.next (.pointer (some ⟨w1.heap.size,0,none⟩)) false ty).run TP wr=_:=fun _=>hrun
   have z:nmdK s=0:=nmd_no fun n hn=>by
    obtain ⟨x,hx,hk⟩:=ke.2 n hn
    exact hno x hx (all_seen es seen h0 x hx) n hk
   clear hrun hrel0 hno ke
   go_wp2
   go_ret2
   rw [z]
   exact ⟨.tuple #[.int .i64 0,.bool false],rfl,tup2 (.int _ _) (.bool _),bel.trans (bl.mono bel.size)⟩
  ·obtain ⟨n,f1,f2,k1,k2,fv1,fv2,k3⟩:=ke.1 e (mem_left he).1
   have hm2:w2.heap[g]? = some (.map es clock):=by rw [set_other hh (by omega)];exact hm
   have hen:=entry_any (P:=TP) w2 w1.heap.size g clock seen es clock e (set_same hh hr) hm2 (mem_left he).1 bo.2
   rw [k1,k2] at hrun hen
   have hnx:∀ ty,(Instr.next (.pointer (some ⟨w1.heap.size,0,none⟩)) false ty).run TP wr=_:=fun _=>hrun
   have tp:=next_keeps _ _ TP _ _ _ hrun
   have sz:w2.heap.size=wr.heap.size:=by rw [hh];simp
   have rlt:w1.heap.size<wr.heap.size:=by
    rcases Nat.lt_or_ge w1.heap.size wr.heap.size with q | q
    ·exact q
    ·rw [Array.getElem?_eq_none q] at hr;cases hr
   have key:Hid (∀ w3,Below w2.heap.size w2 w3→nmK n≠s→NmR w1.heap.size g es clock s w1 w3∧(leftOf es (w3.iterSeen w1.heap.size)).size<(leftOf es (wr.iterSeen w1.heap.size)).size):=fun w3 b3 hne=>by
    refine ⟨hrel0.step hgl bo.2 hr hno (mem_left he).1 hh ho tp hou b3 k1 hne,?_⟩
    have i3:w3.heap[w1.heap.size]? = some (.mapIter (some g) clock (seen.push e.born) clock):=by rw [b3.block _ (by omega)];exact set_same hh hr
    rw [iter_seen i3,iter_seen hr]
    exact left_shrinks es seen e he
   have fin:Hid (∀ w3,Below w2.heap.size w2 w3→Below w.heap.size w w3):=fun w3 b3 =>
    bel.trans (Below.mono (bl.trans (Below.trans (b:=w2) ⟨ho,tp,hou,by omega,fun k hk=>set_other hh (by omega)⟩ (b3.mono (by omega)))) bel.size)
   have hfd:nmK n=s→nmdK s=n:=fun q=>by rw [← q];exact nmd_of k3
   have hn0:n≠0:=by unfold kOf at k3;omega
   have hbs:(bs (nmK n) == bs s)=decide (nmK n=s):=bs_beq9
   have st1:=FnV.store (P:=TP) fv1 w2 #[.string (bs (nmK n)),.nilFunc,.nilFunc] 79 1 (by simp)
   have st2:=FnV.store (P:=TP) fv2 w2 #[.string (bs (nmK n)),f1,.nilFunc] 79 2 (by simp)
   simp only [List.size_toArray,List.setIfInBounds_toArray,List.set_cons_succ,List.set_cons_zero] at st1 st2
   clear hrun hh ho hou tp hrel0 hno hm hm2 hr hc0 hb bl he ke bo k1 k2 k3 sz rlt hrg bel kc hgl
   generalize nmK n=x at *
   clear fv1 fv2
   go_wp2
   ·rename_i heq
    have hx:x=s:=by simpa using heq
    go_ret2
    rw [hfd hx]
    exact ⟨.tuple #[.int .i64 n,.bool true],rfl,by rw [decide_eq_true hn0];exact tup2 (.int _ _) (.bool _),fin.out _ ((Below.refl _ w2).alloc (Nat.le_refl _) _)⟩
   ·rename_i hne
    have hx:x≠s:=by simpa using hne
    go_roundw
    case rel=>exact (key.out _ ((Below.refl _ w2).alloc (Nat.le_refl _) _) hx).1
    case measure=>exact (key.out _ ((Below.refl _ w2).alloc (Nat.le_refl _) _) hx).2
end Go.Proofs.YtdpjcghiegggbaaGreatDoor
namespace Go.Proofs.YtdpjcghiegggbaaGreatDoor
open Go Go.Proofs Go.Abs
variable {G:Globals}
theorem getD_le {l:List Nat} {m:Nat} (h:∀ i,i<l.length→l.getD i 0≤m) (i:Nat):l.getD i 0≤m:=by
 rcases Nat.lt_or_ge i l.length with h1 | h1
 ·exact h i h1
 ·rw [List.getD_eq_getElem?_getD,List.getElem?_eq_none h1];exact Nat.zero_le _
def nots (q:List Bool):List Bool:=q.map not
theorem dg_byte {n:Nat} (h:n<10):(UInt8.ofNat (48+n)).toNat=48+n:=by simp;omega
theorem dec_ne (n:Nat):Lib.decDigits n≠[]:=by
 intro e
 have:=congrArg List.length e
 rw [Lib.decDigits_length] at this
 have:=Lib.nDigits_pos n
 simp at *;omega
theorem natGo_dec:∀ (n:Nat) (t:List UInt8),n<100000000→natGo 0 0 (Lib.decDigits n++t)=natGo n (Lib.decDigits n).length t:=by
 intro n
 induction n using Nat.strongRecOn with
 | _ n ih =>
  intro t hn
  rw [Lib.decDigits]
  split
  ·rw [List.singleton_append,natGo,dg_byte (by omega),if_neg (by omega)]
   congr 1;omega
  ·rw [List.append_assoc,ih _ (by omega) _ (by omega),List.singleton_append,natGo,dg_byte (by omega),if_neg (by omega),List.length_append]
   congr 1;omega
def natO (p:List UInt8):Option Nat:=match natGo 0 0 p with | some n=>if p=[] then none else some n | none=>none
theorem natO_dec {n:Nat} (hn:n<100000000):natO (Lib.decDigits n)=some n:=by
 have:=natGo_dec n [] hn
 rw [List.append_nil] at this
 rw [natO,this,natGo]
 simp only [if_neg (dec_ne n)]
def LayI (l:List Nat):Prop:=l≠[]∧l.getD 0 0=0∧l.length≤4∧(∀ i,i<l.length→l.getD i 0≤12*i)∧∀ i,i+1<l.length→l.getD i 0<l.getD (i+1) 0
theorem LayI.step {l:List Nat} (h:LayI l) (hl:l.length<4) {c:Nat} (hc:c<12):LayI (l++[l.getD (l.length - 1) 0+1+c]):=by
 obtain ⟨h1,h2,h3,h4,h5⟩:=h
 have lp:0<l.length:=List.length_pos_iff.2 h1
 have old:∀ i,i<l.length→(l++[l.getD (l.length - 1) 0+1+c]).getD i 0=l.getD i 0:=fun i hi=>by
  rw [List.getD_eq_getElem?_getD,List.getElem?_append_left hi,← List.getD_eq_getElem?_getD]
 have new:(l++[l.getD (l.length - 1) 0+1+c]).getD l.length 0=l.getD (l.length - 1) 0+1+c:=by
  rw [List.getD_eq_getElem?_getD,List.getElem?_append_right (Nat.le_refl _),Nat.sub_self];rfl
 refine ⟨by simp,by rw [old 0 lp,h2],by rw [List.length_append,List.length_singleton];omega,fun i hi=>?_,fun i hi=>?_⟩
 ·rw [List.length_append,List.length_singleton] at hi
  rcases Nat.lt_or_ge i l.length with h | h
  ·rw [old i h];exact h4 i h
  ·obtain rfl:i=l.length:=by omega
   rw [new]
   have:=h4 (l.length - 1) (by omega)
   omega
 ·rw [List.length_append,List.length_singleton] at hi
  rcases Nat.lt_or_ge (i+1) l.length with h | h
  ·rw [old i (by omega),old (i+1) h];exact h5 i h
  ·have e:i+1=l.length:=by omega
   rw [e,new,old i (by omega)]
   have:i=l.length - 1:=by omega
   rw [this];omega
end Go.Proofs.YtdpjcghiegggbaaGreatDoor
namespace Go.Proofs.YtdpjcghiegggbaaGreatDoor
open Go Go.Proofs Go.Abs
theorem valid_ascii:∀ s:List UInt8,(∀ c∈s,c.toNat<128)→Lib.validD s=true
 | [],_=>rfl
 | c::r,h=>by rw [Lib.validD_cons _ _ (h c (by simp))];exact valid_ascii r fun x hx=>h x (by simp [hx])
def asciiL (s:List UInt8):Prop:=∀ c∈s,c.toNat<128
theorem ascii_app {a b:List UInt8} (ha:asciiL a) (hb:asciiL b):asciiL (a++b):=fun c hc=>by
 rcases List.mem_append.1 hc with h | h
 ·exact ha c h
 ·exact hb c h
theorem get_all {P:List UInt8→Prop} {l:List (List UInt8)} (h0:P []) (h:∀ s∈l,P s) (i:Nat):P (l.getD i []):=by
 rcases Nat.lt_or_ge i l.length with h1 | h1
 ·exact h _ (memD h1)
 ·rw [List.getD_eq_getElem?_getD,List.getElem?_eq_none h1];exact h0
theorem ascii_nil:asciiL []:=fun c h=>by cases h
theorem ascii_cons {c:UInt8} {r:List UInt8} (hc:c.toNat<128) (hr:asciiL r):asciiL (c::r):=fun x hx=>by
 rcases List.mem_cons.1 hx with rfl | h
 ·exact hc
 ·exact hr x h
theorem ascii_itoa {n:Nat} (h:n<100):asciiL (itoaL n):=by
 unfold itoaL
 split
 ·intro c hc;rw [List.mem_singleton.1 hc];simp;omega
 ·intro c hc
  rcases List.mem_cons.1 hc with rfl | hc
  ·simp;omega
  ·rw [List.mem_singleton.1 hc];simp;omega
theorem ascii_num (t:List Int) (k:Nat):asciiL (numM t k):=by
 have h1:asciiL (num1 t k):=by
  obtain ⟨b,hb,hb2⟩:=pk_nat t (k+1) 40 (by decide)
  unfold num1
  rw [hb]
  exact ascii_app (get_all ascii_nil (by unfold asciiL;decide) _) (ascii_itoa (by simp;omega))
 have h2:asciiL (num2 t k):=by
  unfold num2
  split
  ·split
   ·exact h1
   ·exact ascii_cons (by decide) h1
  ·exact h1
 unfold numM
 split
 ·exact ascii_app h2 (ascii_cons (by decide) (get_all ascii_nil (by unfold asciiL;decide) _))
 ·exact h2
theorem ascii_date (t:List Int) (k:Nat):asciiL (dateM t k)∧(dateM t k).length≤10:=by
 have a1:asciiL (yearsL.getD (pk t k 6).toNat []):=get_all ascii_nil (by unfold asciiL;decide) _
 have a2:asciiL (monthsL.getD (pk t (k+1) 5).toNat []):=get_all ascii_nil (by unfold asciiL;decide) _
 have a3:asciiL (daysL.getD (pk t (k+2) 5).toNat []):=get_all ascii_nil (by unfold asciiL;decide) _
 have l1:=get_len (l:=yearsL) (m:=4) (by decide) (pk t k 6).toNat
 have l2:=get_len (l:=monthsL) (m:=2) (by decide) (pk t (k+1) 5).toNat
 have l3:=get_len (l:=daysL) (m:=2) (by decide) (pk t (k+2) 5).toNat
 have one:∀ n:UInt8,n.toNat<128→asciiL [n]:=fun n h=>ascii_cons h ascii_nil
 unfold dateM
 simp only
 split
 ·exact ⟨ascii_app (ascii_app (ascii_app (ascii_app a1 (one _ (by decide))) a2) (one _ (by decide))) a3,by simp only [List.length_append,List.length_cons,List.length_nil];omega⟩
 ·split
  ·exact ⟨ascii_app (ascii_app (ascii_app (ascii_app a1 (one _ (by decide))) a2) (one _ (by decide))) a3,by simp only [List.length_append,List.length_cons,List.length_nil];omega⟩
  ·exact ⟨ascii_app (ascii_app (ascii_app (ascii_app a3 (one _ (by decide))) a2) (one _ (by decide))) a1,by simp only [List.length_append,List.length_cons,List.length_nil];omega⟩
def okT (s:List UInt8):Prop:=Lib.validD s=true∧s.length≤30
instance (s:List UInt8):Decidable (okT s):=by unfold okT;exact inferInstance
theorem okT_nil:okT []:=by decide
theorem okT_words:∀ s∈wordsL,okT s:=by decide
theorem okT_bools:∀ s∈boolsL,okT s:=by decide
theorem okT_nulls:∀ s∈nullsL,okT s:=by decide
theorem okT_odds:∀ s∈oddsL,okT s:=by decide
theorem fieldM_ok (t:List Int) (k c:Nat):okT (fieldM t k c):=by
 unfold fieldM
 repeat' split
 ·exact get_all okT_nil okT_words _
 ·exact ⟨valid_ascii _ (ascii_num t k),by have:=(numM_len t k).2;omega⟩
 ·exact ⟨valid_ascii _ (ascii_date t k).1,by have:=(ascii_date t k).2;omega⟩
 ·exact get_all okT_nil okT_bools _
 ·have:=(numM_len t k).2
  have l2:=get_len (l:=unitsL) (m:=4) (by decide) (pk t (numK t k) 7).toNat
  exact ⟨valid_ascii _ (ascii_app (ascii_num t k) (get_all ascii_nil (by unfold asciiL;decide) _)),by rw [List.length_append];omega⟩
 ·exact get_all okT_nil okT_nulls _
 ·exact get_all okT_nil okT_odds _
end Go.Proofs.YtdpjcghiegggbaaGreatDoor
namespace Go.Proofs.YtdpjcghiegggbaaGreatDoor
open Go Go.Proofs Go.Abs
variable {G:Globals}
def OkS (t:List Int):Prop:=∀ i,0≤t.getD i 0∧t.getD i 0≤255
theorem OkS.take {t:List Int} (h:OkS t):OkM (t.take 300):=by
 refine ⟨by rw [List.length_take];omega,fun i=>?_⟩
 rcases Nat.lt_or_ge i 300 with h1 | h1
 ·have:=h i
  rw [List.getD_eq_getElem?_getD,List.getElem?_take,if_pos h1,← List.getD_eq_getElem?_getD]
  exact this
 ·rw [List.getD_eq_getElem?_getD,List.getElem?_take,if_neg (by omega)];decide
def okGW (g:List Row):Prop:=g.length≤1000000000∧∀ r∈g,r.length≤1000000000∧∀ s∈r,s.length≤9223372036854775807
theorem okGrid.w {g:List Row} (h:okGrid g):okGW g:=⟨h.1,fun r hr=>⟨(h.2 r hr).1,fun s hs=>by have:=(h.2 r hr).2 s hs;omega⟩⟩
def atG (g:List Row) (r c:Int):List UInt8:=if r<0∨c<0 then [] else (g.getD r.toNat []).getD c.toNat []
def widG (g:List Row):Nat:=g.foldl (fun m r=>max m r.length) 0
end Go.Proofs.YtdpjcghiegggbaaGreatDoor
namespace Go.Proofs.YtdpjcghiegggbaaGreatDoor
open Go Go.Proofs Go.Abs
end Go.Proofs.YtdpjcghiegggbaaGreatDoor
namespace Go.Proofs.YtdpjcghiegggbaaGreatDoor
open Go Go.Proofs Go.Abs
variable {G:Globals}
theorem atG_len {g:List Row} {m:Nat} (h:∀ r∈g,∀ s∈r,s.length≤m) (i k:Int):(atG g i k).length≤m:=by
 unfold atG
 split
 ·simp
 ·rcases Nat.lt_or_ge i.toNat g.length with h1 | h1
  ·have m1:=h _ (memD (d:=[]) h1)
   generalize g.getD i.toNat []=r at *
   rcases Nat.lt_or_ge k.toNat r.length with h2 | h2
   ·exact m1 _ (memD (d:=[]) h2)
   ·rw [List.getD_eq_getElem?_getD,List.getElem?_eq_none h2];simp
  ·have e:g.getD i.toNat []=[]:=by rw [List.getD_eq_getElem?_getD,List.getElem?_eq_none h1];rfl
   rw [e];simp
theorem okGrid.at {g:List Row} (h:okGrid g) (i k:Int):(atG g i k).length≤1000000000:=atG_len (fun r hr s hs=>(h.2 r hr).2 s hs) i k
end Go.Proofs.YtdpjcghiegggbaaGreatDoor
namespace Go.Proofs.YtdpjcghiegggbaaGreatDoor
open Go Go.Proofs Go.Abs
theorem LayI.mono {l:List Nat} (h:LayI l):∀ i,i+1<l.length→l.getD i 0≤l.getD (i+1) 0:=fun i hi=>Nat.le_of_lt (h.2.2.2.2 i hi)
theorem LayI.le {l:List Nat} (h:LayI l) (i:Nat):l.getD i 0≤48:=getD_le (fun i hi=>by have:=h.2.2.2.1 i hi;have:=h.2.2.1;omega) i
theorem LayI.pos {l:List Nat} (h:LayI l):0<l.length:=List.length_pos_iff.2 h.1
end Go.Proofs.YtdpjcghiegggbaaGreatDoor
namespace Go.Proofs.YtdpjcghiegggbaaGreatDoor
open Go Go.Proofs Go.Abs
variable {G:Globals}
def cmpI (x y:Int):Int:=if x<y then -1 else if y<x then 1 else 0
theorem isNaN_spec (x:Int):Ctr TP G 83 [.d (.int .i64 x)] [] (.d (.bool false)) []:=by
 refine Ctr.pure (M:=M0) hmix Tryz.func83 rfl go83 ?_
 simp (config:={maxSteps:=1000000}) (disch:=(try simp only [awL]);omega) only [awS,Tryz.f83,↓awU,awV,awX,awF,↓reduceIte,↓reduceDIte,↓Qe,Qu,Qv,Qw,Qx,Qy,Qz,QA,QB,QC,QD,QE,QF,QG,QH,QI,QK]
 try rfl
theorem compare_spec (x y:Int):Ctr TP G 50 [.d (.int .i64 x),.d (.int .i64 y)] [] (.d (.int .i64 (cmpI x y))) []:=by
 refine Ctr.pure (M:=M0) hmix Tryz.func50 rfl go50 ?_
 obtain ⟨r,hr⟩:∃ r,r=cmpI x y:=⟨_,rfl⟩
 rw [← hr]
 unfold cmpI at hr
 simp (config:={maxSteps:=1000000}) (disch:=(try simp only [awL]);omega) only [awS,Tryz.f50,↓awU,awV,awX,awF,↓reduceIte,↓reduceDIte,↓Qe,Qu,Qv,Qw,Qx,Qy,Qz,QA,QB,QC,QD,QE,QF,QG,QH,QI,QK]
 refine CallC.pure (isNaN_spec x) ?_
 simp (config:={maxSteps:=1000000}) (disch:=(try simp only [awL]);omega) only [awS,↓awU,awV,awX,awF,↓reduceIte,↓reduceDIte,↓Qe,Qu,Qv,Qw,Qx,Qy,Qz,QA,QB,QC,QD,QE,QF,QG,QH,QI,QK]
 refine CallC.pure (isNaN_spec y) ?_
 rcases (by omega:x<y∨y<x∨(¬ x<y∧¬ y<x)) with h | h | ⟨h1,h2⟩
 ·rw [if_pos h] at hr
  simp (config:={maxSteps:=1000000}) (disch:=(try simp only [awL]);omega) only [awS,↓awU,awV,awX,awF,↓reduceIte,↓reduceDIte,↓Qe,Qu,Qv,Qw,Qx,Qy,Qz,QA,QB,QC,QD,QE,QF,QG,QH,QI,QK]
  all_goals rw [hr]
 ·rw [if_neg (by omega),if_pos h] at hr
  simp (config:={maxSteps:=1000000}) (disch:=(try simp only [awL]);omega) only [awS,↓awU,awV,awX,awF,↓reduceIte,↓reduceDIte,↓Qe,Qu,Qv,Qw,Qx,Qy,Qz,QA,QB,QC,QD,QE,QF,QG,QH,QI,QK]
  all_goals rw [hr]
 ·rw [if_neg h1,if_neg h2] at hr
  simp (config:={maxSteps:=1000000}) (disch:=(try simp only [awL]);omega) only [awS,↓awU,awV,awX,awF,↓reduceIte,↓reduceDIte,↓Qe,Qu,Qv,Qw,Qx,Qy,Qz,QA,QB,QC,QD,QE,QF,QG,QH,QI,QK]
  all_goals rw [hr]
structure Opt where
 txt:List UInt8
 fr:Nat
 ag:Nat
 wd:Nat
abbrev Opt.cells (o:Opt):List D:=[S o.txt,.int .i64 o.fr,.int .i64 o.ag]
def optC (l:List Opt):List D:=l.flatMap Opt.cells
def noO:Opt:=⟨[],0,0,0⟩
theorem optC_length:∀ l:List Opt,(optC l).length=3*l.length
 | []=>rfl
 | o::l=>by
   have ih:=optC_length l
   simp only [optC,List.flatMap_cons,List.length_append,List.length_cons,List.length_nil] at ih ⊢
   omega
theorem optC_get:∀ {l:List Opt} {k:Nat},k<l.length→((optC l).drop (k*3)).take 3=(l.getD k noO).cells
 | [],k,h=>absurd h (Nat.not_lt_zero _)
 | o::l,0,_=>by simp [optC]
 | o::l,k+1,h=>by
   have ih:=optC_get (l:=l) (k:=k) (by simpa using h)
   have e:(k+1)*3=k*3+3:=by omega
   have e2:optC (o::l)=S o.txt::.int .i64 o.fr::.int .i64 o.ag::optC l:=rfl
   rw [e,e2]
   simpa using ih
theorem optC_app (a b:List Opt):optC (a++b)=optC a++optC b:=by simp [optC]
theorem optC_take (l:List Opt) (k:Nat):(optC l).take (k*3)=optC (l.take k):=by
 rcases Nat.lt_or_ge k l.length with h | h
 ·conv=>lhs;rw [← List.take_append_drop k l,optC_app]
  rw [List.take_append_of_le_length (by rw [optC_length,List.length_take];omega),List.take_of_length_le (by rw [optC_length,List.length_take];omega)]
 ·rw [List.take_of_length_le (by rw [optC_length];omega),List.take_of_length_le h]
theorem optC_drop (l:List Opt) (k:Nat):(optC l).drop (k*3)=optC (l.drop k):=by
 rcases Nat.lt_or_ge k l.length with h | h
 ·conv=>lhs;rw [← List.take_append_drop k l,optC_app]
  rw [List.drop_append_of_le_length (by rw [optC_length,List.length_take];omega),List.drop_of_length_le (by rw [optC_length,List.length_take];omega),List.nil_append]
 ·rw [List.drop_of_length_le (by rw [optC_length];omega),List.drop_of_length_le h];rfl
theorem optC_set {l:List Opt} {k:Nat} (x:Opt) (h:k<l.length):(optC l).take (k*3)++x.cells++(optC l).drop (k*3+3)=optC (l.set k x):=by
 rw [List.set_eq_take_append_cons_drop,if_pos h,optC_app,optC_take,show k*3+3=(k+1)*3 by omega,optC_drop,List.append_assoc]
 rfl
theorem bs_beq {a b:List UInt8}:(bs a == bs b)=decide (a=b):=by
 have e:(bs a == bs b)=(a.toArray == b.toArray):=rfl
 rw [e]
 by_cases h:a=b
 ·subst h;simp
 ·rw [decide_eq_false h]
  exact beq_eq_false_iff_ne.2 fun q=>h (by simpa using q)
theorem optC_push (a:List Opt) (o:Opt):optC a++o.cells=optC (a++[o]):=by rw [optC_app];simp [optC]
theorem sameOpt_spec (l:List Opt) (fa fb:Bool) (hl:l.length≤1000000):Ctr TP G 30 [.d (.sl l.length fa (optC l)),.d (.sl l.length fb (optC l))] [] (.d (.bool true)) []:=by
 refine Ctr.pure (M:=M0) hmix Tryz.func30 rfl go30 ?_
 have ol:=optC_length l
 simp (config:={maxSteps:=1000000}) (disch:=(try simp only [awL]);omega) only [awS,ol,Tryz.f30,↓awU,awV,awX,awF,↓reduceIte,↓reduceDIte,↓Qe,Qu,Qv,Qw,Qx,Qy,Qz,QA,QB,QC,QD,QE,QF,QG,QH,QI,QK]
 refine LoopC.fr 4099 (α:=Nat) (fun i=>l.length - i) (fun i=>[(13,.d (.int .i64 i))]) (fun _=>[]) (fun i=>i≤l.length) 0 (Nat.zero_le _) ?_ ?_
 ·exact ⟨[],rfl,by simp,by simp [sA,kA,SW,AW],by simp [HW,BW,SW,AW]⟩
 ·intro i h1
  simp only [awK,Nat.reduceMod,Nat.reduceDiv,reduceIte]
  rcases Nat.lt_or_ge i l.length with h | h
  ·have g:=optC_get h
   generalize l.getD i noO=o at *
   simp (config:={maxSteps:=1000000}) (disch:=(try simp only [awL]);omega) only [awS,ol,g,beq_self_eq_true,↓awU,awV,awX,awF,↓reduceIte,↓reduceDIte,↓Qe,Qu,Qv,Qw,Qx,Qy,Qz,QA,QB,QC,QD,QE,QF,QG,QH,QI,QK]
   exact ⟨by rfl,i+1,h,by simp only;omega,⟨[],rfl,by simp,by simp [sA,kA,SW,AW],by simp [HW,BW,SW,AW]⟩⟩
  ·simp (config:={maxSteps:=1000000}) (disch:=(try simp only [awL]);omega) only [awS,ol,↓awU,awV,awX,awF,↓reduceIte,↓reduceDIte,↓Qe,Qu,Qv,Qw,Qx,Qy,Qz,QA,QB,QC,QD,QE,QF,QG,QH,QI,QK]
def updR (k d:D):List (D × D)→List (D × D)
 | []=>[(k,d)]
 | x::r=>if keyEq k x.1=true then (k,d)::r else x::updR k d r
theorem updE_R (k d:D):∀ m:List (D × D),updE m k d=updR k d m
 | []=>rfl
 | x::r=>by
   have ih:=updE_R k d r
   unfold updE at ih ⊢
   rw [findE,updR]
   by_cases h:keyEq k x.1=true
   ·rw [if_pos h,if_pos h];rfl
   ·rw [if_neg h,if_neg h]
    cases hf:findE k r with
    | none=>rw [hf] at ih;simp only [Option.map_none];rw [← ih];rfl
    | some y=>rw [hf] at ih;simp only [Option.map_some];rw [← ih];rfl
theorem keyEq_S (a b:List UInt8):keyEq (S a) (S b)=decide (a=b):=bs_beq
def KeyS (m:List (D × D)):Prop:=∀ e∈m,∃ s,e.1=S s
theorem KeyS.nil:KeyS []:=fun _ h=>by cases h
theorem KeyS.upd {m:List (D × D)} (h:KeyS m) (t:List UInt8) (d:D):KeyS (updE m (S t) d):=by
 rw [updE_R]
 induction m with
 | nil=>intro e he;exact ⟨t,by simp [updR] at he;rw [he]⟩
 | cons x r ih =>
  have i2:=ih fun e he=>h e (List.mem_cons_of_mem _ he)
  intro e he
  rw [updR] at he
  split at he
  ·rcases List.mem_cons.1 he with rfl | he
   ·exact ⟨t,rfl⟩
   ·exact h e (List.mem_cons_of_mem _ he)
  ·rcases List.mem_cons.1 he with rfl | he
   ·exact h _ (by simp)
   ·exact i2 e he
theorem KeyS.ok {m:List (D × D)} (h:KeyS m):keysOK TP 9 m=true:=by
 unfold keysOK
 refine List.all_eq_true.2 fun e he=>?_
 obtain ⟨s,hs⟩:=h e he
 rw [hs]
 unfold isKeyD
 rw [ti9]
 rfl
theorem look_upd {m:List (D × D)} (h:KeyS m) (z d:D) (s t:List UInt8):lookV z (updE m (S t) d) (S s) false=if s=t then d else lookV z m (S s) false:=by
 rw [updE_R]
 induction m with
 | nil =>
  have e1:findE (S s) (updR (S t) d [])=if keyEq (S s) (S t)=true then some (0,d) else none:=rfl
  unfold lookV
  rw [e1,keyEq_S]
  by_cases e:s=t
  ·rw [if_pos e,if_pos (by simpa using e)];rfl
  ·rw [if_neg e,if_neg (by simpa using e)];rfl
 | cons x r ih =>
  have i2:=ih fun e he=>h e (List.mem_cons_of_mem _ he)
  obtain ⟨c,hc⟩:=h x (by simp)
  have look_cons:∀ (y:D × D) (l:List (D × D)) (c:List UInt8),y.1=S c→lookV z (y::l) (S s) false=if s=c then y.2 else lookV z l (S s) false:=by
   intro y l c hy
   unfold lookV
   rw [findE,hy,keyEq_S]
   by_cases e:s=c
   ·rw [if_pos e,if_pos (by simpa using e)];rfl
   ·rw [if_neg e,if_neg (by simpa using e)]
    cases findE (S s) l<;>rfl
  rw [updR,hc,keyEq_S]
  by_cases e:t=c
  ·rw [if_pos (by simpa using e),look_cons _ _ t rfl,look_cons _ _ c hc,← e]
   by_cases e2:s=t
   ·rw [if_pos e2,if_pos e2]
   ·rw [if_neg e2,if_neg e2,if_neg e2]
  ·rw [if_neg (by simpa using e),look_cons _ _ c hc,look_cons _ _ c hc,i2]
   by_cases e2:s=c
   ·rw [if_pos e2,if_neg (by rw [e2];exact fun q=>e q.symm),if_pos e2]
   ·rw [if_neg e2,if_neg e2]
def lastR (g:List Row) (n k:Nat):Row:=(List.range k).map fun (i:Nat)=>Lib.trimB (atG g ((n:Int) - 1) i) 32
theorem lastR_succ (g:List Row) (n k:Nat):lastR g n (k+1)=lastR g n k++[Lib.trimB (atG g ((n:Int) - 1) k) 32]:=by
 unfold lastR;rw [List.range_succ,List.map_append];rfl
def EvI (g:List Row) (m:Nat) (x:Nat × List (D × D)):Prop:=x.1≤widG g∧KeyS x.2∧(m=0∨∀ s,lookV (.bool false) x.2 (S s) false=.bool (decide (s∈lastR g m x.1)))
theorem EvI.z {g:List Row} {k:Nat} {mp:List (D × D)} (h:k≤widG g) (hm:KeyS mp):EvI g 0 (k,mp):=⟨h,hm,.inl rfl⟩
theorem EvI.s {g:List Row} {m k:Nat} {mp:List (D × D)} {l:List UInt8} (h:k+1≤widG g) (hm:KeyS mp) (hl:∀ s,lookV (.bool false) mp (S s) false=.bool (decide (s∈lastR g m k))) (e:l=Lib.trimB (atG g ((m:Int) - 1) k) 32) :
  EvI g m (k+1,updE mp (S l) (.bool true)):=⟨h,hm.upd _ _,.inr fun s=>by
 rw [look_upd hm,hl s,lastR_succ,← e]
 by_cases q:s=l
 ·rw [if_pos q,decide_eq_true (by simp [q])]
 ·rw [if_neg q];congr 1;exact decide_eq_decide.2 (by simp [q])⟩
def OkOp (o:Opt):Prop:=o.fr≤1000000000∧o.ag≤1000000000
def CmpF (G:Globals) (f:Nat) (bf:Opt→Opt→Bool):Prop:=∀ a b,OkOp a→OkOp b→∃ c:Int,-1≤c∧c≤1∧Ctr TP G f [.d (.agg a.cells),.d (.agg b.cells)] [] (.d (.int .i64 c)) []∧decide (c<0)=bf a b
def posB (bf:Opt→Opt→Bool) (o:Opt) (s:List Opt):Nat→Nat
 | 0=>0
 | j+1=>if bf o (s.getD j noO)=true then posB bf o s j else j+1
def insB (bf:Opt→Opt→Bool) (o:Opt) (s:List Opt):List Opt:=s.take (posB bf o s s.length)++o::s.drop (posB bf o s s.length)
def sortB (bf:Opt→Opt→Bool) (l:List Opt):List Opt:=l.foldl (fun s o=>insB bf o s) []
theorem insB_len (bf:Opt→Opt→Bool) (o:Opt) (s:List Opt):(insB bf o s).length=s.length+1:=by
 unfold insB
 rw [List.length_append,List.length_cons,List.length_take,List.length_drop];omega
theorem sortB_snoc (bf:Opt→Opt→Bool) (l:List Opt) (o:Opt):sortB bf (l++[o])=insB bf o (sortB bf l):=by simp [sortB,List.foldl_append]
theorem sortB_take (bf:Opt→Opt→Bool) {l:List Opt} {i:Nat} (h:i<l.length):sortB bf (l.take (i+1))=insB bf (l.getD i noO) (sortB bf (l.take i)):=by
 rw [List.take_add_one,getD_some (d:=noO) h]
 exact sortB_snoc bf _ _
theorem sortB_len (bf:Opt→Opt→Bool) (l:List Opt):(sortB bf l).length=l.length:=by
 have:∀ (l:List Opt) (s:List Opt),(l.foldl (fun s o=>insB bf o s) s).length=s.length+l.length:=by
  intro l
  induction l with
  | nil=>intro s;simp
  | cons o l ih=>intro s;rw [List.foldl_cons,ih,insB_len,List.length_cons];omega
 rw [sortB,this];simp
theorem insB_mem {bf:Opt→Opt→Bool} {o x:Opt} {s:List Opt} (h:x∈insB bf o s):x=o∨x∈s:=by
 unfold insB at h
 rcases List.mem_append.1 h with h | h
 ·exact .inr (List.mem_of_mem_take h)
 ·rcases List.mem_cons.1 h with h | h
  ·exact .inl h
  ·exact .inr (List.mem_of_mem_drop h)
theorem sortB_mem {bf:Opt→Opt→Bool}:∀ {l:List Opt} {x:Opt},x∈sortB bf l→x∈l:=by
 have:∀ (l s:List Opt) (x:Opt),x∈l.foldl (fun s o=>insB bf o s) s→x∈s∨x∈l:=by
  intro l
  induction l with
  | nil=>intro s x h;exact .inl h
  | cons o l ih =>
   intro s x h
   rw [List.foldl_cons] at h
   rcases ih _ _ h with h | h
   ·rcases insB_mem h with rfl | h
    ·exact .inr (by simp)
    ·exact .inl h
   ·exact .inr (by simp [h])
 intro l x h
 rcases this l [] x h with h | h
 ·cases h
 ·exact h
theorem insSortB_spec (f:Nat) (bf:Opt→Opt→Bool) (hf:CmpF G f bf) (l:List Opt) (hn:l.length≤1000) (hl:∀ o∈l,OkOp o) :
  Ctr TP G 122 [.lsl 0 3 0 l.length,.d (.int .i64 0),.d (.int .i64 l.length),.d (.fn (.func f) [] [])] [.row false (optC l)] .undef [.row false (optC (sortB bf l))]:=by
 refine Ctr.body (M:=M0) hmix Tryz.func122 rfl go122 ?_
 simp (config:={maxSteps:=1000000}) (disch:=(try simp only [awL]);omega) only [awS,Tryz.f122,↓awU,awV,awX,awF,↓reduceIte,↓reduceDIte,↓Qe,Qu,Qv,Qw,Qx,Qy,Qz,QA,QB,QC,QD,QE,QF,QG,QH,QI,QK]
 refine LoopC.fr 15 (α:=Nat × List Opt) (fun x=>l.length - x.1) (fun x=>[(8,.d (.int .i64 x.1))]) (fun x=>[.row false (optC x.2)])
  (fun x=>1≤x.1∧x.2.length=l.length∧x.2=sortB bf (l.take x.1)++l.drop x.1) (1,l) ⟨Nat.le_refl _,rfl,by cases l<;>simp [sortB,insB,posB]⟩ ?_ ?_
 ·exact ⟨[some 0],rfl,by simp,by simp [sA,kA,SW,AW],by simp [HW,BW,SW,AW]⟩
 ·rintro ⟨i,d⟩ ⟨i1,i2,i3⟩
  simp only at i1 i2 i3
  simp only [awK,Nat.reduceMod,Nat.reduceDiv,reduceIte]
  rcases Nat.lt_or_ge i l.length with h | h
  ·have hS:(sortB bf (l.take i)).length=i:=by rw [sortB_len,List.length_take];omega
   have hst:=sortB_take bf h
   have ho:=hl _ (memD (d:=noO) h)
   have hSm:∀ x∈sortB bf (l.take i),OkOp x:=fun x hx=>hl x (List.mem_of_mem_take (sortB_mem hx))
   have ed:l.drop i=l.getD i noO::l.drop (i+1):=by
    rw [List.drop_eq_getElem_cons h,List.getD_eq_getElem?_getD,List.getElem?_eq_getElem h];rfl
   rw [ed] at i3
   clear ed
   have hr:(l.drop (i+1)).length=l.length - (i+1):=List.length_drop ..
   obtain ⟨rest,hrest⟩:∃ rest,rest=l.drop (i+1):=⟨_,rfl⟩
   rw [← hrest] at hr i3
   generalize l.getD i noO=o at *
   generalize sortB bf (l.take i)=st at *
   simp (config:={maxSteps:=1000000}) (disch:=(try simp only [awL]);omega) only [awS,↓awU,awV,awX,awF,↓reduceIte,↓reduceDIte,↓Qe,Qu,Qv,Qw,Qx,Qy,Qz,QA,QB,QC,QD,QE,QF,QG,QH,QI,QK]
   refine LoopC.fr 271 (α:=Nat × List Opt) (fun x=>x.1) (fun x=>[(9,.d (.int .i64 x.1))]) (fun x=>[.row false (optC x.2)])
    (fun x=>x.1≤i∧x.2=st.take x.1++o::(st.drop x.1++rest)∧posB bf o st st.length=posB bf o st x.1) (i,d) ⟨Nat.le_refl _,by rw [i3,← hS,List.take_length,List.drop_length];rfl,by rw [hS]⟩ ?_ ?_
   ·exact ⟨[some 0],rfl,by simp,by simp [sA,kA,SW,AW],by simp [HW,BW,SW,AW]⟩
   ·rintro ⟨j,e⟩ ⟨j1,j2,j3⟩
    simp only at j1 j2 j3
    simp only [awK,Nat.reduceMod,Nat.reduceDiv,reduceIte]
    rcases Nat.eq_zero_or_pos j with h0 | h0
    ·subst h0
     rw [show posB bf o st 0=0 from rfl] at j3
     have fin:e=sortB bf (l.take (i+1))++rest:=by
      rw [j2,hst,insB,j3];simp
     simp (config:={maxSteps:=1000000}) (disch:=(try simp only [awL]);omega) only [awS,↓awU,awV,awX,awF,↓reduceIte,↓reduceDIte,↓Qe,Qu,Qv,Qw,Qx,Qy,Qz,QA,QB,QC,QD,QE,QF,QG,QH,QI,QK]
     exact ⟨by rfl,(i+1,e),⟨by simp only;omega,by rw [fin,hst,List.length_append,insB_len,hr];omega,by rw [fin,hrest]⟩,by simp only;omega,⟨[some 0],rfl,by simp,by simp [sA,kA,SW,AW],by simp [HW,BW,SW,AW]⟩⟩
    ·obtain ⟨q,rfl⟩:∃ q,j=q+1:=⟨j - 1,by omega⟩
     have oel:=optC_length e
     have el:e.length=l.length:=by rw [j2];simp;omega
     have gj:=optC_get (l:=e) (k:=q+1) (by omega)
     have gq:=optC_get (l:=e) (k:=q) (by omega)
     have e1:e.getD (q+1) noO=o:=by
      rw [j2,List.getD_eq_getElem?_getD,List.getElem?_append_right (by rw [List.length_take];omega),List.length_take,show q+1 - min (q+1) st.length=0 by omega];rfl
     have e2:e.getD q noO=st.getD q noO:=by
      rw [j2,List.getD_eq_getElem?_getD,List.getElem?_append_left (by rw [List.length_take];omega),List.getElem?_take,if_pos (by omega),List.getD_eq_getElem?_getD]
     rw [e1] at gj
     rw [e2] at gq
     have hp:=hSm _ (memD (d:=noO) (l:=st) (i:=q) (by omega))
     rw [show posB bf o st (q+1)=if bf o (st.getD q noO)=true then posB bf o st q else q+1 from rfl] at j3
     obtain ⟨pp,hpp⟩:∃ pp,pp=st.getD q noO:=⟨_,rfl⟩
     rw [← hpp] at gq hp j3 e2
     have eq1:(((q+1:Nat):Int) - 1)=(q:Int):=by omega
     have eq2:(((q+1:Nat):Int) - 1).toNat=q:=by omega
     simp (config:={maxSteps:=1000000}) (disch:=(try simp only [awL]);omega) only [awS,oel,gj,gq,eq2,↓awU,awV,awX,awF,↓reduceIte,↓reduceDIte,↓Qe,Qu,Qv,Qw,Qx,Qy,Qz,QA,QB,QC,QD,QE,QF,QG,QH,QI,QK]
     obtain ⟨c,c1,c2,hcs,hb⟩:=hf o pp ho hp
     refine CallC.by (L:=[]) hcs (by rfl) (by rfl) (by simp) ?_
     cases hbb:bf o pp
     ·rw [hbb] at hb j3
      have hc:=of_decide_eq_false hb
      have fin:e=sortB bf (l.take (i+1))++rest:=by
       rw [if_neg (by decide)] at j3
       rw [j2,hst,insB,j3];simp
      simp (config:={maxSteps:=1000000}) (disch:=(try simp only [awL]);omega) only [awS,↓awU,awV,awX,awF,↓reduceIte,↓reduceDIte,↓Qe,Qu,Qv,Qw,Qx,Qy,Qz,QA,QB,QC,QD,QE,QF,QG,QH,QI,QK]
      exact ⟨by rfl,(i+1,e),⟨by simp only;omega,by rw [fin,hst,List.length_append,insB_len,hr];omega,by rw [fin,hrest]⟩,by simp only;omega,⟨[some 0],rfl,by simp,by simp [sA,kA,SW,AW],by simp [HW,BW,SW,AW]⟩⟩
     ·rw [hbb] at hb j3
      have hc:=of_decide_eq_true hb
      rw [if_pos rfl] at j3
      have s1:=optC_set (l:=e) (k:=q+1) pp (by omega)
      have s2:=optC_set (l:=e.set (q+1) pp) (k:=q) o (by rw [List.length_set];omega)
      have fin:(e.set (q+1) pp).set q o=st.take q++o::(st.drop q++rest):=by
       have d1:st.drop q=pp::st.drop (q+1):=by
        rw [List.drop_eq_getElem_cons (show q<st.length by omega),hpp,List.getD_eq_getElem?_getD,List.getElem?_eq_getElem (show q<st.length by omega)];rfl
       have t1:st.take (q+1)=st.take q++[pp]:=by
        rw [List.take_add_one,getD_some (d:=noO) (show q<st.length by omega),← hpp];rfl
       have tl:(st.take q).length=q:=by rw [List.length_take];omega
       rw [j2,t1,d1,List.append_assoc,List.set_append_right _ _ (by omega),tl,show q+1 - q=1 by omega,List.set_append_right _ _ (by omega),tl,Nat.sub_self]
       rfl
      have oel2:=optC_length (e.set (q+1) pp)
      rw [List.length_set] at oel2
      simp (config:={maxSteps:=1000000}) (disch:=(try simp only [awL]);omega) only [awS,oel,gj,gq,eq2,s1,oel2,s2,↓awU,awV,awX,awF,↓reduceIte,↓reduceDIte,↓Qe,Qu,Qv,Qw,Qx,Qy,Qz,QA,QB,QC,QD,QE,QF,QG,QH,QI,QK]
      refine ⟨by rfl,by rfl,?_⟩
      exact ⟨(q,(e.set (q+1) pp).set q o),⟨by simp only;omega,fin,j3⟩,by simp only;omega,⟨[some 0],rfl,by simp,by simp [sA,kA,SW,AW],by simp [HW,BW,SW,AW]⟩⟩
  ·rw [List.take_of_length_le h,List.drop_of_length_le h,List.append_nil] at i3
   subst i3
   simp (config:={maxSteps:=1000000}) (disch:=(try simp only [awL]);omega) only [awS,↓awU,awV,awX,awF,↓reduceIte,↓reduceDIte,↓Qe,Qu,Qv,Qw,Qx,Qy,Qz,QA,QB,QC,QD,QE,QF,QG,QH,QI,QK]
   exact ⟨[some 0],rfl,by simp,by simp [HW,BW,SW,AW],.inl (by simp [AW,SW])⟩
def MSt2:Muts:=fun k=>k == 122 || k == 82 || k == 48
theorem MSt2_a:MSt2 122=true:=rfl
theorem MSt2_b:MSt2 82=true:=rfl
theorem MSt2_c:MSt2 48=true:=rfl
theorem MSt2_n {k:Nat} (h:k≠122∧k≠82∧k≠48):MSt2 k=false:=by
 simp only [MSt2,Bool.or_eq_false_iff,beq_eq_false_iff_ne];exact ⟨⟨h.1,h.2.1⟩,h.2.2⟩
theorem stable_spec (f:Nat) (bf:Opt→Opt→Bool) (hf:CmpF G f bf) (l:List Opt) (hn:l.length<20) (hl:∀ o∈l,OkOp o) :
  Ctr TP G 82 [.lsl 0 3 0 l.length,.d (.int .i64 l.length),.d (.fn (.func f) [] [])] [.row false (optC l)] .undef [.row false (optC (sortB bf l))]:=by
 refine Ctr.body (M:=MSt2) hmix Tryz.func82 rfl go82 ?_
 simp (config:={maxSteps:=1000000}) (disch:=(try simp only [awL]);omega) only [awS,MSt2_a,MSt2_n,Tryz.f82,↓awU,awV,awX,awF,↓reduceIte,↓reduceDIte,↓Qe,Qu,Qv,Qw,Qx,Qy,Qz,QA,QB,QC,QD,QE,QF,QG,QH,QI,QK]
 refine LoopC.fx 71 (α:=Unit) (β:=Unit) (fun _=>0) (fun _=>[(7,.d (.int .i64 0)),(8,.d (.int .i64 20))]) (fun _=>[.row false (optC l)]) (fun _=>True) 71 (fun _=>[(7,.d (.int .i64 0))]) (fun _=>[.row false (optC l)]) (fun _=>True) () trivial ?_ ?_ ?_
 ·exact ⟨[some 0],rfl,by simp,by simp [sA,kA,SW,AW],by simp [HW,BW,SW,AW]⟩
 ·rintro ⟨⟩ -
  simp only [awK,Nat.reduceMod,Nat.reduceDiv,reduceIte]
  simp (config:={maxSteps:=1000000}) (disch:=(try simp only [awL]);omega) only [awS,MSt2_a,MSt2_n,↓awU,awV,awX,awF,↓reduceIte,↓reduceDIte,↓Qe,Qu,Qv,Qw,Qx,Qy,Qz,QA,QB,QC,QD,QE,QF,QG,QH,QI,QK]
  exact ⟨(),trivial,⟨[some 0],rfl,by simp,by simp [sA,kA,SW,AW],by simp [HW,BW,SW,AW]⟩⟩
 ·rintro ⟨⟩ -
  simp only [awK,Nat.reduceMod,Nat.reduceDiv,reduceIte]
  simp (config:={maxSteps:=1000000}) (disch:=(try simp only [awL]);omega) only [awS,MSt2_a,MSt2_n,↓awU,awV,awX,awF,↓reduceIte,↓reduceDIte,↓Qe,Qu,Qv,Qw,Qx,Qy,Qz,QA,QB,QC,QD,QE,QF,QG,QH,QI,QK]
  refine CallC.by (insSortB_spec f bf hf l (by omega) hl) (by first | rfl | simp) (by rfl) (by simp) ?_
  simp (config:={maxSteps:=1000000}) (disch:=(try simp only [awL]);omega) only [awS,MSt2_a,MSt2_n,↓awU,awV,awX,awF,↓reduceIte,↓reduceDIte,↓Qe,Qu,Qv,Qw,Qx,Qy,Qz,QA,QB,QC,QD,QE,QF,QG,QH,QI,QK]
  refine LoopC.fr 7 (α:=Unit) (fun _=>0) (fun _=>[(6,.d (.int .i64 20))]) (fun _=>[.row false (optC (sortB bf l))]) (fun _=>True) () trivial ?_ ?_
  ·exact ⟨[some 0],rfl,by simp,by simp [sA,kA,SW,AW],by simp [HW,BW,SW,AW]⟩
  ·rintro ⟨⟩ -
   simp only [awK,Nat.reduceMod,Nat.reduceDiv,reduceIte]
   simp (config:={maxSteps:=1000000}) (disch:=(try simp only [awL]);omega) only [awS,MSt2_a,MSt2_n,↓awU,awV,awX,awF,↓reduceIte,↓reduceDIte,↓Qe,Qu,Qv,Qw,Qx,Qy,Qz,QA,QB,QC,QD,QE,QF,QG,QH,QI,QK]
   exact ⟨[some 0],rfl,by simp,by simp [HW,BW,SW,AW],.inl (by simp [AW,SW])⟩
theorem sortStable_spec (f:Nat) (bf:Opt→Opt→Bool) (hf:CmpF G f bf) (l:List Opt) (hn:l.length<20) (hl:∀ o∈l,OkOp o) :
  Ctr TP G 48 [.lsl 0 3 0 l.length,.d (.fn (.func f) [] [])] [.row false (optC l)] .undef [.row false (optC (sortB bf l))]:=by
 refine Ctr.body (M:=MSt2) hmix Tryz.func48 rfl go48 ?_
 simp (config:={maxSteps:=1000000}) (disch:=(try simp only [awL]);omega) only [awS,MSt2_b,MSt2_n,Tryz.f48,↓awU,awV,awX,awF,↓reduceIte,↓reduceDIte,↓Qe,Qu,Qv,Qw,Qx,Qy,Qz,QA,QB,QC,QD,QE,QF,QG,QH,QI,QK]
 refine CallC.by (stable_spec f bf hf l hn hl) (by first | rfl | simp) (by rfl) (by simp) ?_
 simp (config:={maxSteps:=1000000}) (disch:=(try simp only [awL]);omega) only [awS,MSt2_b,MSt2_n,↓awU,awV,awX,awF,↓reduceIte,↓reduceDIte,↓Qe,Qu,Qv,Qw,Qx,Qy,Qz,QA,QB,QC,QD,QE,QF,QG,QH,QI,QK]
 exact ⟨[some 0],rfl,by simp,by simp [HW,BW,SW,AW],.inl (by simp [AW,SW])⟩
theorem optC_ag {l:List Opt} {q:Nat} (h:q<l.length):(optC l).getD (q*3+2) .nilp=.int .i64 (l.getD q noO).ag:=by
 have e:=congrArg (fun x=>x.getD 2 D.nilp) (optC_get h)
 simpa [List.getD_eq_getElem?_getD,List.getElem?_take,List.getElem?_drop] using e
end Go.Proofs.YtdpjcghiegggbaaGreatDoor
namespace Go.Proofs.YtdpjcghiegggbaaGreatDoor
open Go Go.Proofs Go.Abs
def okH (g:List Row):Prop:=g.length≤100∧∀ r∈g,r.length≤1000∧∀ s∈r,s.length≤1048576
theorem okH.ok {g:List Row} (h:okH g):okGrid g:=⟨by have:=h.1;omega,fun r hr=>⟨by have:=(h.2 r hr).1;omega,fun s hs=>by have:=(h.2 r hr).2 s hs;omega⟩⟩
theorem okH.at {g:List Row} (h:okH g) (i k:Int):(atG g i k).length≤1048576:=atG_len (fun r hr s hs=>(h.2 r hr).2 s hs) i k
def cand (b:List UInt8) (n:Nat):List UInt8:=b++[32]++Lib.decDigits n
theorem dec_inj {a b:Nat} (ha:a<100000000) (hb:b<100000000) (h:Lib.decDigits a=Lib.decDigits b):a=b:=by
 have e:=natO_dec ha
 rw [h,natO_dec hb] at e
 exact (Option.some.inj e).symm
theorem cand_inj {b:List UInt8} {m n:Nat} (hm:m<100000000) (hn:n<100000000) (h:cand b m=cand b n):m=n:=dec_inj hm hn (List.append_cancel_left h)
theorem cand_ne (b:List UInt8) (n:Nat):cand b n≠b:=fun h=>by
 have:=congrArg List.length h
 simp [cand] at this
def cands (b:List UInt8):Nat→List (List UInt8)
 | 0=>[b]
 | n+1=>cand b (n+2)::cands b n
theorem cands_len (b:List UInt8):∀ n,(cands b n).length=n+1
 | 0=>rfl
 | n+1=>by rw [cands,List.length_cons,cands_len b n]
theorem cands_mem {b s:List UInt8}:∀ {n},s∈cands b n→s=b∨∃ j,2≤j∧j≤n+1∧s=cand b j
 | 0,h=>.inl (List.mem_singleton.1 h)
 | n+1,h=>by
   rcases List.mem_cons.1 h with h | h
   ·exact .inr ⟨n+2,by omega,by omega,h⟩
   ·rcases cands_mem h with h | ⟨j,h1,h2,h3⟩
    ·exact .inl h
    ·exact .inr ⟨j,h1,by omega,h3⟩
theorem cands_nodup (b:List UInt8):∀ n,n<1000000→(cands b n).Nodup
 | 0,_=>List.nodup_cons.2 ⟨by simp,List.nodup_nil⟩
 | n+1,hn=>List.nodup_cons.2 ⟨fun h=>by
   rcases cands_mem h with h | ⟨j,h1,h2,h3⟩
   ·exact cand_ne _ _ h
   ·have:=cand_inj (by omega) (by omega) h3;omega,cands_nodup b n (by omega)⟩
theorem nodup_le:∀ {l out:List (List UInt8)},l.Nodup→(∀ s∈l,s∈out)→l.length≤out.length
 | [],_,_,_=>Nat.zero_le _
 | x::l,out,h,hs=>by
   obtain ⟨h1,h2⟩:=List.nodup_cons.1 h
   have hx:=hs x (by simp)
   have i:=nodup_le (l:=l) (out:=out.erase x) h2 fun s q=>by
    refine (List.mem_erase_of_ne (fun e=>?_)).2 (hs s (List.mem_cons_of_mem _ q))
    subst e;exact h1 q
   rw [List.length_erase_of_mem hx] at i
   have:=List.length_pos_of_mem hx
   simp only [List.length_cons];omega
def TakenTo (out:Row) (b:List UInt8) (n:Nat):Prop:=∀ j,2≤j→j<n→cand b j∈out
theorem takenTo_le {out:Row} {b:List UInt8} {n:Nat} (hb:b∈out) (h:TakenTo out b n) (hn:n<100000):n≤out.length+1:=by
 rcases Nat.lt_or_ge n 2 with h2 | h2
 ·omega
 ·have:=nodup_le (cands_nodup b (n - 2) (by omega)) (out:=out) fun s hs=>by
   rcases cands_mem hs with rfl | ⟨j,h1,h3,rfl⟩
   ·exact hb
   ·exact h j h1 (by omega)
  rw [cands_len] at this
  omega
def IsFree (out:Row) (b s:List UInt8):Prop:=s∉out∧(s=b∨(b∈out∧∃ n,2≤n∧s=cand b n∧TakenTo out b n))
theorem IsFree.uniq {out:Row} {b s t:List UInt8} (h1:IsFree out b s) (h2:IsFree out b t):s=t:=by
 obtain ⟨a1,a2⟩:=h1
 obtain ⟨b1,b2⟩:=h2
 rcases a2 with rfl | ⟨a2,n,a3,rfl,a4⟩
 ·rcases b2 with rfl | ⟨b2,_⟩
  ·rfl
  ·exact absurd b2 a1
 ·rcases b2 with rfl | ⟨b2,m,b3,rfl,b4⟩
  ·exact absurd a2 b1
  ·rcases Nat.lt_trichotomy n m with q | q | q
   ·exact absurd (b4 n a3 q) a1
   ·rw [q]
   ·exact absurd (a4 m b3 q) b1
def pickN (out:Row) (b:List UInt8):Nat→Nat→List UInt8
 | 0,n=>cand b n
 | f+1,n=>if cand b n∈out then pickN out b f (n+1) else cand b n
def nameN (out:Row) (b:List UInt8):List UInt8:=if b∈out then pickN out b out.length 2 else b
theorem pickN_free {out:Row} {b:List UInt8} (hb:b∈out) (ho:out.length<10000):∀ (f n:Nat),2≤n→TakenTo out b n→out.length+2≤f+n→n≤out.length+2→IsFree out b (pickN out b f n)
 | 0,n,h2,ht,hf,hn=>by
   rw [pickN]
   refine ⟨fun h=>?_,.inr ⟨hb,n,h2,rfl,ht⟩⟩
   have:=takenTo_le hb (n:=n+1) (fun j h1 h3=>by
    rcases Nat.lt_or_ge j n with q | q
    ·exact ht j h1 q
    ·rw [show j=n by omega];exact h) (by omega)
   omega
 | f+1,n,h2,ht,hf,hn=>by
   rw [pickN]
   by_cases h:cand b n∈out
   ·rw [if_pos h]
    have t2:TakenTo out b (n+1):=fun j h1 h3=>by
     rcases Nat.lt_or_ge j n with q | q
     ·exact ht j h1 q
     ·rw [show j=n by omega];exact h
    have:=takenTo_le hb t2 (by omega)
    exact pickN_free hb ho f (n+1) (by omega) t2 (by omega) (by omega)
   ·rw [if_neg h]
    exact ⟨h,.inr ⟨hb,n,h2,rfl,ht⟩⟩
theorem nameN_free {out:Row} {b:List UInt8} (ho:out.length<10000):IsFree out b (nameN out b):=by
 unfold nameN
 by_cases h:b∈out
 ·rw [if_pos h]
  exact pickN_free h ho _ _ (by omega) (fun j h1 h2=>by omega) (by omega) (by omega)
 ·rw [if_neg h];exact ⟨h,.inl rfl⟩
end Go.Proofs.YtdpjcghiegggbaaGreatDoor
namespace Go.Proofs.YtdpjcghiegggbaaGreatDoor
open Go Go.Proofs Go.Abs
variable {G:Globals}
def NxI (out:Row) (mn:List (D × D)):Prop:=KeyS mn∧∀ b,∃ nx:Nat,lookV (.int .i64 0) mn (S b) false=.int .i64 nx∧nx≤100000∧TakenTo out b nx
theorem NxI.nil (out:Row):NxI out []:=⟨KeyS.nil,fun b=>⟨0,rfl,by omega,fun j h1 h2=>by omega⟩⟩
theorem NxI.upd {out:Row} {mn:List (D × D)} (h:NxI out mn) {b:List UInt8} {n:Nat} (hn:n≤100000) (ht:TakenTo out b n):NxI out (updE mn (S b) (.int .i64 n)):=⟨h.1.upd _ _,fun c=>by
 rw [look_upd h.1]
 by_cases e:c=b
 ·rw [if_pos e];subst e;exact ⟨n,rfl,hn,ht⟩
 ·rw [if_neg e];exact h.2 c⟩
def TkI (out:Row) (mt:List (D × D)):Prop:=KeyS mt∧∀ s,lookV (.bool false) mt (S s) false=.bool (decide (s∈out))
theorem TkI.nil:TkI [] []:=⟨KeyS.nil,fun s=>rfl⟩
theorem TkI.upd {out:Row} {mt:List (D × D)} (h:TkI out mt) (t:List UInt8):TkI (out++[t]) (updE mt (S t) (.bool true)):=⟨h.1.upd _ _,fun s=>by
 rw [look_upd h.1]
 by_cases e:s=t
 ·rw [if_pos e,decide_eq_true (by simp [e])]
 ·rw [if_neg e,h.2 s];congr 1;exact decide_eq_decide.2 (by simp [e])⟩
def CurI (out:Row) (b:List UInt8) (n:Nat) (s:List UInt8):Prop:=2≤n∧n≤100001∧((s=b∧TakenTo out b n)∨(b∈out∧3≤n∧s=cand b (n - 1)∧TakenTo out b (n - 1)))
theorem CurI.step {out:Row} {b s:List UInt8} {n:Nat} (h:CurI out b n s) (hs:s∈out) (ho:out.length≤1000):n≤1001∧TakenTo out b n∧CurI out b (n+1) (cand b n):=by
 obtain ⟨h1,h0,h2⟩:=h
 have key:b∈out∧TakenTo out b n:=by
  rcases h2 with ⟨rfl,h3⟩ | ⟨h3,h4,rfl,h5⟩
  ·exact ⟨hs,h3⟩
  ·refine ⟨h3,fun j j1 j2=>?_⟩
   rcases Nat.lt_or_ge j (n - 1) with q | q
   ·exact h5 j j1 q
   ·rw [show j=n - 1 by omega];exact hs
 have le:n≤1001:=by
  rcases Nat.lt_or_ge n 100000 with q | q
  ·have:=takenTo_le key.1 key.2 q;omega
  ·have:=takenTo_le (n:=99999) key.1 (fun j j1 j2=>key.2 j j1 (by omega)) (by omega);omega
 exact ⟨le,key.2,by omega,by omega,.inr ⟨key.1,by omega,by rw [Nat.add_sub_cancel],by rw [Nat.add_sub_cancel];exact key.2⟩⟩
theorem CurI.fin {out:Row} {b s:List UInt8} {n:Nat} (h:CurI out b n s) (hs:s∉out) (ho:out.length≤1000):s=nameN out b:=by
 refine IsFree.uniq (out:=out) (b:=b) ⟨hs,?_⟩ (nameN_free (by omega))
 obtain ⟨h1,h0,h2⟩:=h
 rcases h2 with ⟨rfl,h3⟩ | ⟨h3,h4,rfl,h5⟩
 ·exact .inl rfl
 ·exact .inr ⟨h3,n - 1,by omega,rfl,h5⟩
abbrev Cel:=List UInt8 × Bool
abbrev CelC (c:Cel):List D:=[.bool c.2,S c.1]
def celsD (l:List Cel):List D:=l.flatMap CelC
abbrev CelS (l:List Cel) (full:Bool):D:=.sl l.length full (celsD l)
structure Col where
 name:List UInt8
 cells:List Cel
def noC:Cel:=([],false)
theorem celsD_length:∀ l:List Cel,(celsD l).length=2*l.length
 | []=>rfl
 | o::l=>by
   have ih:=celsD_length l
   simp only [celsD,List.flatMap_cons,List.length_append,List.length_cons,List.length_nil] at ih ⊢
   omega
theorem celsD_get:∀ {l:List Cel} {k:Nat},k<l.length→((celsD l).drop (k*2)).take 2=CelC (l.getD k noC)
 | [],k,h=>absurd h (Nat.not_lt_zero _)
 | o::l,0,_=>by simp [celsD]
 | o::l,k+1,h=>by
   have ih:=celsD_get (l:=l) (k:=k) (by simpa using h)
   have e2:celsD (o::l)=.bool o.2::S o.1::celsD l:=rfl
   rw [show (k+1)*2=k*2+2 by omega,e2]
   simpa using ih
theorem sameCells_spec (c:Col) (fa fb:Bool) (hc:c.cells.length≤1000000):Ctr TP G 29 [.d (.agg [S c.name,CelS c.cells fa]),.d (.agg [S c.name,CelS c.cells fb])] [] (.d (.bool true)) []:=by
 refine Ctr.pure (M:=M0) hmix Tryz.func29 rfl go29 ?_
 have lc:=celsD_length c.cells
 simp (config:={maxSteps:=1000000}) (disch:=(try simp only [awL]);omega) only [awS,lc,Tryz.f29,↓awU,awV,awX,awF,↓reduceIte,↓reduceDIte,↓Qe,Qu,Qv,Qw,Qx,Qy,Qz,QA,QB,QC,QD,QE,QF,QG,QH,QI,QK]
 refine LoopC.fr 4194316 (α:=Nat) (fun i=>c.cells.length - i) (fun i=>[(23,.d (.int .i64 (i:Nat)))]) (fun _=>[.box [.d (S c.name),.d (CelS c.cells fa)],.box [.d (S c.name),.d (CelS c.cells fb)]]) (fun i=>i≤c.cells.length) 0 (Nat.zero_le _) ?_ ?_
 ·exact ⟨[some 0,some 1],rfl,by simp,by simp [sA,kA,SW,AW],by simp [HW,BW,SW,AW]⟩
 ·intro i hi
  simp only [awK,Nat.reduceMod,Nat.reduceDiv,reduceIte]
  rcases Nat.lt_or_ge i c.cells.length with h6 | h6
  ·have gc:=celsD_get h6
   generalize c.cells.getD i noC=x at *
   simp (config:={maxSteps:=1000000}) (disch:=(try simp only [awL]);omega) only [awS,lc,gc,beq_self_eq_true,↓awU,awV,awX,awF,↓reduceIte,↓reduceDIte,↓Qe,Qu,Qv,Qw,Qx,Qy,Qz,QA,QB,QC,QD,QE,QF,QG,QH,QI,QK]
   exact ⟨by rfl,i+1,h6,by simp only;omega,⟨[some 0,some 1],rfl,by simp,by simp [sA,kA,SW,AW],by simp [HW,BW,SW,AW]⟩⟩
  ·simp (config:={maxSteps:=1000000}) (disch:=(try simp only [awL]);omega) only [awS,lc,↓awU,awV,awX,awF,↓reduceIte,↓reduceDIte,↓Qe,Qu,Qv,Qw,Qx,Qy,Qz,QA,QB,QC,QD,QE,QF,QG,QH,QI,QK]
   first | done | rfl | exact ⟨by rfl,by rfl⟩
abbrev Un:=List UInt8 × List UInt8 × Int × Int
def uL:List Un:=[([107,103],[107,103],1,1),([103],[107,103],1,1000),([116],[107,103],1000,1),([109],[109],1,1),([107,109],[109],1000,1),([99,109],[109],1,100),([109,109],[109],1,1000),([115],[115],1,1),([109,105,110],[115],60,1),([104],[115],3600,1),([109,115],[115],1,1000),([37],[37],1,1)]
def frontU (t n:List UInt8):List UInt8:=Lib.trimRightB (Lib.trimSuffix t n) 32
def hitU (t:List UInt8) (u:Un):Bool:=Lib.hasSuffix t u.1 && Num.decOk (frontU t u.1)
def splX (t:List UInt8):Option Un:=uL.find? (hitU t)
def splU (s:List UInt8):Option Un:=splX (Lib.trimB s 32)
def splN (s:List UInt8):List UInt8:=match splU s with | some u=>frontU (Lib.trimB s 32) u.1 | none=>[]
end Go.Proofs.YtdpjcghiegggbaaGreatDoor
namespace Go.Proofs.YtdpjcghiegggbaaGreatDoor.Num
open Go Go.Proofs Go.Abs
variable {G:Globals}
abbrev DiceM (t:List Int) (k:Nat):ABlk:=.box [.d (.sl t.length false (ints .u8 t)),.d (.int .i64 (min k t.length:Nat))]
def OkM (t:List Int):Prop:=t.length≤300∧∀ i,0≤t.getD i 0∧t.getD i 0≤255
theorem new_spec (t:List Int) (ht:t.length≤9223372036854775807):Ctr TP G 13 [.d (.sl t.length false (ints .u8 t))] [] (.ptr 0 0) [DiceM (t.take 300) 0]:=by
 refine Ctr.body (M:=M0) hmix Tryz.func13 rfl go13 ?_
 rcases Nat.lt_or_ge 300 t.length with h | h
 ·have e:(t.take 300).length=300:=by rw [List.length_take];omega
  simp (config:={maxSteps:=1000000}) (disch:=(try simp only [awL]);omega) only [Tryz.f13,e,↓awU,awV,awX,awF,↓reduceIte,↓reduceDIte,↓Qe,Qu,Qv,Qw,Qx,Qy,Qz,QA,QB,QC,QD,QE,QF,QG,QH,QI,QK]
  exact ⟨[some 0],rfl,by simp,by simp [HW,BW,SW,AW];omega,.inl (by simp [AW])⟩
 ·have e:t.take 300=t:=List.take_of_length_le h
  simp (config:={maxSteps:=1000000}) (disch:=(try simp only [awL]);omega) only [Tryz.f13,e,↓awU,awV,awX,awF,↓reduceIte,↓reduceDIte,↓Qe,Qu,Qv,Qw,Qx,Qy,Qz,QA,QB,QC,QD,QE,QF,QG,QH,QI,QK]
  exact ⟨[some 0],rfl,by simp,by simp [HW,BW,SW,AW],.inl (by simp [AW,SW])⟩
def pk (t:List Int) (k:Nat) (n:Int):Int:=t.getD k 0 % n
theorem pk_range {t:List Int} {k:Nat} {n:Int} (h:0<n):0≤pk t k n∧pk t k n<n:=⟨Int.emod_nonneg _ (by omega),Int.emod_lt_of_pos _ h⟩
theorem pk_nat (t:List Int) (k:Nat) (n:Int) (h:0<n):∃ c:Nat,pk t k n=c∧(c:Int)<n:=⟨(pk t k n).toNat,by have:=@pk_range t k n h;omega,by have:=@pk_range t k n h;omega⟩
theorem pick_spec (t:List Int) (k:Nat) (n:Int) (ht:OkM t) (h0:0<n) (h1:n≤1000) :
  Ctr TP G 41 [.ptr 0 0,.d (.int .i64 n)] [DiceM t k] (.d (.int .i64 (pk t k n))) [DiceM t (k+1)]:=by
 obtain ⟨ht,htt⟩:=ht
 refine Ctr.body (M:=M0) hmix Tryz.func41 rfl go41 ?_
 rcases Nat.lt_or_ge k t.length with h | h
 ·have e1:min k t.length=k:=by omega
  have e2:min (k+1) t.length=k+1:=by omega
  obtain ⟨b1,b2⟩:=htt k
  have e3:(t.getD k 0).tmod n=pk t k n:=Int.tmod_eq_emod_of_nonneg b1
  simp only [e1,e2,DiceM]
  simp (config:={maxSteps:=1000000}) (disch:=(try simp only [awL]);omega) only [Tryz.f41,e3,↓awU,awV,awX,awF,↓reduceIte,↓reduceDIte,↓Qe,Qu,Qv,Qw,Qx,Qy,Qz,QA,QB,QC,QD,QE,QF,QG,QH,QI,QK]
  refine ⟨by rfl,by rfl,?_⟩
  exact ⟨[some 0],rfl,by simp,by simp [HW,BW,SW,AW],.inl (by simp [AW,SW])⟩
 ·have e1:min k t.length=t.length:=by omega
  have e2:min (k+1) t.length=t.length:=by omega
  have e3:pk t k n=0:=by rw [pk,List.getD_eq_getElem?_getD,List.getElem?_eq_none h];simp
  simp only [e1,e2,e3,DiceM]
  simp (config:={maxSteps:=1000000}) (disch:=(try simp only [awL]);omega) only [Tryz.f41,↓awU,awV,awX,awF,↓reduceIte,↓reduceDIte,↓Qe,Qu,Qv,Qw,Qx,Qy,Qz,QA,QB,QC,QD,QE,QF,QG,QH,QI,QK]
  refine ⟨by rfl,?_⟩
  exact ⟨[some 0],rfl,by simp,by simp [HW,BW,SW,AW],.inl (by simp [AW,SW])⟩
def Fw (k:Nat) (x:Rat):Prop:=sz x.num≤k∧(toW x.den).length≤k
theorem Fw.fv {k:Nat} {x:Rat} (h:Fw k x) (hk:k≤256):FV x:=⟨Nat.le_trans h.1 hk,Nat.le_trans h.2 hk⟩
theorem Fw.mono {k m:Nat} {x:Rat} (h:Fw k x) (hk:k≤m):Fw m x:=⟨Nat.le_trans h.1 hk,Nat.le_trans h.2 hk⟩
theorem Fw_divInt {n d:Int} {k:Nat} (hd:d≠0) (h1:sz n≤k) (h2:sz d≤k):Fw k (Rat.divInt n d):=by
 have e1:(Rat.divInt n d).num.natAbs≤n.natAbs:=by
  rw [Rat.num_divInt]
  rw [Int.natAbs_ediv_of_dvd (Int.dvd_mul_of_dvd_right (Int.gcd_dvd_right _ _))]
  refine Nat.le_trans (Nat.div_le_self _ _) ?_
  rw [Int.natAbs_mul,Int.natAbs_sign]
  split<;>omega
 have e2:(Rat.divInt n d).den≤d.natAbs:=by
  rw [Rat.den_divInt]
  split
  ·omega
  ·exact Nat.div_le_self _ _
 simp only [sz] at h1 h2
 exact ⟨Nat.le_trans (toW_len_mono e1) h1,Nat.le_trans (toW_len_mono e2) h2⟩
def OkS (t:List Int):Prop:=∀ i,0≤t.getD i 0∧t.getD i 0≤255
theorem OkS.take {t:List Int} (h:OkS t):OkM (t.take 300):=by
 refine ⟨by rw [List.length_take];omega,fun i=>?_⟩
 rw [List.getD_eq_getElem?_getD,List.getElem?_take]
 split
 ·rw [← List.getD_eq_getElem?_getD];exact h i
 ·simp
def resF (n d:Int):D:=if d=0 then .tup [Zf,.int .i64 8] else if FV (Rat.divInt n d) then .tup [Frac (Rat.divInt n d),.int .i64 0] else .tup [Zf,.int .i64 3]
end Go.Proofs.YtdpjcghiegggbaaGreatDoor.Num
namespace Go.Proofs.YtdpjcghiegggbaaGreatDoor
open Go Go.Proofs Go.Abs
variable {G:Globals}
theorem decVal_fw {s:List UInt8} (h:Num.decOk s=true):Num.Fw 24 (Num.decVal s):=by
 obtain ⟨hall,hlen,hlb⟩:=Num.decOk_facts h
 have h0:((10 ^ (Num.decB s).length:Nat):Int)≠0:=by
  have:0<10 ^ (Num.decB s).length:=Nat.pow_pos (by decide)
  omega
 have s1:(Num.toW (Num.decNum (Num.decF s++Num.decB s))).length≤24:=Num.sz_small (Nat.lt_of_lt_of_le (Num.decNum_lt hall) (Nat.pow_le_pow_right (by decide) hlen))
 have s2:(Num.toW (10 ^ (Num.decB s).length)).length≤24:=Num.sz_small (Nat.pow_lt_pow_right (by decide) (by omega))
 refine (Num.Fw_divInt (k:=24) h0 ?_ (by simp only [Num.sz,Int.natAbs_natCast];exact s2))
 split<;>(simp only [Num.sz,Int.natAbs_neg,Int.natAbs_natCast];exact s1)
def scaleQ:Rat:=Rat.divInt 1000000000 1
def dcT (x:Rat):List UInt8:=Num.textF (x*scaleQ)
def unP (d:List UInt8):List UInt8:=if Num.hasP d [45]=true then d.drop 1 else d
def padU (d:List UInt8):List UInt8:=List.replicate (10 - d.length) 48++d
def dotU (p:List UInt8):List UInt8:=p.take (p.length - 9)++[46]++p.drop (p.length - 9)
def outU (d:List UInt8):List UInt8:=if Num.hasP d [45]=true then [45]++dotU (padU (unP d)) else dotU (padU (unP d))
def canT (t:List UInt8):List UInt8 × Bool:=(if Num.decOk (Lib.trimB t 32)=true then canD (Lib.trimB t 32) else [],Num.decOk (Lib.trimB t 32))
def decU (x:Rat):List UInt8 × Bool:=if (47:UInt8)∈dcT x then ([],false) else canT (outU (dcT x))
def convU (s:List UInt8) (u:Un):List UInt8 × Bool:=if Num.decOk s=true∧u∈uL then decU (Num.decVal s*Rat.divInt u.2.2.1 u.2.2.2) else ([],false)
def basedU (s b:List UInt8):List UInt8 × Bool:=match splU s with | some u=>(if u.2.1=b then convU (splN s) u else ([],false)) | none=>([],false)
def isU (b:List UInt8) (x:Cel):Bool:=!x.2 && (basedU x.1 b).2
def noU (b:List UInt8) (x:Cel):Bool:=!x.2 && !(basedU x.1 b).2
def optU (l:List Cel) (b:List UInt8):Opt:=⟨b,l.countP (isU b),l.countP (noU b),0⟩
theorem countP_step9 {l:List Cel} {i:Nat} (p:Cel→Bool) (h:i<l.length):(l.take (i+1)).countP p=(l.take i).countP p+(if p (l.getD i noC)=true then 1 else 0):=by
 rw [List.take_add_one,getD_some (d:=noC) h,List.countP_append]
 simp only [Option.toList_some,List.countP_cons,List.countP_nil,Nat.zero_add]
theorem countP_le_n9 {l:List Cel} (p:Cel→Bool) {m:Nat} (h:l.length≤m) (i:Nat):(l.take i).countP p≤m:=Nat.le_trans List.countP_le_length (by rw [List.length_take];omega)
def okU (l:List Cel):Prop:=l.length≤1000000∧∀ x∈l,x.1.length≤9223372036854775807
theorem okU.at {l:List Cel} (h:okU l) {i:Nat} (hi:i<l.length):(l.getD i noC).1.length≤9223372036854775807:=h.2 _ (memD (d:=noC) hi)
theorem all_takeU {l:List Cel} {p:Cel→Bool} {i:Nat} (h:i<l.length) (h1:(l.take i).all p=true) (h2:p (l.getD i noC)=true):(l.take (i+1)).all p=true:=by
 rw [List.take_add_one,getD_some (d:=noC) h,List.all_append,h1]
 simpa using h2
end Go.Proofs.YtdpjcghiegggbaaGreatDoor
