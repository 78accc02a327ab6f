/-
  Contracts of the functions, one after another.
-/
import Derived.Test.YthbnileadffpiaaGreatDoorZbYp1
set_option linter.all false
open Go.Abs renaming ofVal→Qa,ofVal0→Qb,isShift→Qc,aggK→Qd,purePost→Qe,combine→Qf,idsA→Qg,cellsA→Qh,numsOf→Qi,srcA→Qj,calleeA→Qk,refsA→Ql,isScalar→Qm,scalarD→Qn,scalar0→Qo,putL→Qr,unfA→Qs,sidsB→QJ,keyKD→QL,isIntK→QM,aggD→QN,aggL→QO,eqKs→QP,boxRow→QQ,nextC_more→QT,nextC_over→QU,bs_size→QV,bs_extract→QW,bs_toList→QX,bs_append→QY,byteAt_bs→QZ,bs_cells→Q0,nums_length→Q1,nums_getD→Q2
open Go.Abs.AV renaming one→Qp
open Go.Abs.D renaming one→Qq
open Go.IntKind renaming signed→Qt
open Nat renaming reduceAdd→Qu,reduceSub→Qv,reduceMul→Qw,reducePow→Qx,reduceDiv→Qy,reduceMod→Qz,reduceEqDiff→QI,reduceBEq→QK
open Int renaming reduceAdd→QA,reduceSub→QB,reduceMul→QC,reducePow→QD,reduceNeg→QE,reduceToNat→QF,reduceLT→QG,reduceLE→QH
open Option renaming toList_some→QR,toList_none→QS
namespace Go.Proofs.YthbnileadffpiaaGreatDoor.Num
open Go Go.Proofs Go.Abs
variable {G:Globals}
theorem rminus_spec (n:Int) (hn:sz n<2 ^ 36):Ctr Tryz.prog G 93 [.d (Big n)] [] (.d (Big (-n))) []:=by
 refine Ctr.pure (M:=M0) hmix Tryz.func93 rfl go93 ?_
 simp only [sz] at hn
 simp (config:={maxSteps:=1000000}) (disch:=((try simp only [awL]);omega)) only [Tryz.f93,↓awU,awV,awF,Qa,Qb,Qc,Qd,forall_const,↓reduceIte,↓reduceDIte,↓Qe,Qf,Qg,Qh,Qi,Qj,Qk,Ql,Qm,Qn,Qo,Qp,Qq,Qr,Qs,implies_true,Qt,Qu,Qv,Qw,Qx,Qy,Qz,QA,QB,QC,QD,QE,QF,QG,QH,QI,QJ,QK,QL,QM,QN,QO,QP,QQ]
 refine CallC.pure (rbig_spec _ _ (dig_toW _) (by omega)) ?_
 rw [val_toW]
 have e:(if decide (¬ n<0)=true then -((n.natAbs:Nat):Int) else ((n.natAbs:Nat):Int))=-n:=by
  by_cases h:n<0
  ·simp [h];omega
  ·simp [h];omega
 rw [e]
 simp (config:={maxSteps:=1000000}) (disch:=((try simp only [awL]);omega)) only [↓awU,awV,awF,Qa,Qb,Qc,Qd,forall_const,↓reduceIte,↓reduceDIte,↓Qe,Qf,Qg,Qh,Qi,Qj,Qk,Ql,Qm,Qn,Qo,Qp,Qq,Qr,Qs,implies_true,Qt,Qu,Qv,Qw,Qx,Qy,Qz,QA,QB,QC,QD,QE,QF,QG,QH,QI,QJ,QK,QL,QM,QN,QO,QP,QQ]
theorem rtimes_spec (a b:Int) (ha:sz a<2 ^ 36) (hb:sz b<2 ^ 36):Ctr Tryz.prog G 92 [.d (Big a),.d (Big b)] [] (.d (Big (a*b))) []:=by
 refine Ctr.pure (M:=M0) hmix Tryz.func92 rfl go92 ?_
 simp only [sz] at ha hb
 have hl:=@times_len a.natAbs b.natAbs
 simp (config:={maxSteps:=1000000}) (disch:=((try simp only [awL]);omega)) only [Tryz.f92,↓awU,awV,awF,Qa,Qb,Qc,Qd,forall_const,↓reduceIte,↓reduceDIte,↓Qe,Qf,Qg,Qh,Qi,Qj,Qk,Ql,Qm,Qn,Qo,Qp,Qq,Qr,Qs,implies_true,Qt,Qu,Qv,Qw,Qx,Qy,Qz,QA,QB,QC,QD,QE,QF,QG,QH,QI,QJ,QK,QL,QM,QN,QO,QP,QQ]
 refine CallC.pure (rmul_spec _ _ (by omega) (by omega)) ?_
 simp (config:={maxSteps:=1000000}) (disch:=((try simp only [awL]);omega)) only [↓awU,awV,awF,Qa,Qb,Qc,Qd,forall_const,↓reduceIte,↓reduceDIte,↓Qe,Qf,Qg,Qh,Qi,Qj,Qk,Ql,Qm,Qn,Qo,Qp,Qq,Qr,Qs,implies_true,Qt,Qu,Qv,Qw,Qx,Qy,Qz,QA,QB,QC,QD,QE,QF,QG,QH,QI,QJ,QK,QL,QM,QN,QO,QP,QQ]
 refine CallC.pure (rbig_spec _ _ (dig_toW _) (by omega)) ?_
 rw [val_toW]
 have e:(if decide (¬ decide (a<0)=decide (b<0))=true then -((a.natAbs*b.natAbs:Nat):Int) else ((a.natAbs*b.natAbs:Nat):Int))=a*b:=by
  have ea:((a.natAbs:Nat):Int)=if a<0 then -a else a:=by split<;>omega
  have eb:((b.natAbs:Nat):Int)=if b<0 then -b else b:=by split<;>omega
  rw [Int.natCast_mul,ea,eb]
  by_cases ha':a<0<;>by_cases hb':b<0<;>simp [ha',hb',Int.neg_mul,Int.mul_neg]
 rw [e]
 simp (config:={maxSteps:=1000000}) (disch:=((try simp only [awL]);omega)) only [↓awU,awV,awF,Qa,Qb,Qc,Qd,forall_const,↓reduceIte,↓reduceDIte,↓Qe,Qf,Qg,Qh,Qi,Qj,Qk,Ql,Qm,Qn,Qo,Qp,Qq,Qr,Qs,implies_true,Qt,Qu,Qv,Qw,Qx,Qy,Qz,QA,QB,QC,QD,QE,QF,QG,QH,QI,QJ,QK,QL,QM,QN,QO,QP,QQ]
 try rfl
theorem rplus_spec (a b:Int) (ha:sz a<2 ^ 36) (hb:sz b<2 ^ 36):Ctr Tryz.prog G 91 [.d (Big a),.d (Big b)] [] (.d (Big (a+b))) []:=by
 have hpl:=@plus_len a.natAbs b.natAbs
 have ka:((a.natAbs:Nat):Int)=if a<0 then -a else a:=by split<;>omega
 have kb:((b.natAbs:Nat):Int)=if b<0 then -b else b:=by split<;>omega
 have hcmp:0≤cmpI (a.natAbs:Int) b.natAbs↔b.natAbs≤a.natAbs:=by
  unfold cmpI;split
  ·omega
  ·split<;>omega
 refine Ctr.pure (M:=M0) hmix Tryz.func91 rfl go91 ?_
 simp only [sz] at ha hb
 have hdl:=digs_length (max (toW a.natAbs).length (toW b.natAbs).length+1) (a.natAbs+b.natAbs)
 have hdv:val (digs (max (toW a.natAbs).length (toW b.natAbs).length+1) (a.natAbs+b.natAbs))=a.natAbs+b.natAbs:=val_digs (Nat.lt_of_lt_of_le (lt_of_toW _) (Nat.pow_le_pow_right (by decide) hpl))
 have hsub1:=toW_len_mono (Nat.sub_le a.natAbs b.natAbs)
 have hsub2:=toW_len_mono (Nat.sub_le b.natAbs a.natAbs)
 by_cases hs:decide (a<0)=decide (b<0)
 ·simp (config:={maxSteps:=1000000}) (disch:=((try simp only [awL]);omega)) only [Tryz.f91,hs,↓awU,awV,awF,Qa,Qb,Qc,Qd,forall_const,↓reduceIte,↓reduceDIte,↓Qe,Qf,Qg,Qh,Qi,Qj,Qk,Ql,Qm,Qn,Qo,Qp,Qq,Qr,Qs,implies_true,Qt,Qu,Qv,Qw,Qx,Qy,Qz,QA,QB,QC,QD,QE,QF,QG,QH,QI,QJ,QK,QL,QM,QN,QO,QP,QQ]
  refine CallC.pure (radd_spec _ _ (by omega) (by omega)) ?_
  simp (config:={maxSteps:=1000000}) (disch:=((try simp only [awL]);omega)) only [hs,↓awU,awV,awF,Qa,Qb,Qc,Qd,forall_const,↓reduceIte,↓reduceDIte,↓Qe,Qf,Qg,Qh,Qi,Qj,Qk,Ql,Qm,Qn,Qo,Qp,Qq,Qr,Qs,implies_true,Qt,Qu,Qv,Qw,Qx,Qy,Qz,QA,QB,QC,QD,QE,QF,QG,QH,QI,QJ,QK,QL,QM,QN,QO,QP,QQ]
  refine CallC.pure (rbig_spec _ _ (dig_digs _ _) (by omega)) ?_
  rw [hdv]
  have e:(if decide (b<0)=true then -((a.natAbs+b.natAbs:Nat):Int) else ((a.natAbs+b.natAbs:Nat):Int))=a+b:=by
   have hs':=decide_eq_decide.1 hs
   rw [Int.natCast_add,ka,kb]
   by_cases hb':b<0<;>simp [hs',hb']<;>omega
  rw [e]
  simp (config:={maxSteps:=1000000}) (disch:=((try simp only [awL]);omega)) only [↓awU,awV,awF,Qa,Qb,Qc,Qd,forall_const,↓reduceIte,↓reduceDIte,↓Qe,Qf,Qg,Qh,Qi,Qj,Qk,Ql,Qm,Qn,Qo,Qp,Qq,Qr,Qs,implies_true,Qt,Qu,Qv,Qw,Qx,Qy,Qz,QA,QB,QC,QD,QE,QF,QG,QH,QI,QJ,QK,QL,QM,QN,QO,QP,QQ]
  try rfl
 ·simp (config:={maxSteps:=1000000}) (disch:=((try simp only [awL]);omega)) only [Tryz.f91,hs,↓awU,awV,awF,Qa,Qb,Qc,Qd,forall_const,↓reduceIte,↓reduceDIte,↓Qe,Qf,Qg,Qh,Qi,Qj,Qk,Ql,Qm,Qn,Qo,Qp,Qq,Qr,Qs,implies_true,Qt,Qu,Qv,Qw,Qx,Qy,Qz,QA,QB,QC,QD,QE,QF,QG,QH,QI,QJ,QK,QL,QM,QN,QO,QP,QQ]
  refine CallC.pure (rcmp_spec _ _ (by omega) (by omega)) ?_
  have hsg:¬ (a<0)∨¬ (b<0):=by
   by_cases h1:a<0
   ·right;intro h2;exact hs (by simp [h1,h2])
   ·left;exact h1
  have hsg2:a<0∨b<0:=by
   by_cases h1:a<0
   ·left;exact h1
   ·right
    by_cases h2:b<0
    ·exact h2
    ·exact absurd (by simp [h1,h2]) hs
  by_cases h:b.natAbs≤a.natAbs
  ·have h':=hcmp.2 h
   simp (config:={maxSteps:=1000000}) (disch:=((try simp only [awL]);omega)) only [h',↓awU,awV,awF,Qa,Qb,Qc,Qd,forall_const,↓reduceIte,↓reduceDIte,↓Qe,Qf,Qg,Qh,Qi,Qj,Qk,Ql,Qm,Qn,Qo,Qp,Qq,Qr,Qs,implies_true,Qt,Qu,Qv,Qw,Qx,Qy,Qz,QA,QB,QC,QD,QE,QF,QG,QH,QI,QJ,QK,QL,QM,QN,QO,QP,QQ]
   refine CallC.pure (rsub_spec _ _ h (by omega)) ?_
   simp (config:={maxSteps:=1000000}) (disch:=((try simp only [awL]);omega)) only [↓awU,awV,awF,Qa,Qb,Qc,Qd,forall_const,↓reduceIte,↓reduceDIte,↓Qe,Qf,Qg,Qh,Qi,Qj,Qk,Ql,Qm,Qn,Qo,Qp,Qq,Qr,Qs,implies_true,Qt,Qu,Qv,Qw,Qx,Qy,Qz,QA,QB,QC,QD,QE,QF,QG,QH,QI,QJ,QK,QL,QM,QN,QO,QP,QQ]
   refine CallC.pure (rbig_spec _ _ (dig_toW _) (by omega)) ?_
   rw [val_toW]
   have e:(if decide (a<0)=true then -((a.natAbs - b.natAbs:Nat):Int) else ((a.natAbs - b.natAbs:Nat):Int))=a+b:=by
    by_cases h1:a<0
    ·simp only [h1,decide_true,if_true];omega
    ·simp only [h1,decide_false,Bool.false_eq_true,if_false];omega
   rw [e]
   simp (config:={maxSteps:=1000000}) (disch:=((try simp only [awL]);omega)) only [↓awU,awV,awF,Qa,Qb,Qc,Qd,forall_const,↓reduceIte,↓reduceDIte,↓Qe,Qf,Qg,Qh,Qi,Qj,Qk,Ql,Qm,Qn,Qo,Qp,Qq,Qr,Qs,implies_true,Qt,Qu,Qv,Qw,Qx,Qy,Qz,QA,QB,QC,QD,QE,QF,QG,QH,QI,QJ,QK,QL,QM,QN,QO,QP,QQ]
   try rfl
  ·have h':¬ 0≤cmpI (a.natAbs:Int) b.natAbs:=fun h2=>h (hcmp.1 h2)
   simp (config:={maxSteps:=1000000}) (disch:=((try simp only [awL]);omega)) only [h',↓awU,awV,awF,Qa,Qb,Qc,Qd,forall_const,↓reduceIte,↓reduceDIte,↓Qe,Qf,Qg,Qh,Qi,Qj,Qk,Ql,Qm,Qn,Qo,Qp,Qq,Qr,Qs,implies_true,Qt,Qu,Qv,Qw,Qx,Qy,Qz,QA,QB,QC,QD,QE,QF,QG,QH,QI,QJ,QK,QL,QM,QN,QO,QP,QQ]
   refine CallC.pure (rsub_spec _ _ (by omega) (by omega)) ?_
   simp (config:={maxSteps:=1000000}) (disch:=((try simp only [awL]);omega)) only [↓awU,awV,awF,Qa,Qb,Qc,Qd,forall_const,↓reduceIte,↓reduceDIte,↓Qe,Qf,Qg,Qh,Qi,Qj,Qk,Ql,Qm,Qn,Qo,Qp,Qq,Qr,Qs,implies_true,Qt,Qu,Qv,Qw,Qx,Qy,Qz,QA,QB,QC,QD,QE,QF,QG,QH,QI,QJ,QK,QL,QM,QN,QO,QP,QQ]
   refine CallC.pure (rbig_spec _ _ (dig_toW _) (by omega)) ?_
   rw [val_toW]
   have e:(if decide (b<0)=true then -((b.natAbs - a.natAbs:Nat):Int) else ((b.natAbs - a.natAbs:Nat):Int))=a+b:=by
    by_cases h1:b<0
    ·simp only [h1,decide_true,if_true];omega
    ·simp only [h1,decide_false,Bool.false_eq_true,if_false];omega
   rw [e]
   simp (config:={maxSteps:=1000000}) (disch:=((try simp only [awL]);omega)) only [↓awU,awV,awF,Qa,Qb,Qc,Qd,forall_const,↓reduceIte,↓reduceDIte,↓Qe,Qf,Qg,Qh,Qi,Qj,Qk,Ql,Qm,Qn,Qo,Qp,Qq,Qr,Qs,implies_true,Qt,Qu,Qv,Qw,Qx,Qy,Qz,QA,QB,QC,QD,QE,QF,QG,QH,QI,QJ,QK,QL,QM,QN,QO,QP,QQ]
   try rfl
set_option maxHeartbeats 4000000 in
set_option maxRecDepth 100000 in
theorem rlowest_spec (n d:Int) (hd:d≠0) (hn:sz n<2 ^ 36) (hds:sz d<2 ^ 36):Ctr Tryz.prog G 94 [.d (Big n),.d (Big d)] [] (.d (Frac (Rat.divInt n d))) []:=by
 simp only [sz] at hn hds
 have hg0:Nat.gcd n.natAbs d.natAbs≠0:=by
  intro h;exact hd (Int.natAbs_eq_zero.1 (Nat.gcd_eq_zero_iff.1 h).2)
 have hgl:(toW (Nat.gcd n.natAbs d.natAbs)).length≤(toW d.natAbs).length:=toW_len_mono (Nat.gcd_le_right _ (by omega))
 have hx:=@div_len n.natAbs (Nat.gcd n.natAbs d.natAbs)
 have hy:=@div_len d.natAbs (Nat.gcd n.natAbs d.natAbs)
 have e1:(Rat.divInt n d).num=if ¬ decide (n<0)=decide (d<0) then -((n.natAbs / Nat.gcd n.natAbs d.natAbs:Nat):Int) else ((n.natAbs / Nat.gcd n.natAbs d.natAbs:Nat):Int):=by
  rw [Rat.num_divInt,sign_mul hd,Int.gcd,Nat.gcd_comm d.natAbs]
  split
  ·exact neg_div (Nat.gcd_dvd_left _ _)
  ·rfl
 have e2:(Rat.divInt n d).den=d.natAbs / Nat.gcd n.natAbs d.natAbs:=by
  rw [Rat.den_divInt,if_neg hd,Int.gcd,Nat.gcd_comm d.natAbs]
 refine Ctr.pure (M:=M0) hmix Tryz.func94 rfl go94 ?_
 by_cases h0:n=0
 ·subst h0
  have hF:Frac (Rat.divInt 0 d)=Frac 0:=by rw [Rat.zero_divInt]
  have e:toW (0:Int).natAbs=[]:=toW_zero
  rw [hF]
  simp only [Big,bigL,e]
  simp (config:={maxSteps:=1000000}) (disch:=((try simp only [awL]);omega)) only [Tryz.f94,↓awU,awV,awF,Qa,Qb,Qc,Qd,forall_const,↓reduceIte,↓reduceDIte,↓Qe,Qf,Qg,Qh,Qi,Qj,Qk,Ql,Qm,Qn,Qo,Qp,Qq,Qr,Qs,implies_true,Qt,Qu,Qv,Qw,Qx,Qy,Qz,QA,QB,QC,QD,QE,QF,QG,QH,QI,QJ,QK,QL,QM,QN,QO,QP,QQ]
  refine CallC.pure (rfromInt_spec 1 (by decide) (by decide)) ?_
  have e1:(0:Rat).num=0:=rfl
  have e2:(0:Rat).den=1:=rfl
  have e3:(0:Int).natAbs=0:=rfl
  have e4:(1:Int).natAbs=1:=rfl
  simp (config:={maxSteps:=1000000}) (disch:=((try simp only [awL]);omega)) only [e1,e2,e3,e4,toW_zero,toW_one,↓awU,awV,awF,Qa,Qb,Qc,Qd,forall_const,↓reduceIte,↓reduceDIte,↓Qe,Qf,Qg,Qh,Qi,Qj,Qk,Ql,Qm,Qn,Qo,Qp,Qq,Qr,Qs,implies_true,Qt,Qu,Qv,Qw,Qx,Qy,Qz,QA,QB,QC,QD,QE,QF,QG,QH,QI,QJ,QK,QL,QM,QN,QO,QP,QQ]
  simp only [Frac,W,e1,e2,e3,toW_zero,toW_one]
  rfl
 ·have hnz:n.natAbs≠0:=by omega
  have e0:=sz_pos.2 hnz
  simp (config:={maxSteps:=1000000}) (disch:=((try simp only [awL]);omega)) only [Tryz.f94,↓awU,awV,awF,Qa,Qb,Qc,Qd,forall_const,↓reduceIte,↓reduceDIte,↓Qe,Qf,Qg,Qh,Qi,Qj,Qk,Ql,Qm,Qn,Qo,Qp,Qq,Qr,Qs,implies_true,Qt,Qu,Qv,Qw,Qx,Qy,Qz,QA,QB,QC,QD,QE,QF,QG,QH,QI,QJ,QK,QL,QM,QN,QO,QP,QQ]
  refine CallC.pure (gcd_spec _ _ hnz (by omega) (by omega) (by omega)) ?_
  generalize Nat.gcd n.natAbs d.natAbs=g at *
  simp (config:={maxSteps:=1000000}) (disch:=((try simp only [awL]);omega)) only [↓awU,awV,awF,Qa,Qb,Qc,Qd,forall_const,↓reduceIte,↓reduceDIte,↓Qe,Qf,Qg,Qh,Qi,Qj,Qk,Ql,Qm,Qn,Qo,Qp,Qq,Qr,Qs,implies_true,Qt,Qu,Qv,Qw,Qx,Qy,Qz,QA,QB,QC,QD,QE,QF,QG,QH,QI,QJ,QK,QL,QM,QN,QO,QP,QQ]
  refine CallC.pure (div_spec _ g hg0 (by omega) (by omega)) ?_
  simp (config:={maxSteps:=1000000}) (disch:=((try simp only [awL]);omega)) only [↓awU,awV,awF,Qa,Qb,Qc,Qd,forall_const,↓reduceIte,↓reduceDIte,↓Qe,Qf,Qg,Qh,Qi,Qj,Qk,Ql,Qm,Qn,Qo,Qp,Qq,Qr,Qs,implies_true,Qt,Qu,Qv,Qw,Qx,Qy,Qz,QA,QB,QC,QD,QE,QF,QG,QH,QI,QJ,QK,QL,QM,QN,QO,QP,QQ]
  refine CallC.pure (div_spec _ g hg0 (by omega) (by omega)) ?_
  simp (config:={maxSteps:=1000000}) (disch:=((try simp only [awL]);omega)) only [↓awU,awV,awF,Qa,Qb,Qc,Qd,forall_const,↓reduceIte,↓reduceDIte,↓Qe,Qf,Qg,Qh,Qi,Qj,Qk,Ql,Qm,Qn,Qo,Qp,Qq,Qr,Qs,implies_true,Qt,Qu,Qv,Qw,Qx,Qy,Qz,QA,QB,QC,QD,QE,QF,QG,QH,QI,QJ,QK,QL,QM,QN,QO,QP,QQ]
  refine CallC.pure (rbig_spec _ _ (dig_toW _) (by omega)) ?_
  simp (config:={maxSteps:=1000000}) (disch:=((try simp only [awL]);omega)) only [↓awU,awV,awF,Qa,Qb,Qc,Qd,forall_const,↓reduceIte,↓reduceDIte,↓Qe,Qf,Qg,Qh,Qi,Qj,Qk,Ql,Qm,Qn,Qo,Qp,Qq,Qr,Qs,implies_true,Qt,Qu,Qv,Qw,Qx,Qy,Qz,QA,QB,QC,QD,QE,QF,QG,QH,QI,QJ,QK,QL,QM,QN,QO,QP,QQ]
  refine CallC.pure (rbig_spec false _ (dig_toW _) (by omega)) ?_
  simp only [Frac]
  rw [e1,e2,val_toW,val_toW]
  simp (config:={maxSteps:=1000000}) (disch:=((try simp only [awL]);omega)) only [↓awU,awV,awF,Qa,Qb,Qc,Qd,forall_const,↓reduceIte,↓reduceDIte,↓Qe,Qf,Qg,Qh,Qi,Qj,Qk,Ql,Qm,Qn,Qo,Qp,Qq,Qr,Qs,implies_true,Qt,Qu,Qv,Qw,Qx,Qy,Qz,QA,QB,QC,QD,QE,QF,QG,QH,QI,QJ,QK,QL,QM,QN,QO,QP,QQ]
end Go.Proofs.YthbnileadffpiaaGreatDoor.Num
namespace Go.Proofs.YthbnileadffpiaaGreatDoor.Num
open Go Go.Proofs Go.Abs
variable {G:Globals}
end Go.Proofs.YthbnileadffpiaaGreatDoor.Num
namespace Go.Proofs.YthbnileadffpiaaGreatDoor.Num
open Go Go.Proofs Go.Abs
variable {G:Globals}
theorem nums_lt {l:List UInt8} (h:∀ b∈l,isD b) {i:Nat} (hi:i<l.length):48≤(l.getD i 0).toNat∧(l.getD i 0).toNat≤57:=h _ (mem_getDU hi)
set_option maxHeartbeats 4000000 in
set_option maxRecDepth 100000 in
theorem rdecimal_spec (s:List UInt8) (hs:s.length≤1000000000):Ctr Tryz.prog G 55 [.d (S s)] [] (.d (.tup [if decOk s=true then Frac (decVal s) else Zf,.bool (decOk s)])) []:=by
 refine Ctr.pure (M:=M0) hmix Tryz.func55 rfl go55 ?_
 simp (config:={maxSteps:=1000000}) (disch:=((try simp only [awL]);omega)) only [QR,QS,QT,QU,QV,QW,QX,QY,QZ,Q0,Q1,Q2,Tryz.f55,↓awU,awV,awF,Qa,Qb,Qc,Qd,forall_const,↓reduceIte,↓reduceDIte,↓Qe,Qf,Qg,Qh,Qi,Qj,Qk,Ql,Qm,Qn,Qo,Qp,Qq,Qr,Qs,implies_true,Qt,Qu,Qv,Qw,Qx,Qy,Qz,QA,QB,QC,QD,QE,QF,QG,QH,QI,QJ,QK,QL,QM,QN,QO,QP,QQ]
 refine CallC.pure (rparts_spec s hs) ?_
 have hok:decOk s=okB (decBody s):=rfl
 have f1:cutL 46 (decBody s)=decF s:=rfl
 have f2:cutR 46 (decBody s)=decB s:=rfl
 have hdv:decVal s=Rat.divInt (if decNeg s then -(decNum (decF s++decB s):Int) else (decNum (decF s++decB s):Int)) ((10 ^ (decB s).length:Nat):Int):=rfl
 unfold partsD
 rw [f1,f2,← hok]
 cases ho:decOk s
 ·simp (config:={maxSteps:=1000000}) (disch:=((try simp only [awL]);omega)) only [QR,QS,QT,QU,QV,QW,QX,QY,QZ,Q0,Q1,Q2,↓awU,awV,awF,Qa,Qb,Qc,Qd,forall_const,↓reduceIte,↓reduceDIte,↓Qe,Qf,Qg,Qh,Qi,Qj,Qk,Ql,Qm,Qn,Qo,Qp,Qq,Qr,Qs,implies_true,Qt,Qu,Qv,Qw,Qx,Qy,Qz,QA,QB,QC,QD,QE,QF,QG,QH,QI,QJ,QK,QL,QM,QN,QO,QP,QQ]
  first | done | rfl
 ·obtain ⟨hall,hlen,hlb⟩:=decOk_facts ho
  have hsm:∀ i,i≤(decF s++decB s).length→(toW (decNum ((decF s++decB s).take i))).length≤30:=fun i hi=>by
   have h:=decNum_lt (l:=(decF s++decB s).take i) fun b hb=>hall b (List.mem_of_mem_take hb)
   exact sz_small (Nat.lt_of_lt_of_le h (Nat.pow_le_pow_right (by decide) (by rw [List.length_take];omega)))
  have hlt:∀ i,i≤(decF s++decB s).length→decNum ((decF s++decB s).take i)*10<10 ^ 30:=fun i hi=>by
   have h:=decNum_lt (l:=(decF s++decB s).take i) fun b hb=>hall b (List.mem_of_mem_take hb)
   have h2:10 ^ ((decF s++decB s).take i).length≤10 ^ 29:=Nat.pow_le_pow_right (by decide) (by rw [List.length_take];omega)
   have h3:(10:Nat) ^ 30=10 ^ 29*10:=rfl
   omega
  have hpl:∀ b∈decB s,isD b:=fun b hb=>isD_iff.1 (hall b (List.mem_append_right _ hb))
  have hfl:(decF s).length≤24:=by rw [List.length_append] at hlen;omega
  have hall':∀ b∈decF s++decB s,isD b:=fun b hb=>isD_iff.1 (hall b hb)
  generalize decNeg s=neg at *
  generalize hL:decF s++decB s=L at *
  generalize decB s=Bk at *
  simp (config:={maxSteps:=1000000}) (disch:=((try simp only [awL]);omega)) only [QR,QS,QT,QU,QV,QW,QX,QY,QZ,Q0,Q1,Q2,hL,↓awU,awV,awF,Qa,Qb,Qc,Qd,forall_const,↓reduceIte,↓reduceDIte,↓Qe,Qf,Qg,Qh,Qi,Qj,Qk,Ql,Qm,Qn,Qo,Qp,Qq,Qr,Qs,implies_true,Qt,Qu,Qv,Qw,Qx,Qy,Qz,QA,QB,QC,QD,QE,QF,QG,QH,QI,QJ,QK,QL,QM,QN,QO,QP,QQ]
  first
  | refine CallC.of (rfromInt_spec 1 (by decide) (by decide)) (by rfl) ?_
  | refine ⟨by rfl,CallC.of (rfromInt_spec 1 (by decide) (by decide)) (by rfl) ?_⟩
  simp (config:={maxSteps:=1000000}) (disch:=((try simp only [awL]);omega)) only [QR,QS,QT,QU,QV,QW,QX,QY,QZ,Q0,Q1,Q2,hL,bigL,cells_nums,↓awU,awV,awF,Qa,Qb,Qc,Qd,forall_const,↓reduceIte,↓reduceDIte,↓Qe,Qf,Qg,Qh,Qi,Qj,Qk,Ql,Qm,Qn,Qo,Qp,Qq,Qr,Qs,implies_true,Qt,Qu,Qv,Qw,Qx,Qy,Qz,QA,QB,QC,QD,QE,QF,QG,QH,QI,QJ,QK,QL,QM,QN,QO,QP,QQ]
  refine LoopC.fr 402654036 (α:=Nat) (fun i=>L.length - i) (fun i=>[(29,.d (.int .i64 i))])
   (fun i=>[.box [.d (.bool false),.d (.sl 0 true []),.d (.bool false),.d (.sl 0 true [])],.box [.d (.bool false),.d (W (toW (decNum (L.take i))))],.box [.d (.bool false),.d (W (toW 1))],.row false (ints .u8 (nums L))]) (fun i=>i≤L.length) 0 (Nat.zero_le _) ?_ ?_
  ·exact ⟨[some 0,some 1,some 2,some 3],rfl,by simp,by simp [setsA,keepA,SWeak,AWeak],by simp [HWeak,BWeak,SWeak,AWeak,decNum,toW_zero,nats]⟩
  ·intro i hi
   have lt:=hsm i hi
   have nl:=@nums_length L
   simp only [awK,Nat.reduceMod,Nat.reduceDiv,reduceIte]
   rcases Nat.lt_or_ge i L.length with h1 | h1
   ·obtain ⟨hb1,hb2⟩:=nums_lt hall' h1
    have hp:=decNum_push h1
    have ls:=sz_small (n:=(L.getD i 0).toNat - 48) (k:=2) (by omega)
    have e48:((L.getD i 0).toNat:Int) - 48=(((L.getD i 0).toNat - 48:Nat):Int):=by omega
    have lm:(toW (decNum (L.take i)*10)).length≤40:=sz_small (Nat.lt_of_lt_of_le (hlt i hi) (by decide))
    have sz1:sz (decNum (L.take i):Int)≤30:=by simp only [sz,Int.natAbs_natCast];exact lt
    have sz2:sz ((decNum (L.take i):Int)*10)≤40:=by
     rw [show ((decNum (L.take i):Int)*10)=((decNum (L.take i)*10:Nat):Int) by omega];simp only [sz,Int.natAbs_natCast];exact lm
    have sz3:sz ((((L.getD i 0).toNat - 48:Nat):Int))≤2:=by simp only [sz,Int.natAbs_natCast];exact ls
    have sz4:sz (10:Int)≤2:=sz_int (by decide) (by decide)
    have hsum:(decNum (L.take i):Int)*10+(((L.getD i 0).toNat - 48:Nat):Int)=(decNum (L.take (i+1)):Int):=by rw [← hp];omega
    simp (config:={maxSteps:=1000000}) (disch:=((try simp only [awL]);omega)) only [QR,QS,QT,QU,QV,QW,QX,QY,QZ,Q0,Q1,Q2,nl,↓awU,awV,awF,Qa,Qb,Qc,Qd,forall_const,↓reduceIte,↓reduceDIte,↓Qe,Qf,Qg,Qh,Qi,Qj,Qk,Ql,Qm,Qn,Qo,Qp,Qq,Qr,Qs,implies_true,Qt,Qu,Qv,Qw,Qx,Qy,Qz,QA,QB,QC,QD,QE,QF,QG,QH,QI,QJ,QK,QL,QM,QN,QO,QP,QQ]
    first
    | refine CallC.of (rfromInt_spec 10 (by decide) (by decide)) (by rfl) ?_
    | refine ⟨by rfl,CallC.of (rfromInt_spec 10 (by decide) (by decide)) (by rfl) ?_⟩
    simp (config:={maxSteps:=1000000}) (disch:=((try simp only [awL]);omega)) only [QR,QS,QT,QU,QV,QW,QX,QY,QZ,Q0,Q1,Q2,nl,↓awU,awV,awF,Qa,Qb,Qc,Qd,forall_const,↓reduceIte,↓reduceDIte,↓Qe,Qf,Qg,Qh,Qi,Qj,Qk,Ql,Qm,Qn,Qo,Qp,Qq,Qr,Qs,implies_true,Qt,Qu,Qv,Qw,Qx,Qy,Qz,QA,QB,QC,QD,QE,QF,QG,QH,QI,QJ,QK,QL,QM,QN,QO,QP,QQ]
    first
    | refine CallC.of (rtimes_spec (decNum (L.take i):Int) 10 (by omega) (by omega)) (by (try simp only [Big_nat]);try rfl) ?_
    | refine ⟨by rfl,CallC.of (rtimes_spec (decNum (L.take i):Int) 10 (by omega) (by omega)) (by (try simp only [Big_nat]);try rfl) ?_⟩
    simp (config:={maxSteps:=1000000}) (disch:=((try simp only [awL]);omega)) only [QR,QS,QT,QU,QV,QW,QX,QY,QZ,Q0,Q1,Q2,nl,e48,↓awU,awV,awF,Qa,Qb,Qc,Qd,forall_const,↓reduceIte,↓reduceDIte,↓Qe,Qf,Qg,Qh,Qi,Qj,Qk,Ql,Qm,Qn,Qo,Qp,Qq,Qr,Qs,implies_true,Qt,Qu,Qv,Qw,Qx,Qy,Qz,QA,QB,QC,QD,QE,QF,QG,QH,QI,QJ,QK,QL,QM,QN,QO,QP,QQ]
    first
    | refine CallC.of (rfromInt_spec (((L.getD i 0).toNat - 48:Nat):Int) (by omega) (by omega)) (by rfl) ?_
    | refine ⟨by rfl,CallC.of (rfromInt_spec (((L.getD i 0).toNat - 48:Nat):Int) (by omega) (by omega)) (by rfl) ?_⟩
    simp (config:={maxSteps:=1000000}) (disch:=((try simp only [awL]);omega)) only [QR,QS,QT,QU,QV,QW,QX,QY,QZ,Q0,Q1,Q2,nl,e48,↓awU,awV,awF,Qa,Qb,Qc,Qd,forall_const,↓reduceIte,↓reduceDIte,↓Qe,Qf,Qg,Qh,Qi,Qj,Qk,Ql,Qm,Qn,Qo,Qp,Qq,Qr,Qs,implies_true,Qt,Qu,Qv,Qw,Qx,Qy,Qz,QA,QB,QC,QD,QE,QF,QG,QH,QI,QJ,QK,QL,QM,QN,QO,QP,QQ]
    first
    | refine CallC.of (rplus_spec ((decNum (L.take i):Int)*10) (((L.getD i 0).toNat - 48:Nat):Int) (by omega) (by omega)) (by rfl) ?_
    | refine ⟨by rfl,CallC.of (rplus_spec ((decNum (L.take i):Int)*10) (((L.getD i 0).toNat - 48:Nat):Int) (by omega) (by omega)) (by rfl) ?_⟩
    rw [hsum,Big_nat]
    simp (config:={maxSteps:=1000000}) (disch:=((try simp only [awL]);omega)) only [QR,QS,QT,QU,QV,QW,QX,QY,QZ,Q0,Q1,Q2,nl,↓awU,awV,awF,Qa,Qb,Qc,Qd,forall_const,↓reduceIte,↓reduceDIte,↓Qe,Qf,Qg,Qh,Qi,Qj,Qk,Ql,Qm,Qn,Qo,Qp,Qq,Qr,Qs,implies_true,Qt,Qu,Qv,Qw,Qx,Qy,Qz,QA,QB,QC,QD,QE,QF,QG,QH,QI,QJ,QK,QL,QM,QN,QO,QP,QQ]
    exact ⟨by rfl,i+1,h1,by simp only;omega,⟨[some 0,some 1,some 2,some 3],rfl,by simp,by simp [setsA,keepA,SWeak,AWeak],by simp [HWeak,BWeak,SWeak,AWeak]⟩⟩
   ·obtain rfl:i=L.length:=by omega
    rw [List.take_length] at *
    simp (config:={maxSteps:=1000000}) (disch:=((try simp only [awL]);omega)) only [QR,QS,QT,QU,QV,QW,QX,QY,QZ,Q0,Q1,Q2,nl,↓awU,awV,awF,Qa,Qb,Qc,Qd,forall_const,↓reduceIte,↓reduceDIte,↓Qe,Qf,Qg,Qh,Qi,Qj,Qk,Ql,Qm,Qn,Qo,Qp,Qq,Qr,Qs,implies_true,Qt,Qu,Qv,Qw,Qx,Qy,Qz,QA,QB,QC,QD,QE,QF,QG,QH,QI,QJ,QK,QL,QM,QN,QO,QP,QQ]
    refine LoopC.fr 8796093022996 (α:=Nat) (fun j=>Bk.length - j) (fun j=>[])
     (fun j=>[.box [.d (.bool false),.d (.sl 0 true []),.d (.bool false),.d (.sl 0 true [])],.box [.d (.bool false),.d (W (toW (decNum L)))],.box [.d (.bool false),.d (W (toW (10 ^ j)))],.row false (ints .u8 (nums L)),.iter (bs Bk) j]) (fun j=>j≤Bk.length) 0 (Nat.zero_le _) ?_ ?_
    ·exact ⟨[some 0,some 1,some 2,some 3,some 4],rfl,by simp,by simp [setsA,keepA,SWeak,AWeak],by simp [HWeak,BWeak,SWeak,AWeak]⟩
    ·intro j hj
     have lj:(toW (10 ^ j)).length≤10:=sz_small (Nat.pow_lt_pow_right (by decide) (by omega))
     have szj:sz ((10 ^ j:Nat):Int)≤10:=by simp only [sz,Int.natAbs_natCast];exact lj
     have sz4:sz (10:Int)≤2:=sz_int (by decide) (by decide)
     simp only [awK,Nat.reduceMod,Nat.reduceDiv,reduceIte]
     rcases Nat.lt_or_ge j Bk.length with h2 | h2
     ·obtain ⟨hb1,hb2⟩:=nums_lt hpl h2
      have hdec:=dec_ascii h2 (by omega)
      have hmul:((10 ^ j:Nat):Int)*10=((10 ^ (j+1):Nat):Int):=by rw [Nat.pow_succ];omega
      simp (config:={maxSteps:=1000000}) (disch:=((try simp only [awL]);omega)) only [QR,QS,QT,QU,QV,QW,QX,QY,QZ,Q0,Q1,Q2,hdec,↓awU,awV,awF,Qa,Qb,Qc,Qd,forall_const,↓reduceIte,↓reduceDIte,↓Qe,Qf,Qg,Qh,Qi,Qj,Qk,Ql,Qm,Qn,Qo,Qp,Qq,Qr,Qs,implies_true,Qt,Qu,Qv,Qw,Qx,Qy,Qz,QA,QB,QC,QD,QE,QF,QG,QH,QI,QJ,QK,QL,QM,QN,QO,QP,QQ]
      first
      | refine CallC.of (rfromInt_spec 10 (by decide) (by decide)) (by rfl) ?_
      | refine ⟨by rfl,CallC.of (rfromInt_spec 10 (by decide) (by decide)) (by rfl) ?_⟩
      simp (config:={maxSteps:=1000000}) (disch:=((try simp only [awL]);omega)) only [QR,QS,QT,QU,QV,QW,QX,QY,QZ,Q0,Q1,Q2,↓awU,awV,awF,Qa,Qb,Qc,Qd,forall_const,↓reduceIte,↓reduceDIte,↓Qe,Qf,Qg,Qh,Qi,Qj,Qk,Ql,Qm,Qn,Qo,Qp,Qq,Qr,Qs,implies_true,Qt,Qu,Qv,Qw,Qx,Qy,Qz,QA,QB,QC,QD,QE,QF,QG,QH,QI,QJ,QK,QL,QM,QN,QO,QP,QQ]
      first
      | refine CallC.of (rtimes_spec ((10 ^ j:Nat):Int) 10 (by omega) (by omega)) (by (try simp only [Big_nat]);try rfl) ?_
      | refine ⟨by rfl,CallC.of (rtimes_spec ((10 ^ j:Nat):Int) 10 (by omega) (by omega)) (by (try simp only [Big_nat]);try rfl) ?_⟩
      rw [hmul,Big_nat]
      simp (config:={maxSteps:=1000000}) (disch:=((try simp only [awL]);omega)) only [QR,QS,QT,QU,QV,QW,QX,QY,QZ,Q0,Q1,Q2,↓awU,awV,awF,Qa,Qb,Qc,Qd,forall_const,↓reduceIte,↓reduceDIte,↓Qe,Qf,Qg,Qh,Qi,Qj,Qk,Ql,Qm,Qn,Qo,Qp,Qq,Qr,Qs,implies_true,Qt,Qu,Qv,Qw,Qx,Qy,Qz,QA,QB,QC,QD,QE,QF,QG,QH,QI,QJ,QK,QL,QM,QN,QO,QP,QQ]
      exact ⟨by rfl,j+1,h2,by simp only;omega,⟨[some 0,some 1,some 2,some 3,some 4],rfl,by simp,by simp [setsA,keepA,SWeak,AWeak],by simp [HWeak,BWeak,SWeak,AWeak]⟩⟩
     ·obtain rfl:j=Bk.length:=by omega
      have hd0:((10 ^ Bk.length:Nat):Int)≠0:=by
       have:0<10 ^ Bk.length:=Nat.pow_pos (by decide)
       omega
      have szv:sz (decNum L:Int)≤30:=by simp only [sz,Int.natAbs_natCast];exact lt
      have szm:sz (-(decNum L:Int))≤30:=by simp only [sz,Int.natAbs_neg,Int.natAbs_natCast];exact lt
      cases neg
      ·rw [if_neg Bool.false_ne_true] at hdv
       simp (config:={maxSteps:=1000000}) (disch:=((try simp only [awL]);omega)) only [QR,QS,QT,QU,QV,QW,QX,QY,QZ,Q0,Q1,Q2,↓awU,awV,awF,Qa,Qb,Qc,Qd,forall_const,↓reduceIte,↓reduceDIte,↓Qe,Qf,Qg,Qh,Qi,Qj,Qk,Ql,Qm,Qn,Qo,Qp,Qq,Qr,Qs,implies_true,Qt,Qu,Qv,Qw,Qx,Qy,Qz,QA,QB,QC,QD,QE,QF,QG,QH,QI,QJ,QK,QL,QM,QN,QO,QP,QQ]
       first
       | refine CallC.of (rlowest_spec (decNum L:Int) ((10 ^ Bk.length:Nat):Int) hd0 (by omega) (by omega)) (by (try simp only [Big_nat]);try rfl) ?_
       | refine ⟨by rfl,CallC.of (rlowest_spec (decNum L:Int) ((10 ^ Bk.length:Nat):Int) hd0 (by omega) (by omega)) (by (try simp only [Big_nat]);try rfl) ?_⟩
       rw [← hdv]
       simp (config:={maxSteps:=1000000}) (disch:=((try simp only [awL]);omega)) only [QR,QS,QT,QU,QV,QW,QX,QY,QZ,Q0,Q1,Q2,↓awU,awV,awF,Qa,Qb,Qc,Qd,forall_const,↓reduceIte,↓reduceDIte,↓Qe,Qf,Qg,Qh,Qi,Qj,Qk,Ql,Qm,Qn,Qo,Qp,Qq,Qr,Qs,implies_true,Qt,Qu,Qv,Qw,Qx,Qy,Qz,QA,QB,QC,QD,QE,QF,QG,QH,QI,QJ,QK,QL,QM,QN,QO,QP,QQ]
       first | done | rfl
      ·rw [if_pos rfl] at hdv
       simp (config:={maxSteps:=1000000}) (disch:=((try simp only [awL]);omega)) only [QR,QS,QT,QU,QV,QW,QX,QY,QZ,Q0,Q1,Q2,↓awU,awV,awF,Qa,Qb,Qc,Qd,forall_const,↓reduceIte,↓reduceDIte,↓Qe,Qf,Qg,Qh,Qi,Qj,Qk,Ql,Qm,Qn,Qo,Qp,Qq,Qr,Qs,implies_true,Qt,Qu,Qv,Qw,Qx,Qy,Qz,QA,QB,QC,QD,QE,QF,QG,QH,QI,QJ,QK,QL,QM,QN,QO,QP,QQ]
       first
       | refine CallC.of (rminus_spec (decNum L:Int) (by omega)) (by (try simp only [Big_nat]);try rfl) ?_
       | refine ⟨by rfl,CallC.of (rminus_spec (decNum L:Int) (by omega)) (by (try simp only [Big_nat]);try rfl) ?_⟩
       simp (config:={maxSteps:=1000000}) (disch:=((try simp only [awL]);omega)) only [QR,QS,QT,QU,QV,QW,QX,QY,QZ,Q0,Q1,Q2,↓awU,awV,awF,Qa,Qb,Qc,Qd,forall_const,↓reduceIte,↓reduceDIte,↓Qe,Qf,Qg,Qh,Qi,Qj,Qk,Ql,Qm,Qn,Qo,Qp,Qq,Qr,Qs,implies_true,Qt,Qu,Qv,Qw,Qx,Qy,Qz,QA,QB,QC,QD,QE,QF,QG,QH,QI,QJ,QK,QL,QM,QN,QO,QP,QQ]
       first
       | refine CallC.of (rlowest_spec (-(decNum L:Int)) ((10 ^ Bk.length:Nat):Int) hd0 (by omega) (by omega)) (by (try simp only [Big_nat]);try rfl) ?_
       | refine ⟨by rfl,CallC.of (rlowest_spec (-(decNum L:Int)) ((10 ^ Bk.length:Nat):Int) hd0 (by omega) (by omega)) (by (try simp only [Big_nat]);try rfl) ?_⟩
       rw [← hdv]
       simp (config:={maxSteps:=1000000}) (disch:=((try simp only [awL]);omega)) only [QR,QS,QT,QU,QV,QW,QX,QY,QZ,Q0,Q1,Q2,↓awU,awV,awF,Qa,Qb,Qc,Qd,forall_const,↓reduceIte,↓reduceDIte,↓Qe,Qf,Qg,Qh,Qi,Qj,Qk,Ql,Qm,Qn,Qo,Qp,Qq,Qr,Qs,implies_true,Qt,Qu,Qv,Qw,Qx,Qy,Qz,QA,QB,QC,QD,QE,QF,QG,QH,QI,QJ,QK,QL,QM,QN,QO,QP,QQ]
       first | done | rfl
end Go.Proofs.YthbnileadffpiaaGreatDoor.Num
namespace Go.Proofs.YthbnileadffpiaaGreatDoor
open Go Go.Proofs Go.Abs
variable {G:Globals}
abbrev numSet:List UInt8:=[48,49,50,51,52,53,54,55,56,57,46,47,45,58]
def digU (b:UInt8):Bool:=decide (48≤b.toNat) && decide (b.toNat≤57)
def numT0 (t:List UInt8):Bool:=Num.decOk t || (match t with | []=>false | b::_=>digU b && t.all numSet.contains)
def numB (s:List UInt8):Bool:=numT0 (Lib.trimB s 32)
theorem numSet_iff (b:UInt8):numSet.contains b=true↔(48≤b.toNat∧b.toNat≤57)∨b.toNat=46∨b.toNat=47∨b.toNat=45∨b.toNat=58:=by
 constructor
 ·intro h
  simp only [numSet,List.contains_cons,List.contains_nil,Bool.or_false,Bool.or_eq_true,beq_iff_eq] at h
  rcases h with h | h | h | h | h | h | h | h | h | h | h | h | h | h<;>subst h<;>decide
 ·intro h
  obtain ⟨n,hn,rfl⟩:∃ n,n<256∧b=UInt8.ofNat n:=⟨b.toNat,b.toNat_lt,by simp⟩
  have e:(UInt8.ofNat n).toNat=n:=by simp;omega
  rw [e] at h
  have:n=48∨n=49∨n=50∨n=51∨n=52∨n=53∨n=54∨n=55∨n=56∨n=57∨n=46∨n=47∨n=45∨n=58:=by omega
  rcases this with h | h | h | h | h | h | h | h | h | h | h | h | h | h<;>subst h<;>decide
set_option maxHeartbeats 1000000 in
set_option maxRecDepth 100000 in
theorem number_spec9 (hG:Num.HG G) (s:List UInt8) (hs:s.length≤1000000000):Ctr Tryz.prog G 24 [.d (S s)] [] (.d (.bool (numB s))) []:=by
 refine Ctr.pure (M:=M0) hmix Tryz.func24 rfl go24 ?_
 have tl:=trimB_len s
 simp (config:={maxSteps:=1000000}) (disch:=((try simp only [awL]);omega)) only [QR,QS,QT,QU,QV,QW,QX,QY,QZ,Q0,Q1,Q2,Tryz.f24,↓awU,awV,awF,Qa,Qb,Qc,Qd,forall_const,↓reduceIte,↓reduceDIte,↓Qe,Qf,Qg,Qh,Qi,Qj,Qk,Ql,Qm,Qn,Qo,Qp,Qq,Qr,Qs,implies_true,Qt,Qu,Qv,Qw,Qx,Qy,Qz,QA,QB,QC,QD,QE,QF,QG,QH,QI,QJ,QK,QL,QM,QN,QO,QP,QQ]
 refine CallC.pure (ttrim_spec s (by omega)) ?_
 rw [show numB s=numT0 (Lib.trimB s 32) from rfl]
 generalize Lib.trimB s 32=t at *
 simp (config:={maxSteps:=1000000}) (disch:=((try simp only [awL]);omega)) only [QR,QS,QT,QU,QV,QW,QX,QY,QZ,Q0,Q1,Q2,↓awU,awV,awF,Qa,Qb,Qc,Qd,forall_const,↓reduceIte,↓reduceDIte,↓Qe,Qf,Qg,Qh,Qi,Qj,Qk,Ql,Qm,Qn,Qo,Qp,Qq,Qr,Qs,implies_true,Qt,Qu,Qv,Qw,Qx,Qy,Qz,QA,QB,QC,QD,QE,QF,QG,QH,QI,QJ,QK,QL,QM,QN,QO,QP,QQ]
 refine CallC.pure (Num.decimalF_spec hG t (by omega)) ?_
 obtain ⟨r,hr⟩:∃ r,r=numT0 t:=⟨_,rfl⟩
 rw [← hr]
 unfold numT0 at hr
 cases d1:Num.decOk t
 ·rw [d1,Bool.false_or] at hr
  simp (config:={maxSteps:=1000000}) (disch:=((try simp only [awL]);omega)) only [QR,QS,QT,QU,QV,QW,QX,QY,QZ,Q0,Q1,Q2,↓awU,awV,awF,Qa,Qb,Qc,Qd,forall_const,↓reduceIte,↓reduceDIte,↓Qe,Qf,Qg,Qh,Qi,Qj,Qk,Ql,Qm,Qn,Qo,Qp,Qq,Qr,Qs,implies_true,Qt,Qu,Qv,Qw,Qx,Qy,Qz,QA,QB,QC,QD,QE,QF,QG,QH,QI,QJ,QK,QL,QM,QN,QO,QP,QQ]
  rcases t with _ | ⟨b,u⟩
  ·subst hr
   simp (config:={maxSteps:=1000000}) (disch:=((try simp only [awL]);omega)) only [QR,QS,QT,QU,QV,QW,QX,QY,QZ,Q0,Q1,Q2,List.length_nil,↓awU,awV,awF,Qa,Qb,Qc,Qd,forall_const,↓reduceIte,↓reduceDIte,↓Qe,Qf,Qg,Qh,Qi,Qj,Qk,Ql,Qm,Qn,Qo,Qp,Qq,Qr,Qs,implies_true,Qt,Qu,Qv,Qw,Qx,Qy,Qz,QA,QB,QC,QD,QE,QF,QG,QH,QI,QJ,QK,QL,QM,QN,QO,QP,QQ]
   first | done | rfl
  ·have gb:(b::u).getD 0 0=b:=rfl
   simp (config:={maxSteps:=1000000}) (disch:=((try simp only [awL]);omega)) only [QR,QS,QT,QU,QV,QW,QX,QY,QZ,Q0,Q1,Q2,List.length_cons,gb,↓awU,awV,awF,Qa,Qb,Qc,Qd,forall_const,↓reduceIte,↓reduceDIte,↓Qe,Qf,Qg,Qh,Qi,Qj,Qk,Ql,Qm,Qn,Qo,Qp,Qq,Qr,Qs,implies_true,Qt,Qu,Qv,Qw,Qx,Qy,Qz,QA,QB,QC,QD,QE,QF,QG,QH,QI,QJ,QK,QL,QM,QN,QO,QP,QQ]
   have hr':r=(digU b && (b::u).all numSet.contains):=hr
   clear hr
   refine ⟨fun h0=>⟨fun h1=>⟨fun h2=>?_,fun h2=>?_⟩,fun h1=>?_⟩,fun h0=>by cases h0⟩
   ·refine CallC.by (L:=[]) (Num.trim_spec (b::u) numSet (by simp only [List.length_cons] at tl ⊢;omega) (by simp) (by simp) (by decide)) (by rfl) (by rfl) (by simp) ?_
    have du:digU b=true:=by unfold digU;rw [decide_eq_true (by omega:48≤b.toNat),decide_eq_true (by omega:b.toNat≤57)];rfl
    rw [du,Bool.true_and] at hr'
    have e:r=decide (Num.trimL numSet (Num.trimR numSet (b::u))=[]):=by
     rw [hr']
     by_cases h:(b::u).all numSet.contains=true
     ·rw [h,decide_eq_true (Num.trim_nil.2 h)]
     ·rw [decide_eq_false (fun h'=>h (Num.trim_nil.1 h'))];simpa using h
    rw [e]
    simp (config:={maxSteps:=1000000}) (disch:=((try simp only [awL]);omega)) only [QR,QS,QT,QU,QV,QW,QX,QY,QZ,Q0,Q1,Q2,↓awU,awV,awF,Qa,Qb,Qc,Qd,forall_const,↓reduceIte,↓reduceDIte,↓Qe,Qf,Qg,Qh,Qi,Qj,Qk,Ql,Qm,Qn,Qo,Qp,Qq,Qr,Qs,implies_true,Qt,Qu,Qv,Qw,Qx,Qy,Qz,QA,QB,QC,QD,QE,QF,QG,QH,QI,QJ,QK,QL,QM,QN,QO,QP,QQ]
    first | done | rfl
   ·have du:digU b=false:=by unfold digU;rw [decide_eq_false (by omega:¬ b.toNat≤57),Bool.and_false]
    rw [hr',du];rfl
   ·have du:digU b=false:=by unfold digU;rw [decide_eq_false (by omega:¬ 48≤b.toNat),Bool.false_and]
    rw [hr',du];rfl
 ·rw [d1,Bool.true_or] at hr
  subst hr
  simp (config:={maxSteps:=1000000}) (disch:=((try simp only [awL]);omega)) only [QR,QS,QT,QU,QV,QW,QX,QY,QZ,Q0,Q1,Q2,↓awU,awV,awF,Qa,Qb,Qc,Qd,forall_const,↓reduceIte,↓reduceDIte,↓Qe,Qf,Qg,Qh,Qi,Qj,Qk,Ql,Qm,Qn,Qo,Qp,Qq,Qr,Qs,implies_true,Qt,Qu,Qv,Qw,Qx,Qy,Qz,QA,QB,QC,QD,QE,QF,QG,QH,QI,QJ,QK,QL,QM,QN,QO,QP,QQ]
  first | done | rfl
set_option maxHeartbeats 4000000 in
set_option maxRecDepth 100000 in
theorem rnumber_spec9 (s:List UInt8) (hs:s.length≤1000000000):Ctr Tryz.prog G 25 [.d (S s)] [] (.d (.bool (numB s))) []:=by
 refine Ctr.pure (M:=M0) hmix Tryz.func25 rfl go25 ?_
 have tl:=trimB_len s
 simp (config:={maxSteps:=1000000}) (disch:=((try simp only [awL]);omega)) only [QR,QS,QT,QU,QV,QW,QX,QY,QZ,Q0,Q1,Q2,Tryz.f25,↓awU,awV,awF,Qa,Qb,Qc,Qd,forall_const,↓reduceIte,↓reduceDIte,↓Qe,Qf,Qg,Qh,Qi,Qj,Qk,Ql,Qm,Qn,Qo,Qp,Qq,Qr,Qs,implies_true,Qt,Qu,Qv,Qw,Qx,Qy,Qz,QA,QB,QC,QD,QE,QF,QG,QH,QI,QJ,QK,QL,QM,QN,QO,QP,QQ]
 refine CallC.pure (rtrim_spec s (by omega)) ?_
 rw [show numB s=numT0 (Lib.trimB s 32) from rfl]
 generalize Lib.trimB s 32=t at *
 simp (config:={maxSteps:=1000000}) (disch:=((try simp only [awL]);omega)) only [QR,QS,QT,QU,QV,QW,QX,QY,QZ,Q0,Q1,Q2,↓awU,awV,awF,Qa,Qb,Qc,Qd,forall_const,↓reduceIte,↓reduceDIte,↓Qe,Qf,Qg,Qh,Qi,Qj,Qk,Ql,Qm,Qn,Qo,Qp,Qq,Qr,Qs,implies_true,Qt,Qu,Qv,Qw,Qx,Qy,Qz,QA,QB,QC,QD,QE,QF,QG,QH,QI,QJ,QK,QL,QM,QN,QO,QP,QQ]
 refine CallC.pure (Num.rdecimal_spec t (by omega)) ?_
 obtain ⟨r,hr⟩:∃ r,r=numT0 t:=⟨_,rfl⟩
 rw [← hr]
 unfold numT0 at hr
 cases d1:Num.decOk t
 ·rw [d1,Bool.false_or] at hr
  simp (config:={maxSteps:=1000000}) (disch:=((try simp only [awL]);omega)) only [QR,QS,QT,QU,QV,QW,QX,QY,QZ,Q0,Q1,Q2,↓awU,awV,awF,Qa,Qb,Qc,Qd,forall_const,↓reduceIte,↓reduceDIte,↓Qe,Qf,Qg,Qh,Qi,Qj,Qk,Ql,Qm,Qn,Qo,Qp,Qq,Qr,Qs,implies_true,Qt,Qu,Qv,Qw,Qx,Qy,Qz,QA,QB,QC,QD,QE,QF,QG,QH,QI,QJ,QK,QL,QM,QN,QO,QP,QQ]
  rcases t with _ | ⟨b,u⟩
  ·subst hr
   simp (config:={maxSteps:=1000000}) (disch:=((try simp only [awL]);omega)) only [QR,QS,QT,QU,QV,QW,QX,QY,QZ,Q0,Q1,Q2,List.length_nil,↓awU,awV,awF,Qa,Qb,Qc,Qd,forall_const,↓reduceIte,↓reduceDIte,↓Qe,Qf,Qg,Qh,Qi,Qj,Qk,Ql,Qm,Qn,Qo,Qp,Qq,Qr,Qs,implies_true,Qt,Qu,Qv,Qw,Qx,Qy,Qz,QA,QB,QC,QD,QE,QF,QG,QH,QI,QJ,QK,QL,QM,QN,QO,QP,QQ]
   first | done | rfl
  ·have gb:(b::u).getD 0 0=b:=rfl
   have hr':r=(digU b && (b::u).all numSet.contains):=hr
   clear hr
   by_cases du:digU b=true
   ·rw [du,Bool.true_and] at hr'
    unfold digU at du
    rw [Bool.and_eq_true,decide_eq_true_eq,decide_eq_true_eq] at du
    simp (config:={maxSteps:=1000000}) (disch:=((try simp only [awL]);omega)) only [QR,QS,QT,QU,QV,QW,QX,QY,QZ,Q0,Q1,Q2,List.length_cons,gb,↓awU,awV,awF,Qa,Qb,Qc,Qd,forall_const,↓reduceIte,↓reduceDIte,↓Qe,Qf,Qg,Qh,Qi,Qj,Qk,Ql,Qm,Qn,Qo,Qp,Qq,Qr,Qs,implies_true,Qt,Qu,Qv,Qw,Qx,Qy,Qz,QA,QB,QC,QD,QE,QF,QG,QH,QI,QJ,QK,QL,QM,QN,QO,QP,QQ]
    refine ⟨fun h0=>?_,fun h0=>by cases h0⟩
    generalize ht:b::u=t at *
    refine LoopC.fr 1 (fun i=>t.length - i) (fun i=>[(5,.d (.int .i64 (i:Nat)))]) (fun _=>[]) (fun i=>i≤t.length∧(t.take i).all numSet.contains=true) 0 ⟨Nat.zero_le _,rfl⟩ ?_ ?_
    ·exact ⟨[],rfl,by simp,by simp [setsA,keepA,SWeak,AWeak],by simp [HWeak,BWeak,SWeak,AWeak]⟩
    ·intro i hi
     simp only [awK,Nat.reduceMod,Nat.reduceDiv,reduceIte]
     obtain ⟨h1,h2⟩:=hi
     rcases Nat.lt_or_ge i t.length with h3 | h3
     ·have gi:t.take (i+1)=t.take i++[t.getD i 0]:=by rw [List.take_succ_eq_append_getElem h3,List.getD_eq_getElem?_getD,List.getElem?_eq_getElem h3];rfl
      have mem:t.getD i 0∈t:=by rw [List.getD_eq_getElem?_getD,List.getElem?_eq_getElem h3];exact List.getElem_mem h3
      have iff9:=numSet_iff (t.getD i 0)
      obtain ⟨c,hc⟩:∃ c,c=t.getD i 0:=⟨_,rfl⟩
      rw [← hc] at gi mem iff9
      have go:numSet.contains c=true→(List.take (i+1) t).all numSet.contains=true:=fun h=>by
       rw [gi,List.all_append,h2,Bool.true_and,List.all_cons,h];rfl
      have st:numSet.contains c=false→r=false:=fun h=>by
       rw [hr',← Bool.not_eq_true,List.all_eq_true]
       intro h4
       rw [h4 _ mem] at h;cases h
      rcases (by omega:c.toNat<48∨(48≤c.toNat∧c.toNat≤57)∨57<c.toNat) with h5 | h5 | h5
      ·rcases (by omega:c.toNat=46∨c.toNat=47∨c.toNat=45∨¬ (c.toNat=46∨c.toNat=47∨c.toNat=45)) with h6 | h6 | h6 | h6
       ·have:=go (iff9.2 (by omega))
        simp (config:={maxSteps:=1000000}) (disch:=((try simp only [awL]);omega)) only [QR,QS,QT,QU,QV,QW,QX,QY,QZ,Q0,Q1,Q2,← hc,h6,↓awU,awV,awF,Qa,Qb,Qc,Qd,forall_const,↓reduceIte,↓reduceDIte,↓Qe,Qf,Qg,Qh,Qi,Qj,Qk,Ql,Qm,Qn,Qo,Qp,Qq,Qr,Qs,implies_true,Qt,Qu,Qv,Qw,Qx,Qy,Qz,QA,QB,QC,QD,QE,QF,QG,QH,QI,QJ,QK,QL,QM,QN,QO,QP,QQ]
        exact ⟨i+1,⟨by omega,this⟩,by simp only;omega,⟨[],rfl,by simp,by simp [setsA,keepA,SWeak,AWeak],by simp [HWeak,BWeak,SWeak,AWeak]⟩⟩
       ·have:=go (iff9.2 (by omega))
        simp (config:={maxSteps:=1000000}) (disch:=((try simp only [awL]);omega)) only [QR,QS,QT,QU,QV,QW,QX,QY,QZ,Q0,Q1,Q2,← hc,h6,↓awU,awV,awF,Qa,Qb,Qc,Qd,forall_const,↓reduceIte,↓reduceDIte,↓Qe,Qf,Qg,Qh,Qi,Qj,Qk,Ql,Qm,Qn,Qo,Qp,Qq,Qr,Qs,implies_true,Qt,Qu,Qv,Qw,Qx,Qy,Qz,QA,QB,QC,QD,QE,QF,QG,QH,QI,QJ,QK,QL,QM,QN,QO,QP,QQ]
        exact ⟨i+1,⟨by omega,this⟩,by simp only;omega,⟨[],rfl,by simp,by simp [setsA,keepA,SWeak,AWeak],by simp [HWeak,BWeak,SWeak,AWeak]⟩⟩
       ·have:=go (iff9.2 (by omega))
        simp (config:={maxSteps:=1000000}) (disch:=((try simp only [awL]);omega)) only [QR,QS,QT,QU,QV,QW,QX,QY,QZ,Q0,Q1,Q2,← hc,h6,↓awU,awV,awF,Qa,Qb,Qc,Qd,forall_const,↓reduceIte,↓reduceDIte,↓Qe,Qf,Qg,Qh,Qi,Qj,Qk,Ql,Qm,Qn,Qo,Qp,Qq,Qr,Qs,implies_true,Qt,Qu,Qv,Qw,Qx,Qy,Qz,QA,QB,QC,QD,QE,QF,QG,QH,QI,QJ,QK,QL,QM,QN,QO,QP,QQ]
        exact ⟨i+1,⟨by omega,this⟩,by simp only;omega,⟨[],rfl,by simp,by simp [setsA,keepA,SWeak,AWeak],by simp [HWeak,BWeak,SWeak,AWeak]⟩⟩
       ·have:=st (by rw [← Bool.not_eq_true,iff9];omega)
        subst this
        simp (config:={maxSteps:=1000000}) (disch:=((try simp only [awL]);omega)) only [QR,QS,QT,QU,QV,QW,QX,QY,QZ,Q0,Q1,Q2,← hc,↓awU,awV,awF,Qa,Qb,Qc,Qd,forall_const,↓reduceIte,↓reduceDIte,↓Qe,Qf,Qg,Qh,Qi,Qj,Qk,Ql,Qm,Qn,Qo,Qp,Qq,Qr,Qs,implies_true,Qt,Qu,Qv,Qw,Qx,Qy,Qz,QA,QB,QC,QD,QE,QF,QG,QH,QI,QJ,QK,QL,QM,QN,QO,QP,QQ]
        first | done | rfl
      ·have:=go (iff9.2 (by omega))
       simp (config:={maxSteps:=1000000}) (disch:=((try simp only [awL]);omega)) only [QR,QS,QT,QU,QV,QW,QX,QY,QZ,Q0,Q1,Q2,← hc,↓awU,awV,awF,Qa,Qb,Qc,Qd,forall_const,↓reduceIte,↓reduceDIte,↓Qe,Qf,Qg,Qh,Qi,Qj,Qk,Ql,Qm,Qn,Qo,Qp,Qq,Qr,Qs,implies_true,Qt,Qu,Qv,Qw,Qx,Qy,Qz,QA,QB,QC,QD,QE,QF,QG,QH,QI,QJ,QK,QL,QM,QN,QO,QP,QQ]
       exact ⟨i+1,⟨by omega,this⟩,by simp only;omega,⟨[],rfl,by simp,by simp [setsA,keepA,SWeak,AWeak],by simp [HWeak,BWeak,SWeak,AWeak]⟩⟩
      ·by_cases h6:c.toNat=58
       ·have:=go (iff9.2 (by omega))
        simp (config:={maxSteps:=1000000}) (disch:=((try simp only [awL]);omega)) only [QR,QS,QT,QU,QV,QW,QX,QY,QZ,Q0,Q1,Q2,← hc,h6,↓awU,awV,awF,Qa,Qb,Qc,Qd,forall_const,↓reduceIte,↓reduceDIte,↓Qe,Qf,Qg,Qh,Qi,Qj,Qk,Ql,Qm,Qn,Qo,Qp,Qq,Qr,Qs,implies_true,Qt,Qu,Qv,Qw,Qx,Qy,Qz,QA,QB,QC,QD,QE,QF,QG,QH,QI,QJ,QK,QL,QM,QN,QO,QP,QQ]
        exact ⟨i+1,⟨by omega,this⟩,by simp only;omega,⟨[],rfl,by simp,by simp [setsA,keepA,SWeak,AWeak],by simp [HWeak,BWeak,SWeak,AWeak]⟩⟩
       ·have:=st (by rw [← Bool.not_eq_true,iff9];omega)
        subst this
        simp (config:={maxSteps:=1000000}) (disch:=((try simp only [awL]);omega)) only [QR,QS,QT,QU,QV,QW,QX,QY,QZ,Q0,Q1,Q2,← hc,↓awU,awV,awF,Qa,Qb,Qc,Qd,forall_const,↓reduceIte,↓reduceDIte,↓Qe,Qf,Qg,Qh,Qi,Qj,Qk,Ql,Qm,Qn,Qo,Qp,Qq,Qr,Qs,implies_true,Qt,Qu,Qv,Qw,Qx,Qy,Qz,QA,QB,QC,QD,QE,QF,QG,QH,QI,QJ,QK,QL,QM,QN,QO,QP,QQ]
        first | done | rfl
     ·have e:t.take i=t:=List.take_of_length_le h3
      rw [e] at h2
      rw [hr',h2]
      simp (config:={maxSteps:=1000000}) (disch:=((try simp only [awL]);omega)) only [QR,QS,QT,QU,QV,QW,QX,QY,QZ,Q0,Q1,Q2,↓awU,awV,awF,Qa,Qb,Qc,Qd,forall_const,↓reduceIte,↓reduceDIte,↓Qe,Qf,Qg,Qh,Qi,Qj,Qk,Ql,Qm,Qn,Qo,Qp,Qq,Qr,Qs,implies_true,Qt,Qu,Qv,Qw,Qx,Qy,Qz,QA,QB,QC,QD,QE,QF,QG,QH,QI,QJ,QK,QL,QM,QN,QO,QP,QQ]
      first | done | rfl
   ·have du':digU b=false:=by simpa using du
    rw [du',Bool.false_and] at hr'
    subst hr'
    unfold digU at du
    rw [Bool.and_eq_true,decide_eq_true_eq,decide_eq_true_eq] at du
    rcases (by omega:b.toNat<48∨57<b.toNat) with h5 | h5
    ·simp (config:={maxSteps:=1000000}) (disch:=((try simp only [awL]);omega)) only [QR,QS,QT,QU,QV,QW,QX,QY,QZ,Q0,Q1,Q2,List.length_cons,gb,↓awU,awV,awF,Qa,Qb,Qc,Qd,forall_const,↓reduceIte,↓reduceDIte,↓Qe,Qf,Qg,Qh,Qi,Qj,Qk,Ql,Qm,Qn,Qo,Qp,Qq,Qr,Qs,implies_true,Qt,Qu,Qv,Qw,Qx,Qy,Qz,QA,QB,QC,QD,QE,QF,QG,QH,QI,QJ,QK,QL,QM,QN,QO,QP,QQ]
     first | done | rfl | simp
    ·simp (config:={maxSteps:=1000000}) (disch:=((try simp only [awL]);omega)) only [QR,QS,QT,QU,QV,QW,QX,QY,QZ,Q0,Q1,Q2,List.length_cons,gb,↓awU,awV,awF,Qa,Qb,Qc,Qd,forall_const,↓reduceIte,↓reduceDIte,↓Qe,Qf,Qg,Qh,Qi,Qj,Qk,Ql,Qm,Qn,Qo,Qp,Qq,Qr,Qs,implies_true,Qt,Qu,Qv,Qw,Qx,Qy,Qz,QA,QB,QC,QD,QE,QF,QG,QH,QI,QJ,QK,QL,QM,QN,QO,QP,QQ]
     first | done | rfl | simp
 ·rw [d1,Bool.true_or] at hr
  subst hr
  simp (config:={maxSteps:=1000000}) (disch:=((try simp only [awL]);omega)) only [QR,QS,QT,QU,QV,QW,QX,QY,QZ,Q0,Q1,Q2,↓awU,awV,awF,Qa,Qb,Qc,Qd,forall_const,↓reduceIte,↓reduceDIte,↓Qe,Qf,Qg,Qh,Qi,Qj,Qk,Ql,Qm,Qn,Qo,Qp,Qq,Qr,Qs,implies_true,Qt,Qu,Qv,Qw,Qx,Qy,Qz,QA,QB,QC,QD,QE,QF,QG,QH,QI,QJ,QK,QL,QM,QN,QO,QP,QQ]
  first | done | rfl
end Go.Proofs.YthbnileadffpiaaGreatDoor
namespace Go.Proofs.YthbnileadffpiaaGreatDoor
open Go Go.Proofs Go.Abs
variable {G:Globals}
end Go.Proofs.YthbnileadffpiaaGreatDoor
namespace Go.Proofs.YthbnileadffpiaaGreatDoor
open Go Go.Proofs Go.Abs
theorem trimL_split:∀ l:List UInt8,∃ m,l=List.replicate m 32++Lib.trimLeftB l 32
 | []=>⟨0,rfl⟩
 | c::t=>by
   by_cases h:c=32
   ·obtain ⟨m,e⟩:=trimL_split t
    refine ⟨m+1,?_⟩
    have e2:Lib.trimLeftB (c::t) 32=Lib.trimLeftB t 32:=by simp [Lib.trimLeftB,h]
    rw [e2,List.replicate_succ,List.cons_append,← e,h]
   ·exact ⟨0,by simp [Lib.trimLeftB,h]⟩
theorem trimR_split (l:List UInt8):∃ n,l=Lib.trimRightB l 32++List.replicate n 32:=by
 obtain ⟨m,e⟩:=trimL_split l.reverse
 refine ⟨m,?_⟩
 have:=congrArg List.reverse e
 rw [List.reverse_reverse,List.reverse_append,List.reverse_replicate] at this
 exact this
theorem trim_split (l:List UInt8):∃ m n,l=List.replicate m 32++(Lib.trimB l 32++List.replicate n 32):=by
 obtain ⟨n,e⟩:=trimR_split l
 obtain ⟨m,e2⟩:=trimL_split (Lib.trimRightB l 32)
 refine ⟨m,n,?_⟩
 rw [← List.append_assoc]
 show l=List.replicate m 32++Lib.trimLeftB (Lib.trimRightB l 32) 32++List.replicate n 32
 rw [← e2,← e]
theorem trimL_head {l:List UInt8}:(Lib.trimLeftB l 32).head?≠some 32:=by
 induction l with
 | nil=>simp [Lib.trimLeftB]
 | cons c t ih =>
  by_cases h:c=32
  ·have e2:Lib.trimLeftB (c::t) 32=Lib.trimLeftB t 32:=by simp [Lib.trimLeftB,h]
   rw [e2];exact ih
  ·simp [Lib.trimLeftB,h]
theorem trimL_id {l:List UInt8} (h:l.head?≠some 32):Lib.trimLeftB l 32=l:=by
 cases l with
 | nil=>rfl
 | cons c t =>
  have:¬ c=32:=fun e=>h (by rw [e];rfl)
  simp [Lib.trimLeftB,this]
theorem trimR_id {l:List UInt8} (h:l.getLast?≠some 32):Lib.trimRightB l 32=l:=by
 have:=trimL_id (l:=l.reverse) (by rw [List.head?_reverse];exact h)
 show (Lib.trimLeftB l.reverse 32).reverse=l
 rw [this,List.reverse_reverse]
theorem trimR_last (l:List UInt8):(Lib.trimRightB l 32).getLast?≠some 32:=by
 show ((Lib.trimLeftB l.reverse 32).reverse).getLast?≠some 32
 rw [List.getLast?_reverse];exact trimL_head
theorem trim_ends (l:List UInt8):(Lib.trimB l 32).head?≠some 32∧(Lib.trimB l 32).getLast?≠some 32:=by
 refine ⟨trimL_head,?_⟩
 rw [← trim_comm]
 exact trimR_last _
theorem trim_id {l:List UInt8} (h1:l.head?≠some 32) (h2:l.getLast?≠some 32):Lib.trimB l 32=l:=by
 show Lib.trimLeftB (Lib.trimRightB l 32) 32=l
 rw [trimR_id h2,trimL_id h1]
theorem trim_idem (l:List UInt8):Lib.trimB (Lib.trimB l 32) 32=Lib.trimB l 32:=trim_id (trim_ends l).1 (trim_ends l).2
theorem valid_left:∀ (m:Nat) {x:List UInt8},Lib.validD (List.replicate m 32++x)=true→Lib.validD x=true
 | 0,x,h=>by simpa using h
 | m+1,x,h=>by
   rw [List.replicate_succ,List.cons_append,Lib.validD_cons _ _ (by decide)] at h
   exact valid_left m h
theorem valid_right:∀ (n:Nat) {x:List UInt8},Lib.validD (x++List.replicate n 32)=true→Lib.validD x=true
 | 0,x,h=>by simpa using h
 | n+1,x,h=>by
   rw [List.replicate_succ] at h
   exact (valid_cutA (by decide) _ x _ rfl h).1
theorem valid_trim {x:List UInt8} (h:Lib.validD x=true):Lib.validD (Lib.trimB x 32)=true:=by
 obtain ⟨m,n,e⟩:=trim_split x
 rw [e] at h
 exact valid_right n (valid_left m h)
end Go.Proofs.YthbnileadffpiaaGreatDoor
namespace Go.Proofs.YthbnileadffpiaaGreatDoor
open Go Go.Proofs Go.Abs
variable {G:Globals}
def nameB (s:List UInt8):Bool:=!decide (Lib.trimB s 32=[]) && !numB s
def numsR (k:Int):List Row→Bool→Bool
 | [],sm=>sm
 | r::g,sm=>if Lib.trimB (atG [r] 0 k) 32=[] then numsR k g sm else if numB (atG [r] 0 k)=true then numsR k g true else false
def numsB (g:List Row) (k:Int) (from_:Nat):Bool:=numsR k (g.drop from_) false
theorem atG_one (g:List Row) (i:Nat) (k:Int):atG [g.getD i []] 0 k=atG g i k:=by
 unfold atG
 by_cases h:k<0
 ·rw [if_pos (.inr h),if_pos (.inr h)]
 ·rw [if_neg (by omega),if_neg (by omega)];simp
theorem numB_trim (s:List UInt8):numB (Lib.trimB s 32)=numB s:=by rw [numB,numB,trim_idem]
theorem numsR_step {g:List Row} {i:Nat} (h:i<g.length) (k:Int) (sm:Bool) :
  numsR k (g.drop i) sm=if Lib.trimB (atG g i k) 32=[] then numsR k (g.drop (i+1)) sm else if numB (atG g i k)=true then numsR k (g.drop (i+1)) true else false:=by
 have e:g.drop i=g.getD i []::g.drop (i+1):=by rw [List.drop_eq_getElem_cons h,List.getD_eq_getElem?_getD,List.getElem?_eq_getElem h];rfl
 rw [e,numsR,atG_one]
theorem numsR_end {g:List Row} {i:Nat} (h:g.length≤i) (k:Int) (sm:Bool):numsR k (g.drop i) sm=sm:=by rw [List.drop_eq_nil_of_le h];rfl
theorem atG_len {g:List Row} {m:Nat} (h:∀ r∈g,∀ s∈r,s.length≤m) (i k:Int):(atG g i k).length≤m:=by
 unfold atG
 split
 ·simp
 ·rcases Nat.lt_or_ge i.toNat g.length with h1 | h1
  ·have m1:=h _ (memD (d:=[]) h1)
   generalize g.getD i.toNat []=r at *
   rcases Nat.lt_or_ge k.toNat r.length with h2 | h2
   ·exact m1 _ (memD (d:=[]) h2)
   ·rw [List.getD_eq_getElem?_getD,List.getElem?_eq_none h2];simp
  ·have e:g.getD i.toNat []=[]:=by rw [List.getD_eq_getElem?_getD,List.getElem?_eq_none h1];rfl
   rw [e];simp
theorem okGrid.at {g:List Row} (h:okGrid g) (i k:Int):(atG g i k).length≤1000000000:=atG_len (fun r hr s hs=>(h.2 r hr).2 s hs) i k
set_option maxHeartbeats 1000000 in
set_option maxRecDepth 100000 in
theorem name_spec (hG:Num.HG G) (s:List UInt8) (hs:s.length≤1000000000):Ctr Tryz.prog G 39 [.d (S s)] [] (.d (.bool (nameB s))) []:=by
 refine Ctr.pure (M:=M0) hmix Tryz.func39 rfl go39 ?_
 simp (config:={maxSteps:=1000000}) (disch:=((try simp only [awL]);omega)) only [QR,QS,QT,QU,QV,QW,QX,QY,QZ,Q0,Q1,Q2,Tryz.f39,↓awU,awV,awF,Qa,Qb,Qc,Qd,forall_const,↓reduceIte,↓reduceDIte,↓Qe,Qf,Qg,Qh,Qi,Qj,Qk,Ql,Qm,Qn,Qo,Qp,Qq,Qr,Qs,implies_true,Qt,Qu,Qv,Qw,Qx,Qy,Qz,QA,QB,QC,QD,QE,QF,QG,QH,QI,QJ,QK,QL,QM,QN,QO,QP,QQ]
 refine CallC.pure (ttrim_spec s (by omega)) ?_
 obtain ⟨r,hr⟩:∃ r,r=nameB s:=⟨_,rfl⟩
 rw [← hr]
 unfold nameB at hr
 generalize Lib.trimB s 32=t at *
 rcases t with _ | ⟨b,u⟩
 ·subst hr
  simp (config:={maxSteps:=1000000}) (disch:=((try simp only [awL]);omega)) only [QR,QS,QT,QU,QV,QW,QX,QY,QZ,Q0,Q1,Q2,↓awU,awV,awF,Qa,Qb,Qc,Qd,forall_const,↓reduceIte,↓reduceDIte,↓Qe,Qf,Qg,Qh,Qi,Qj,Qk,Ql,Qm,Qn,Qo,Qp,Qq,Qr,Qs,implies_true,Qt,Qu,Qv,Qw,Qx,Qy,Qz,QA,QB,QC,QD,QE,QF,QG,QH,QI,QJ,QK,QL,QM,QN,QO,QP,QQ]
  first | done | rfl
 ·have e:¬ b::u=[]:=by simp
  rw [decide_eq_false e,Bool.not_false,Bool.true_and] at hr
  simp (config:={maxSteps:=1000000}) (disch:=((try simp only [awL]);omega)) only [QR,QS,QT,QU,QV,QW,QX,QY,QZ,Q0,Q1,Q2,e,↓awU,awV,awF,Qa,Qb,Qc,Qd,forall_const,↓reduceIte,↓reduceDIte,↓Qe,Qf,Qg,Qh,Qi,Qj,Qk,Ql,Qm,Qn,Qo,Qp,Qq,Qr,Qs,implies_true,Qt,Qu,Qv,Qw,Qx,Qy,Qz,QA,QB,QC,QD,QE,QF,QG,QH,QI,QJ,QK,QL,QM,QN,QO,QP,QQ]
  refine CallC.pure (number_spec9 hG s hs) ?_
  subst hr
  simp (config:={maxSteps:=1000000}) (disch:=((try simp only [awL]);omega)) only [QR,QS,QT,QU,QV,QW,QX,QY,QZ,Q0,Q1,Q2,↓awU,awV,awF,Qa,Qb,Qc,Qd,forall_const,↓reduceIte,↓reduceDIte,↓Qe,Qf,Qg,Qh,Qi,Qj,Qk,Ql,Qm,Qn,Qo,Qp,Qq,Qr,Qs,implies_true,Qt,Qu,Qv,Qw,Qx,Qy,Qz,QA,QB,QC,QD,QE,QF,QG,QH,QI,QJ,QK,QL,QM,QN,QO,QP,QQ]
  first | done | rfl
set_option maxHeartbeats 1000000 in
set_option maxRecDepth 100000 in
theorem rat_spec (g:List Row) (full:Bool) (hg:okGW g) (r c:Int) (r1:-9223372036854775808≤r) (r2:r≤9223372036854775807) (c1:-9223372036854775808≤c) (c2:c≤9223372036854775807) (hl:(atG g r c).length≤9223372036854775807) :
  Ctr Tryz.prog G 41 [.d (.agg [Gr g full]),.d (.int .i64 r),.d (.int .i64 c)] [] (.d (S (Lib.trimB (atG g r c) 32))) []:=by
 refine Ctr.pure (M:=M0) hmix Tryz.func41 rfl go41 ?_
 simp (config:={maxSteps:=1000000}) (disch:=((try simp only [awL]);omega)) only [QR,QS,QT,QU,QV,QW,QX,QY,QZ,Q0,Q1,Q2,Tryz.f41,↓awU,awV,awF,Qa,Qb,Qc,Qd,forall_const,↓reduceIte,↓reduceDIte,↓Qe,Qf,Qg,Qh,Qi,Qj,Qk,Ql,Qm,Qn,Qo,Qp,Qq,Qr,Qs,implies_true,Qt,Qu,Qv,Qw,Qx,Qy,Qz,QA,QB,QC,QD,QE,QF,QG,QH,QI,QJ,QK,QL,QM,QN,QO,QP,QQ]
 refine CallC.pure (rgat_spec g false hg r c r1 r2 c1 c2) ?_
 simp (config:={maxSteps:=1000000}) (disch:=((try simp only [awL]);omega)) only [QR,QS,QT,QU,QV,QW,QX,QY,QZ,Q0,Q1,Q2,↓awU,awV,awF,Qa,Qb,Qc,Qd,forall_const,↓reduceIte,↓reduceDIte,↓Qe,Qf,Qg,Qh,Qi,Qj,Qk,Ql,Qm,Qn,Qo,Qp,Qq,Qr,Qs,implies_true,Qt,Qu,Qv,Qw,Qx,Qy,Qz,QA,QB,QC,QD,QE,QF,QG,QH,QI,QJ,QK,QL,QM,QN,QO,QP,QQ]
 refine CallC.pure (rtrim_spec _ hl) ?_
 simp (config:={maxSteps:=1000000}) (disch:=((try simp only [awL]);omega)) only [QR,QS,QT,QU,QV,QW,QX,QY,QZ,Q0,Q1,Q2,↓awU,awV,awF,Qa,Qb,Qc,Qd,forall_const,↓reduceIte,↓reduceDIte,↓Qe,Qf,Qg,Qh,Qi,Qj,Qk,Ql,Qm,Qn,Qo,Qp,Qq,Qr,Qs,implies_true,Qt,Qu,Qv,Qw,Qx,Qy,Qz,QA,QB,QC,QD,QE,QF,QG,QH,QI,QJ,QK,QL,QM,QN,QO,QP,QQ]
 first | done | rfl
set_option maxHeartbeats 4000000 in
set_option maxRecDepth 100000 in
theorem numbers_spec (hG:Num.HG G) (g:List Row) (full:Bool) (hg:okGrid g) (k:Nat) (hk:k≤1000000000) (m:Nat) (hm:m≤1000000000) :
  Ctr Tryz.prog G 37 [.d (.agg [Gr g full]),.d (.int .i64 k),.d (.int .i64 m)] [] (.d (.bool (numsB g k m))) []:=by
 obtain ⟨r,hr⟩:∃ r,r=numsB g k m:=⟨_,rfl⟩
 rw [← hr]
 unfold numsB at hr
 refine Ctr.pure (M:=M0) hmix Tryz.func37 rfl go37 ?_
 have gl:=@rowsD_length g
 have hgl:=hg.1
 simp (config:={maxSteps:=1000000}) (disch:=((try simp only [awL]);omega)) only [QR,QS,QT,QU,QV,QW,QX,QY,QZ,Q0,Q1,Q2,Tryz.f37,↓awU,awV,awF,Qa,Qb,Qc,Qd,forall_const,↓reduceIte,↓reduceDIte,↓Qe,Qf,Qg,Qh,Qi,Qj,Qk,Ql,Qm,Qn,Qo,Qp,Qq,Qr,Qs,implies_true,Qt,Qu,Qv,Qw,Qx,Qy,Qz,QA,QB,QC,QD,QE,QF,QG,QH,QI,QJ,QK,QL,QM,QN,QO,QP,QQ]
 refine LoopC.fr 10 (α:=Bool × Nat) (fun x=>g.length - x.2) (fun x=>[(7,.d (.bool x.1)),(8,.d (.int .i64 (x.2:Nat)))]) (fun _=>[.box [.d (Gr g full)]]) (fun x=>x.2≤1000000000∧r=numsR k (g.drop x.2) x.1) (false,m) ⟨hm,hr⟩ ?_ ?_
 ·exact ⟨[some 0],rfl,by simp,by simp [setsA,keepA,SWeak,AWeak],by simp [HWeak,BWeak,SWeak,AWeak]⟩
 ·rintro ⟨c,i⟩ ⟨hi,e⟩
  simp only [awK,Nat.reduceMod,Nat.reduceDiv,reduceIte]
  rcases Nat.lt_or_ge i g.length with h3 | h3
  ·rw [numsR_step h3] at e
   have al:=hg.at i k
   simp (config:={maxSteps:=1000000}) (disch:=((try simp only [awL]);omega)) only [QR,QS,QT,QU,QV,QW,QX,QY,QZ,Q0,Q1,Q2,gl,↓awU,awV,awF,Qa,Qb,Qc,Qd,forall_const,↓reduceIte,↓reduceDIte,↓Qe,Qf,Qg,Qh,Qi,Qj,Qk,Ql,Qm,Qn,Qo,Qp,Qq,Qr,Qs,implies_true,Qt,Qu,Qv,Qw,Qx,Qy,Qz,QA,QB,QC,QD,QE,QF,QG,QH,QI,QJ,QK,QL,QM,QN,QO,QP,QQ]
   refine CallC.pure (gat_spec g false hg.w i k (by omega) (by omega) (by omega) (by omega)) ?_
   generalize atG g i k=s at *
   simp (config:={maxSteps:=1000000}) (disch:=((try simp only [awL]);omega)) only [QR,QS,QT,QU,QV,QW,QX,QY,QZ,Q0,Q1,Q2,↓awU,awV,awF,Qa,Qb,Qc,Qd,forall_const,↓reduceIte,↓reduceDIte,↓Qe,Qf,Qg,Qh,Qi,Qj,Qk,Ql,Qm,Qn,Qo,Qp,Qq,Qr,Qs,implies_true,Qt,Qu,Qv,Qw,Qx,Qy,Qz,QA,QB,QC,QD,QE,QF,QG,QH,QI,QJ,QK,QL,QM,QN,QO,QP,QQ]
   refine CallC.pure (ttrim_spec s (by omega)) ?_
   by_cases h4:Lib.trimB s 32=[]
   ·rw [if_pos h4] at e
    rw [h4]
    simp (config:={maxSteps:=1000000}) (disch:=((try simp only [awL]);omega)) only [QR,QS,QT,QU,QV,QW,QX,QY,QZ,Q0,Q1,Q2,↓awU,awV,awF,Qa,Qb,Qc,Qd,forall_const,↓reduceIte,↓reduceDIte,↓Qe,Qf,Qg,Qh,Qi,Qj,Qk,Ql,Qm,Qn,Qo,Qp,Qq,Qr,Qs,implies_true,Qt,Qu,Qv,Qw,Qx,Qy,Qz,QA,QB,QC,QD,QE,QF,QG,QH,QI,QJ,QK,QL,QM,QN,QO,QP,QQ]
    exact ⟨(c,i+1),⟨by simp only;omega,e⟩,by simp only;omega,⟨[some 0],rfl,by simp,by simp [setsA,keepA,SWeak,AWeak],by simp [HWeak,BWeak,SWeak,AWeak]⟩⟩
   ·rw [if_neg h4] at e
    simp (config:={maxSteps:=1000000}) (disch:=((try simp only [awL]);omega)) only [QR,QS,QT,QU,QV,QW,QX,QY,QZ,Q0,Q1,Q2,h4,↓awU,awV,awF,Qa,Qb,Qc,Qd,forall_const,↓reduceIte,↓reduceDIte,↓Qe,Qf,Qg,Qh,Qi,Qj,Qk,Ql,Qm,Qn,Qo,Qp,Qq,Qr,Qs,implies_true,Qt,Qu,Qv,Qw,Qx,Qy,Qz,QA,QB,QC,QD,QE,QF,QG,QH,QI,QJ,QK,QL,QM,QN,QO,QP,QQ]
    refine CallC.pure (number_spec9 hG s al) ?_
    cases h5:numB s
    ·rw [h5,if_neg (by simp)] at e
     subst e
     simp (config:={maxSteps:=1000000}) (disch:=((try simp only [awL]);omega)) only [QR,QS,QT,QU,QV,QW,QX,QY,QZ,Q0,Q1,Q2,↓awU,awV,awF,Qa,Qb,Qc,Qd,forall_const,↓reduceIte,↓reduceDIte,↓Qe,Qf,Qg,Qh,Qi,Qj,Qk,Ql,Qm,Qn,Qo,Qp,Qq,Qr,Qs,implies_true,Qt,Qu,Qv,Qw,Qx,Qy,Qz,QA,QB,QC,QD,QE,QF,QG,QH,QI,QJ,QK,QL,QM,QN,QO,QP,QQ]
     first | done | rfl
    ·rw [h5,if_pos rfl] at e
     simp (config:={maxSteps:=1000000}) (disch:=((try simp only [awL]);omega)) only [QR,QS,QT,QU,QV,QW,QX,QY,QZ,Q0,Q1,Q2,↓awU,awV,awF,Qa,Qb,Qc,Qd,forall_const,↓reduceIte,↓reduceDIte,↓Qe,Qf,Qg,Qh,Qi,Qj,Qk,Ql,Qm,Qn,Qo,Qp,Qq,Qr,Qs,implies_true,Qt,Qu,Qv,Qw,Qx,Qy,Qz,QA,QB,QC,QD,QE,QF,QG,QH,QI,QJ,QK,QL,QM,QN,QO,QP,QQ]
     exact ⟨(true,i+1),⟨by simp only;omega,e⟩,by simp only;omega,⟨[some 0],rfl,by simp,by simp [setsA,keepA,SWeak,AWeak],by simp [HWeak,BWeak,SWeak,AWeak]⟩⟩
  ·rw [numsR_end h3] at e
   subst e
   simp (config:={maxSteps:=1000000}) (disch:=((try simp only [awL]);omega)) only [QR,QS,QT,QU,QV,QW,QX,QY,QZ,Q0,Q1,Q2,gl,↓awU,awV,awF,Qa,Qb,Qc,Qd,forall_const,↓reduceIte,↓reduceDIte,↓Qe,Qf,Qg,Qh,Qi,Qj,Qk,Ql,Qm,Qn,Qo,Qp,Qq,Qr,Qs,implies_true,Qt,Qu,Qv,Qw,Qx,Qy,Qz,QA,QB,QC,QD,QE,QF,QG,QH,QI,QJ,QK,QL,QM,QN,QO,QP,QQ]
   first | done | rfl
set_option maxHeartbeats 4000000 in
set_option maxRecDepth 100000 in
theorem numeric_spec (g:List Row) (full:Bool) (hg:okGrid g) (k:Nat) (hk:k≤1000000000) (m:Nat) (hm:m≤1000000000) :
  Ctr Tryz.prog G 42 [.d (.agg [Gr g full]),.d (.int .i64 m),.d (.int .i64 k)] [] (.d (.bool (numsB g k m))) []:=by
 obtain ⟨r,hr⟩:∃ r,r=numsB g k m:=⟨_,rfl⟩
 rw [← hr]
 unfold numsB at hr
 refine Ctr.pure (M:=M0) hmix Tryz.func42 rfl go42 ?_
 have gl:=@rowsD_length g
 have hgl:=hg.1
 simp (config:={maxSteps:=1000000}) (disch:=((try simp only [awL]);omega)) only [QR,QS,QT,QU,QV,QW,QX,QY,QZ,Q0,Q1,Q2,Tryz.f42,↓awU,awV,awF,Qa,Qb,Qc,Qd,forall_const,↓reduceIte,↓reduceDIte,↓Qe,Qf,Qg,Qh,Qi,Qj,Qk,Ql,Qm,Qn,Qo,Qp,Qq,Qr,Qs,implies_true,Qt,Qu,Qv,Qw,Qx,Qy,Qz,QA,QB,QC,QD,QE,QF,QG,QH,QI,QJ,QK,QL,QM,QN,QO,QP,QQ]
 refine LoopC.fr 12 (α:=Bool × Nat) (fun x=>g.length - x.2) (fun x=>[(7,.d (.bool x.1)),(8,.d (.int .i64 (x.2:Nat)))]) (fun _=>[.box [.d (Gr g full)]]) (fun x=>x.2≤1000000000∧r=numsR k (g.drop x.2) x.1) (false,m) ⟨hm,hr⟩ ?_ ?_
 ·exact ⟨[some 0],rfl,by simp,by simp [setsA,keepA,SWeak,AWeak],by simp [HWeak,BWeak,SWeak,AWeak]⟩
 ·rintro ⟨c,i⟩ ⟨hi,e⟩
  simp only [awK,Nat.reduceMod,Nat.reduceDiv,reduceIte]
  rcases Nat.lt_or_ge i g.length with h3 | h3
  ·rw [numsR_step h3,← numB_trim] at e
   have al:=hg.at i k
   have tl:=trimB_len (atG g i k)
   simp (config:={maxSteps:=1000000}) (disch:=((try simp only [awL]);omega)) only [QR,QS,QT,QU,QV,QW,QX,QY,QZ,Q0,Q1,Q2,gl,↓awU,awV,awF,Qa,Qb,Qc,Qd,forall_const,↓reduceIte,↓reduceDIte,↓Qe,Qf,Qg,Qh,Qi,Qj,Qk,Ql,Qm,Qn,Qo,Qp,Qq,Qr,Qs,implies_true,Qt,Qu,Qv,Qw,Qx,Qy,Qz,QA,QB,QC,QD,QE,QF,QG,QH,QI,QJ,QK,QL,QM,QN,QO,QP,QQ]
   refine CallC.pure (rat_spec g false hg.w i k (by omega) (by omega) (by omega) (by omega) (by omega)) ?_
   generalize Lib.trimB (atG g i k) 32=s at *
   by_cases h4:s=[]
   ·rw [if_pos h4] at e
    rw [h4]
    simp (config:={maxSteps:=1000000}) (disch:=((try simp only [awL]);omega)) only [QR,QS,QT,QU,QV,QW,QX,QY,QZ,Q0,Q1,Q2,↓awU,awV,awF,Qa,Qb,Qc,Qd,forall_const,↓reduceIte,↓reduceDIte,↓Qe,Qf,Qg,Qh,Qi,Qj,Qk,Ql,Qm,Qn,Qo,Qp,Qq,Qr,Qs,implies_true,Qt,Qu,Qv,Qw,Qx,Qy,Qz,QA,QB,QC,QD,QE,QF,QG,QH,QI,QJ,QK,QL,QM,QN,QO,QP,QQ]
    exact ⟨(c,i+1),⟨by simp only;omega,e⟩,by simp only;omega,⟨[some 0],rfl,by simp,by simp [setsA,keepA,SWeak,AWeak],by simp [HWeak,BWeak,SWeak,AWeak]⟩⟩
   ·rw [if_neg h4] at e
    simp (config:={maxSteps:=1000000}) (disch:=((try simp only [awL]);omega)) only [QR,QS,QT,QU,QV,QW,QX,QY,QZ,Q0,Q1,Q2,h4,↓awU,awV,awF,Qa,Qb,Qc,Qd,forall_const,↓reduceIte,↓reduceDIte,↓Qe,Qf,Qg,Qh,Qi,Qj,Qk,Ql,Qm,Qn,Qo,Qp,Qq,Qr,Qs,implies_true,Qt,Qu,Qv,Qw,Qx,Qy,Qz,QA,QB,QC,QD,QE,QF,QG,QH,QI,QJ,QK,QL,QM,QN,QO,QP,QQ]
    refine CallC.pure (rnumber_spec9 s (by omega)) ?_
    cases h5:numB s
    ·rw [h5,if_neg (by simp)] at e
     subst e
     simp (config:={maxSteps:=1000000}) (disch:=((try simp only [awL]);omega)) only [QR,QS,QT,QU,QV,QW,QX,QY,QZ,Q0,Q1,Q2,↓awU,awV,awF,Qa,Qb,Qc,Qd,forall_const,↓reduceIte,↓reduceDIte,↓Qe,Qf,Qg,Qh,Qi,Qj,Qk,Ql,Qm,Qn,Qo,Qp,Qq,Qr,Qs,implies_true,Qt,Qu,Qv,Qw,Qx,Qy,Qz,QA,QB,QC,QD,QE,QF,QG,QH,QI,QJ,QK,QL,QM,QN,QO,QP,QQ]
     first | done | rfl
    ·rw [h5,if_pos rfl] at e
     simp (config:={maxSteps:=1000000}) (disch:=((try simp only [awL]);omega)) only [QR,QS,QT,QU,QV,QW,QX,QY,QZ,Q0,Q1,Q2,↓awU,awV,awF,Qa,Qb,Qc,Qd,forall_const,↓reduceIte,↓reduceDIte,↓Qe,Qf,Qg,Qh,Qi,Qj,Qk,Ql,Qm,Qn,Qo,Qp,Qq,Qr,Qs,implies_true,Qt,Qu,Qv,Qw,Qx,Qy,Qz,QA,QB,QC,QD,QE,QF,QG,QH,QI,QJ,QK,QL,QM,QN,QO,QP,QQ]
     exact ⟨(true,i+1),⟨by simp only;omega,e⟩,by simp only;omega,⟨[some 0],rfl,by simp,by simp [setsA,keepA,SWeak,AWeak],by simp [HWeak,BWeak,SWeak,AWeak]⟩⟩
  ·rw [numsR_end h3] at e
   subst e
   simp (config:={maxSteps:=1000000}) (disch:=((try simp only [awL]);omega)) only [QR,QS,QT,QU,QV,QW,QX,QY,QZ,Q0,Q1,Q2,gl,↓awU,awV,awF,Qa,Qb,Qc,Qd,forall_const,↓reduceIte,↓reduceDIte,↓Qe,Qf,Qg,Qh,Qi,Qj,Qk,Ql,Qm,Qn,Qo,Qp,Qq,Qr,Qs,implies_true,Qt,Qu,Qv,Qw,Qx,Qy,Qz,QA,QB,QC,QD,QE,QF,QG,QH,QI,QJ,QK,QL,QM,QN,QO,QP,QQ]
   first | done | rfl
end Go.Proofs.YthbnileadffpiaaGreatDoor
namespace Go.Proofs.YthbnileadffpiaaGreatDoor
open Go Go.Proofs Go.Abs
theorem LayI.mono {l:List Nat} (h:LayI l):∀ i,i+1<l.length→l.getD i 0≤l.getD (i+1) 0:=fun i hi=>Nat.le_of_lt (h.2.2.2.2 i hi)
theorem LayI.le {l:List Nat} (h:LayI l) (i:Nat):l.getD i 0≤48:=getD_le (fun i hi=>by have:=h.2.2.2.1 i hi;have:=h.2.2.1;omega) i
theorem LayI.pos {l:List Nat} (h:LayI l):0<l.length:=List.length_pos_iff.2 h.1
end Go.Proofs.YthbnileadffpiaaGreatDoor
namespace Go.Proofs.YthbnileadffpiaaGreatDoor
open Go Go.Proofs Go.Abs
variable {G:Globals}
end Go.Proofs.YthbnileadffpiaaGreatDoor
namespace Go.Proofs.YthbnileadffpiaaGreatDoor
open Go Go.Proofs Go.Abs
variable {G:Globals}
end Go.Proofs.YthbnileadffpiaaGreatDoor
namespace Go.Proofs.YthbnileadffpiaaGreatDoor
open Go Go.Proofs Go.Abs
variable {G:Globals}
def cmpI (x y:Int):Int:=if x<y then -1 else if y<x then 1 else 0
theorem isNaN_spec (x:Int):Ctr Tryz.prog G 58 [.d (.int .i64 x)] [] (.d (.bool false)) []:=by
 refine Ctr.pure (M:=M0) hmix Tryz.func58 rfl go58 ?_
 simp (config:={maxSteps:=1000000}) (disch:=((try simp only [awL]);omega)) only [QR,QS,QT,QU,QV,QW,QX,QY,QZ,Q0,Q1,Q2,Tryz.f58,↓awU,awV,awF,Qa,Qb,Qc,Qd,forall_const,↓reduceIte,↓reduceDIte,↓Qe,Qf,Qg,Qh,Qi,Qj,Qk,Ql,Qm,Qn,Qo,Qp,Qq,Qr,Qs,implies_true,Qt,Qu,Qv,Qw,Qx,Qy,Qz,QA,QB,QC,QD,QE,QF,QG,QH,QI,QJ,QK,QL,QM,QN,QO,QP,QQ]
 try rfl
theorem compare_spec (x y:Int):Ctr Tryz.prog G 34 [.d (.int .i64 x),.d (.int .i64 y)] [] (.d (.int .i64 (cmpI x y))) []:=by
 refine Ctr.pure (M:=M0) hmix Tryz.func34 rfl go34 ?_
 obtain ⟨r,hr⟩:∃ r,r=cmpI x y:=⟨_,rfl⟩
 rw [← hr]
 unfold cmpI at hr
 simp (config:={maxSteps:=1000000}) (disch:=((try simp only [awL]);omega)) only [QR,QS,QT,QU,QV,QW,QX,QY,QZ,Q0,Q1,Q2,Tryz.f34,↓awU,awV,awF,Qa,Qb,Qc,Qd,forall_const,↓reduceIte,↓reduceDIte,↓Qe,Qf,Qg,Qh,Qi,Qj,Qk,Ql,Qm,Qn,Qo,Qp,Qq,Qr,Qs,implies_true,Qt,Qu,Qv,Qw,Qx,Qy,Qz,QA,QB,QC,QD,QE,QF,QG,QH,QI,QJ,QK,QL,QM,QN,QO,QP,QQ]
 refine CallC.pure (isNaN_spec x) ?_
 simp (config:={maxSteps:=1000000}) (disch:=((try simp only [awL]);omega)) only [QR,QS,QT,QU,QV,QW,QX,QY,QZ,Q0,Q1,Q2,↓awU,awV,awF,Qa,Qb,Qc,Qd,forall_const,↓reduceIte,↓reduceDIte,↓Qe,Qf,Qg,Qh,Qi,Qj,Qk,Ql,Qm,Qn,Qo,Qp,Qq,Qr,Qs,implies_true,Qt,Qu,Qv,Qw,Qx,Qy,Qz,QA,QB,QC,QD,QE,QF,QG,QH,QI,QJ,QK,QL,QM,QN,QO,QP,QQ]
 refine CallC.pure (isNaN_spec y) ?_
 rcases (by omega:x<y∨y<x∨(¬ x<y∧¬ y<x)) with h | h | ⟨h1,h2⟩
 ·rw [if_pos h] at hr
  simp (config:={maxSteps:=1000000}) (disch:=((try simp only [awL]);omega)) only [QR,QS,QT,QU,QV,QW,QX,QY,QZ,Q0,Q1,Q2,↓awU,awV,awF,Qa,Qb,Qc,Qd,forall_const,↓reduceIte,↓reduceDIte,↓Qe,Qf,Qg,Qh,Qi,Qj,Qk,Ql,Qm,Qn,Qo,Qp,Qq,Qr,Qs,implies_true,Qt,Qu,Qv,Qw,Qx,Qy,Qz,QA,QB,QC,QD,QE,QF,QG,QH,QI,QJ,QK,QL,QM,QN,QO,QP,QQ]
  all_goals rw [hr]
 ·rw [if_neg (by omega),if_pos h] at hr
  simp (config:={maxSteps:=1000000}) (disch:=((try simp only [awL]);omega)) only [QR,QS,QT,QU,QV,QW,QX,QY,QZ,Q0,Q1,Q2,↓awU,awV,awF,Qa,Qb,Qc,Qd,forall_const,↓reduceIte,↓reduceDIte,↓Qe,Qf,Qg,Qh,Qi,Qj,Qk,Ql,Qm,Qn,Qo,Qp,Qq,Qr,Qs,implies_true,Qt,Qu,Qv,Qw,Qx,Qy,Qz,QA,QB,QC,QD,QE,QF,QG,QH,QI,QJ,QK,QL,QM,QN,QO,QP,QQ]
  all_goals rw [hr]
 ·rw [if_neg h1,if_neg h2] at hr
  simp (config:={maxSteps:=1000000}) (disch:=((try simp only [awL]);omega)) only [QR,QS,QT,QU,QV,QW,QX,QY,QZ,Q0,Q1,Q2,↓awU,awV,awF,Qa,Qb,Qc,Qd,forall_const,↓reduceIte,↓reduceDIte,↓Qe,Qf,Qg,Qh,Qi,Qj,Qk,Ql,Qm,Qn,Qo,Qp,Qq,Qr,Qs,implies_true,Qt,Qu,Qv,Qw,Qx,Qy,Qz,QA,QB,QC,QD,QE,QF,QG,QH,QI,QJ,QK,QL,QM,QN,QO,QP,QQ]
  all_goals rw [hr]
structure Opt where
 txt:List UInt8
 fr:Nat
 ag:Nat
 wd:Nat
abbrev Opt.cells (o:Opt):List D:=[S o.txt,.int .i64 o.fr,.int .i64 o.ag]
def optC (l:List Opt):List D:=l.flatMap Opt.cells
end Go.Proofs.YthbnileadffpiaaGreatDoor
namespace Go.Proofs.YthbnileadffpiaaGreatDoor
open Go Go.Proofs Go.Abs
variable {G:Globals}
def noO:Opt:=⟨[],0,0,0⟩
theorem optC_length:∀ l:List Opt,(optC l).length=3*l.length
 | []=>rfl
 | o::l=>by
   have ih:=optC_length l
   simp only [optC,List.flatMap_cons,List.length_append,List.length_cons,List.length_nil] at ih ⊢
   omega
theorem optC_get:∀ {l:List Opt} {k:Nat},k<l.length→((optC l).drop (k*3)).take 3=(l.getD k noO).cells
 | [],k,h=>absurd h (Nat.not_lt_zero _)
 | o::l,0,_=>by simp [optC]
 | o::l,k+1,h=>by
   have ih:=optC_get (l:=l) (k:=k) (by simpa using h)
   have e:(k+1)*3=k*3+3:=by omega
   have e2:optC (o::l)=S o.txt::.int .i64 o.fr::.int .i64 o.ag::optC l:=rfl
   rw [e,e2]
   simpa using ih
theorem optC_app (a b:List Opt):optC (a++b)=optC a++optC b:=by simp [optC]
theorem optC_take (l:List Opt) (k:Nat):(optC l).take (k*3)=optC (l.take k):=by
 rcases Nat.lt_or_ge k l.length with h | h
 ·conv=>lhs;rw [← List.take_append_drop k l,optC_app]
  rw [List.take_append_of_le_length (by rw [optC_length,List.length_take];omega),List.take_of_length_le (by rw [optC_length,List.length_take];omega)]
 ·rw [List.take_of_length_le (by rw [optC_length];omega),List.take_of_length_le h]
theorem optC_drop (l:List Opt) (k:Nat):(optC l).drop (k*3)=optC (l.drop k):=by
 rcases Nat.lt_or_ge k l.length with h | h
 ·conv=>lhs;rw [← List.take_append_drop k l,optC_app]
  rw [List.drop_append_of_le_length (by rw [optC_length,List.length_take];omega),List.drop_of_length_le (by rw [optC_length,List.length_take];omega),List.nil_append]
 ·rw [List.drop_of_length_le (by rw [optC_length];omega),List.drop_of_length_le h];rfl
theorem optC_set {l:List Opt} {k:Nat} (x:Opt) (h:k<l.length):(optC l).take (k*3)++x.cells++(optC l).drop (k*3+3)=optC (l.set k x):=by
 rw [List.set_eq_take_append_cons_drop,if_pos h,optC_app,optC_take,show k*3+3=(k+1)*3 by omega,optC_drop,List.append_assoc]
 rfl
end Go.Proofs.YthbnileadffpiaaGreatDoor
namespace Go.Proofs.YthbnileadffpiaaGreatDoor
open Go Go.Proofs Go.Abs
variable {G:Globals}
end Go.Proofs.YthbnileadffpiaaGreatDoor
namespace Go.Proofs.YthbnileadffpiaaGreatDoor
open Go Go.Proofs Go.Abs
variable {G:Globals}
def cols (c:List Opt):List (D × D):=c.map fun o=>(S o.txt,.int .i64 o.wd)
theorem bs_beq {a b:List UInt8}:(bs a == bs b)=decide (a=b):=by
 have e:(bs a == bs b)=(a.toArray == b.toArray):=rfl
 rw [e]
 by_cases h:a=b
 ·subst h;simp
 ·rw [decide_eq_false h]
  exact beq_eq_false_iff_ne.2 fun q=>h (by simpa using q)
theorem optC_push (a:List Opt) (o:Opt):optC a++o.cells=optC (a++[o]):=by rw [optC_app];simp [optC]
end Go.Proofs.YthbnileadffpiaaGreatDoor
namespace Go.Proofs.YthbnileadffpiaaGreatDoor
open Go Go.Proofs Go.Abs
variable {G:Globals}
set_option maxHeartbeats 4000000 in
set_option maxRecDepth 100000 in
theorem sameOpt_spec (l:List Opt) (fa fb:Bool) (hl:l.length≤1000000):Ctr Tryz.prog G 11 [.d (.sl l.length fa (optC l)),.d (.sl l.length fb (optC l))] [] (.d (.bool true)) []:=by
 refine Ctr.pure (M:=M0) hmix Tryz.func11 rfl go11 ?_
 have ol:=optC_length l
 simp (config:={maxSteps:=1000000}) (disch:=((try simp only [awL]);omega)) only [QR,QS,QT,QU,QV,QW,QX,QY,QZ,Q0,Q1,Q2,ol,Tryz.f11,↓awU,awV,awF,Qa,Qb,Qc,Qd,forall_const,↓reduceIte,↓reduceDIte,↓Qe,Qf,Qg,Qh,Qi,Qj,Qk,Ql,Qm,Qn,Qo,Qp,Qq,Qr,Qs,implies_true,Qt,Qu,Qv,Qw,Qx,Qy,Qz,QA,QB,QC,QD,QE,QF,QG,QH,QI,QJ,QK,QL,QM,QN,QO,QP,QQ]
 refine LoopC.fr 4099 (α:=Nat) (fun i=>l.length - i) (fun i=>[(13,.d (.int .i64 i))]) (fun _=>[]) (fun i=>i≤l.length) 0 (Nat.zero_le _) ?_ ?_
 ·exact ⟨[],rfl,by simp,by simp [setsA,keepA,SWeak,AWeak],by simp [HWeak,BWeak,SWeak,AWeak]⟩
 ·intro i h1
  simp only [awK,Nat.reduceMod,Nat.reduceDiv,reduceIte]
  rcases Nat.lt_or_ge i l.length with h | h
  ·have g:=optC_get h
   generalize l.getD i noO=o at *
   simp (config:={maxSteps:=1000000}) (disch:=((try simp only [awL]);omega)) only [QR,QS,QT,QU,QV,QW,QX,QY,QZ,Q0,Q1,Q2,ol,g,beq_self_eq_true,↓awU,awV,awF,Qa,Qb,Qc,Qd,forall_const,↓reduceIte,↓reduceDIte,↓Qe,Qf,Qg,Qh,Qi,Qj,Qk,Ql,Qm,Qn,Qo,Qp,Qq,Qr,Qs,implies_true,Qt,Qu,Qv,Qw,Qx,Qy,Qz,QA,QB,QC,QD,QE,QF,QG,QH,QI,QJ,QK,QL,QM,QN,QO,QP,QQ]
   exact ⟨by rfl,i+1,h,by simp only;omega,⟨[],rfl,by simp,by simp [setsA,keepA,SWeak,AWeak],by simp [HWeak,BWeak,SWeak,AWeak]⟩⟩
  ·simp (config:={maxSteps:=1000000}) (disch:=((try simp only [awL]);omega)) only [QR,QS,QT,QU,QV,QW,QX,QY,QZ,Q0,Q1,Q2,ol,↓awU,awV,awF,Qa,Qb,Qc,Qd,forall_const,↓reduceIte,↓reduceDIte,↓Qe,Qf,Qg,Qh,Qi,Qj,Qk,Ql,Qm,Qn,Qo,Qp,Qq,Qr,Qs,implies_true,Qt,Qu,Qv,Qw,Qx,Qy,Qz,QA,QB,QC,QD,QE,QF,QG,QH,QI,QJ,QK,QL,QM,QN,QO,QP,QQ]
theorem optC_fr {l:List Opt} {q:Nat} (h:q<l.length):(optC l).getD (q*3+1) .nilp=.int .i64 (l.getD q noO).fr:=by
 have e:=congrArg (fun x=>x.getD 1 D.nilp) (optC_get h)
 simpa [List.getD_eq_getElem?_getD,List.getElem?_take,List.getElem?_drop] using e
end Go.Proofs.YthbnileadffpiaaGreatDoor
namespace Go.Proofs.YthbnileadffpiaaGreatDoor
open Go Go.Proofs Go.Abs
variable {G:Globals}
def updR (k d:D):List (D × D)→List (D × D)
 | []=>[(k,d)]
 | x::r=>if keyEq k x.1=true then (k,d)::r else x::updR k d r
theorem updE_R (k d:D):∀ m:List (D × D),updE m k d=updR k d m
 | []=>rfl
 | x::r=>by
   have ih:=updE_R k d r
   unfold updE at ih ⊢
   rw [findE,updR]
   by_cases h:keyEq k x.1=true
   ·rw [if_pos h,if_pos h];rfl
   ·rw [if_neg h,if_neg h]
    cases hf:findE k r with
    | none=>rw [hf] at ih;simp only [Option.map_none];rw [← ih];rfl
    | some y=>rw [hf] at ih;simp only [Option.map_some];rw [← ih];rfl
theorem keyEq_S (a b:List UInt8):keyEq (S a) (S b)=decide (a=b):=bs_beq
def KeyS (m:List (D × D)):Prop:=∀ e∈m,∃ s,e.1=S s
theorem KeyS.nil:KeyS []:=fun _ h=>by cases h
theorem KeyS.upd {m:List (D × D)} (h:KeyS m) (t:List UInt8) (d:D):KeyS (updE m (S t) d):=by
 rw [updE_R]
 induction m with
 | nil=>intro e he;exact ⟨t,by simp [updR] at he;rw [he]⟩
 | cons x r ih =>
  have i2:=ih fun e he=>h e (List.mem_cons_of_mem _ he)
  intro e he
  rw [updR] at he
  split at he
  ·rcases List.mem_cons.1 he with rfl | he
   ·exact ⟨t,rfl⟩
   ·exact h e (List.mem_cons_of_mem _ he)
  ·rcases List.mem_cons.1 he with rfl | he
   ·exact h _ (by simp)
   ·exact i2 e he
theorem KeyS.ok {m:List (D × D)} (h:KeyS m):keysOK Tryz.prog 9 m=true:=by
 unfold keysOK
 refine List.all_eq_true.2 fun e he=>?_
 obtain ⟨s,hs⟩:=h e he
 rw [hs]
 unfold isKeyD
 rw [ti9]
 rfl
theorem look_upd {m:List (D × D)} (h:KeyS m) (z d:D) (s t:List UInt8):lookV z (updE m (S t) d) (S s) false=if s=t then d else lookV z m (S s) false:=by
 rw [updE_R]
 induction m with
 | nil =>
  have e1:findE (S s) (updR (S t) d [])=if keyEq (S s) (S t)=true then some (0,d) else none:=rfl
  unfold lookV
  rw [e1,keyEq_S]
  by_cases e:s=t
  ·rw [if_pos e,if_pos (by simpa using e)];rfl
  ·rw [if_neg e,if_neg (by simpa using e)];rfl
 | cons x r ih =>
  have i2:=ih fun e he=>h e (List.mem_cons_of_mem _ he)
  obtain ⟨c,hc⟩:=h x (by simp)
  have look_cons:∀ (y:D × D) (l:List (D × D)) (c:List UInt8),y.1=S c→lookV z (y::l) (S s) false=if s=c then y.2 else lookV z l (S s) false:=by
   intro y l c hy
   unfold lookV
   rw [findE,hy,keyEq_S]
   by_cases e:s=c
   ·rw [if_pos e,if_pos (by simpa using e)];rfl
   ·rw [if_neg e,if_neg (by simpa using e)]
    cases findE (S s) l<;>rfl
  rw [updR,hc,keyEq_S]
  by_cases e:t=c
  ·rw [if_pos (by simpa using e),look_cons _ _ t rfl,look_cons _ _ c hc,← e]
   by_cases e2:s=t
   ·rw [if_pos e2,if_pos e2]
   ·rw [if_neg e2,if_neg e2,if_neg e2]
  ·rw [if_neg (by simpa using e),look_cons _ _ c hc,look_cons _ _ c hc,i2]
   by_cases e2:s=c
   ·rw [if_pos e2,if_neg (by rw [e2];exact fun q=>e q.symm),if_pos e2]
   ·rw [if_neg e2,if_neg e2]
def lastR (g:List Row) (n k:Nat):Row:=(List.range k).map fun (i:Nat)=>Lib.trimB (atG g ((n:Int) - 1) i) 32
theorem lastR_succ (g:List Row) (n k:Nat):lastR g n (k+1)=lastR g n k++[Lib.trimB (atG g ((n:Int) - 1) k) 32]:=by
 unfold lastR;rw [List.range_succ,List.map_append];rfl
def proB (g:List Row) (n k:Nat):Bool:=if n=0 then numsB g k 0 && numB (atG g 0 k) else numsB g k n && nameB (Lib.trimB (atG g ((n:Int) - 1) k) 32)
def conB (g:List Row) (n k:Nat):Bool:=if n=0 then nameB (atG g 0 k) && numsB g k 1
 else !nameB (Lib.trimB (atG g ((n:Int) - 1) k) 32) || decide (Lib.trimB (atG g ((n:Int) - 1) k) 32∈lastR g n k)
def cntB (f:Nat→Bool):Nat→Nat
 | 0=>0
 | k+1=>cntB f k+(if f k=true then 1 else 0)
theorem cntB_le (f:Nat→Bool):∀ k,cntB f k≤k
 | 0=>Nat.le_refl _
 | k+1=>by have:=cntB_le f k;rw [cntB];split<;>omega
def evN (g:List Row) (n:Nat):Opt:=⟨Lib.decDigits n,cntB (proB g n) (widG g),cntB (conB g n) (widG g),n⟩
def evG (g:List Row) (n:Int):Opt:=if n<0∨3<n∨(g.length:Int)<n then ⟨[],0,0,0⟩ else evN g n.toNat
theorem okGrid.wid {g:List Row} (h:okGrid g):widG g≤1000000000:=widG_le fun r hr=>(h.2 r hr).1
def EvI (g:List Row) (m:Nat) (x:Nat × List (D × D)):Prop:=x.1≤widG g∧KeyS x.2∧(m=0∨∀ s,lookV (.bool false) x.2 (S s) false=.bool (decide (s∈lastR g m x.1)))
theorem EvI.z {g:List Row} {k:Nat} {mp:List (D × D)} (h:k≤widG g) (hm:KeyS mp):EvI g 0 (k,mp):=⟨h,hm,.inl rfl⟩
theorem EvI.s {g:List Row} {m k:Nat} {mp:List (D × D)} {l:List UInt8} (h:k+1≤widG g) (hm:KeyS mp) (hl:∀ s,lookV (.bool false) mp (S s) false=.bool (decide (s∈lastR g m k))) (e:l=Lib.trimB (atG g ((m:Int) - 1) k) 32) :
  EvI g m (k+1,updE mp (S l) (.bool true)):=⟨h,hm.upd _ _,.inr fun s=>by
 rw [look_upd hm,hl s,lastR_succ,← e]
 by_cases q:s=l
 ·rw [if_pos q,decide_eq_true (by simp [q])]
 ·rw [if_neg q];congr 1;exact decide_eq_decide.2 (by simp [q])⟩
set_option maxHeartbeats 16000000 in
set_option maxRecDepth 100000 in
theorem evidence_spec (hG:Num.HG G) (hI:HI G) (g:List Row) (full:Bool) (hg:okGrid g) (n:Int) (n1:-9223372036854775808≤n) (n2:n≤9223372036854775807) :
  Ctr Tryz.prog G 14 [.d (.agg [Gr g full]),.d (.int .i64 n)] [] (.d (.agg (evG g n).cells)) []:=by
 obtain ⟨r,hr⟩:∃ r,r=evG g n:=⟨_,rfl⟩
 rw [← hr]
 unfold evG at hr
 refine Ctr.pure (M:=M0) hmix Tryz.func14 rfl go14 ?_
 have gl:=@rowsD_length g
 have hgl:=hg.1
 have hw:=hg.wid
 rcases (by omega:n<0∨3<n∨(0≤n∧n≤3∧(g.length:Int)<n)∨(0≤n∧n≤3∧n≤g.length)) with h | h | h | h
 ·rw [if_pos (by omega)] at hr
  subst hr
  simp (config:={maxSteps:=1000000}) (disch:=((try simp only [awL]);omega)) only [QR,QS,QT,QU,QV,QW,QX,QY,QZ,Q0,Q1,Q2,gl,Tryz.f14,↓awU,awV,awF,Qa,Qb,Qc,Qd,forall_const,↓reduceIte,↓reduceDIte,↓Qe,Qf,Qg,Qh,Qi,Qj,Qk,Ql,Qm,Qn,Qo,Qp,Qq,Qr,Qs,implies_true,Qt,Qu,Qv,Qw,Qx,Qy,Qz,QA,QB,QC,QD,QE,QF,QG,QH,QI,QJ,QK,QL,QM,QN,QO,QP,QQ]
  first | done | rfl
 ·rw [if_pos (by omega)] at hr
  subst hr
  simp (config:={maxSteps:=1000000}) (disch:=((try simp only [awL]);omega)) only [QR,QS,QT,QU,QV,QW,QX,QY,QZ,Q0,Q1,Q2,gl,Tryz.f14,↓awU,awV,awF,Qa,Qb,Qc,Qd,forall_const,↓reduceIte,↓reduceDIte,↓Qe,Qf,Qg,Qh,Qi,Qj,Qk,Ql,Qm,Qn,Qo,Qp,Qq,Qr,Qs,implies_true,Qt,Qu,Qv,Qw,Qx,Qy,Qz,QA,QB,QC,QD,QE,QF,QG,QH,QI,QJ,QK,QL,QM,QN,QO,QP,QQ]
  first | done | rfl
 ·rw [if_pos (by omega)] at hr
  subst hr
  simp (config:={maxSteps:=1000000}) (disch:=((try simp only [awL]);omega)) only [QR,QS,QT,QU,QV,QW,QX,QY,QZ,Q0,Q1,Q2,gl,Tryz.f14,↓awU,awV,awF,Qa,Qb,Qc,Qd,forall_const,↓reduceIte,↓reduceDIte,↓Qe,Qf,Qg,Qh,Qi,Qj,Qk,Ql,Qm,Qn,Qo,Qp,Qq,Qr,Qs,implies_true,Qt,Qu,Qv,Qw,Qx,Qy,Qz,QA,QB,QC,QD,QE,QF,QG,QH,QI,QJ,QK,QL,QM,QN,QO,QP,QQ]
  first | done | rfl
 ·obtain ⟨m,rfl⟩:∃ m:Nat,n=m:=⟨n.toNat,by omega⟩
  rw [if_neg (by omega),Int.toNat_natCast] at hr
  simp (config:={maxSteps:=1000000}) (disch:=((try simp only [awL]);omega)) only [QR,QS,QT,QU,QV,QW,QX,QY,QZ,Q0,Q1,Q2,gl,Tryz.f14,↓awU,awV,awF,Qa,Qb,Qc,Qd,forall_const,↓reduceIte,↓reduceDIte,↓Qe,Qf,Qg,Qh,Qi,Qj,Qk,Ql,Qm,Qn,Qo,Qp,Qq,Qr,Qs,implies_true,Qt,Qu,Qv,Qw,Qx,Qy,Qz,QA,QB,QC,QD,QE,QF,QG,QH,QI,QJ,QK,QL,QM,QN,QO,QP,QQ]
  refine CallC.pure (hI m (by omega)) ?_
  simp (config:={maxSteps:=1000000}) (disch:=((try simp only [awL]);omega)) only [QR,QS,QT,QU,QV,QW,QX,QY,QZ,Q0,Q1,Q2,gl,↓awU,awV,awF,Qa,Qb,Qc,Qd,forall_const,↓reduceIte,↓reduceDIte,↓Qe,Qf,Qg,Qh,Qi,Qj,Qk,Ql,Qm,Qn,Qo,Qp,Qq,Qr,Qs,implies_true,Qt,Qu,Qv,Qw,Qx,Qy,Qz,QA,QB,QC,QD,QE,QF,QG,QH,QI,QJ,QK,QL,QM,QN,QO,QP,QQ]
  refine CallC.pure (width_spec g false hg.w) ?_
  simp (config:={maxSteps:=1000000}) (disch:=((try simp only [awL]);omega)) only [QR,QS,QT,QU,QV,QW,QX,QY,QZ,Q0,Q1,Q2,gl,↓awU,awV,awF,Qa,Qb,Qc,Qd,forall_const,↓reduceIte,↓reduceDIte,↓Qe,Qf,Qg,Qh,Qi,Qj,Qk,Ql,Qm,Qn,Qo,Qp,Qq,Qr,Qs,implies_true,Qt,Qu,Qv,Qw,Qx,Qy,Qz,QA,QB,QC,QD,QE,QF,QG,QH,QI,QJ,QK,QL,QM,QN,QO,QP,QQ]
  refine LoopC.fr 2147483766 (α:=Nat × List (D × D)) (fun x=>widG g - x.1) (fun x=>[(32,.d (.int .i64 (x.1:Nat)))])
   (fun x=>[.box [.d (Gr g full)],.box [.d (.str ByteArray.empty),.d (.int .i64 0),.d (.int .i64 0)],.box [.d (S (Lib.decDigits m)),.d (.int .i64 (cntB (proB g m) x.1:Nat)),.d (.int .i64 (cntB (conB g m) x.1:Nat))],.map x.2])
   (EvI g m) (0,[]) ⟨Nat.zero_le _,KeyS.nil,.inr fun s=>rfl⟩ ?_ ?_
  ·exact ⟨[some 0,some 1,some 2,some 3],rfl,by simp,by simp [setsA,keepA,SWeak,AWeak],by simp [HWeak,BWeak,SWeak,AWeak,cntB]⟩
  ·rintro ⟨k,mp⟩ ⟨hk,hm1,hm2⟩
   have ok1:=hm1.ok
   have le1:=cntB_le (proB g m) k
   have le2:=cntB_le (conB g m) k
   simp only [awK,Nat.reduceMod,Nat.reduceDiv,reduceIte]
   rcases Nat.lt_or_ge k (widG g) with h3 | h3
   ·have c1:cntB (proB g m) (k+1)=cntB (proB g m) k+(if proB g m k=true then 1 else 0):=rfl
    have c2:cntB (conB g m) (k+1)=cntB (conB g m) k+(if conB g m k=true then 1 else 0):=rfl
    obtain ⟨p,hp⟩:∃ p,p=proB g m k:=⟨_,rfl⟩
    obtain ⟨q,hq⟩:∃ q,q=conB g m k:=⟨_,rfl⟩
    rw [← hp] at c1
    rw [← hq] at c2
    unfold proB at hp
    unfold conB at hq
    have fin:∀ m2:List (D × D),True:=fun _=>trivial
    simp (config:={maxSteps:=1000000}) (disch:=((try simp only [awL]);omega)) only [QR,QS,QT,QU,QV,QW,QX,QY,QZ,Q0,Q1,Q2,gl,↓awU,awV,awF,Qa,Qb,Qc,Qd,forall_const,↓reduceIte,↓reduceDIte,↓Qe,Qf,Qg,Qh,Qi,Qj,Qk,Ql,Qm,Qn,Qo,Qp,Qq,Qr,Qs,implies_true,Qt,Qu,Qv,Qw,Qx,Qy,Qz,QA,QB,QC,QD,QE,QF,QG,QH,QI,QJ,QK,QL,QM,QN,QO,QP,QQ]
    refine CallC.pure (numbers_spec hG g false hg k (by omega) m (by omega)) ?_
    generalize cntB (proB g m) k=x1 at *
    generalize cntB (conB g m) k=x2 at *
    simp (config:={maxSteps:=1000000}) (disch:=((try simp only [awL]);omega)) only [QR,QS,QT,QU,QV,QW,QX,QY,QZ,Q0,Q1,Q2,gl,↓awU,awV,awF,Qa,Qb,Qc,Qd,forall_const,↓reduceIte,↓reduceDIte,↓Qe,Qf,Qg,Qh,Qi,Qj,Qk,Ql,Qm,Qn,Qo,Qp,Qq,Qr,Qs,implies_true,Qt,Qu,Qv,Qw,Qx,Qy,Qz,QA,QB,QC,QD,QE,QF,QG,QH,QI,QJ,QK,QL,QM,QN,QO,QP,QQ]
    refine CallC.pure (gat_spec g false hg.w 0 k (by omega) (by omega) (by omega) (by omega)) ?_
    by_cases h0:m=0
    ·subst h0
     rw [if_pos rfl] at hp hq
     cases e1:numsB g k 0
     ·rw [e1,Bool.false_and] at hp
      simp (config:={maxSteps:=1000000}) (disch:=((try simp only [awL]);omega)) only [QR,QS,QT,QU,QV,QW,QX,QY,QZ,Q0,Q1,Q2,gl,↓awU,awV,awF,Qa,Qb,Qc,Qd,forall_const,↓reduceIte,↓reduceDIte,↓Qe,Qf,Qg,Qh,Qi,Qj,Qk,Ql,Qm,Qn,Qo,Qp,Qq,Qr,Qs,implies_true,Qt,Qu,Qv,Qw,Qx,Qy,Qz,QA,QB,QC,QD,QE,QF,QG,QH,QI,QJ,QK,QL,QM,QN,QO,QP,QQ]
      refine CallC.pure (name_spec hG (atG g 0 k) (hg.at _ _)) ?_
      cases e2:nameB (atG g 0 k)
      ·rw [e2,Bool.false_and] at hq
       subst hp hq
       simp (config:={maxSteps:=1000000}) (disch:=((try simp only [awL]);omega)) only [QR,QS,QT,QU,QV,QW,QX,QY,QZ,Q0,Q1,Q2,gl,↓awU,awV,awF,Qa,Qb,Qc,Qd,forall_const,↓reduceIte,↓reduceDIte,↓Qe,Qf,Qg,Qh,Qi,Qj,Qk,Ql,Qm,Qn,Qo,Qp,Qq,Qr,Qs,implies_true,Qt,Qu,Qv,Qw,Qx,Qy,Qz,QA,QB,QC,QD,QE,QF,QG,QH,QI,QJ,QK,QL,QM,QN,QO,QP,QQ]
       exact ⟨(k+1,mp),EvI.z (by omega) hm1,by simp only;omega,⟨[some 0,some 1,some 2,some 3],rfl,by simp,by simp [setsA,keepA,SWeak,AWeak],by simp [HWeak,BWeak,SWeak,AWeak,c1,c2]⟩⟩
      ·rw [e2,Bool.true_and] at hq
       simp (config:={maxSteps:=1000000}) (disch:=((try simp only [awL]);omega)) only [QR,QS,QT,QU,QV,QW,QX,QY,QZ,Q0,Q1,Q2,gl,↓awU,awV,awF,Qa,Qb,Qc,Qd,forall_const,↓reduceIte,↓reduceDIte,↓Qe,Qf,Qg,Qh,Qi,Qj,Qk,Ql,Qm,Qn,Qo,Qp,Qq,Qr,Qs,implies_true,Qt,Qu,Qv,Qw,Qx,Qy,Qz,QA,QB,QC,QD,QE,QF,QG,QH,QI,QJ,QK,QL,QM,QN,QO,QP,QQ]
       refine CallC.pure (numbers_spec hG g false hg k (by omega) 1 (by omega)) ?_
       cases e3:numsB g k 1
       ·rw [e3] at hq
        subst hp hq
        simp (config:={maxSteps:=1000000}) (disch:=((try simp only [awL]);omega)) only [QR,QS,QT,QU,QV,QW,QX,QY,QZ,Q0,Q1,Q2,gl,↓awU,awV,awF,Qa,Qb,Qc,Qd,forall_const,↓reduceIte,↓reduceDIte,↓Qe,Qf,Qg,Qh,Qi,Qj,Qk,Ql,Qm,Qn,Qo,Qp,Qq,Qr,Qs,implies_true,Qt,Qu,Qv,Qw,Qx,Qy,Qz,QA,QB,QC,QD,QE,QF,QG,QH,QI,QJ,QK,QL,QM,QN,QO,QP,QQ]
        exact ⟨(k+1,mp),EvI.z (by omega) hm1,by simp only;omega,⟨[some 0,some 1,some 2,some 3],rfl,by simp,by simp [setsA,keepA,SWeak,AWeak],by simp [HWeak,BWeak,SWeak,AWeak,c1,c2]⟩⟩
       ·rw [e3] at hq
        subst hp hq
        simp (config:={maxSteps:=1000000}) (disch:=((try simp only [awL]);omega)) only [QR,QS,QT,QU,QV,QW,QX,QY,QZ,Q0,Q1,Q2,gl,↓awU,awV,awF,Qa,Qb,Qc,Qd,forall_const,↓reduceIte,↓reduceDIte,↓Qe,Qf,Qg,Qh,Qi,Qj,Qk,Ql,Qm,Qn,Qo,Qp,Qq,Qr,Qs,implies_true,Qt,Qu,Qv,Qw,Qx,Qy,Qz,QA,QB,QC,QD,QE,QF,QG,QH,QI,QJ,QK,QL,QM,QN,QO,QP,QQ]
        exact ⟨(k+1,mp),EvI.z (by omega) hm1,by simp only;omega,⟨[some 0,some 1,some 2,some 3],rfl,by simp,by simp [setsA,keepA,SWeak,AWeak],by simp [HWeak,BWeak,SWeak,AWeak,c1,c2]⟩⟩
     ·rw [e1,Bool.true_and] at hp
      simp (config:={maxSteps:=1000000}) (disch:=((try simp only [awL]);omega)) only [QR,QS,QT,QU,QV,QW,QX,QY,QZ,Q0,Q1,Q2,gl,↓awU,awV,awF,Qa,Qb,Qc,Qd,forall_const,↓reduceIte,↓reduceDIte,↓Qe,Qf,Qg,Qh,Qi,Qj,Qk,Ql,Qm,Qn,Qo,Qp,Qq,Qr,Qs,implies_true,Qt,Qu,Qv,Qw,Qx,Qy,Qz,QA,QB,QC,QD,QE,QF,QG,QH,QI,QJ,QK,QL,QM,QN,QO,QP,QQ]
      refine CallC.pure (number_spec9 hG (atG g 0 k) (hg.at _ _)) ?_
      cases e4:numB (atG g 0 k)
      ·rw [e4] at hp
       simp (config:={maxSteps:=1000000}) (disch:=((try simp only [awL]);omega)) only [QR,QS,QT,QU,QV,QW,QX,QY,QZ,Q0,Q1,Q2,gl,↓awU,awV,awF,Qa,Qb,Qc,Qd,forall_const,↓reduceIte,↓reduceDIte,↓Qe,Qf,Qg,Qh,Qi,Qj,Qk,Ql,Qm,Qn,Qo,Qp,Qq,Qr,Qs,implies_true,Qt,Qu,Qv,Qw,Qx,Qy,Qz,QA,QB,QC,QD,QE,QF,QG,QH,QI,QJ,QK,QL,QM,QN,QO,QP,QQ]
       refine CallC.pure (name_spec hG (atG g 0 k) (hg.at _ _)) ?_
       cases e2:nameB (atG g 0 k)
       ·rw [e2,Bool.false_and] at hq
        subst hp hq
        simp (config:={maxSteps:=1000000}) (disch:=((try simp only [awL]);omega)) only [QR,QS,QT,QU,QV,QW,QX,QY,QZ,Q0,Q1,Q2,gl,↓awU,awV,awF,Qa,Qb,Qc,Qd,forall_const,↓reduceIte,↓reduceDIte,↓Qe,Qf,Qg,Qh,Qi,Qj,Qk,Ql,Qm,Qn,Qo,Qp,Qq,Qr,Qs,implies_true,Qt,Qu,Qv,Qw,Qx,Qy,Qz,QA,QB,QC,QD,QE,QF,QG,QH,QI,QJ,QK,QL,QM,QN,QO,QP,QQ]
        exact ⟨(k+1,mp),EvI.z (by omega) hm1,by simp only;omega,⟨[some 0,some 1,some 2,some 3],rfl,by simp,by simp [setsA,keepA,SWeak,AWeak],by simp [HWeak,BWeak,SWeak,AWeak,c1,c2]⟩⟩
       ·rw [e2,Bool.true_and] at hq
        simp (config:={maxSteps:=1000000}) (disch:=((try simp only [awL]);omega)) only [QR,QS,QT,QU,QV,QW,QX,QY,QZ,Q0,Q1,Q2,gl,↓awU,awV,awF,Qa,Qb,Qc,Qd,forall_const,↓reduceIte,↓reduceDIte,↓Qe,Qf,Qg,Qh,Qi,Qj,Qk,Ql,Qm,Qn,Qo,Qp,Qq,Qr,Qs,implies_true,Qt,Qu,Qv,Qw,Qx,Qy,Qz,QA,QB,QC,QD,QE,QF,QG,QH,QI,QJ,QK,QL,QM,QN,QO,QP,QQ]
        refine CallC.pure (numbers_spec hG g false hg k (by omega) 1 (by omega)) ?_
        cases e3:numsB g k 1
        ·rw [e3] at hq
         subst hp hq
         simp (config:={maxSteps:=1000000}) (disch:=((try simp only [awL]);omega)) only [QR,QS,QT,QU,QV,QW,QX,QY,QZ,Q0,Q1,Q2,gl,↓awU,awV,awF,Qa,Qb,Qc,Qd,forall_const,↓reduceIte,↓reduceDIte,↓Qe,Qf,Qg,Qh,Qi,Qj,Qk,Ql,Qm,Qn,Qo,Qp,Qq,Qr,Qs,implies_true,Qt,Qu,Qv,Qw,Qx,Qy,Qz,QA,QB,QC,QD,QE,QF,QG,QH,QI,QJ,QK,QL,QM,QN,QO,QP,QQ]
         exact ⟨(k+1,mp),EvI.z (by omega) hm1,by simp only;omega,⟨[some 0,some 1,some 2,some 3],rfl,by simp,by simp [setsA,keepA,SWeak,AWeak],by simp [HWeak,BWeak,SWeak,AWeak,c1,c2]⟩⟩
        ·rw [e3] at hq
         subst hp hq
         simp (config:={maxSteps:=1000000}) (disch:=((try simp only [awL]);omega)) only [QR,QS,QT,QU,QV,QW,QX,QY,QZ,Q0,Q1,Q2,gl,↓awU,awV,awF,Qa,Qb,Qc,Qd,forall_const,↓reduceIte,↓reduceDIte,↓Qe,Qf,Qg,Qh,Qi,Qj,Qk,Ql,Qm,Qn,Qo,Qp,Qq,Qr,Qs,implies_true,Qt,Qu,Qv,Qw,Qx,Qy,Qz,QA,QB,QC,QD,QE,QF,QG,QH,QI,QJ,QK,QL,QM,QN,QO,QP,QQ]
         exact ⟨(k+1,mp),EvI.z (by omega) hm1,by simp only;omega,⟨[some 0,some 1,some 2,some 3],rfl,by simp,by simp [setsA,keepA,SWeak,AWeak],by simp [HWeak,BWeak,SWeak,AWeak,c1,c2]⟩⟩
      ·rw [e4] at hp
       simp (config:={maxSteps:=1000000}) (disch:=((try simp only [awL]);omega)) only [QR,QS,QT,QU,QV,QW,QX,QY,QZ,Q0,Q1,Q2,gl,↓awU,awV,awF,Qa,Qb,Qc,Qd,forall_const,↓reduceIte,↓reduceDIte,↓Qe,Qf,Qg,Qh,Qi,Qj,Qk,Ql,Qm,Qn,Qo,Qp,Qq,Qr,Qs,implies_true,Qt,Qu,Qv,Qw,Qx,Qy,Qz,QA,QB,QC,QD,QE,QF,QG,QH,QI,QJ,QK,QL,QM,QN,QO,QP,QQ]
       refine CallC.pure (name_spec hG (atG g 0 k) (hg.at _ _)) ?_
       cases e2:nameB (atG g 0 k)
       ·rw [e2,Bool.false_and] at hq
        subst hp hq
        simp (config:={maxSteps:=1000000}) (disch:=((try simp only [awL]);omega)) only [QR,QS,QT,QU,QV,QW,QX,QY,QZ,Q0,Q1,Q2,gl,↓awU,awV,awF,Qa,Qb,Qc,Qd,forall_const,↓reduceIte,↓reduceDIte,↓Qe,Qf,Qg,Qh,Qi,Qj,Qk,Ql,Qm,Qn,Qo,Qp,Qq,Qr,Qs,implies_true,Qt,Qu,Qv,Qw,Qx,Qy,Qz,QA,QB,QC,QD,QE,QF,QG,QH,QI,QJ,QK,QL,QM,QN,QO,QP,QQ]
        exact ⟨(k+1,mp),EvI.z (by omega) hm1,by simp only;omega,⟨[some 0,some 1,some 2,some 3],rfl,by simp,by simp [setsA,keepA,SWeak,AWeak],by simp [HWeak,BWeak,SWeak,AWeak,c1,c2]⟩⟩
       ·rw [e2,Bool.true_and] at hq
        simp (config:={maxSteps:=1000000}) (disch:=((try simp only [awL]);omega)) only [QR,QS,QT,QU,QV,QW,QX,QY,QZ,Q0,Q1,Q2,gl,↓awU,awV,awF,Qa,Qb,Qc,Qd,forall_const,↓reduceIte,↓reduceDIte,↓Qe,Qf,Qg,Qh,Qi,Qj,Qk,Ql,Qm,Qn,Qo,Qp,Qq,Qr,Qs,implies_true,Qt,Qu,Qv,Qw,Qx,Qy,Qz,QA,QB,QC,QD,QE,QF,QG,QH,QI,QJ,QK,QL,QM,QN,QO,QP,QQ]
        refine CallC.pure (numbers_spec hG g false hg k (by omega) 1 (by omega)) ?_
        cases e3:numsB g k 1
        ·rw [e3] at hq
         subst hp hq
         simp (config:={maxSteps:=1000000}) (disch:=((try simp only [awL]);omega)) only [QR,QS,QT,QU,QV,QW,QX,QY,QZ,Q0,Q1,Q2,gl,↓awU,awV,awF,Qa,Qb,Qc,Qd,forall_const,↓reduceIte,↓reduceDIte,↓Qe,Qf,Qg,Qh,Qi,Qj,Qk,Ql,Qm,Qn,Qo,Qp,Qq,Qr,Qs,implies_true,Qt,Qu,Qv,Qw,Qx,Qy,Qz,QA,QB,QC,QD,QE,QF,QG,QH,QI,QJ,QK,QL,QM,QN,QO,QP,QQ]
         exact ⟨(k+1,mp),EvI.z (by omega) hm1,by simp only;omega,⟨[some 0,some 1,some 2,some 3],rfl,by simp,by simp [setsA,keepA,SWeak,AWeak],by simp [HWeak,BWeak,SWeak,AWeak,c1,c2]⟩⟩
        ·rw [e3] at hq
         subst hp hq
         simp (config:={maxSteps:=1000000}) (disch:=((try simp only [awL]);omega)) only [QR,QS,QT,QU,QV,QW,QX,QY,QZ,Q0,Q1,Q2,gl,↓awU,awV,awF,Qa,Qb,Qc,Qd,forall_const,↓reduceIte,↓reduceDIte,↓Qe,Qf,Qg,Qh,Qi,Qj,Qk,Ql,Qm,Qn,Qo,Qp,Qq,Qr,Qs,implies_true,Qt,Qu,Qv,Qw,Qx,Qy,Qz,QA,QB,QC,QD,QE,QF,QG,QH,QI,QJ,QK,QL,QM,QN,QO,QP,QQ]
         exact ⟨(k+1,mp),EvI.z (by omega) hm1,by simp only;omega,⟨[some 0,some 1,some 2,some 3],rfl,by simp,by simp [setsA,keepA,SWeak,AWeak],by simp [HWeak,BWeak,SWeak,AWeak,c1,c2]⟩⟩
    ·skip
     rw [if_neg h0] at hp hq
     have hm3:=hm2.resolve_left h0
     obtain ⟨l,hl0⟩:∃ l,l=Lib.trimB (atG g ((m:Int) - 1) k) 32:=⟨_,rfl⟩
     have tl:=trimB_len (atG g ((m:Int) - 1) k)
     have al:=hg.at ((m:Int) - 1) k
     rw [← hl0] at hp hq tl
     have hl:=hm3 l
     simp (config:={maxSteps:=1000000}) (disch:=((try simp only [awL]);omega)) only [QR,QS,QT,QU,QV,QW,QX,QY,QZ,Q0,Q1,Q2,gl,↓awU,awV,awF,Qa,Qb,Qc,Qd,forall_const,↓reduceIte,↓reduceDIte,↓Qe,Qf,Qg,Qh,Qi,Qj,Qk,Ql,Qm,Qn,Qo,Qp,Qq,Qr,Qs,implies_true,Qt,Qu,Qv,Qw,Qx,Qy,Qz,QA,QB,QC,QD,QE,QF,QG,QH,QI,QJ,QK,QL,QM,QN,QO,QP,QQ]
     refine CallC.pure (gat_spec g false hg.w ((m:Int) - 1) k (by omega) (by omega) (by omega) (by omega)) ?_
     simp (config:={maxSteps:=1000000}) (disch:=((try simp only [awL]);omega)) only [QR,QS,QT,QU,QV,QW,QX,QY,QZ,Q0,Q1,Q2,gl,↓awU,awV,awF,Qa,Qb,Qc,Qd,forall_const,↓reduceIte,↓reduceDIte,↓Qe,Qf,Qg,Qh,Qi,Qj,Qk,Ql,Qm,Qn,Qo,Qp,Qq,Qr,Qs,implies_true,Qt,Qu,Qv,Qw,Qx,Qy,Qz,QA,QB,QC,QD,QE,QF,QG,QH,QI,QJ,QK,QL,QM,QN,QO,QP,QQ]
     refine CallC.pure (ttrim_spec (atG g ((m:Int) - 1) k) (by omega)) ?_
     rw [← hl0]
     cases e1:numsB g k m
     ·rw [e1,Bool.false_and] at hp
      simp (config:={maxSteps:=1000000}) (disch:=((try simp only [awL]);omega)) only [QR,QS,QT,QU,QV,QW,QX,QY,QZ,Q0,Q1,Q2,gl,↓awU,awV,awF,Qa,Qb,Qc,Qd,forall_const,↓reduceIte,↓reduceDIte,↓Qe,Qf,Qg,Qh,Qi,Qj,Qk,Ql,Qm,Qn,Qo,Qp,Qq,Qr,Qs,implies_true,Qt,Qu,Qv,Qw,Qx,Qy,Qz,QA,QB,QC,QD,QE,QF,QG,QH,QI,QJ,QK,QL,QM,QN,QO,QP,QQ]
      refine CallC.pure (name_spec hG l (by omega)) ?_
      cases e2:nameB l
      ·rw [e2,Bool.not_false,Bool.true_or] at hq
       have hin:True:=trivial
       subst hp hq
       simp (config:={maxSteps:=1000000}) (disch:=((try simp only [awL]);omega)) only [QR,QS,QT,QU,QV,QW,QX,QY,QZ,Q0,Q1,Q2,gl,ok1,hl,hin,↓awU,awV,awF,Qa,Qb,Qc,Qd,forall_const,↓reduceIte,↓reduceDIte,↓Qe,Qf,Qg,Qh,Qi,Qj,Qk,Ql,Qm,Qn,Qo,Qp,Qq,Qr,Qs,implies_true,Qt,Qu,Qv,Qw,Qx,Qy,Qz,QA,QB,QC,QD,QE,QF,QG,QH,QI,QJ,QK,QL,QM,QN,QO,QP,QQ]
       exact ⟨(k+1,updE mp (S l) (.bool true)),EvI.s (by omega) hm1 hm3 hl0,by simp only;omega,⟨[some 0,some 1,some 2,some 3],rfl,by simp,by simp [setsA,keepA,SWeak,AWeak],by simp [HWeak,BWeak,SWeak,AWeak,c1,c2]⟩⟩
      ·rw [e2,Bool.not_true,Bool.false_or] at hq
       cases hin:decide (l∈lastR g m k)
       ·rw [hin] at hq hl
        subst hp hq
        simp (config:={maxSteps:=1000000}) (disch:=((try simp only [awL]);omega)) only [QR,QS,QT,QU,QV,QW,QX,QY,QZ,Q0,Q1,Q2,gl,ok1,hl,hin,↓awU,awV,awF,Qa,Qb,Qc,Qd,forall_const,↓reduceIte,↓reduceDIte,↓Qe,Qf,Qg,Qh,Qi,Qj,Qk,Ql,Qm,Qn,Qo,Qp,Qq,Qr,Qs,implies_true,Qt,Qu,Qv,Qw,Qx,Qy,Qz,QA,QB,QC,QD,QE,QF,QG,QH,QI,QJ,QK,QL,QM,QN,QO,QP,QQ]
        exact ⟨(k+1,updE mp (S l) (.bool true)),EvI.s (by omega) hm1 hm3 hl0,by simp only;omega,⟨[some 0,some 1,some 2,some 3],rfl,by simp,by simp [setsA,keepA,SWeak,AWeak],by simp [HWeak,BWeak,SWeak,AWeak,c1,c2]⟩⟩
       ·rw [hin] at hq hl
        subst hp hq
        simp (config:={maxSteps:=1000000}) (disch:=((try simp only [awL]);omega)) only [QR,QS,QT,QU,QV,QW,QX,QY,QZ,Q0,Q1,Q2,gl,ok1,hl,hin,↓awU,awV,awF,Qa,Qb,Qc,Qd,forall_const,↓reduceIte,↓reduceDIte,↓Qe,Qf,Qg,Qh,Qi,Qj,Qk,Ql,Qm,Qn,Qo,Qp,Qq,Qr,Qs,implies_true,Qt,Qu,Qv,Qw,Qx,Qy,Qz,QA,QB,QC,QD,QE,QF,QG,QH,QI,QJ,QK,QL,QM,QN,QO,QP,QQ]
        exact ⟨(k+1,updE mp (S l) (.bool true)),EvI.s (by omega) hm1 hm3 hl0,by simp only;omega,⟨[some 0,some 1,some 2,some 3],rfl,by simp,by simp [setsA,keepA,SWeak,AWeak],by simp [HWeak,BWeak,SWeak,AWeak,c1,c2]⟩⟩
     ·rw [e1,Bool.true_and] at hp
      simp (config:={maxSteps:=1000000}) (disch:=((try simp only [awL]);omega)) only [QR,QS,QT,QU,QV,QW,QX,QY,QZ,Q0,Q1,Q2,gl,↓awU,awV,awF,Qa,Qb,Qc,Qd,forall_const,↓reduceIte,↓reduceDIte,↓Qe,Qf,Qg,Qh,Qi,Qj,Qk,Ql,Qm,Qn,Qo,Qp,Qq,Qr,Qs,implies_true,Qt,Qu,Qv,Qw,Qx,Qy,Qz,QA,QB,QC,QD,QE,QF,QG,QH,QI,QJ,QK,QL,QM,QN,QO,QP,QQ]
      refine CallC.pure (name_spec hG l (by omega)) ?_
      simp (config:={maxSteps:=1000000}) (disch:=((try simp only [awL]);omega)) only [QR,QS,QT,QU,QV,QW,QX,QY,QZ,Q0,Q1,Q2,gl,↓awU,awV,awF,Qa,Qb,Qc,Qd,forall_const,↓reduceIte,↓reduceDIte,↓Qe,Qf,Qg,Qh,Qi,Qj,Qk,Ql,Qm,Qn,Qo,Qp,Qq,Qr,Qs,implies_true,Qt,Qu,Qv,Qw,Qx,Qy,Qz,QA,QB,QC,QD,QE,QF,QG,QH,QI,QJ,QK,QL,QM,QN,QO,QP,QQ]
      refine CallC.pure (name_spec hG l (by omega)) ?_
      cases e2:nameB l
      ·rw [e2,Bool.not_false,Bool.true_or] at hq
       rw [e2] at hp
       have hin:True:=trivial
       subst hp hq
       simp (config:={maxSteps:=1000000}) (disch:=((try simp only [awL]);omega)) only [QR,QS,QT,QU,QV,QW,QX,QY,QZ,Q0,Q1,Q2,gl,ok1,hl,hin,↓awU,awV,awF,Qa,Qb,Qc,Qd,forall_const,↓reduceIte,↓reduceDIte,↓Qe,Qf,Qg,Qh,Qi,Qj,Qk,Ql,Qm,Qn,Qo,Qp,Qq,Qr,Qs,implies_true,Qt,Qu,Qv,Qw,Qx,Qy,Qz,QA,QB,QC,QD,QE,QF,QG,QH,QI,QJ,QK,QL,QM,QN,QO,QP,QQ]
       exact ⟨(k+1,updE mp (S l) (.bool true)),EvI.s (by omega) hm1 hm3 hl0,by simp only;omega,⟨[some 0,some 1,some 2,some 3],rfl,by simp,by simp [setsA,keepA,SWeak,AWeak],by simp [HWeak,BWeak,SWeak,AWeak,c1,c2]⟩⟩
      ·rw [e2,Bool.not_true,Bool.false_or] at hq
       rw [e2] at hp
       cases hin:decide (l∈lastR g m k)
       ·rw [hin] at hq hl
        subst hp hq
        simp (config:={maxSteps:=1000000}) (disch:=((try simp only [awL]);omega)) only [QR,QS,QT,QU,QV,QW,QX,QY,QZ,Q0,Q1,Q2,gl,ok1,hl,hin,↓awU,awV,awF,Qa,Qb,Qc,Qd,forall_const,↓reduceIte,↓reduceDIte,↓Qe,Qf,Qg,Qh,Qi,Qj,Qk,Ql,Qm,Qn,Qo,Qp,Qq,Qr,Qs,implies_true,Qt,Qu,Qv,Qw,Qx,Qy,Qz,QA,QB,QC,QD,QE,QF,QG,QH,QI,QJ,QK,QL,QM,QN,QO,QP,QQ]
        exact ⟨(k+1,updE mp (S l) (.bool true)),EvI.s (by omega) hm1 hm3 hl0,by simp only;omega,⟨[some 0,some 1,some 2,some 3],rfl,by simp,by simp [setsA,keepA,SWeak,AWeak],by simp [HWeak,BWeak,SWeak,AWeak,c1,c2]⟩⟩
       ·rw [hin] at hq hl
        subst hp hq
        simp (config:={maxSteps:=1000000}) (disch:=((try simp only [awL]);omega)) only [QR,QS,QT,QU,QV,QW,QX,QY,QZ,Q0,Q1,Q2,gl,ok1,hl,hin,↓awU,awV,awF,Qa,Qb,Qc,Qd,forall_const,↓reduceIte,↓reduceDIte,↓Qe,Qf,Qg,Qh,Qi,Qj,Qk,Ql,Qm,Qn,Qo,Qp,Qq,Qr,Qs,implies_true,Qt,Qu,Qv,Qw,Qx,Qy,Qz,QA,QB,QC,QD,QE,QF,QG,QH,QI,QJ,QK,QL,QM,QN,QO,QP,QQ]
        exact ⟨(k+1,updE mp (S l) (.bool true)),EvI.s (by omega) hm1 hm3 hl0,by simp only;omega,⟨[some 0,some 1,some 2,some 3],rfl,by simp,by simp [setsA,keepA,SWeak,AWeak],by simp [HWeak,BWeak,SWeak,AWeak,c1,c2]⟩⟩
   ·subst hr
    have ek:k=widG g:=by omega
    subst ek
    simp (config:={maxSteps:=1000000}) (disch:=((try simp only [awL]);omega)) only [QR,QS,QT,QU,QV,QW,QX,QY,QZ,Q0,Q1,Q2,gl,↓awU,awV,awF,Qa,Qb,Qc,Qd,forall_const,↓reduceIte,↓reduceDIte,↓Qe,Qf,Qg,Qh,Qi,Qj,Qk,Ql,Qm,Qn,Qo,Qp,Qq,Qr,Qs,implies_true,Qt,Qu,Qv,Qw,Qx,Qy,Qz,QA,QB,QC,QD,QE,QF,QG,QH,QI,QJ,QK,QL,QM,QN,QO,QP,QQ]
    first | done | rfl
end Go.Proofs.YthbnileadffpiaaGreatDoor
namespace Go.Proofs.YthbnileadffpiaaGreatDoor
open Go Go.Proofs Go.Abs
variable {G:Globals}
theorem nameB_t (s:List UInt8):nameB s=(!decide (Lib.trimB s 32=[]) && !numB (Lib.trimB s 32)):=by rw [nameB,numB_trim]
theorem nameB_i (s:List UInt8):nameB (Lib.trimB s 32)=nameB s:=by rw [nameB,nameB,trim_idem,numB_trim]
set_option maxHeartbeats 16000000 in
set_option maxRecDepth 100000 in
theorem revidence_spec (hI:HI G) (g:List Row) (full:Bool) (hg:okGrid g) (n:Int) (n1:-9223372036854775808≤n) (n2:n≤9223372036854775807) :
  Ctr Tryz.prog G 15 [.d (.agg [Gr g full]),.d (.int .i64 n)] [] (.d (.agg (evG g n).cells)) []:=by
 obtain ⟨r,hr⟩:∃ r,r=evG g n:=⟨_,rfl⟩
 rw [← hr]
 unfold evG at hr
 refine Ctr.pure (M:=M0) hmix Tryz.func15 rfl go15 ?_
 have gl:=@rowsD_length g
 have hgl:=hg.1
 have hw:=hg.wid
 rcases (by omega:n<0∨3<n∨(0≤n∧n≤3∧(g.length:Int)<n)∨(0≤n∧n≤3∧n≤g.length)) with h | h | h | h
 ·rw [if_pos (by omega)] at hr
  subst hr
  simp (config:={maxSteps:=1000000}) (disch:=((try simp only [awL]);omega)) only [QR,QS,QT,QU,QV,QW,QX,QY,QZ,Q0,Q1,Q2,gl,Tryz.f15,↓awU,awV,awF,Qa,Qb,Qc,Qd,forall_const,↓reduceIte,↓reduceDIte,↓Qe,Qf,Qg,Qh,Qi,Qj,Qk,Ql,Qm,Qn,Qo,Qp,Qq,Qr,Qs,implies_true,Qt,Qu,Qv,Qw,Qx,Qy,Qz,QA,QB,QC,QD,QE,QF,QG,QH,QI,QJ,QK,QL,QM,QN,QO,QP,QQ]
  first | done | rfl
 ·rw [if_pos (by omega)] at hr
  subst hr
  simp (config:={maxSteps:=1000000}) (disch:=((try simp only [awL]);omega)) only [QR,QS,QT,QU,QV,QW,QX,QY,QZ,Q0,Q1,Q2,gl,Tryz.f15,↓awU,awV,awF,Qa,Qb,Qc,Qd,forall_const,↓reduceIte,↓reduceDIte,↓Qe,Qf,Qg,Qh,Qi,Qj,Qk,Ql,Qm,Qn,Qo,Qp,Qq,Qr,Qs,implies_true,Qt,Qu,Qv,Qw,Qx,Qy,Qz,QA,QB,QC,QD,QE,QF,QG,QH,QI,QJ,QK,QL,QM,QN,QO,QP,QQ]
  first | done | rfl
 ·rw [if_pos (by omega)] at hr
  subst hr
  simp (config:={maxSteps:=1000000}) (disch:=((try simp only [awL]);omega)) only [QR,QS,QT,QU,QV,QW,QX,QY,QZ,Q0,Q1,Q2,gl,Tryz.f15,↓awU,awV,awF,Qa,Qb,Qc,Qd,forall_const,↓reduceIte,↓reduceDIte,↓Qe,Qf,Qg,Qh,Qi,Qj,Qk,Ql,Qm,Qn,Qo,Qp,Qq,Qr,Qs,implies_true,Qt,Qu,Qv,Qw,Qx,Qy,Qz,QA,QB,QC,QD,QE,QF,QG,QH,QI,QJ,QK,QL,QM,QN,QO,QP,QQ]
  first | done | rfl
 ·obtain ⟨m,rfl⟩:∃ m:Nat,n=m:=⟨n.toNat,by omega⟩
  rw [if_neg (by omega),Int.toNat_natCast] at hr
  simp (config:={maxSteps:=1000000}) (disch:=((try simp only [awL]);omega)) only [QR,QS,QT,QU,QV,QW,QX,QY,QZ,Q0,Q1,Q2,gl,Tryz.f15,↓awU,awV,awF,Qa,Qb,Qc,Qd,forall_const,↓reduceIte,↓reduceDIte,↓Qe,Qf,Qg,Qh,Qi,Qj,Qk,Ql,Qm,Qn,Qo,Qp,Qq,Qr,Qs,implies_true,Qt,Qu,Qv,Qw,Qx,Qy,Qz,QA,QB,QC,QD,QE,QF,QG,QH,QI,QJ,QK,QL,QM,QN,QO,QP,QQ]
  refine CallC.pure (hI m (by omega)) ?_
  simp (config:={maxSteps:=1000000}) (disch:=((try simp only [awL]);omega)) only [QR,QS,QT,QU,QV,QW,QX,QY,QZ,Q0,Q1,Q2,gl,↓awU,awV,awF,Qa,Qb,Qc,Qd,forall_const,↓reduceIte,↓reduceDIte,↓Qe,Qf,Qg,Qh,Qi,Qj,Qk,Ql,Qm,Qn,Qo,Qp,Qq,Qr,Qs,implies_true,Qt,Qu,Qv,Qw,Qx,Qy,Qz,QA,QB,QC,QD,QE,QF,QG,QH,QI,QJ,QK,QL,QM,QN,QO,QP,QQ]
  refine LoopC.fr 54 (fun k=>widG g - k) (fun k=>[(6,.d (.int .i64 (k:Nat)))])
   (fun k=>[.box [.d (Gr g full)],.box [.d (.str ByteArray.empty),.d (.int .i64 0),.d (.int .i64 0)],.box [.d (S (Lib.decDigits m)),.d (.int .i64 (cntB (proB g m) k:Nat)),.d (.int .i64 (cntB (conB g m) k:Nat))]])
   (fun k=>k≤widG g) 0 (Nat.zero_le _) ?_ ?_
  ·exact ⟨[some 0,some 1,some 2],rfl,by simp,by simp [setsA,keepA,SWeak,AWeak],by simp [HWeak,BWeak,SWeak,AWeak,cntB]⟩
  ·intro k hk
   have le1:=cntB_le (proB g m) k
   have le2:=cntB_le (conB g m) k
   simp only [awK,Nat.reduceMod,Nat.reduceDiv,reduceIte]
   simp (config:={maxSteps:=1000000}) (disch:=((try simp only [awL]);omega)) only [QR,QS,QT,QU,QV,QW,QX,QY,QZ,Q0,Q1,Q2,gl,↓awU,awV,awF,Qa,Qb,Qc,Qd,forall_const,↓reduceIte,↓reduceDIte,↓Qe,Qf,Qg,Qh,Qi,Qj,Qk,Ql,Qm,Qn,Qo,Qp,Qq,Qr,Qs,implies_true,Qt,Qu,Qv,Qw,Qx,Qy,Qz,QA,QB,QC,QD,QE,QF,QG,QH,QI,QJ,QK,QL,QM,QN,QO,QP,QQ]
   refine CallC.pure (rwidth_spec g false hg.w) ?_
   rcases Nat.lt_or_ge k (widG g) with h3 | h3
   ·have c1:cntB (proB g m) (k+1)=cntB (proB g m) k+(if proB g m k=true then 1 else 0):=rfl
    have c2:cntB (conB g m) (k+1)=cntB (conB g m) k+(if conB g m k=true then 1 else 0):=rfl
    obtain ⟨p,hp⟩:∃ p,p=proB g m k:=⟨_,rfl⟩
    obtain ⟨q,hq⟩:∃ q,q=conB g m k:=⟨_,rfl⟩
    rw [← hp] at c1
    rw [← hq] at c2
    unfold proB at hp
    unfold conB at hq
    generalize cntB (proB g m) k=x1 at *
    generalize cntB (conB g m) k=x2 at *
    by_cases h0:m=0
    ·subst h0
     rw [if_pos rfl] at hp hq
     simp (config:={maxSteps:=1000000}) (disch:=((try simp only [awL]);omega)) only [QR,QS,QT,QU,QV,QW,QX,QY,QZ,Q0,Q1,Q2,gl,↓awU,awV,awF,Qa,Qb,Qc,Qd,forall_const,↓reduceIte,↓reduceDIte,↓Qe,Qf,Qg,Qh,Qi,Qj,Qk,Ql,Qm,Qn,Qo,Qp,Qq,Qr,Qs,implies_true,Qt,Qu,Qv,Qw,Qx,Qy,Qz,QA,QB,QC,QD,QE,QF,QG,QH,QI,QJ,QK,QL,QM,QN,QO,QP,QQ]
     have al:=hg.at 0 k
     have tl:=trimB_len (atG g 0 k)
     refine CallC.pure (rat_spec g false hg.w 0 k (by omega) (by omega) (by omega) (by omega) (by omega)) ?_
     rw [← numB_trim] at hp
     rw [nameB_t] at hq
     generalize Lib.trimB (atG g 0 k) 32=l at *
     simp (config:={maxSteps:=1000000}) (disch:=((try simp only [awL]);omega)) only [QR,QS,QT,QU,QV,QW,QX,QY,QZ,Q0,Q1,Q2,gl,↓awU,awV,awF,Qa,Qb,Qc,Qd,forall_const,↓reduceIte,↓reduceDIte,↓Qe,Qf,Qg,Qh,Qi,Qj,Qk,Ql,Qm,Qn,Qo,Qp,Qq,Qr,Qs,implies_true,Qt,Qu,Qv,Qw,Qx,Qy,Qz,QA,QB,QC,QD,QE,QF,QG,QH,QI,QJ,QK,QL,QM,QN,QO,QP,QQ]
     refine CallC.pure (numeric_spec g false hg k (by omega) 0 (by omega)) ?_
     cases e1:numsB g k 0
     ·rw [e1,Bool.false_and] at hp
      simp (config:={maxSteps:=1000000}) (disch:=((try simp only [awL]);omega)) only [QR,QS,QT,QU,QV,QW,QX,QY,QZ,Q0,Q1,Q2,gl,↓awU,awV,awF,Qa,Qb,Qc,Qd,forall_const,↓reduceIte,↓reduceDIte,↓Qe,Qf,Qg,Qh,Qi,Qj,Qk,Ql,Qm,Qn,Qo,Qp,Qq,Qr,Qs,implies_true,Qt,Qu,Qv,Qw,Qx,Qy,Qz,QA,QB,QC,QD,QE,QF,QG,QH,QI,QJ,QK,QL,QM,QN,QO,QP,QQ]
      by_cases h4:l=[]
      ·rw [decide_eq_true h4,Bool.not_true,Bool.false_and,Bool.false_and] at hq
       rw [h4]
       subst hp hq
       simp (config:={maxSteps:=1000000}) (disch:=((try simp only [awL]);omega)) only [QR,QS,QT,QU,QV,QW,QX,QY,QZ,Q0,Q1,Q2,gl,↓awU,awV,awF,Qa,Qb,Qc,Qd,forall_const,↓reduceIte,↓reduceDIte,↓Qe,Qf,Qg,Qh,Qi,Qj,Qk,Ql,Qm,Qn,Qo,Qp,Qq,Qr,Qs,implies_true,Qt,Qu,Qv,Qw,Qx,Qy,Qz,QA,QB,QC,QD,QE,QF,QG,QH,QI,QJ,QK,QL,QM,QN,QO,QP,QQ]
       exact ⟨k+1,h3,by simp only;omega,⟨[some 0,some 1,some 2],rfl,by simp,by simp [setsA,keepA,SWeak,AWeak],by simp [HWeak,BWeak,SWeak,AWeak,c1,c2]⟩⟩
      ·rw [decide_eq_false h4,Bool.not_false,Bool.true_and] at hq
       simp (config:={maxSteps:=1000000}) (disch:=((try simp only [awL]);omega)) only [QR,QS,QT,QU,QV,QW,QX,QY,QZ,Q0,Q1,Q2,gl,h4,↓awU,awV,awF,Qa,Qb,Qc,Qd,forall_const,↓reduceIte,↓reduceDIte,↓Qe,Qf,Qg,Qh,Qi,Qj,Qk,Ql,Qm,Qn,Qo,Qp,Qq,Qr,Qs,implies_true,Qt,Qu,Qv,Qw,Qx,Qy,Qz,QA,QB,QC,QD,QE,QF,QG,QH,QI,QJ,QK,QL,QM,QN,QO,QP,QQ]
       refine CallC.pure (rnumber_spec9 l (by omega)) ?_
       cases e5:numB l
       ·rw [e5,Bool.not_false,Bool.true_and] at hq
        simp (config:={maxSteps:=1000000}) (disch:=((try simp only [awL]);omega)) only [QR,QS,QT,QU,QV,QW,QX,QY,QZ,Q0,Q1,Q2,gl,↓awU,awV,awF,Qa,Qb,Qc,Qd,forall_const,↓reduceIte,↓reduceDIte,↓Qe,Qf,Qg,Qh,Qi,Qj,Qk,Ql,Qm,Qn,Qo,Qp,Qq,Qr,Qs,implies_true,Qt,Qu,Qv,Qw,Qx,Qy,Qz,QA,QB,QC,QD,QE,QF,QG,QH,QI,QJ,QK,QL,QM,QN,QO,QP,QQ]
        refine CallC.pure (numeric_spec g false hg k (by omega) 1 (by omega)) ?_
        cases e3:numsB g k 1
        ·rw [e3] at hq
         subst hp hq
         simp (config:={maxSteps:=1000000}) (disch:=((try simp only [awL]);omega)) only [QR,QS,QT,QU,QV,QW,QX,QY,QZ,Q0,Q1,Q2,gl,↓awU,awV,awF,Qa,Qb,Qc,Qd,forall_const,↓reduceIte,↓reduceDIte,↓Qe,Qf,Qg,Qh,Qi,Qj,Qk,Ql,Qm,Qn,Qo,Qp,Qq,Qr,Qs,implies_true,Qt,Qu,Qv,Qw,Qx,Qy,Qz,QA,QB,QC,QD,QE,QF,QG,QH,QI,QJ,QK,QL,QM,QN,QO,QP,QQ]
         exact ⟨k+1,h3,by simp only;omega,⟨[some 0,some 1,some 2],rfl,by simp,by simp [setsA,keepA,SWeak,AWeak],by simp [HWeak,BWeak,SWeak,AWeak,c1,c2]⟩⟩
        ·rw [e3] at hq
         subst hp hq
         simp (config:={maxSteps:=1000000}) (disch:=((try simp only [awL]);omega)) only [QR,QS,QT,QU,QV,QW,QX,QY,QZ,Q0,Q1,Q2,gl,↓awU,awV,awF,Qa,Qb,Qc,Qd,forall_const,↓reduceIte,↓reduceDIte,↓Qe,Qf,Qg,Qh,Qi,Qj,Qk,Ql,Qm,Qn,Qo,Qp,Qq,Qr,Qs,implies_true,Qt,Qu,Qv,Qw,Qx,Qy,Qz,QA,QB,QC,QD,QE,QF,QG,QH,QI,QJ,QK,QL,QM,QN,QO,QP,QQ]
         exact ⟨k+1,h3,by simp only;omega,⟨[some 0,some 1,some 2],rfl,by simp,by simp [setsA,keepA,SWeak,AWeak],by simp [HWeak,BWeak,SWeak,AWeak,c1,c2]⟩⟩
       ·rw [e5,Bool.not_true,Bool.false_and] at hq
        subst hp hq
        simp (config:={maxSteps:=1000000}) (disch:=((try simp only [awL]);omega)) only [QR,QS,QT,QU,QV,QW,QX,QY,QZ,Q0,Q1,Q2,gl,↓awU,awV,awF,Qa,Qb,Qc,Qd,forall_const,↓reduceIte,↓reduceDIte,↓Qe,Qf,Qg,Qh,Qi,Qj,Qk,Ql,Qm,Qn,Qo,Qp,Qq,Qr,Qs,implies_true,Qt,Qu,Qv,Qw,Qx,Qy,Qz,QA,QB,QC,QD,QE,QF,QG,QH,QI,QJ,QK,QL,QM,QN,QO,QP,QQ]
        exact ⟨k+1,h3,by simp only;omega,⟨[some 0,some 1,some 2],rfl,by simp,by simp [setsA,keepA,SWeak,AWeak],by simp [HWeak,BWeak,SWeak,AWeak,c1,c2]⟩⟩
     ·rw [e1,Bool.true_and] at hp
      simp (config:={maxSteps:=1000000}) (disch:=((try simp only [awL]);omega)) only [QR,QS,QT,QU,QV,QW,QX,QY,QZ,Q0,Q1,Q2,gl,↓awU,awV,awF,Qa,Qb,Qc,Qd,forall_const,↓reduceIte,↓reduceDIte,↓Qe,Qf,Qg,Qh,Qi,Qj,Qk,Ql,Qm,Qn,Qo,Qp,Qq,Qr,Qs,implies_true,Qt,Qu,Qv,Qw,Qx,Qy,Qz,QA,QB,QC,QD,QE,QF,QG,QH,QI,QJ,QK,QL,QM,QN,QO,QP,QQ]
      refine CallC.pure (rnumber_spec9 l (by omega)) ?_
      cases e4:numB l
      ·rw [e4] at hp
       simp (config:={maxSteps:=1000000}) (disch:=((try simp only [awL]);omega)) only [QR,QS,QT,QU,QV,QW,QX,QY,QZ,Q0,Q1,Q2,gl,↓awU,awV,awF,Qa,Qb,Qc,Qd,forall_const,↓reduceIte,↓reduceDIte,↓Qe,Qf,Qg,Qh,Qi,Qj,Qk,Ql,Qm,Qn,Qo,Qp,Qq,Qr,Qs,implies_true,Qt,Qu,Qv,Qw,Qx,Qy,Qz,QA,QB,QC,QD,QE,QF,QG,QH,QI,QJ,QK,QL,QM,QN,QO,QP,QQ]
       by_cases h4:l=[]
       ·rw [decide_eq_true h4,Bool.not_true,Bool.false_and,Bool.false_and] at hq
        rw [h4]
        subst hp hq
        simp (config:={maxSteps:=1000000}) (disch:=((try simp only [awL]);omega)) only [QR,QS,QT,QU,QV,QW,QX,QY,QZ,Q0,Q1,Q2,gl,↓awU,awV,awF,Qa,Qb,Qc,Qd,forall_const,↓reduceIte,↓reduceDIte,↓Qe,Qf,Qg,Qh,Qi,Qj,Qk,Ql,Qm,Qn,Qo,Qp,Qq,Qr,Qs,implies_true,Qt,Qu,Qv,Qw,Qx,Qy,Qz,QA,QB,QC,QD,QE,QF,QG,QH,QI,QJ,QK,QL,QM,QN,QO,QP,QQ]
        exact ⟨k+1,h3,by simp only;omega,⟨[some 0,some 1,some 2],rfl,by simp,by simp [setsA,keepA,SWeak,AWeak],by simp [HWeak,BWeak,SWeak,AWeak,c1,c2]⟩⟩
       ·rw [decide_eq_false h4,Bool.not_false,Bool.true_and] at hq
        simp (config:={maxSteps:=1000000}) (disch:=((try simp only [awL]);omega)) only [QR,QS,QT,QU,QV,QW,QX,QY,QZ,Q0,Q1,Q2,gl,h4,↓awU,awV,awF,Qa,Qb,Qc,Qd,forall_const,↓reduceIte,↓reduceDIte,↓Qe,Qf,Qg,Qh,Qi,Qj,Qk,Ql,Qm,Qn,Qo,Qp,Qq,Qr,Qs,implies_true,Qt,Qu,Qv,Qw,Qx,Qy,Qz,QA,QB,QC,QD,QE,QF,QG,QH,QI,QJ,QK,QL,QM,QN,QO,QP,QQ]
        refine CallC.pure (rnumber_spec9 l (by omega)) ?_
        rw [e4,Bool.not_false,Bool.true_and] at hq
        rw [e4]
        simp (config:={maxSteps:=1000000}) (disch:=((try simp only [awL]);omega)) only [QR,QS,QT,QU,QV,QW,QX,QY,QZ,Q0,Q1,Q2,gl,↓awU,awV,awF,Qa,Qb,Qc,Qd,forall_const,↓reduceIte,↓reduceDIte,↓Qe,Qf,Qg,Qh,Qi,Qj,Qk,Ql,Qm,Qn,Qo,Qp,Qq,Qr,Qs,implies_true,Qt,Qu,Qv,Qw,Qx,Qy,Qz,QA,QB,QC,QD,QE,QF,QG,QH,QI,QJ,QK,QL,QM,QN,QO,QP,QQ]
        refine CallC.pure (numeric_spec g false hg k (by omega) 1 (by omega)) ?_
        cases e3:numsB g k 1
        ·rw [e3] at hq
         subst hp hq
         simp (config:={maxSteps:=1000000}) (disch:=((try simp only [awL]);omega)) only [QR,QS,QT,QU,QV,QW,QX,QY,QZ,Q0,Q1,Q2,gl,↓awU,awV,awF,Qa,Qb,Qc,Qd,forall_const,↓reduceIte,↓reduceDIte,↓Qe,Qf,Qg,Qh,Qi,Qj,Qk,Ql,Qm,Qn,Qo,Qp,Qq,Qr,Qs,implies_true,Qt,Qu,Qv,Qw,Qx,Qy,Qz,QA,QB,QC,QD,QE,QF,QG,QH,QI,QJ,QK,QL,QM,QN,QO,QP,QQ]
         exact ⟨k+1,h3,by simp only;omega,⟨[some 0,some 1,some 2],rfl,by simp,by simp [setsA,keepA,SWeak,AWeak],by simp [HWeak,BWeak,SWeak,AWeak,c1,c2]⟩⟩
        ·rw [e3] at hq
         subst hp hq
         simp (config:={maxSteps:=1000000}) (disch:=((try simp only [awL]);omega)) only [QR,QS,QT,QU,QV,QW,QX,QY,QZ,Q0,Q1,Q2,gl,↓awU,awV,awF,Qa,Qb,Qc,Qd,forall_const,↓reduceIte,↓reduceDIte,↓Qe,Qf,Qg,Qh,Qi,Qj,Qk,Ql,Qm,Qn,Qo,Qp,Qq,Qr,Qs,implies_true,Qt,Qu,Qv,Qw,Qx,Qy,Qz,QA,QB,QC,QD,QE,QF,QG,QH,QI,QJ,QK,QL,QM,QN,QO,QP,QQ]
         exact ⟨k+1,h3,by simp only;omega,⟨[some 0,some 1,some 2],rfl,by simp,by simp [setsA,keepA,SWeak,AWeak],by simp [HWeak,BWeak,SWeak,AWeak,c1,c2]⟩⟩
      ·rw [e4] at hp
       simp (config:={maxSteps:=1000000}) (disch:=((try simp only [awL]);omega)) only [QR,QS,QT,QU,QV,QW,QX,QY,QZ,Q0,Q1,Q2,gl,↓awU,awV,awF,Qa,Qb,Qc,Qd,forall_const,↓reduceIte,↓reduceDIte,↓Qe,Qf,Qg,Qh,Qi,Qj,Qk,Ql,Qm,Qn,Qo,Qp,Qq,Qr,Qs,implies_true,Qt,Qu,Qv,Qw,Qx,Qy,Qz,QA,QB,QC,QD,QE,QF,QG,QH,QI,QJ,QK,QL,QM,QN,QO,QP,QQ]
       by_cases h4:l=[]
       ·rw [decide_eq_true h4,Bool.not_true,Bool.false_and,Bool.false_and] at hq
        rw [h4]
        subst hp hq
        simp (config:={maxSteps:=1000000}) (disch:=((try simp only [awL]);omega)) only [QR,QS,QT,QU,QV,QW,QX,QY,QZ,Q0,Q1,Q2,gl,↓awU,awV,awF,Qa,Qb,Qc,Qd,forall_const,↓reduceIte,↓reduceDIte,↓Qe,Qf,Qg,Qh,Qi,Qj,Qk,Ql,Qm,Qn,Qo,Qp,Qq,Qr,Qs,implies_true,Qt,Qu,Qv,Qw,Qx,Qy,Qz,QA,QB,QC,QD,QE,QF,QG,QH,QI,QJ,QK,QL,QM,QN,QO,QP,QQ]
        exact ⟨k+1,h3,by simp only;omega,⟨[some 0,some 1,some 2],rfl,by simp,by simp [setsA,keepA,SWeak,AWeak],by simp [HWeak,BWeak,SWeak,AWeak,c1,c2]⟩⟩
       ·rw [decide_eq_false h4,Bool.not_false,Bool.true_and] at hq
        simp (config:={maxSteps:=1000000}) (disch:=((try simp only [awL]);omega)) only [QR,QS,QT,QU,QV,QW,QX,QY,QZ,Q0,Q1,Q2,gl,h4,↓awU,awV,awF,Qa,Qb,Qc,Qd,forall_const,↓reduceIte,↓reduceDIte,↓Qe,Qf,Qg,Qh,Qi,Qj,Qk,Ql,Qm,Qn,Qo,Qp,Qq,Qr,Qs,implies_true,Qt,Qu,Qv,Qw,Qx,Qy,Qz,QA,QB,QC,QD,QE,QF,QG,QH,QI,QJ,QK,QL,QM,QN,QO,QP,QQ]
        refine CallC.pure (rnumber_spec9 l (by omega)) ?_
        rw [e4,Bool.not_true,Bool.false_and] at hq
        rw [e4]
        subst hp hq
        simp (config:={maxSteps:=1000000}) (disch:=((try simp only [awL]);omega)) only [QR,QS,QT,QU,QV,QW,QX,QY,QZ,Q0,Q1,Q2,gl,↓awU,awV,awF,Qa,Qb,Qc,Qd,forall_const,↓reduceIte,↓reduceDIte,↓Qe,Qf,Qg,Qh,Qi,Qj,Qk,Ql,Qm,Qn,Qo,Qp,Qq,Qr,Qs,implies_true,Qt,Qu,Qv,Qw,Qx,Qy,Qz,QA,QB,QC,QD,QE,QF,QG,QH,QI,QJ,QK,QL,QM,QN,QO,QP,QQ]
        exact ⟨k+1,h3,by simp only;omega,⟨[some 0,some 1,some 2],rfl,by simp,by simp [setsA,keepA,SWeak,AWeak],by simp [HWeak,BWeak,SWeak,AWeak,c1,c2]⟩⟩
    ·rw [if_neg h0,nameB_i,nameB_t] at hp
     rw [if_neg h0,nameB_i,nameB_t] at hq
     have al:=hg.at ((m:Int) - 1) k
     have tl:=trimB_len (atG g ((m:Int) - 1) k)
     simp (config:={maxSteps:=1000000}) (disch:=((try simp only [awL]);omega)) only [QR,QS,QT,QU,QV,QW,QX,QY,QZ,Q0,Q1,Q2,gl,↓awU,awV,awF,Qa,Qb,Qc,Qd,forall_const,↓reduceIte,↓reduceDIte,↓Qe,Qf,Qg,Qh,Qi,Qj,Qk,Ql,Qm,Qn,Qo,Qp,Qq,Qr,Qs,implies_true,Qt,Qu,Qv,Qw,Qx,Qy,Qz,QA,QB,QC,QD,QE,QF,QG,QH,QI,QJ,QK,QL,QM,QN,QO,QP,QQ]
     refine CallC.pure (rat_spec g false hg.w ((m:Int) - 1) k (by omega) (by omega) (by omega) (by omega) (by omega)) ?_
     generalize Lib.trimB (atG g ((m:Int) - 1) k) 32=l at *
     simp (config:={maxSteps:=1000000}) (disch:=((try simp only [awL]);omega)) only [QR,QS,QT,QU,QV,QW,QX,QY,QZ,Q0,Q1,Q2,gl,↓awU,awV,awF,Qa,Qb,Qc,Qd,forall_const,↓reduceIte,↓reduceDIte,↓Qe,Qf,Qg,Qh,Qi,Qj,Qk,Ql,Qm,Qn,Qo,Qp,Qq,Qr,Qs,implies_true,Qt,Qu,Qv,Qw,Qx,Qy,Qz,QA,QB,QC,QD,QE,QF,QG,QH,QI,QJ,QK,QL,QM,QN,QO,QP,QQ]
     refine CallC.pure (numeric_spec g false hg k (by omega) m (by omega)) ?_
     cases e1:numsB g k m
     ·rw [e1,Bool.false_and] at hp
      simp (config:={maxSteps:=1000000}) (disch:=((try simp only [awL]);omega)) only [QR,QS,QT,QU,QV,QW,QX,QY,QZ,Q0,Q1,Q2,gl,↓awU,awV,awF,Qa,Qb,Qc,Qd,forall_const,↓reduceIte,↓reduceDIte,↓Qe,Qf,Qg,Qh,Qi,Qj,Qk,Ql,Qm,Qn,Qo,Qp,Qq,Qr,Qs,implies_true,Qt,Qu,Qv,Qw,Qx,Qy,Qz,QA,QB,QC,QD,QE,QF,QG,QH,QI,QJ,QK,QL,QM,QN,QO,QP,QQ]
      refine LoopC.fx 374 (α:=Nat) (β:=Unit) (fun i=>k - i) (fun i=>[(9,.d (.bool (decide (l∈lastR g m i)))),(10,.d (.int .i64 (i:Nat)))]) (fun _=>[.box [.d (Gr g full)],.box [.d (.str ByteArray.empty),.d (.int .i64 0),.d (.int .i64 0)],.box [.d (S (Lib.decDigits m)),.d (.int .i64 (x1:Nat)),.d (.int .i64 (x2:Nat))]]) (fun i=>i≤k) 374 (fun _=>[(9,.d (.bool (decide (l∈lastR g m k))))]) (fun _=>[.box [.d (Gr g full)],.box [.d (.str ByteArray.empty),.d (.int .i64 0),.d (.int .i64 0)],.box [.d (S (Lib.decDigits m)),.d (.int .i64 (x1:Nat)),.d (.int .i64 (x2:Nat))]]) (fun _=>True) 0 (Nat.zero_le _) ?_ ?_ ?_
      ·exact ⟨[some 0,some 1,some 2],rfl,by simp,by simp [setsA,keepA,SWeak,AWeak,lastR],by simp [HWeak,BWeak,SWeak,AWeak]⟩
      ·intro i hi
       simp only [awK,Nat.reduceMod,Nat.reduceDiv,reduceIte]
       rcases Nat.lt_or_ge i k with h6 | h6
       ·have ls:=lastR_succ g m i
        have al2:=hg.at ((m:Int) - 1) i
        have tl2:=trimB_len (atG g ((m:Int) - 1) i)
        obtain ⟨l2,hl2⟩:∃ l2,l2=Lib.trimB (atG g ((m:Int) - 1) i) 32:=⟨_,rfl⟩
        rw [← hl2] at ls tl2
        cases h7:decide (l∈lastR g m i)
        ·simp (config:={maxSteps:=1000000}) (disch:=((try simp only [awL]);omega)) only [QR,QS,QT,QU,QV,QW,QX,QY,QZ,Q0,Q1,Q2,gl,↓awU,awV,awF,Qa,Qb,Qc,Qd,forall_const,↓reduceIte,↓reduceDIte,↓Qe,Qf,Qg,Qh,Qi,Qj,Qk,Ql,Qm,Qn,Qo,Qp,Qq,Qr,Qs,implies_true,Qt,Qu,Qv,Qw,Qx,Qy,Qz,QA,QB,QC,QD,QE,QF,QG,QH,QI,QJ,QK,QL,QM,QN,QO,QP,QQ]
         refine CallC.pure (rat_spec g false hg.w ((m:Int) - 1) i (by omega) (by omega) (by omega) (by omega) (by omega)) ?_
         rw [show Lib.trimB (atG g ((m:Int) - 1) i) 32=l2 from hl2.symm]
         by_cases h8:l2=l
         ·have h9:decide (l∈lastR g m (i+1))=true:=decide_eq_true (by rw [ls,h8];simp)
          rw [h8]
          simp (config:={maxSteps:=1000000}) (disch:=((try simp only [awL]);omega)) only [QR,QS,QT,QU,QV,QW,QX,QY,QZ,Q0,Q1,Q2,gl,↓awU,awV,awF,Qa,Qb,Qc,Qd,forall_const,↓reduceIte,↓reduceDIte,↓Qe,Qf,Qg,Qh,Qi,Qj,Qk,Ql,Qm,Qn,Qo,Qp,Qq,Qr,Qs,implies_true,Qt,Qu,Qv,Qw,Qx,Qy,Qz,QA,QB,QC,QD,QE,QF,QG,QH,QI,QJ,QK,QL,QM,QN,QO,QP,QQ]
          exact ⟨i+1,h6,by simp only;omega,⟨[some 0,some 1,some 2],rfl,by simp,by simp [setsA,keepA,SWeak,AWeak,h9],by simp [HWeak,BWeak,SWeak,AWeak]⟩⟩
         ·have h9:decide (l∈lastR g m (i+1))=false:=decide_eq_false (by rw [ls];simp only [List.mem_append,List.mem_singleton];intro h;rcases h with h | h;exact of_decide_eq_false h7 h;exact h8 h.symm)
          simp (config:={maxSteps:=1000000}) (disch:=((try simp only [awL]);omega)) only [QR,QS,QT,QU,QV,QW,QX,QY,QZ,Q0,Q1,Q2,gl,h8,↓awU,awV,awF,Qa,Qb,Qc,Qd,forall_const,↓reduceIte,↓reduceDIte,↓Qe,Qf,Qg,Qh,Qi,Qj,Qk,Ql,Qm,Qn,Qo,Qp,Qq,Qr,Qs,implies_true,Qt,Qu,Qv,Qw,Qx,Qy,Qz,QA,QB,QC,QD,QE,QF,QG,QH,QI,QJ,QK,QL,QM,QN,QO,QP,QQ]
          exact ⟨i+1,h6,by simp only;omega,⟨[some 0,some 1,some 2],rfl,by simp,by simp [setsA,keepA,SWeak,AWeak,h9],by simp [HWeak,BWeak,SWeak,AWeak]⟩⟩
        ·have h9:decide (l∈lastR g m (i+1))=true:=decide_eq_true (by rw [ls];exact List.mem_append.2 (.inl (of_decide_eq_true h7)))
         simp (config:={maxSteps:=1000000}) (disch:=((try simp only [awL]);omega)) only [QR,QS,QT,QU,QV,QW,QX,QY,QZ,Q0,Q1,Q2,gl,↓awU,awV,awF,Qa,Qb,Qc,Qd,forall_const,↓reduceIte,↓reduceDIte,↓Qe,Qf,Qg,Qh,Qi,Qj,Qk,Ql,Qm,Qn,Qo,Qp,Qq,Qr,Qs,implies_true,Qt,Qu,Qv,Qw,Qx,Qy,Qz,QA,QB,QC,QD,QE,QF,QG,QH,QI,QJ,QK,QL,QM,QN,QO,QP,QQ]
         exact ⟨i+1,h6,by simp only;omega,⟨[some 0,some 1,some 2],rfl,by simp,by simp [setsA,keepA,SWeak,AWeak,h9],by simp [HWeak,BWeak,SWeak,AWeak]⟩⟩
       ·have ek:i=k:=by omega
        subst ek
        simp (config:={maxSteps:=1000000}) (disch:=((try simp only [awL]);omega)) only [QR,QS,QT,QU,QV,QW,QX,QY,QZ,Q0,Q1,Q2,gl,↓awU,awV,awF,Qa,Qb,Qc,Qd,forall_const,↓reduceIte,↓reduceDIte,↓Qe,Qf,Qg,Qh,Qi,Qj,Qk,Ql,Qm,Qn,Qo,Qp,Qq,Qr,Qs,implies_true,Qt,Qu,Qv,Qw,Qx,Qy,Qz,QA,QB,QC,QD,QE,QF,QG,QH,QI,QJ,QK,QL,QM,QN,QO,QP,QQ]
        exact ⟨(),trivial,⟨[some 0,some 1,some 2],rfl,by simp,by simp [setsA,keepA,SWeak,AWeak],by simp [HWeak,BWeak,SWeak,AWeak]⟩⟩
      ·intro y hy
       simp only [awK,Nat.reduceMod,Nat.reduceDiv,reduceIte]
       simp (config:={maxSteps:=1000000}) (disch:=((try simp only [awL]);omega)) only [QR,QS,QT,QU,QV,QW,QX,QY,QZ,Q0,Q1,Q2,gl,↓awU,awV,awF,Qa,Qb,Qc,Qd,forall_const,↓reduceIte,↓reduceDIte,↓Qe,Qf,Qg,Qh,Qi,Qj,Qk,Ql,Qm,Qn,Qo,Qp,Qq,Qr,Qs,implies_true,Qt,Qu,Qv,Qw,Qx,Qy,Qz,QA,QB,QC,QD,QE,QF,QG,QH,QI,QJ,QK,QL,QM,QN,QO,QP,QQ]
       by_cases h4:l=[]
       ·rw [decide_eq_true h4,Bool.not_true,Bool.false_and,Bool.not_false,Bool.true_or] at hq
        have h4':(l=[])=True:=eq_true h4
        subst hp hq
        simp (config:={maxSteps:=1000000}) (disch:=((try simp only [awL]);omega)) only [QR,QS,QT,QU,QV,QW,QX,QY,QZ,Q0,Q1,Q2,gl,h4',↓awU,awV,awF,Qa,Qb,Qc,Qd,forall_const,↓reduceIte,↓reduceDIte,↓Qe,Qf,Qg,Qh,Qi,Qj,Qk,Ql,Qm,Qn,Qo,Qp,Qq,Qr,Qs,implies_true,Qt,Qu,Qv,Qw,Qx,Qy,Qz,QA,QB,QC,QD,QE,QF,QG,QH,QI,QJ,QK,QL,QM,QN,QO,QP,QQ]
        exact ⟨k+1,h3,by simp only;omega,⟨[some 0,some 1,some 2],rfl,by simp,by simp [setsA,keepA,SWeak,AWeak],by simp [HWeak,BWeak,SWeak,AWeak,c1,c2]⟩⟩
       ·rw [decide_eq_false h4,Bool.not_false,Bool.true_and] at hq
        simp (config:={maxSteps:=1000000}) (disch:=((try simp only [awL]);omega)) only [QR,QS,QT,QU,QV,QW,QX,QY,QZ,Q0,Q1,Q2,gl,h4,↓awU,awV,awF,Qa,Qb,Qc,Qd,forall_const,↓reduceIte,↓reduceDIte,↓Qe,Qf,Qg,Qh,Qi,Qj,Qk,Ql,Qm,Qn,Qo,Qp,Qq,Qr,Qs,implies_true,Qt,Qu,Qv,Qw,Qx,Qy,Qz,QA,QB,QC,QD,QE,QF,QG,QH,QI,QJ,QK,QL,QM,QN,QO,QP,QQ]
        refine CallC.pure (rnumber_spec9 l (by omega)) ?_
        cases e5:numB l
        ·rw [e5,Bool.not_false,Bool.not_true,Bool.false_or] at hq
         cases e6:decide (l∈lastR g m k)
         ·rw [e6] at hq
          subst hp hq
          simp (config:={maxSteps:=1000000}) (disch:=((try simp only [awL]);omega)) only [QR,QS,QT,QU,QV,QW,QX,QY,QZ,Q0,Q1,Q2,gl,↓awU,awV,awF,Qa,Qb,Qc,Qd,forall_const,↓reduceIte,↓reduceDIte,↓Qe,Qf,Qg,Qh,Qi,Qj,Qk,Ql,Qm,Qn,Qo,Qp,Qq,Qr,Qs,implies_true,Qt,Qu,Qv,Qw,Qx,Qy,Qz,QA,QB,QC,QD,QE,QF,QG,QH,QI,QJ,QK,QL,QM,QN,QO,QP,QQ]
          exact ⟨k+1,h3,by simp only;omega,⟨[some 0,some 1,some 2],rfl,by simp,by simp [setsA,keepA,SWeak,AWeak],by simp [HWeak,BWeak,SWeak,AWeak,c1,c2]⟩⟩
         ·rw [e6] at hq
          subst hp hq
          simp (config:={maxSteps:=1000000}) (disch:=((try simp only [awL]);omega)) only [QR,QS,QT,QU,QV,QW,QX,QY,QZ,Q0,Q1,Q2,gl,↓awU,awV,awF,Qa,Qb,Qc,Qd,forall_const,↓reduceIte,↓reduceDIte,↓Qe,Qf,Qg,Qh,Qi,Qj,Qk,Ql,Qm,Qn,Qo,Qp,Qq,Qr,Qs,implies_true,Qt,Qu,Qv,Qw,Qx,Qy,Qz,QA,QB,QC,QD,QE,QF,QG,QH,QI,QJ,QK,QL,QM,QN,QO,QP,QQ]
          exact ⟨k+1,h3,by simp only;omega,⟨[some 0,some 1,some 2],rfl,by simp,by simp [setsA,keepA,SWeak,AWeak],by simp [HWeak,BWeak,SWeak,AWeak,c1,c2]⟩⟩
        ·rw [e5,Bool.not_true,Bool.not_false,Bool.true_or] at hq
         subst hp hq
         simp (config:={maxSteps:=1000000}) (disch:=((try simp only [awL]);omega)) only [QR,QS,QT,QU,QV,QW,QX,QY,QZ,Q0,Q1,Q2,gl,↓awU,awV,awF,Qa,Qb,Qc,Qd,forall_const,↓reduceIte,↓reduceDIte,↓Qe,Qf,Qg,Qh,Qi,Qj,Qk,Ql,Qm,Qn,Qo,Qp,Qq,Qr,Qs,implies_true,Qt,Qu,Qv,Qw,Qx,Qy,Qz,QA,QB,QC,QD,QE,QF,QG,QH,QI,QJ,QK,QL,QM,QN,QO,QP,QQ]
         exact ⟨k+1,h3,by simp only;omega,⟨[some 0,some 1,some 2],rfl,by simp,by simp [setsA,keepA,SWeak,AWeak],by simp [HWeak,BWeak,SWeak,AWeak,c1,c2]⟩⟩
     ·rw [e1,Bool.true_and] at hp
      by_cases h4:l=[]
      ·rw [decide_eq_true h4,Bool.not_true,Bool.false_and] at hp
       rw [decide_eq_true h4,Bool.not_true,Bool.false_and,Bool.not_false,Bool.true_or] at hq
       have h4':(l=[])=True:=eq_true h4
       simp (config:={maxSteps:=1000000}) (disch:=((try simp only [awL]);omega)) only [QR,QS,QT,QU,QV,QW,QX,QY,QZ,Q0,Q1,Q2,gl,h4',↓awU,awV,awF,Qa,Qb,Qc,Qd,forall_const,↓reduceIte,↓reduceDIte,↓Qe,Qf,Qg,Qh,Qi,Qj,Qk,Ql,Qm,Qn,Qo,Qp,Qq,Qr,Qs,implies_true,Qt,Qu,Qv,Qw,Qx,Qy,Qz,QA,QB,QC,QD,QE,QF,QG,QH,QI,QJ,QK,QL,QM,QN,QO,QP,QQ]
       refine LoopC.fx 374 (α:=Nat) (β:=Unit) (fun i=>k - i) (fun i=>[(9,.d (.bool (decide (l∈lastR g m i)))),(10,.d (.int .i64 (i:Nat)))]) (fun _=>[.box [.d (Gr g full)],.box [.d (.str ByteArray.empty),.d (.int .i64 0),.d (.int .i64 0)],.box [.d (S (Lib.decDigits m)),.d (.int .i64 (x1:Nat)),.d (.int .i64 (x2:Nat))]]) (fun i=>i≤k) 374 (fun _=>[(9,.d (.bool (decide (l∈lastR g m k))))]) (fun _=>[.box [.d (Gr g full)],.box [.d (.str ByteArray.empty),.d (.int .i64 0),.d (.int .i64 0)],.box [.d (S (Lib.decDigits m)),.d (.int .i64 (x1:Nat)),.d (.int .i64 (x2:Nat))]]) (fun _=>True) 0 (Nat.zero_le _) ?_ ?_ ?_
       ·exact ⟨[some 0,some 1,some 2],rfl,by simp,by simp [setsA,keepA,SWeak,AWeak,lastR],by simp [HWeak,BWeak,SWeak,AWeak]⟩
       ·intro i hi
        simp only [awK,Nat.reduceMod,Nat.reduceDiv,reduceIte]
        rcases Nat.lt_or_ge i k with h6 | h6
        ·have ls:=lastR_succ g m i
         have al2:=hg.at ((m:Int) - 1) i
         have tl2:=trimB_len (atG g ((m:Int) - 1) i)
         obtain ⟨l2,hl2⟩:∃ l2,l2=Lib.trimB (atG g ((m:Int) - 1) i) 32:=⟨_,rfl⟩
         rw [← hl2] at ls tl2
         cases h7:decide (l∈lastR g m i)
         ·simp (config:={maxSteps:=1000000}) (disch:=((try simp only [awL]);omega)) only [QR,QS,QT,QU,QV,QW,QX,QY,QZ,Q0,Q1,Q2,gl,↓awU,awV,awF,Qa,Qb,Qc,Qd,forall_const,↓reduceIte,↓reduceDIte,↓Qe,Qf,Qg,Qh,Qi,Qj,Qk,Ql,Qm,Qn,Qo,Qp,Qq,Qr,Qs,implies_true,Qt,Qu,Qv,Qw,Qx,Qy,Qz,QA,QB,QC,QD,QE,QF,QG,QH,QI,QJ,QK,QL,QM,QN,QO,QP,QQ]
          refine CallC.pure (rat_spec g false hg.w ((m:Int) - 1) i (by omega) (by omega) (by omega) (by omega) (by omega)) ?_
          rw [show Lib.trimB (atG g ((m:Int) - 1) i) 32=l2 from hl2.symm]
          by_cases h8:l2=l
          ·have h9:decide (l∈lastR g m (i+1))=true:=decide_eq_true (by rw [ls,h8];simp)
           rw [h8]
           simp (config:={maxSteps:=1000000}) (disch:=((try simp only [awL]);omega)) only [QR,QS,QT,QU,QV,QW,QX,QY,QZ,Q0,Q1,Q2,gl,↓awU,awV,awF,Qa,Qb,Qc,Qd,forall_const,↓reduceIte,↓reduceDIte,↓Qe,Qf,Qg,Qh,Qi,Qj,Qk,Ql,Qm,Qn,Qo,Qp,Qq,Qr,Qs,implies_true,Qt,Qu,Qv,Qw,Qx,Qy,Qz,QA,QB,QC,QD,QE,QF,QG,QH,QI,QJ,QK,QL,QM,QN,QO,QP,QQ]
           exact ⟨i+1,h6,by simp only;omega,⟨[some 0,some 1,some 2],rfl,by simp,by simp [setsA,keepA,SWeak,AWeak,h9],by simp [HWeak,BWeak,SWeak,AWeak]⟩⟩
          ·have h9:decide (l∈lastR g m (i+1))=false:=decide_eq_false (by rw [ls];simp only [List.mem_append,List.mem_singleton];intro h;rcases h with h | h;exact of_decide_eq_false h7 h;exact h8 h.symm)
           simp (config:={maxSteps:=1000000}) (disch:=((try simp only [awL]);omega)) only [QR,QS,QT,QU,QV,QW,QX,QY,QZ,Q0,Q1,Q2,gl,h8,↓awU,awV,awF,Qa,Qb,Qc,Qd,forall_const,↓reduceIte,↓reduceDIte,↓Qe,Qf,Qg,Qh,Qi,Qj,Qk,Ql,Qm,Qn,Qo,Qp,Qq,Qr,Qs,implies_true,Qt,Qu,Qv,Qw,Qx,Qy,Qz,QA,QB,QC,QD,QE,QF,QG,QH,QI,QJ,QK,QL,QM,QN,QO,QP,QQ]
           exact ⟨i+1,h6,by simp only;omega,⟨[some 0,some 1,some 2],rfl,by simp,by simp [setsA,keepA,SWeak,AWeak,h9],by simp [HWeak,BWeak,SWeak,AWeak]⟩⟩
         ·have h9:decide (l∈lastR g m (i+1))=true:=decide_eq_true (by rw [ls];exact List.mem_append.2 (.inl (of_decide_eq_true h7)))
          simp (config:={maxSteps:=1000000}) (disch:=((try simp only [awL]);omega)) only [QR,QS,QT,QU,QV,QW,QX,QY,QZ,Q0,Q1,Q2,gl,↓awU,awV,awF,Qa,Qb,Qc,Qd,forall_const,↓reduceIte,↓reduceDIte,↓Qe,Qf,Qg,Qh,Qi,Qj,Qk,Ql,Qm,Qn,Qo,Qp,Qq,Qr,Qs,implies_true,Qt,Qu,Qv,Qw,Qx,Qy,Qz,QA,QB,QC,QD,QE,QF,QG,QH,QI,QJ,QK,QL,QM,QN,QO,QP,QQ]
          exact ⟨i+1,h6,by simp only;omega,⟨[some 0,some 1,some 2],rfl,by simp,by simp [setsA,keepA,SWeak,AWeak,h9],by simp [HWeak,BWeak,SWeak,AWeak]⟩⟩
        ·have ek:i=k:=by omega
         subst ek
         simp (config:={maxSteps:=1000000}) (disch:=((try simp only [awL]);omega)) only [QR,QS,QT,QU,QV,QW,QX,QY,QZ,Q0,Q1,Q2,gl,↓awU,awV,awF,Qa,Qb,Qc,Qd,forall_const,↓reduceIte,↓reduceDIte,↓Qe,Qf,Qg,Qh,Qi,Qj,Qk,Ql,Qm,Qn,Qo,Qp,Qq,Qr,Qs,implies_true,Qt,Qu,Qv,Qw,Qx,Qy,Qz,QA,QB,QC,QD,QE,QF,QG,QH,QI,QJ,QK,QL,QM,QN,QO,QP,QQ]
         exact ⟨(),trivial,⟨[some 0,some 1,some 2],rfl,by simp,by simp [setsA,keepA,SWeak,AWeak],by simp [HWeak,BWeak,SWeak,AWeak]⟩⟩
       ·intro y hy
        simp only [awK,Nat.reduceMod,Nat.reduceDiv,reduceIte]
        simp (config:={maxSteps:=1000000}) (disch:=((try simp only [awL]);omega)) only [QR,QS,QT,QU,QV,QW,QX,QY,QZ,Q0,Q1,Q2,gl,↓awU,awV,awF,Qa,Qb,Qc,Qd,forall_const,↓reduceIte,↓reduceDIte,↓Qe,Qf,Qg,Qh,Qi,Qj,Qk,Ql,Qm,Qn,Qo,Qp,Qq,Qr,Qs,implies_true,Qt,Qu,Qv,Qw,Qx,Qy,Qz,QA,QB,QC,QD,QE,QF,QG,QH,QI,QJ,QK,QL,QM,QN,QO,QP,QQ]
        subst hp hq
        simp (config:={maxSteps:=1000000}) (disch:=((try simp only [awL]);omega)) only [QR,QS,QT,QU,QV,QW,QX,QY,QZ,Q0,Q1,Q2,gl,h4',↓awU,awV,awF,Qa,Qb,Qc,Qd,forall_const,↓reduceIte,↓reduceDIte,↓Qe,Qf,Qg,Qh,Qi,Qj,Qk,Ql,Qm,Qn,Qo,Qp,Qq,Qr,Qs,implies_true,Qt,Qu,Qv,Qw,Qx,Qy,Qz,QA,QB,QC,QD,QE,QF,QG,QH,QI,QJ,QK,QL,QM,QN,QO,QP,QQ]
        exact ⟨k+1,h3,by simp only;omega,⟨[some 0,some 1,some 2],rfl,by simp,by simp [setsA,keepA,SWeak,AWeak],by simp [HWeak,BWeak,SWeak,AWeak,c1,c2]⟩⟩
      ·rw [decide_eq_false h4,Bool.not_false,Bool.true_and] at hp hq
       simp (config:={maxSteps:=1000000}) (disch:=((try simp only [awL]);omega)) only [QR,QS,QT,QU,QV,QW,QX,QY,QZ,Q0,Q1,Q2,gl,h4,↓awU,awV,awF,Qa,Qb,Qc,Qd,forall_const,↓reduceIte,↓reduceDIte,↓Qe,Qf,Qg,Qh,Qi,Qj,Qk,Ql,Qm,Qn,Qo,Qp,Qq,Qr,Qs,implies_true,Qt,Qu,Qv,Qw,Qx,Qy,Qz,QA,QB,QC,QD,QE,QF,QG,QH,QI,QJ,QK,QL,QM,QN,QO,QP,QQ]
       refine CallC.pure (rnumber_spec9 l (by omega)) ?_
       cases e5:numB l
       ·rw [e5] at hp
        simp (config:={maxSteps:=1000000}) (disch:=((try simp only [awL]);omega)) only [QR,QS,QT,QU,QV,QW,QX,QY,QZ,Q0,Q1,Q2,gl,↓awU,awV,awF,Qa,Qb,Qc,Qd,forall_const,↓reduceIte,↓reduceDIte,↓Qe,Qf,Qg,Qh,Qi,Qj,Qk,Ql,Qm,Qn,Qo,Qp,Qq,Qr,Qs,implies_true,Qt,Qu,Qv,Qw,Qx,Qy,Qz,QA,QB,QC,QD,QE,QF,QG,QH,QI,QJ,QK,QL,QM,QN,QO,QP,QQ]
        refine LoopC.fx 374 (α:=Nat) (β:=Unit) (fun i=>k - i) (fun i=>[(9,.d (.bool (decide (l∈lastR g m i)))),(10,.d (.int .i64 (i:Nat)))]) (fun _=>[.box [.d (Gr g full)],.box [.d (.str ByteArray.empty),.d (.int .i64 0),.d (.int .i64 0)],.box [.d (S (Lib.decDigits m)),.d (.int .i64 (x1+1:Nat)),.d (.int .i64 (x2:Nat))]]) (fun i=>i≤k) 374 (fun _=>[(9,.d (.bool (decide (l∈lastR g m k))))]) (fun _=>[.box [.d (Gr g full)],.box [.d (.str ByteArray.empty),.d (.int .i64 0),.d (.int .i64 0)],.box [.d (S (Lib.decDigits m)),.d (.int .i64 (x1+1:Nat)),.d (.int .i64 (x2:Nat))]]) (fun _=>True) 0 (Nat.zero_le _) ?_ ?_ ?_
        ·exact ⟨[some 0,some 1,some 2],rfl,by simp,by simp [setsA,keepA,SWeak,AWeak,lastR],by simp [HWeak,BWeak,SWeak,AWeak]⟩
        ·intro i hi
         simp only [awK,Nat.reduceMod,Nat.reduceDiv,reduceIte]
         rcases Nat.lt_or_ge i k with h6 | h6
         ·have ls:=lastR_succ g m i
          have al2:=hg.at ((m:Int) - 1) i
          have tl2:=trimB_len (atG g ((m:Int) - 1) i)
          obtain ⟨l2,hl2⟩:∃ l2,l2=Lib.trimB (atG g ((m:Int) - 1) i) 32:=⟨_,rfl⟩
          rw [← hl2] at ls tl2
          cases h7:decide (l∈lastR g m i)
          ·simp (config:={maxSteps:=1000000}) (disch:=((try simp only [awL]);omega)) only [QR,QS,QT,QU,QV,QW,QX,QY,QZ,Q0,Q1,Q2,gl,↓awU,awV,awF,Qa,Qb,Qc,Qd,forall_const,↓reduceIte,↓reduceDIte,↓Qe,Qf,Qg,Qh,Qi,Qj,Qk,Ql,Qm,Qn,Qo,Qp,Qq,Qr,Qs,implies_true,Qt,Qu,Qv,Qw,Qx,Qy,Qz,QA,QB,QC,QD,QE,QF,QG,QH,QI,QJ,QK,QL,QM,QN,QO,QP,QQ]
           refine CallC.pure (rat_spec g false hg.w ((m:Int) - 1) i (by omega) (by omega) (by omega) (by omega) (by omega)) ?_
           rw [show Lib.trimB (atG g ((m:Int) - 1) i) 32=l2 from hl2.symm]
           by_cases h8:l2=l
           ·have h9:decide (l∈lastR g m (i+1))=true:=decide_eq_true (by rw [ls,h8];simp)
            rw [h8]
            simp (config:={maxSteps:=1000000}) (disch:=((try simp only [awL]);omega)) only [QR,QS,QT,QU,QV,QW,QX,QY,QZ,Q0,Q1,Q2,gl,↓awU,awV,awF,Qa,Qb,Qc,Qd,forall_const,↓reduceIte,↓reduceDIte,↓Qe,Qf,Qg,Qh,Qi,Qj,Qk,Ql,Qm,Qn,Qo,Qp,Qq,Qr,Qs,implies_true,Qt,Qu,Qv,Qw,Qx,Qy,Qz,QA,QB,QC,QD,QE,QF,QG,QH,QI,QJ,QK,QL,QM,QN,QO,QP,QQ]
            exact ⟨i+1,h6,by simp only;omega,⟨[some 0,some 1,some 2],rfl,by simp,by simp [setsA,keepA,SWeak,AWeak,h9],by simp [HWeak,BWeak,SWeak,AWeak]⟩⟩
           ·have h9:decide (l∈lastR g m (i+1))=false:=decide_eq_false (by rw [ls];simp only [List.mem_append,List.mem_singleton];intro h;rcases h with h | h;exact of_decide_eq_false h7 h;exact h8 h.symm)
            simp (config:={maxSteps:=1000000}) (disch:=((try simp only [awL]);omega)) only [QR,QS,QT,QU,QV,QW,QX,QY,QZ,Q0,Q1,Q2,gl,h8,↓awU,awV,awF,Qa,Qb,Qc,Qd,forall_const,↓reduceIte,↓reduceDIte,↓Qe,Qf,Qg,Qh,Qi,Qj,Qk,Ql,Qm,Qn,Qo,Qp,Qq,Qr,Qs,implies_true,Qt,Qu,Qv,Qw,Qx,Qy,Qz,QA,QB,QC,QD,QE,QF,QG,QH,QI,QJ,QK,QL,QM,QN,QO,QP,QQ]
            exact ⟨i+1,h6,by simp only;omega,⟨[some 0,some 1,some 2],rfl,by simp,by simp [setsA,keepA,SWeak,AWeak,h9],by simp [HWeak,BWeak,SWeak,AWeak]⟩⟩
          ·have h9:decide (l∈lastR g m (i+1))=true:=decide_eq_true (by rw [ls];exact List.mem_append.2 (.inl (of_decide_eq_true h7)))
           simp (config:={maxSteps:=1000000}) (disch:=((try simp only [awL]);omega)) only [QR,QS,QT,QU,QV,QW,QX,QY,QZ,Q0,Q1,Q2,gl,↓awU,awV,awF,Qa,Qb,Qc,Qd,forall_const,↓reduceIte,↓reduceDIte,↓Qe,Qf,Qg,Qh,Qi,Qj,Qk,Ql,Qm,Qn,Qo,Qp,Qq,Qr,Qs,implies_true,Qt,Qu,Qv,Qw,Qx,Qy,Qz,QA,QB,QC,QD,QE,QF,QG,QH,QI,QJ,QK,QL,QM,QN,QO,QP,QQ]
           exact ⟨i+1,h6,by simp only;omega,⟨[some 0,some 1,some 2],rfl,by simp,by simp [setsA,keepA,SWeak,AWeak,h9],by simp [HWeak,BWeak,SWeak,AWeak]⟩⟩
         ·have ek:i=k:=by omega
          subst ek
          simp (config:={maxSteps:=1000000}) (disch:=((try simp only [awL]);omega)) only [QR,QS,QT,QU,QV,QW,QX,QY,QZ,Q0,Q1,Q2,gl,↓awU,awV,awF,Qa,Qb,Qc,Qd,forall_const,↓reduceIte,↓reduceDIte,↓Qe,Qf,Qg,Qh,Qi,Qj,Qk,Ql,Qm,Qn,Qo,Qp,Qq,Qr,Qs,implies_true,Qt,Qu,Qv,Qw,Qx,Qy,Qz,QA,QB,QC,QD,QE,QF,QG,QH,QI,QJ,QK,QL,QM,QN,QO,QP,QQ]
          exact ⟨(),trivial,⟨[some 0,some 1,some 2],rfl,by simp,by simp [setsA,keepA,SWeak,AWeak],by simp [HWeak,BWeak,SWeak,AWeak]⟩⟩
        ·intro y hy
         simp only [awK,Nat.reduceMod,Nat.reduceDiv,reduceIte]
         simp (config:={maxSteps:=1000000}) (disch:=((try simp only [awL]);omega)) only [QR,QS,QT,QU,QV,QW,QX,QY,QZ,Q0,Q1,Q2,gl,↓awU,awV,awF,Qa,Qb,Qc,Qd,forall_const,↓reduceIte,↓reduceDIte,↓Qe,Qf,Qg,Qh,Qi,Qj,Qk,Ql,Qm,Qn,Qo,Qp,Qq,Qr,Qs,implies_true,Qt,Qu,Qv,Qw,Qx,Qy,Qz,QA,QB,QC,QD,QE,QF,QG,QH,QI,QJ,QK,QL,QM,QN,QO,QP,QQ]
         simp (config:={maxSteps:=1000000}) (disch:=((try simp only [awL]);omega)) only [QR,QS,QT,QU,QV,QW,QX,QY,QZ,Q0,Q1,Q2,gl,h4,↓awU,awV,awF,Qa,Qb,Qc,Qd,forall_const,↓reduceIte,↓reduceDIte,↓Qe,Qf,Qg,Qh,Qi,Qj,Qk,Ql,Qm,Qn,Qo,Qp,Qq,Qr,Qs,implies_true,Qt,Qu,Qv,Qw,Qx,Qy,Qz,QA,QB,QC,QD,QE,QF,QG,QH,QI,QJ,QK,QL,QM,QN,QO,QP,QQ]
         refine CallC.pure (rnumber_spec9 l (by omega)) ?_
         rw [e5]
         rw [e5,Bool.not_false,Bool.not_true,Bool.false_or] at hq
         cases e6:decide (l∈lastR g m k)
         ·rw [e6] at hq
          subst hp hq
          simp (config:={maxSteps:=1000000}) (disch:=((try simp only [awL]);omega)) only [QR,QS,QT,QU,QV,QW,QX,QY,QZ,Q0,Q1,Q2,gl,↓awU,awV,awF,Qa,Qb,Qc,Qd,forall_const,↓reduceIte,↓reduceDIte,↓Qe,Qf,Qg,Qh,Qi,Qj,Qk,Ql,Qm,Qn,Qo,Qp,Qq,Qr,Qs,implies_true,Qt,Qu,Qv,Qw,Qx,Qy,Qz,QA,QB,QC,QD,QE,QF,QG,QH,QI,QJ,QK,QL,QM,QN,QO,QP,QQ]
          exact ⟨k+1,h3,by simp only;omega,⟨[some 0,some 1,some 2],rfl,by simp,by simp [setsA,keepA,SWeak,AWeak],by simp [HWeak,BWeak,SWeak,AWeak,c1,c2]⟩⟩
         ·rw [e6] at hq
          subst hp hq
          simp (config:={maxSteps:=1000000}) (disch:=((try simp only [awL]);omega)) only [QR,QS,QT,QU,QV,QW,QX,QY,QZ,Q0,Q1,Q2,gl,↓awU,awV,awF,Qa,Qb,Qc,Qd,forall_const,↓reduceIte,↓reduceDIte,↓Qe,Qf,Qg,Qh,Qi,Qj,Qk,Ql,Qm,Qn,Qo,Qp,Qq,Qr,Qs,implies_true,Qt,Qu,Qv,Qw,Qx,Qy,Qz,QA,QB,QC,QD,QE,QF,QG,QH,QI,QJ,QK,QL,QM,QN,QO,QP,QQ]
          exact ⟨k+1,h3,by simp only;omega,⟨[some 0,some 1,some 2],rfl,by simp,by simp [setsA,keepA,SWeak,AWeak],by simp [HWeak,BWeak,SWeak,AWeak,c1,c2]⟩⟩
       ·rw [e5] at hp
        simp (config:={maxSteps:=1000000}) (disch:=((try simp only [awL]);omega)) only [QR,QS,QT,QU,QV,QW,QX,QY,QZ,Q0,Q1,Q2,gl,↓awU,awV,awF,Qa,Qb,Qc,Qd,forall_const,↓reduceIte,↓reduceDIte,↓Qe,Qf,Qg,Qh,Qi,Qj,Qk,Ql,Qm,Qn,Qo,Qp,Qq,Qr,Qs,implies_true,Qt,Qu,Qv,Qw,Qx,Qy,Qz,QA,QB,QC,QD,QE,QF,QG,QH,QI,QJ,QK,QL,QM,QN,QO,QP,QQ]
        refine LoopC.fx 374 (α:=Nat) (β:=Unit) (fun i=>k - i) (fun i=>[(9,.d (.bool (decide (l∈lastR g m i)))),(10,.d (.int .i64 (i:Nat)))]) (fun _=>[.box [.d (Gr g full)],.box [.d (.str ByteArray.empty),.d (.int .i64 0),.d (.int .i64 0)],.box [.d (S (Lib.decDigits m)),.d (.int .i64 (x1:Nat)),.d (.int .i64 (x2:Nat))]]) (fun i=>i≤k) 374 (fun _=>[(9,.d (.bool (decide (l∈lastR g m k))))]) (fun _=>[.box [.d (Gr g full)],.box [.d (.str ByteArray.empty),.d (.int .i64 0),.d (.int .i64 0)],.box [.d (S (Lib.decDigits m)),.d (.int .i64 (x1:Nat)),.d (.int .i64 (x2:Nat))]]) (fun _=>True) 0 (Nat.zero_le _) ?_ ?_ ?_
        ·exact ⟨[some 0,some 1,some 2],rfl,by simp,by simp [setsA,keepA,SWeak,AWeak,lastR],by simp [HWeak,BWeak,SWeak,AWeak]⟩
        ·intro i hi
         simp only [awK,Nat.reduceMod,Nat.reduceDiv,reduceIte]
         rcases Nat.lt_or_ge i k with h6 | h6
         ·have ls:=lastR_succ g m i
          have al2:=hg.at ((m:Int) - 1) i
          have tl2:=trimB_len (atG g ((m:Int) - 1) i)
          obtain ⟨l2,hl2⟩:∃ l2,l2=Lib.trimB (atG g ((m:Int) - 1) i) 32:=⟨_,rfl⟩
          rw [← hl2] at ls tl2
          cases h7:decide (l∈lastR g m i)
          ·simp (config:={maxSteps:=1000000}) (disch:=((try simp only [awL]);omega)) only [QR,QS,QT,QU,QV,QW,QX,QY,QZ,Q0,Q1,Q2,gl,↓awU,awV,awF,Qa,Qb,Qc,Qd,forall_const,↓reduceIte,↓reduceDIte,↓Qe,Qf,Qg,Qh,Qi,Qj,Qk,Ql,Qm,Qn,Qo,Qp,Qq,Qr,Qs,implies_true,Qt,Qu,Qv,Qw,Qx,Qy,Qz,QA,QB,QC,QD,QE,QF,QG,QH,QI,QJ,QK,QL,QM,QN,QO,QP,QQ]
           refine CallC.pure (rat_spec g false hg.w ((m:Int) - 1) i (by omega) (by omega) (by omega) (by omega) (by omega)) ?_
           rw [show Lib.trimB (atG g ((m:Int) - 1) i) 32=l2 from hl2.symm]
           by_cases h8:l2=l
           ·have h9:decide (l∈lastR g m (i+1))=true:=decide_eq_true (by rw [ls,h8];simp)
            rw [h8]
            simp (config:={maxSteps:=1000000}) (disch:=((try simp only [awL]);omega)) only [QR,QS,QT,QU,QV,QW,QX,QY,QZ,Q0,Q1,Q2,gl,↓awU,awV,awF,Qa,Qb,Qc,Qd,forall_const,↓reduceIte,↓reduceDIte,↓Qe,Qf,Qg,Qh,Qi,Qj,Qk,Ql,Qm,Qn,Qo,Qp,Qq,Qr,Qs,implies_true,Qt,Qu,Qv,Qw,Qx,Qy,Qz,QA,QB,QC,QD,QE,QF,QG,QH,QI,QJ,QK,QL,QM,QN,QO,QP,QQ]
            exact ⟨i+1,h6,by simp only;omega,⟨[some 0,some 1,some 2],rfl,by simp,by simp [setsA,keepA,SWeak,AWeak,h9],by simp [HWeak,BWeak,SWeak,AWeak]⟩⟩
           ·have h9:decide (l∈lastR g m (i+1))=false:=decide_eq_false (by rw [ls];simp only [List.mem_append,List.mem_singleton];intro h;rcases h with h | h;exact of_decide_eq_false h7 h;exact h8 h.symm)
            simp (config:={maxSteps:=1000000}) (disch:=((try simp only [awL]);omega)) only [QR,QS,QT,QU,QV,QW,QX,QY,QZ,Q0,Q1,Q2,gl,h8,↓awU,awV,awF,Qa,Qb,Qc,Qd,forall_const,↓reduceIte,↓reduceDIte,↓Qe,Qf,Qg,Qh,Qi,Qj,Qk,Ql,Qm,Qn,Qo,Qp,Qq,Qr,Qs,implies_true,Qt,Qu,Qv,Qw,Qx,Qy,Qz,QA,QB,QC,QD,QE,QF,QG,QH,QI,QJ,QK,QL,QM,QN,QO,QP,QQ]
            exact ⟨i+1,h6,by simp only;omega,⟨[some 0,some 1,some 2],rfl,by simp,by simp [setsA,keepA,SWeak,AWeak,h9],by simp [HWeak,BWeak,SWeak,AWeak]⟩⟩
          ·have h9:decide (l∈lastR g m (i+1))=true:=decide_eq_true (by rw [ls];exact List.mem_append.2 (.inl (of_decide_eq_true h7)))
           simp (config:={maxSteps:=1000000}) (disch:=((try simp only [awL]);omega)) only [QR,QS,QT,QU,QV,QW,QX,QY,QZ,Q0,Q1,Q2,gl,↓awU,awV,awF,Qa,Qb,Qc,Qd,forall_const,↓reduceIte,↓reduceDIte,↓Qe,Qf,Qg,Qh,Qi,Qj,Qk,Ql,Qm,Qn,Qo,Qp,Qq,Qr,Qs,implies_true,Qt,Qu,Qv,Qw,Qx,Qy,Qz,QA,QB,QC,QD,QE,QF,QG,QH,QI,QJ,QK,QL,QM,QN,QO,QP,QQ]
           exact ⟨i+1,h6,by simp only;omega,⟨[some 0,some 1,some 2],rfl,by simp,by simp [setsA,keepA,SWeak,AWeak,h9],by simp [HWeak,BWeak,SWeak,AWeak]⟩⟩
         ·have ek:i=k:=by omega
          subst ek
          simp (config:={maxSteps:=1000000}) (disch:=((try simp only [awL]);omega)) only [QR,QS,QT,QU,QV,QW,QX,QY,QZ,Q0,Q1,Q2,gl,↓awU,awV,awF,Qa,Qb,Qc,Qd,forall_const,↓reduceIte,↓reduceDIte,↓Qe,Qf,Qg,Qh,Qi,Qj,Qk,Ql,Qm,Qn,Qo,Qp,Qq,Qr,Qs,implies_true,Qt,Qu,Qv,Qw,Qx,Qy,Qz,QA,QB,QC,QD,QE,QF,QG,QH,QI,QJ,QK,QL,QM,QN,QO,QP,QQ]
          exact ⟨(),trivial,⟨[some 0,some 1,some 2],rfl,by simp,by simp [setsA,keepA,SWeak,AWeak],by simp [HWeak,BWeak,SWeak,AWeak]⟩⟩
        ·intro y hy
         simp only [awK,Nat.reduceMod,Nat.reduceDiv,reduceIte]
         simp (config:={maxSteps:=1000000}) (disch:=((try simp only [awL]);omega)) only [QR,QS,QT,QU,QV,QW,QX,QY,QZ,Q0,Q1,Q2,gl,↓awU,awV,awF,Qa,Qb,Qc,Qd,forall_const,↓reduceIte,↓reduceDIte,↓Qe,Qf,Qg,Qh,Qi,Qj,Qk,Ql,Qm,Qn,Qo,Qp,Qq,Qr,Qs,implies_true,Qt,Qu,Qv,Qw,Qx,Qy,Qz,QA,QB,QC,QD,QE,QF,QG,QH,QI,QJ,QK,QL,QM,QN,QO,QP,QQ]
         simp (config:={maxSteps:=1000000}) (disch:=((try simp only [awL]);omega)) only [QR,QS,QT,QU,QV,QW,QX,QY,QZ,Q0,Q1,Q2,gl,h4,↓awU,awV,awF,Qa,Qb,Qc,Qd,forall_const,↓reduceIte,↓reduceDIte,↓Qe,Qf,Qg,Qh,Qi,Qj,Qk,Ql,Qm,Qn,Qo,Qp,Qq,Qr,Qs,implies_true,Qt,Qu,Qv,Qw,Qx,Qy,Qz,QA,QB,QC,QD,QE,QF,QG,QH,QI,QJ,QK,QL,QM,QN,QO,QP,QQ]
         refine CallC.pure (rnumber_spec9 l (by omega)) ?_
         rw [e5]
         rw [e5,Bool.not_true,Bool.not_false,Bool.true_or] at hq
         subst hp hq
         simp (config:={maxSteps:=1000000}) (disch:=((try simp only [awL]);omega)) only [QR,QS,QT,QU,QV,QW,QX,QY,QZ,Q0,Q1,Q2,gl,↓awU,awV,awF,Qa,Qb,Qc,Qd,forall_const,↓reduceIte,↓reduceDIte,↓Qe,Qf,Qg,Qh,Qi,Qj,Qk,Ql,Qm,Qn,Qo,Qp,Qq,Qr,Qs,implies_true,Qt,Qu,Qv,Qw,Qx,Qy,Qz,QA,QB,QC,QD,QE,QF,QG,QH,QI,QJ,QK,QL,QM,QN,QO,QP,QQ]
         exact ⟨k+1,h3,by simp only;omega,⟨[some 0,some 1,some 2],rfl,by simp,by simp [setsA,keepA,SWeak,AWeak],by simp [HWeak,BWeak,SWeak,AWeak,c1,c2]⟩⟩
   ·subst hr
    have ek:k=widG g:=by omega
    subst ek
    simp (config:={maxSteps:=1000000}) (disch:=((try simp only [awL]);omega)) only [QR,QS,QT,QU,QV,QW,QX,QY,QZ,Q0,Q1,Q2,gl,↓awU,awV,awF,Qa,Qb,Qc,Qd,forall_const,↓reduceIte,↓reduceDIte,↓Qe,Qf,Qg,Qh,Qi,Qj,Qk,Ql,Qm,Qn,Qo,Qp,Qq,Qr,Qs,implies_true,Qt,Qu,Qv,Qw,Qx,Qy,Qz,QA,QB,QC,QD,QE,QF,QG,QH,QI,QJ,QK,QL,QM,QN,QO,QP,QQ]
    first | done | rfl
end Go.Proofs.YthbnileadffpiaaGreatDoor
namespace Go.Proofs.YthbnileadffpiaaGreatDoor
open Go Go.Proofs Go.Abs
variable {G:Globals}
def OkOp (o:Opt):Prop:=o.fr≤1000000000∧o.ag≤1000000000
def CmpF (G:Globals) (f:Nat) (bf:Opt→Opt→Bool):Prop:=∀ a b,OkOp a→OkOp b→∃ c:Int,-1≤c∧c≤1∧Ctr Tryz.prog G f [.d (.agg a.cells),.d (.agg b.cells)] [] (.d (.int .i64 c)) []∧decide (c<0)=bf a b
def posB (bf:Opt→Opt→Bool) (o:Opt) (s:List Opt):Nat→Nat
 | 0=>0
 | j+1=>if bf o (s.getD j noO)=true then posB bf o s j else j+1
def insB (bf:Opt→Opt→Bool) (o:Opt) (s:List Opt):List Opt:=s.take (posB bf o s s.length)++o::s.drop (posB bf o s s.length)
def sortB (bf:Opt→Opt→Bool) (l:List Opt):List Opt:=l.foldl (fun s o=>insB bf o s) []
theorem insB_len (bf:Opt→Opt→Bool) (o:Opt) (s:List Opt):(insB bf o s).length=s.length+1:=by
 unfold insB
 rw [List.length_append,List.length_cons,List.length_take,List.length_drop];omega
theorem sortB_snoc (bf:Opt→Opt→Bool) (l:List Opt) (o:Opt):sortB bf (l++[o])=insB bf o (sortB bf l):=by simp [sortB,List.foldl_append]
theorem sortB_take (bf:Opt→Opt→Bool) {l:List Opt} {i:Nat} (h:i<l.length):sortB bf (l.take (i+1))=insB bf (l.getD i noO) (sortB bf (l.take i)):=by
 rw [List.take_add_one,getD_some (d:=noO) h]
 exact sortB_snoc bf _ _
theorem sortB_len (bf:Opt→Opt→Bool) (l:List Opt):(sortB bf l).length=l.length:=by
 have:∀ (l:List Opt) (s:List Opt),(l.foldl (fun s o=>insB bf o s) s).length=s.length+l.length:=by
  intro l
  induction l with
  | nil=>intro s;simp
  | cons o l ih=>intro s;rw [List.foldl_cons,ih,insB_len,List.length_cons];omega
 rw [sortB,this];simp
theorem insB_mem {bf:Opt→Opt→Bool} {o x:Opt} {s:List Opt} (h:x∈insB bf o s):x=o∨x∈s:=by
 unfold insB at h
 rcases List.mem_append.1 h with h | h
 ·exact .inr (List.mem_of_mem_take h)
 ·rcases List.mem_cons.1 h with h | h
  ·exact .inl h
  ·exact .inr (List.mem_of_mem_drop h)
theorem sortB_mem {bf:Opt→Opt→Bool}:∀ {l:List Opt} {x:Opt},x∈sortB bf l→x∈l:=by
 have:∀ (l s:List Opt) (x:Opt),x∈l.foldl (fun s o=>insB bf o s) s→x∈s∨x∈l:=by
  intro l
  induction l with
  | nil=>intro s x h;exact .inl h
  | cons o l ih =>
   intro s x h
   rw [List.foldl_cons] at h
   rcases ih _ _ h with h | h
   ·rcases insB_mem h with rfl | h
    ·exact .inr (by simp)
    ·exact .inl h
   ·exact .inr (by simp [h])
 intro l x h
 rcases this l [] x h with h | h
 ·cases h
 ·exact h
set_option maxHeartbeats 8000000 in
set_option maxRecDepth 100000 in
theorem insSortB_spec (f:Nat) (bf:Opt→Opt→Bool) (hf:CmpF G f bf) (l:List Opt) (hn:l.length≤1000) (hl:∀ o∈l,OkOp o) :
  Ctr Tryz.prog G 95 [.lsl 0 3 0 l.length,.d (.int .i64 0),.d (.int .i64 l.length),.d (.fn (.func f) [] [])] [.row false (optC l)] .undef [.row false (optC (sortB bf l))]:=by
 refine Ctr.body (M:=M0) hmix Tryz.func95 rfl go95 ?_
 simp (config:={maxSteps:=1000000}) (disch:=((try simp only [awL]);omega)) only [QR,QS,QT,QU,QV,QW,QX,QY,QZ,Q0,Q1,Q2,Tryz.f95,↓awU,awV,awF,Qa,Qb,Qc,Qd,forall_const,↓reduceIte,↓reduceDIte,↓Qe,Qf,Qg,Qh,Qi,Qj,Qk,Ql,Qm,Qn,Qo,Qp,Qq,Qr,Qs,implies_true,Qt,Qu,Qv,Qw,Qx,Qy,Qz,QA,QB,QC,QD,QE,QF,QG,QH,QI,QJ,QK,QL,QM,QN,QO,QP,QQ]
 refine LoopC.fr 15 (α:=Nat × List Opt) (fun x=>l.length - x.1) (fun x=>[(8,.d (.int .i64 x.1))]) (fun x=>[.row false (optC x.2)])
  (fun x=>1≤x.1∧x.2.length=l.length∧x.2=sortB bf (l.take x.1)++l.drop x.1) (1,l) ⟨Nat.le_refl _,rfl,by cases l<;>simp [sortB,insB,posB]⟩ ?_ ?_
 ·exact ⟨[some 0],rfl,by simp,by simp [setsA,keepA,SWeak,AWeak],by simp [HWeak,BWeak,SWeak,AWeak]⟩
 ·rintro ⟨i,d⟩ ⟨i1,i2,i3⟩
  simp only at i1 i2 i3
  simp only [awK,Nat.reduceMod,Nat.reduceDiv,reduceIte]
  rcases Nat.lt_or_ge i l.length with h | h
  ·have hS:(sortB bf (l.take i)).length=i:=by rw [sortB_len,List.length_take];omega
   have hst:=sortB_take bf h
   have ho:=hl _ (memD (d:=noO) h)
   have hSm:∀ x∈sortB bf (l.take i),OkOp x:=fun x hx=>hl x (List.mem_of_mem_take (sortB_mem hx))
   have ed:l.drop i=l.getD i noO::l.drop (i+1):=by
    rw [List.drop_eq_getElem_cons h,List.getD_eq_getElem?_getD,List.getElem?_eq_getElem h];rfl
   rw [ed] at i3
   clear ed
   have hr:(l.drop (i+1)).length=l.length - (i+1):=List.length_drop ..
   obtain ⟨rest,hrest⟩:∃ rest,rest=l.drop (i+1):=⟨_,rfl⟩
   rw [← hrest] at hr i3
   generalize l.getD i noO=o at *
   generalize sortB bf (l.take i)=st at *
   simp (config:={maxSteps:=1000000}) (disch:=((try simp only [awL]);omega)) only [QR,QS,QT,QU,QV,QW,QX,QY,QZ,Q0,Q1,Q2,↓awU,awV,awF,Qa,Qb,Qc,Qd,forall_const,↓reduceIte,↓reduceDIte,↓Qe,Qf,Qg,Qh,Qi,Qj,Qk,Ql,Qm,Qn,Qo,Qp,Qq,Qr,Qs,implies_true,Qt,Qu,Qv,Qw,Qx,Qy,Qz,QA,QB,QC,QD,QE,QF,QG,QH,QI,QJ,QK,QL,QM,QN,QO,QP,QQ]
   refine LoopC.fr 271 (α:=Nat × List Opt) (fun x=>x.1) (fun x=>[(9,.d (.int .i64 x.1))]) (fun x=>[.row false (optC x.2)])
    (fun x=>x.1≤i∧x.2=st.take x.1++o::(st.drop x.1++rest)∧posB bf o st st.length=posB bf o st x.1) (i,d) ⟨Nat.le_refl _,by rw [i3,← hS,List.take_length,List.drop_length];rfl,by rw [hS]⟩ ?_ ?_
   ·exact ⟨[some 0],rfl,by simp,by simp [setsA,keepA,SWeak,AWeak],by simp [HWeak,BWeak,SWeak,AWeak]⟩
   ·rintro ⟨j,e⟩ ⟨j1,j2,j3⟩
    simp only at j1 j2 j3
    simp only [awK,Nat.reduceMod,Nat.reduceDiv,reduceIte]
    rcases Nat.eq_zero_or_pos j with h0 | h0
    ·subst h0
     rw [show posB bf o st 0=0 from rfl] at j3
     have fin:e=sortB bf (l.take (i+1))++rest:=by
      rw [j2,hst,insB,j3];simp
     simp (config:={maxSteps:=1000000}) (disch:=((try simp only [awL]);omega)) only [QR,QS,QT,QU,QV,QW,QX,QY,QZ,Q0,Q1,Q2,↓awU,awV,awF,Qa,Qb,Qc,Qd,forall_const,↓reduceIte,↓reduceDIte,↓Qe,Qf,Qg,Qh,Qi,Qj,Qk,Ql,Qm,Qn,Qo,Qp,Qq,Qr,Qs,implies_true,Qt,Qu,Qv,Qw,Qx,Qy,Qz,QA,QB,QC,QD,QE,QF,QG,QH,QI,QJ,QK,QL,QM,QN,QO,QP,QQ]
     exact ⟨by rfl,(i+1,e),⟨by simp only;omega,by rw [fin,hst,List.length_append,insB_len,hr];omega,by rw [fin,hrest]⟩,by simp only;omega,⟨[some 0],rfl,by simp,by simp [setsA,keepA,SWeak,AWeak],by simp [HWeak,BWeak,SWeak,AWeak]⟩⟩
    ·obtain ⟨q,rfl⟩:∃ q,j=q+1:=⟨j - 1,by omega⟩
     have oel:=optC_length e
     have el:e.length=l.length:=by rw [j2];simp;omega
     have gj:=optC_get (l:=e) (k:=q+1) (by omega)
     have gq:=optC_get (l:=e) (k:=q) (by omega)
     have e1:e.getD (q+1) noO=o:=by
      rw [j2,List.getD_eq_getElem?_getD,List.getElem?_append_right (by rw [List.length_take];omega),List.length_take,show q+1 - min (q+1) st.length=0 by omega];rfl
     have e2:e.getD q noO=st.getD q noO:=by
      rw [j2,List.getD_eq_getElem?_getD,List.getElem?_append_left (by rw [List.length_take];omega),List.getElem?_take,if_pos (by omega),List.getD_eq_getElem?_getD]
     rw [e1] at gj
     rw [e2] at gq
     have hp:=hSm _ (memD (d:=noO) (l:=st) (i:=q) (by omega))
     rw [show posB bf o st (q+1)=if bf o (st.getD q noO)=true then posB bf o st q else q+1 from rfl] at j3
     obtain ⟨pp,hpp⟩:∃ pp,pp=st.getD q noO:=⟨_,rfl⟩
     rw [← hpp] at gq hp j3 e2
     have eq1:(((q+1:Nat):Int) - 1)=(q:Int):=by omega
     have eq2:(((q+1:Nat):Int) - 1).toNat=q:=by omega
     simp (config:={maxSteps:=1000000}) (disch:=((try simp only [awL]);omega)) only [QR,QS,QT,QU,QV,QW,QX,QY,QZ,Q0,Q1,Q2,oel,gj,gq,eq2,↓awU,awV,awF,Qa,Qb,Qc,Qd,forall_const,↓reduceIte,↓reduceDIte,↓Qe,Qf,Qg,Qh,Qi,Qj,Qk,Ql,Qm,Qn,Qo,Qp,Qq,Qr,Qs,implies_true,Qt,Qu,Qv,Qw,Qx,Qy,Qz,QA,QB,QC,QD,QE,QF,QG,QH,QI,QJ,QK,QL,QM,QN,QO,QP,QQ]
     obtain ⟨c,c1,c2,hcs,hb⟩:=hf o pp ho hp
     refine CallC.by (L:=[]) hcs (by rfl) (by rfl) (by simp) ?_
     cases hbb:bf o pp
     ·rw [hbb] at hb j3
      have hc:=of_decide_eq_false hb
      have fin:e=sortB bf (l.take (i+1))++rest:=by
       rw [if_neg (by decide)] at j3
       rw [j2,hst,insB,j3];simp
      simp (config:={maxSteps:=1000000}) (disch:=((try simp only [awL]);omega)) only [QR,QS,QT,QU,QV,QW,QX,QY,QZ,Q0,Q1,Q2,↓awU,awV,awF,Qa,Qb,Qc,Qd,forall_const,↓reduceIte,↓reduceDIte,↓Qe,Qf,Qg,Qh,Qi,Qj,Qk,Ql,Qm,Qn,Qo,Qp,Qq,Qr,Qs,implies_true,Qt,Qu,Qv,Qw,Qx,Qy,Qz,QA,QB,QC,QD,QE,QF,QG,QH,QI,QJ,QK,QL,QM,QN,QO,QP,QQ]
      exact ⟨by rfl,(i+1,e),⟨by simp only;omega,by rw [fin,hst,List.length_append,insB_len,hr];omega,by rw [fin,hrest]⟩,by simp only;omega,⟨[some 0],rfl,by simp,by simp [setsA,keepA,SWeak,AWeak],by simp [HWeak,BWeak,SWeak,AWeak]⟩⟩
     ·rw [hbb] at hb j3
      have hc:=of_decide_eq_true hb
      rw [if_pos rfl] at j3
      have s1:=optC_set (l:=e) (k:=q+1) pp (by omega)
      have s2:=optC_set (l:=e.set (q+1) pp) (k:=q) o (by rw [List.length_set];omega)
      have fin:(e.set (q+1) pp).set q o=st.take q++o::(st.drop q++rest):=by
       have d1:st.drop q=pp::st.drop (q+1):=by
        rw [List.drop_eq_getElem_cons (show q<st.length by omega),hpp,List.getD_eq_getElem?_getD,List.getElem?_eq_getElem (show q<st.length by omega)];rfl
       have t1:st.take (q+1)=st.take q++[pp]:=by
        rw [List.take_add_one,getD_some (d:=noO) (show q<st.length by omega),← hpp];rfl
       have tl:(st.take q).length=q:=by rw [List.length_take];omega
       rw [j2,t1,d1,List.append_assoc,List.set_append_right _ _ (by omega),tl,show q+1 - q=1 by omega,List.set_append_right _ _ (by omega),tl,Nat.sub_self]
       rfl
      have oel2:=optC_length (e.set (q+1) pp)
      rw [List.length_set] at oel2
      simp (config:={maxSteps:=1000000}) (disch:=((try simp only [awL]);omega)) only [QR,QS,QT,QU,QV,QW,QX,QY,QZ,Q0,Q1,Q2,oel,gj,gq,eq2,s1,oel2,s2,↓awU,awV,awF,Qa,Qb,Qc,Qd,forall_const,↓reduceIte,↓reduceDIte,↓Qe,Qf,Qg,Qh,Qi,Qj,Qk,Ql,Qm,Qn,Qo,Qp,Qq,Qr,Qs,implies_true,Qt,Qu,Qv,Qw,Qx,Qy,Qz,QA,QB,QC,QD,QE,QF,QG,QH,QI,QJ,QK,QL,QM,QN,QO,QP,QQ]
      refine ⟨by rfl,by rfl,?_⟩
      exact ⟨(q,(e.set (q+1) pp).set q o),⟨by simp only;omega,fin,j3⟩,by simp only;omega,⟨[some 0],rfl,by simp,by simp [setsA,keepA,SWeak,AWeak],by simp [HWeak,BWeak,SWeak,AWeak]⟩⟩
  ·rw [List.take_of_length_le h,List.drop_of_length_le h,List.append_nil] at i3
   subst i3
   simp (config:={maxSteps:=1000000}) (disch:=((try simp only [awL]);omega)) only [QR,QS,QT,QU,QV,QW,QX,QY,QZ,Q0,Q1,Q2,↓awU,awV,awF,Qa,Qb,Qc,Qd,forall_const,↓reduceIte,↓reduceDIte,↓Qe,Qf,Qg,Qh,Qi,Qj,Qk,Ql,Qm,Qn,Qo,Qp,Qq,Qr,Qs,implies_true,Qt,Qu,Qv,Qw,Qx,Qy,Qz,QA,QB,QC,QD,QE,QF,QG,QH,QI,QJ,QK,QL,QM,QN,QO,QP,QQ]
   exact ⟨[some 0],rfl,by simp,by simp [HWeak,BWeak,SWeak,AWeak],.inl (by simp [AWeak,SWeak])⟩
end Go.Proofs.YthbnileadffpiaaGreatDoor
namespace Go.Proofs.YthbnileadffpiaaGreatDoor
open Go Go.Proofs Go.Abs
variable {G:Globals}
def scO (o:Opt):Int:=(o.fr:Int) - o.ag
def befH (a b:Opt):Bool:=decide (scO b<scO a)
set_option maxHeartbeats 4000000 in
set_option maxRecDepth 100000 in
theorem cmpH:CmpF G 33 befH:=fun a b ha hb=>by
 obtain ⟨a1,a2⟩:=ha
 obtain ⟨b1,b2⟩:=hb
 refine ⟨cmpI ((b.fr:Int) - b.ag) ((a.fr:Int) - a.ag),by unfold cmpI;split<;>(try split)<;>omega,by unfold cmpI;split<;>(try split)<;>omega,?_,?_⟩
 ·refine Ctr.pure (M:=M0) hmix Tryz.func33 rfl go33 ?_
  simp (config:={maxSteps:=1000000}) (disch:=((try simp only [awL]);omega)) only [QR,QS,QT,QU,QV,QW,QX,QY,QZ,Q0,Q1,Q2,Tryz.f33,↓awU,awV,awF,Qa,Qb,Qc,Qd,forall_const,↓reduceIte,↓reduceDIte,↓Qe,Qf,Qg,Qh,Qi,Qj,Qk,Ql,Qm,Qn,Qo,Qp,Qq,Qr,Qs,implies_true,Qt,Qu,Qv,Qw,Qx,Qy,Qz,QA,QB,QC,QD,QE,QF,QG,QH,QI,QJ,QK,QL,QM,QN,QO,QP,QQ]
  refine CallC.pure (compare_spec ((b.fr:Int) - b.ag) ((a.fr:Int) - a.ag)) ?_
  simp (config:={maxSteps:=1000000}) (disch:=((try simp only [awL]);omega)) only [QR,QS,QT,QU,QV,QW,QX,QY,QZ,Q0,Q1,Q2,↓awU,awV,awF,Qa,Qb,Qc,Qd,forall_const,↓reduceIte,↓reduceDIte,↓Qe,Qf,Qg,Qh,Qi,Qj,Qk,Ql,Qm,Qn,Qo,Qp,Qq,Qr,Qs,implies_true,Qt,Qu,Qv,Qw,Qx,Qy,Qz,QA,QB,QC,QD,QE,QF,QG,QH,QI,QJ,QK,QL,QM,QN,QO,QP,QQ]
  first | done | rfl
 ·unfold cmpI befH scO
  apply decide_eq_decide.2
  split<;>(try split)<;>omega
def MSt2:Muts:=fun k=>k == 95 || k == 57 || k == 32
theorem MSt2_a:MSt2 95=true:=rfl
theorem MSt2_b:MSt2 57=true:=rfl
theorem MSt2_c:MSt2 32=true:=rfl
theorem MSt2_n {k:Nat} (h:k≠95∧k≠57∧k≠32):MSt2 k=false:=by
 simp only [MSt2,Bool.or_eq_false_iff,beq_eq_false_iff_ne];exact ⟨⟨h.1,h.2.1⟩,h.2.2⟩
set_option maxHeartbeats 4000000 in
set_option maxRecDepth 100000 in
theorem stable_spec (f:Nat) (bf:Opt→Opt→Bool) (hf:CmpF G f bf) (l:List Opt) (hn:l.length<20) (hl:∀ o∈l,OkOp o) :
  Ctr Tryz.prog G 57 [.lsl 0 3 0 l.length,.d (.int .i64 l.length),.d (.fn (.func f) [] [])] [.row false (optC l)] .undef [.row false (optC (sortB bf l))]:=by
 refine Ctr.body (M:=MSt2) hmix Tryz.func57 rfl go57 ?_
 simp (config:={maxSteps:=1000000}) (disch:=((try simp only [awL]);omega)) only [QR,QS,QT,QU,QV,QW,QX,QY,QZ,Q0,Q1,Q2,MSt2_a,MSt2_n,Tryz.f57,↓awU,awV,awF,Qa,Qb,Qc,Qd,forall_const,↓reduceIte,↓reduceDIte,↓Qe,Qf,Qg,Qh,Qi,Qj,Qk,Ql,Qm,Qn,Qo,Qp,Qq,Qr,Qs,implies_true,Qt,Qu,Qv,Qw,Qx,Qy,Qz,QA,QB,QC,QD,QE,QF,QG,QH,QI,QJ,QK,QL,QM,QN,QO,QP,QQ]
 refine LoopC.fx 71 (α:=Unit) (β:=Unit) (fun _=>0) (fun _=>[(7,.d (.int .i64 0)),(8,.d (.int .i64 20))]) (fun _=>[.row false (optC l)]) (fun _=>True) 71 (fun _=>[(7,.d (.int .i64 0))]) (fun _=>[.row false (optC l)]) (fun _=>True) () trivial ?_ ?_ ?_
 ·exact ⟨[some 0],rfl,by simp,by simp [setsA,keepA,SWeak,AWeak],by simp [HWeak,BWeak,SWeak,AWeak]⟩
 ·rintro ⟨⟩ -
  simp only [awK,Nat.reduceMod,Nat.reduceDiv,reduceIte]
  simp (config:={maxSteps:=1000000}) (disch:=((try simp only [awL]);omega)) only [QR,QS,QT,QU,QV,QW,QX,QY,QZ,Q0,Q1,Q2,MSt2_a,MSt2_n,↓awU,awV,awF,Qa,Qb,Qc,Qd,forall_const,↓reduceIte,↓reduceDIte,↓Qe,Qf,Qg,Qh,Qi,Qj,Qk,Ql,Qm,Qn,Qo,Qp,Qq,Qr,Qs,implies_true,Qt,Qu,Qv,Qw,Qx,Qy,Qz,QA,QB,QC,QD,QE,QF,QG,QH,QI,QJ,QK,QL,QM,QN,QO,QP,QQ]
  exact ⟨(),trivial,⟨[some 0],rfl,by simp,by simp [setsA,keepA,SWeak,AWeak],by simp [HWeak,BWeak,SWeak,AWeak]⟩⟩
 ·rintro ⟨⟩ -
  simp only [awK,Nat.reduceMod,Nat.reduceDiv,reduceIte]
  simp (config:={maxSteps:=1000000}) (disch:=((try simp only [awL]);omega)) only [QR,QS,QT,QU,QV,QW,QX,QY,QZ,Q0,Q1,Q2,MSt2_a,MSt2_n,↓awU,awV,awF,Qa,Qb,Qc,Qd,forall_const,↓reduceIte,↓reduceDIte,↓Qe,Qf,Qg,Qh,Qi,Qj,Qk,Ql,Qm,Qn,Qo,Qp,Qq,Qr,Qs,implies_true,Qt,Qu,Qv,Qw,Qx,Qy,Qz,QA,QB,QC,QD,QE,QF,QG,QH,QI,QJ,QK,QL,QM,QN,QO,QP,QQ]
  refine CallC.by (insSortB_spec f bf hf l (by omega) hl) (by first | rfl | simp) (by rfl) (by simp) ?_
  simp (config:={maxSteps:=1000000}) (disch:=((try simp only [awL]);omega)) only [QR,QS,QT,QU,QV,QW,QX,QY,QZ,Q0,Q1,Q2,MSt2_a,MSt2_n,↓awU,awV,awF,Qa,Qb,Qc,Qd,forall_const,↓reduceIte,↓reduceDIte,↓Qe,Qf,Qg,Qh,Qi,Qj,Qk,Ql,Qm,Qn,Qo,Qp,Qq,Qr,Qs,implies_true,Qt,Qu,Qv,Qw,Qx,Qy,Qz,QA,QB,QC,QD,QE,QF,QG,QH,QI,QJ,QK,QL,QM,QN,QO,QP,QQ]
  refine LoopC.fr 7 (α:=Unit) (fun _=>0) (fun _=>[(6,.d (.int .i64 20))]) (fun _=>[.row false (optC (sortB bf l))]) (fun _=>True) () trivial ?_ ?_
  ·exact ⟨[some 0],rfl,by simp,by simp [setsA,keepA,SWeak,AWeak],by simp [HWeak,BWeak,SWeak,AWeak]⟩
  ·rintro ⟨⟩ -
   simp only [awK,Nat.reduceMod,Nat.reduceDiv,reduceIte]
   simp (config:={maxSteps:=1000000}) (disch:=((try simp only [awL]);omega)) only [QR,QS,QT,QU,QV,QW,QX,QY,QZ,Q0,Q1,Q2,MSt2_a,MSt2_n,↓awU,awV,awF,Qa,Qb,Qc,Qd,forall_const,↓reduceIte,↓reduceDIte,↓Qe,Qf,Qg,Qh,Qi,Qj,Qk,Ql,Qm,Qn,Qo,Qp,Qq,Qr,Qs,implies_true,Qt,Qu,Qv,Qw,Qx,Qy,Qz,QA,QB,QC,QD,QE,QF,QG,QH,QI,QJ,QK,QL,QM,QN,QO,QP,QQ]
   exact ⟨[some 0],rfl,by simp,by simp [HWeak,BWeak,SWeak,AWeak],.inl (by simp [AWeak,SWeak])⟩
set_option maxHeartbeats 4000000 in
set_option maxRecDepth 100000 in
theorem sortStable_spec (f:Nat) (bf:Opt→Opt→Bool) (hf:CmpF G f bf) (l:List Opt) (hn:l.length<20) (hl:∀ o∈l,OkOp o) :
  Ctr Tryz.prog G 32 [.lsl 0 3 0 l.length,.d (.fn (.func f) [] [])] [.row false (optC l)] .undef [.row false (optC (sortB bf l))]:=by
 refine Ctr.body (M:=MSt2) hmix Tryz.func32 rfl go32 ?_
 simp (config:={maxSteps:=1000000}) (disch:=((try simp only [awL]);omega)) only [QR,QS,QT,QU,QV,QW,QX,QY,QZ,Q0,Q1,Q2,MSt2_b,MSt2_n,Tryz.f32,↓awU,awV,awF,Qa,Qb,Qc,Qd,forall_const,↓reduceIte,↓reduceDIte,↓Qe,Qf,Qg,Qh,Qi,Qj,Qk,Ql,Qm,Qn,Qo,Qp,Qq,Qr,Qs,implies_true,Qt,Qu,Qv,Qw,Qx,Qy,Qz,QA,QB,QC,QD,QE,QF,QG,QH,QI,QJ,QK,QL,QM,QN,QO,QP,QQ]
 refine CallC.by (stable_spec f bf hf l hn hl) (by first | rfl | simp) (by rfl) (by simp) ?_
 simp (config:={maxSteps:=1000000}) (disch:=((try simp only [awL]);omega)) only [QR,QS,QT,QU,QV,QW,QX,QY,QZ,Q0,Q1,Q2,MSt2_b,MSt2_n,↓awU,awV,awF,Qa,Qb,Qc,Qd,forall_const,↓reduceIte,↓reduceDIte,↓Qe,Qf,Qg,Qh,Qi,Qj,Qk,Ql,Qm,Qn,Qo,Qp,Qq,Qr,Qs,implies_true,Qt,Qu,Qv,Qw,Qx,Qy,Qz,QA,QB,QC,QD,QE,QF,QG,QH,QI,QJ,QK,QL,QM,QN,QO,QP,QQ]
 exact ⟨[some 0],rfl,by simp,by simp [HWeak,BWeak,SWeak,AWeak],.inl (by simp [AWeak,SWeak])⟩
def hs4:List Nat:=[1,0,2,3]
def preH (g:List Row) (i:Nat):List Opt:=((hs4.take i).filter fun n=>decide (n≤g.length)).map (evN g)
def optsH (g:List Row):List Opt:=sortB befH (preH g 4)
theorem evN_ok {g:List Row} (hg:okGrid g) (n:Nat):OkOp (evN g n):=⟨Nat.le_trans (cntB_le _ _) hg.wid,Nat.le_trans (cntB_le _ _) hg.wid⟩
theorem evG_nat {g:List Row} {n:Nat} (h:n≤3) (h2:n≤g.length):evG g (n:Nat)=evN g n:=by unfold evG;rw [if_neg (by omega),Int.toNat_natCast]
theorem preH_len (g:List Row) (i:Nat):(preH g i).length≤4:=by
 unfold preH
 rw [List.length_map]
 refine Nat.le_trans (List.length_filter_le _ _) ?_
 rw [List.length_take];simp [hs4];omega
theorem preH_ok {g:List Row} (hg:okGrid g) (i:Nat):∀ o∈preH g i,OkOp o:=fun o ho=>by
 obtain ⟨n,_,rfl⟩:=List.mem_map.1 ho
 exact evN_ok hg n
theorem preH_step (g:List Row) {i:Nat} (h:i<4):preH g (i+1)=if hs4.getD i 0≤g.length then preH g i++[evN g (hs4.getD i 0)] else preH g i:=by
 have e:hs4.take (i+1)=hs4.take i++[hs4.getD i 0]:=by rw [List.take_add_one,getD_some (d:=0) (show i<hs4.length from h)];rfl
 unfold preH
 rw [e,List.filter_append]
 by_cases q:hs4.getD i 0≤g.length
 ·rw [if_pos q,List.filter_cons,if_pos (by simpa using q),List.map_append];rfl
 ·rw [if_neg q,List.filter_cons,if_neg (by simpa using q),List.filter_nil,List.append_nil]
theorem hs4_le {i:Nat}:hs4.getD i 0≤3:=by
 rcases (by omega:i=0∨i=1∨i=2∨i=3∨4≤i) with h | h | h | h | h
 ·subst h;decide
 ·subst h;decide
 ·subst h;decide
 ·subst h;decide
 ·rw [List.getD_eq_getElem?_getD,List.getElem?_eq_none (by simpa [hs4] using h)];simp
set_option maxHeartbeats 16000000 in
set_option maxRecDepth 100000 in
theorem hoptions_spec (hG:Num.HG G) (hI:HI G) (g:List Row) (full:Bool) (hg:okGrid g):Ctr Tryz.prog G 12 [.d (.agg [Gr g full])] [] (.d (.sl (optsH g).length false (optC (optsH g)))) []:=by
 refine Ctr.pure (M:=MSt2) hmix Tryz.func12 rfl go12 ?_
 have gl:=@rowsD_length g
 have hgl:=hg.1
 simp (config:={maxSteps:=1000000}) (disch:=((try simp only [awL]);omega)) only [QR,QS,QT,QU,QV,QW,QX,QY,QZ,Q0,Q1,Q2,gl,MSt2_c,MSt2_n,Tryz.f12,↓awU,awV,awF,Qa,Qb,Qc,Qd,forall_const,↓reduceIte,↓reduceDIte,↓Qe,Qf,Qg,Qh,Qi,Qj,Qk,Ql,Qm,Qn,Qo,Qp,Qq,Qr,Qs,implies_true,Qt,Qu,Qv,Qw,Qx,Qy,Qz,QA,QB,QC,QD,QE,QF,QG,QH,QI,QJ,QK,QL,QM,QN,QO,QP,QQ]
 refine LoopC.fx 194 (α:=Nat) (β:=Unit) (fun i=>4 - i) (fun i=>[(3,.lsl 2 3 0 (preH g i).length),(8,.d (.int .i64 (i:Nat)))]) (fun i=>[.box [.d (Gr g full)],.row false (nats .i64 hs4),.row false (optC (preH g i))]) (fun i=>i≤4)
  0 (fun _=>[(3,.lsl 0 3 0 (preH g 4).length)]) (fun _=>[.row false (optC (preH g 4))]) (fun _=>True) 0 (Nat.zero_le _) ?_ ?_ ?_
 ·exact ⟨[some 0,some 1,none],rfl,by simp,by simp [setsA,keepA,SWeak,AWeak,preH],by simp [HWeak,BWeak,SWeak,AWeak,preH,optC,nats,hs4]⟩
 ·intro i hi
  have ol:=optC_length (preH g i)
  have pl:=preH_len g i
  have nl:=nats_length (k:=.i64) (l:=hs4)
  have h4:hs4.length=4:=rfl
  simp only [awK,Nat.reduceMod,Nat.reduceDiv,reduceIte]
  rcases Nat.lt_or_ge i 4 with h | h
  ·have st:=preH_step g h
   have le:=@hs4_le i
   have gi:=nats_getD (k:=.i64) (l:=hs4) (i:=i) (d:=.nilp) (by omega)
   obtain ⟨n,hn⟩:∃ n,n=hs4.getD i 0:=⟨_,rfl⟩
   rw [← hn] at st le gi
   by_cases hl:n≤g.length
   ·rw [if_pos hl] at st
    simp (config:={maxSteps:=1000000}) (disch:=((try simp only [awL]);omega)) only [QR,QS,QT,QU,QV,QW,QX,QY,QZ,Q0,Q1,Q2,gl,ol,nl,h4,gi,MSt2_c,MSt2_n,↓awU,awV,awF,Qa,Qb,Qc,Qd,forall_const,↓reduceIte,↓reduceDIte,↓Qe,Qf,Qg,Qh,Qi,Qj,Qk,Ql,Qm,Qn,Qo,Qp,Qq,Qr,Qs,implies_true,Qt,Qu,Qv,Qw,Qx,Qy,Qz,QA,QB,QC,QD,QE,QF,QG,QH,QI,QJ,QK,QL,QM,QN,QO,QP,QQ]
    refine CallC.pure (evidence_spec hG hI g false hg n (by omega) (by omega)) ?_
    rw [evG_nat le hl]
    have op:=optC_push (preH g i) (evN g n)
    rw [← st] at op
    generalize evN g n=o at *
    simp (config:={maxSteps:=1000000}) (disch:=((try simp only [awL]);omega)) only [QR,QS,QT,QU,QV,QW,QX,QY,QZ,Q0,Q1,Q2,gl,ol,nl,h4,gi,MSt2_c,MSt2_n,↓awU,awV,awF,Qa,Qb,Qc,Qd,forall_const,↓reduceIte,↓reduceDIte,↓Qe,Qf,Qg,Qh,Qi,Qj,Qk,Ql,Qm,Qn,Qo,Qp,Qq,Qr,Qs,implies_true,Qt,Qu,Qv,Qw,Qx,Qy,Qz,QA,QB,QC,QD,QE,QF,QG,QH,QI,QJ,QK,QL,QM,QN,QO,QP,QQ]
    have sl:(preH g (i+1)).length=(preH g i).length+1:=by rw [st,List.length_append];rfl
    exact ⟨by rfl,i+1,h,by simp only;omega,⟨[some 0,some 1,some 4],rfl,by simp,by simp [setsA,keepA,SWeak,AWeak,sl],by simp [HWeak,BWeak,SWeak,AWeak,cut,← op]⟩⟩
   ·rw [if_neg hl] at st
    simp (config:={maxSteps:=1000000}) (disch:=((try simp only [awL]);omega)) only [QR,QS,QT,QU,QV,QW,QX,QY,QZ,Q0,Q1,Q2,gl,ol,nl,h4,gi,MSt2_c,MSt2_n,↓awU,awV,awF,Qa,Qb,Qc,Qd,forall_const,↓reduceIte,↓reduceDIte,↓Qe,Qf,Qg,Qh,Qi,Qj,Qk,Ql,Qm,Qn,Qo,Qp,Qq,Qr,Qs,implies_true,Qt,Qu,Qv,Qw,Qx,Qy,Qz,QA,QB,QC,QD,QE,QF,QG,QH,QI,QJ,QK,QL,QM,QN,QO,QP,QQ]
    exact ⟨i+1,h,by simp only;omega,⟨[some 0,some 1,some 2],rfl,by simp,by simp [setsA,keepA,SWeak,AWeak,st],by simp [HWeak,BWeak,SWeak,AWeak,st]⟩⟩
  ·have e:i=4:=by omega
   subst e
   simp (config:={maxSteps:=1000000}) (disch:=((try simp only [awL]);omega)) only [QR,QS,QT,QU,QV,QW,QX,QY,QZ,Q0,Q1,Q2,gl,ol,nl,h4,MSt2_c,MSt2_n,↓awU,awV,awF,Qa,Qb,Qc,Qd,forall_const,↓reduceIte,↓reduceDIte,↓Qe,Qf,Qg,Qh,Qi,Qj,Qk,Ql,Qm,Qn,Qo,Qp,Qq,Qr,Qs,implies_true,Qt,Qu,Qv,Qw,Qx,Qy,Qz,QA,QB,QC,QD,QE,QF,QG,QH,QI,QJ,QK,QL,QM,QN,QO,QP,QQ]
   exact ⟨(),trivial,⟨[some 2],rfl,by simp,by simp [setsA,keepA,SWeak,AWeak],by simp [HWeak,BWeak,SWeak,AWeak]⟩⟩
 ·rintro ⟨⟩ -
  simp only [awK,Nat.reduceMod,Nat.reduceDiv,reduceIte]
  have ol:=optC_length (preH g 4)
  have pl:=preH_len g 4
  have sl:=sortB_len befH (preH g 4)
  simp (config:={maxSteps:=1000000}) (disch:=((try simp only [awL]);omega)) only [QR,QS,QT,QU,QV,QW,QX,QY,QZ,Q0,Q1,Q2,gl,ol,MSt2_c,MSt2_n,↓awU,awV,awF,Qa,Qb,Qc,Qd,forall_const,↓reduceIte,↓reduceDIte,↓Qe,Qf,Qg,Qh,Qi,Qj,Qk,Ql,Qm,Qn,Qo,Qp,Qq,Qr,Qs,implies_true,Qt,Qu,Qv,Qw,Qx,Qy,Qz,QA,QB,QC,QD,QE,QF,QG,QH,QI,QJ,QK,QL,QM,QN,QO,QP,QQ]
  refine CallC.by (sortStable_spec 33 befH cmpH (preH g 4) (by omega) (preH_ok hg 4)) (by first | rfl | simp) (by rfl) (by simp) ?_
  rw [← sl,show sortB befH (preH g 4)=optsH g from rfl] at *
  simp (config:={maxSteps:=1000000}) (disch:=((try simp only [awL]);omega)) only [QR,QS,QT,QU,QV,QW,QX,QY,QZ,Q0,Q1,Q2,gl,ol,MSt2_c,MSt2_n,↓awU,awV,awF,Qa,Qb,Qc,Qd,forall_const,↓reduceIte,↓reduceDIte,↓Qe,Qf,Qg,Qh,Qi,Qj,Qk,Ql,Qm,Qn,Qo,Qp,Qq,Qr,Qs,implies_true,Qt,Qu,Qv,Qw,Qx,Qy,Qz,QA,QB,QC,QD,QE,QF,QG,QH,QI,QJ,QK,QL,QM,QN,QO,QP,QQ]
  have ob:=optC_length (optsH g)
  rw [cut,List.drop_zero,List.take_of_length_le (by omega)]
end Go.Proofs.YthbnileadffpiaaGreatDoor
namespace Go.Proofs.YthbnileadffpiaaGreatDoor
open Go Go.Proofs Go.Abs
variable {G:Globals}
theorem optC_ag {l:List Opt} {q:Nat} (h:q<l.length):(optC l).getD (q*3+2) .nilp=.int .i64 (l.getD q noO).ag:=by
 have e:=congrArg (fun x=>x.getD 2 D.nilp) (optC_get h)
 simpa [List.getD_eq_getElem?_getD,List.getElem?_take,List.getElem?_drop] using e
def MU:Muts:=fun k=>Nat.beq k 2000062
theorem MU_t {k:Nat} (h:k=2000062):MU k=true:=by subst h;rfl
theorem MU_n {k:Nat} (h:k≠2000062):MU k=false:=by unfold MU;cases e:Nat.beq k 2000062 with
 | false=>rfl
 | true=>exact absurd (Nat.eq_of_beq_eq_true e) h
set_option maxHeartbeats 16000000 in
set_option maxRecDepth 100000 in
theorem hroptions_spec (hI:HI G) (g:List Row) (full:Bool) (hg:okGrid g):Ctr Tryz.prog G 13 [.d (.agg [Gr g full])] [] (.d (.sl (optsH g).length false (optC (optsH g)))) []:=by
 refine Ctr.pure (M:=MU) hmix Tryz.func13 rfl go13 ?_
 have gl:=@rowsD_length g
 have hgl:=hg.1
 simp (config:={maxSteps:=1000000}) (disch:=((try simp only [awL]);omega)) only [QR,QS,QT,QU,QV,QW,QX,QY,QZ,Q0,Q1,Q2,gl,MU_n,Tryz.f13,↓awU,awV,awF,Qa,Qb,Qc,Qd,forall_const,↓reduceIte,↓reduceDIte,↓Qe,Qf,Qg,Qh,Qi,Qj,Qk,Ql,Qm,Qn,Qo,Qp,Qq,Qr,Qs,implies_true,Qt,Qu,Qv,Qw,Qx,Qy,Qz,QA,QB,QC,QD,QE,QF,QG,QH,QI,QJ,QK,QL,QM,QN,QO,QP,QQ]
 refine LoopC.fr 770 (α:=Nat) (fun i=>4 - i) (fun i=>[(3,.lsl 2 3 0 (sortB befH (preH g i)).length),(10,.d (.int .i64 (i:Nat)))]) (fun i=>[.box [.d (Gr g full)],.row false (nats .i64 hs4),.row false (optC (sortB befH (preH g i)))]) (fun i=>i≤4)
  0 (Nat.zero_le _) ?_ ?_
 ·exact ⟨[some 0,some 1,none],rfl,by simp,by simp [setsA,keepA,SWeak,AWeak,preH,sortB],by simp [HWeak,BWeak,SWeak,AWeak,preH,sortB,optC,nats,hs4]⟩
 ·intro i hi
  have pl:=preH_len g i
  have nl:=nats_length (k:=.i64) (l:=hs4)
  have h4:hs4.length=4:=rfl
  have hso:preH g (i+1)=preH g (i+1):=rfl
  rcases Nat.lt_or_ge i 4 with h | h
  ·have hst:=preH_step g h
   have le:=@hs4_le i
   have gi:=nats_getD (k:=.i64) (l:=hs4) (i:=i) (d:=.nilp) (by omega)
   obtain ⟨n,hn⟩:∃ n,n=hs4.getD i 0:=⟨_,rfl⟩
   rw [← hn] at hst le gi
   have sln:=sortB_len befH (preH g i)
   by_cases hl:n≤g.length
   ·rw [if_pos hl] at hst
    have hso:sortB befH (preH g (i+1))=insB befH (evN g n) (sortB befH (preH g i)):=by rw [hst,sortB_snoc]
    obtain ⟨st,hst2⟩:∃ st,st=sortB befH (preH g i):=⟨_,rfl⟩
    rw [← hst2] at sln hso ⊢
    have ol:=optC_length st
    have stl:st.length≤4:=by omega
    have ok1:=(evN_ok hg n).1
    have ok2:=(evN_ok hg n).2
    have okS:∀ o∈st,OkOp o:=fun o ho=>preH_ok hg i o (sortB_mem (hst2▸ho))
    simp only [awK,Nat.reduceMod,Nat.reduceDiv,reduceIte]
    simp (config:={maxSteps:=1000000}) (disch:=((try simp only [awL]);omega)) only [QR,QS,QT,QU,QV,QW,QX,QY,QZ,Q0,Q1,Q2,gl,ol,nl,h4,gi,MU_n,↓awU,awV,awF,Qa,Qb,Qc,Qd,forall_const,↓reduceIte,↓reduceDIte,↓Qe,Qf,Qg,Qh,Qi,Qj,Qk,Ql,Qm,Qn,Qo,Qp,Qq,Qr,Qs,implies_true,Qt,Qu,Qv,Qw,Qx,Qy,Qz,QA,QB,QC,QD,QE,QF,QG,QH,QI,QJ,QK,QL,QM,QN,QO,QP,QQ]
    refine CallC.pure (revidence_spec hI g false hg n (by omega) (by omega)) ?_
    rw [evG_nat le hl]
    generalize evN g n=mk at *
    simp (config:={maxSteps:=1000000}) (disch:=((try simp only [awL]);omega)) only [QR,QS,QT,QU,QV,QW,QX,QY,QZ,Q0,Q1,Q2,gl,ol,nl,h4,gi,MU_n,↓awU,awV,awF,Qa,Qb,Qc,Qd,forall_const,↓reduceIte,↓reduceDIte,↓Qe,Qf,Qg,Qh,Qi,Qj,Qk,Ql,Qm,Qn,Qo,Qp,Qq,Qr,Qs,implies_true,Qt,Qu,Qv,Qw,Qx,Qy,Qz,QA,QB,QC,QD,QE,QF,QG,QH,QI,QJ,QK,QL,QM,QN,QO,QP,QQ]
    refine LoopC.fx 1866 (α:=Nat) (β:=Nat) (fun k=>k) (fun k=>[(7,.d (.int .i64 (k:Nat)))]) (fun _=>[.box [.d (Gr g full)],.row false (nats .i64 hs4),.row false (optC st),.box [.d (S mk.txt),.d (.int .i64 mk.fr),.d (.int .i64 mk.ag)]])
     (fun k=>k≤st.length∧posB befH mk st st.length=posB befH mk st k) 1866 (fun k=>[(7,.d (.int .i64 (k:Nat)))]) (fun _=>[.box [.d (Gr g full)],.row false (nats .i64 hs4),.row false (optC st),.box [.d (S mk.txt),.d (.int .i64 mk.fr),.d (.int .i64 mk.ag)]]) (fun k=>k≤st.length∧k=posB befH mk st st.length) st.length ⟨Nat.le_refl _,rfl⟩ ?_ ?_ ?_
    ·exact ⟨[some 0,some 1,some 2,some 3],rfl,by simp,by simp [setsA,keepA,SWeak,AWeak],by simp [HWeak,BWeak,SWeak,AWeak]⟩
    ·rintro k ⟨k1,k2⟩
     simp only [awK,Nat.reduceMod,Nat.reduceDiv,reduceIte]
     rcases Nat.eq_zero_or_pos k with h0 | h0
     ·subst h0
      simp (config:={maxSteps:=1000000}) (disch:=((try simp only [awL]);omega)) only [QR,QS,QT,QU,QV,QW,QX,QY,QZ,Q0,Q1,Q2,MU_n,↓awU,awV,awF,Qa,Qb,Qc,Qd,forall_const,↓reduceIte,↓reduceDIte,↓Qe,Qf,Qg,Qh,Qi,Qj,Qk,Ql,Qm,Qn,Qo,Qp,Qq,Qr,Qs,implies_true,Qt,Qu,Qv,Qw,Qx,Qy,Qz,QA,QB,QC,QD,QE,QF,QG,QH,QI,QJ,QK,QL,QM,QN,QO,QP,QQ]
      exact ⟨by rfl,0,⟨by omega,by rw [k2];rfl⟩,⟨[some 0,some 1,some 2,some 3],rfl,by simp,by simp [setsA,keepA,SWeak,AWeak],by simp [HWeak,BWeak,SWeak,AWeak]⟩⟩
     ·obtain ⟨q,rfl⟩:∃ q,k=q+1:=⟨k - 1,by omega⟩
      have eq1:(((q+1:Nat):Int) - 1)=(q:Int):=by omega
      have o1:=optC_fr (l:=st) (q:=q) (by omega)
      have o2:=optC_ag (l:=st) (q:=q) (by omega)
      rw [show posB befH mk st (q+1)=if befH mk (st.getD q noO)=true then posB befH mk st q else q+1 from rfl] at k2
      obtain ⟨okp1,okp2⟩:=okS _ (memD (d:=noO) (l:=st) (i:=q) (by omega))
      generalize st.getD q noO=p at *
      unfold befH scO at k2
      by_cases hw:(p.fr:Int) - p.ag<(mk.fr:Int) - mk.ag
      ·rw [if_pos (decide_eq_true hw)] at k2
       simp (config:={maxSteps:=1000000}) (disch:=((try simp only [awL]);omega)) only [QR,QS,QT,QU,QV,QW,QX,QY,QZ,Q0,Q1,Q2,MU_n,eq1,o1,o2,↓awU,awV,awF,Qa,Qb,Qc,Qd,forall_const,↓reduceIte,↓reduceDIte,↓Qe,Qf,Qg,Qh,Qi,Qj,Qk,Ql,Qm,Qn,Qo,Qp,Qq,Qr,Qs,implies_true,Qt,Qu,Qv,Qw,Qx,Qy,Qz,QA,QB,QC,QD,QE,QF,QG,QH,QI,QJ,QK,QL,QM,QN,QO,QP,QQ]
       exact ⟨by rfl,q,⟨by omega,k2⟩,by simp only;omega,⟨[some 0,some 1,some 2,some 3],rfl,by simp,by simp [setsA,keepA,SWeak,AWeak],by simp [HWeak,BWeak,SWeak,AWeak]⟩⟩
      ·rw [if_neg (by simpa using hw)] at k2
       simp (config:={maxSteps:=1000000}) (disch:=((try simp only [awL]);omega)) only [QR,QS,QT,QU,QV,QW,QX,QY,QZ,Q0,Q1,Q2,MU_n,eq1,o1,o2,↓awU,awV,awF,Qa,Qb,Qc,Qd,forall_const,↓reduceIte,↓reduceDIte,↓Qe,Qf,Qg,Qh,Qi,Qj,Qk,Ql,Qm,Qn,Qo,Qp,Qq,Qr,Qs,implies_true,Qt,Qu,Qv,Qw,Qx,Qy,Qz,QA,QB,QC,QD,QE,QF,QG,QH,QI,QJ,QK,QL,QM,QN,QO,QP,QQ]
       exact ⟨by rfl,q+1,⟨by omega,k2.symm⟩,⟨[some 0,some 1,some 2,some 3],rfl,by simp,by simp [setsA,keepA,SWeak,AWeak],by simp [HWeak,BWeak,SWeak,AWeak]⟩⟩
    ·rintro k ⟨k1,k2⟩
     simp only [awK,Nat.reduceMod,Nat.reduceDiv,reduceIte]
     unfold insB at hso
     rw [← k2] at hso
     simp (config:={maxSteps:=1000000}) (disch:=((try simp only [awL]);omega)) only [QR,QS,QT,QU,QV,QW,QX,QY,QZ,Q0,Q1,Q2,MU_t,MU_n,show markK MU (some 62)=true from rfl,ol,↓awU,awV,awF,Qa,Qb,Qc,Qd,forall_const,↓reduceIte,↓reduceDIte,↓Qe,Qf,Qg,Qh,Qi,Qj,Qk,Ql,Qm,Qn,Qo,Qp,Qq,Qr,Qs,implies_true,Qt,Qu,Qv,Qw,Qx,Qy,Qz,QA,QB,QC,QD,QE,QF,QG,QH,QI,QJ,QK,QL,QM,QN,QO,QP,QQ]
     have c1:cut (optC st) (k*3) ((st.length - k)*3)=optC (st.drop k):=by
      unfold cut;rw [optC_drop,List.take_of_length_le (by rw [optC_length,List.length_drop];omega)]
     have c2:D.str (bs mk.txt)::D.int .i64 mk.fr::D.int .i64 mk.ag::optC (st.drop k)=optC (mk::st.drop k):=rfl
     have c3:cut (optC (mk::st.drop k)) 0 ((1+(st.length - k))*3)=optC (mk::st.drop k):=cut_all (by rw [optC_length,List.length_cons,List.length_drop];omega)
     have c4:(optC st).take (k*3)++optC (mk::st.drop k)=optC (sortB befH (preH g (i+1))):=by rw [optC_take,← optC_app,hso]
     have hln:(sortB befH (preH g (i+1))).length=k+(1+(st.length - k)):=by rw [sortB_len,hst,List.length_append,List.length_singleton];omega
     rw [c1,c2,c3,c4]
     refine ⟨by rw [optC_length,List.length_drop];omega,by rw [optC_length,List.length_cons,List.length_drop];omega,by rfl,
      i+1,h,by simp only;omega,⟨[some 0,some 1,some 6],rfl,by simp,by simp [setsA,keepA,SWeak,AWeak,hln],?_⟩⟩
     simp [HWeak,BWeak,SWeak,AWeak,List.getElem?_cons_succ,List.getElem?_cons_zero]
   ·rw [if_neg hl] at hst
    have ol:=optC_length (sortB befH (preH g i))
    simp only [awK,Nat.reduceMod,Nat.reduceDiv,reduceIte]
    simp (config:={maxSteps:=1000000}) (disch:=((try simp only [awL]);omega)) only [QR,QS,QT,QU,QV,QW,QX,QY,QZ,Q0,Q1,Q2,gl,ol,nl,h4,gi,MU_n,↓awU,awV,awF,Qa,Qb,Qc,Qd,forall_const,↓reduceIte,↓reduceDIte,↓Qe,Qf,Qg,Qh,Qi,Qj,Qk,Ql,Qm,Qn,Qo,Qp,Qq,Qr,Qs,implies_true,Qt,Qu,Qv,Qw,Qx,Qy,Qz,QA,QB,QC,QD,QE,QF,QG,QH,QI,QJ,QK,QL,QM,QN,QO,QP,QQ]
    exact ⟨i+1,h,by simp only;omega,⟨[some 0,some 1,some 2],rfl,by simp,by simp [setsA,keepA,SWeak,AWeak,hst],by simp [HWeak,BWeak,SWeak,AWeak,hst]⟩⟩
  ·have e:i=4:=by omega
   subst e
   simp only [awK,Nat.reduceMod,Nat.reduceDiv,reduceIte]
   simp (config:={maxSteps:=1000000}) (disch:=((try simp only [awL]);omega)) only [QR,QS,QT,QU,QV,QW,QX,QY,QZ,Q0,Q1,Q2,gl,nl,h4,MU_n,↓awU,awV,awF,Qa,Qb,Qc,Qd,forall_const,↓reduceIte,↓reduceDIte,↓Qe,Qf,Qg,Qh,Qi,Qj,Qk,Ql,Qm,Qn,Qo,Qp,Qq,Qr,Qs,implies_true,Qt,Qu,Qv,Qw,Qx,Qy,Qz,QA,QB,QC,QD,QE,QF,QG,QH,QI,QJ,QK,QL,QM,QN,QO,QP,QQ]
   rw [show sortB befH (preH g 4)=optsH g from rfl]
   have ol:=optC_length (optsH g)
   rw [cut_all (by rw [ol];omega)]
end Go.Proofs.YthbnileadffpiaaGreatDoor
namespace Go.Proofs.YthbnileadffpiaaGreatDoor
open Go Go.Proofs Go.Abs
def okH (g:List Row):Prop:=g.length≤100∧∀ r∈g,r.length≤1000∧∀ s∈r,s.length≤1048576
theorem okH.ok {g:List Row} (h:okH g):okGrid g:=⟨by have:=h.1;omega,fun r hr=>⟨by have:=(h.2 r hr).1;omega,fun s hs=>by have:=(h.2 r hr).2 s hs;omega⟩⟩
theorem okH.at {g:List Row} (h:okH g) (i k:Int):(atG g i k).length≤1048576:=atG_len (fun r hr s hs=>(h.2 r hr).2 s hs) i k
theorem okH.wid {g:List Row} (h:okH g):widG g≤1000:=widG_le fun r hr=>(h.2 r hr).1
def partsG (g:List Row) (k m:Nat):Row:=((List.range m).map fun (i:Nat)=>Lib.trimB (atG g i k) 32).filter fun s=>!decide (s=[])
theorem partsG_succ (g:List Row) (k m:Nat):partsG g k (m+1)=if Lib.trimB (atG g m k) 32=[] then partsG g k m else partsG g k m++[Lib.trimB (atG g m k) 32]:=by
 unfold partsG
 rw [List.range_succ,List.map_append,List.filter_append]
 by_cases h:Lib.trimB (atG g m k) 32=[]
 ·rw [if_pos h];simp [h]
 ·rw [if_neg h];simp [h]
theorem partsG_ne {g:List Row} {k m:Nat} {s:List UInt8} (h:s∈partsG g k m):s≠[]:=by
 have:=(List.mem_filter.1 h).2
 simpa using this
theorem partsG_len (g:List Row) (k m:Nat):(partsG g k m).length≤m:=by
 unfold partsG
 refine Nat.le_trans (List.length_filter_le _ _) ?_
 simp
theorem partsG_le {g:List Row} (h:okH g) {k m:Nat} {s:List UInt8} (hs:s∈partsG g k m):s.length≤1048576:=by
 obtain ⟨i,_,rfl⟩:=List.mem_map.1 (List.mem_filter.1 hs).1
 exact Nat.le_trans (trimB_len _) (h.at _ _)
abbrev colT:List UInt8:=[99,111,108,117,109,110]
def baseP (g:List Row) (k m:Nat):Row:=if partsG g k m=[] then [colT,Lib.decDigits (k+1)] else partsG g k m
def baseG (g:List Row) (k m:Nat):List UInt8:=Lib.join (baseP g k m) [32]
theorem baseG_len {g:List Row} (h:okH g) {k m:Nat} (hk:k<1000) (hm:m≤100):(baseG g k m).length≤200000000:=by
 have j:=join_len [32] 1048576 (Nat.le_refl _) (baseP g k m) fun s hs=>by
  unfold baseP at hs
  split at hs
  ·rcases List.mem_cons.1 hs with rfl | hs
   ·simp
   ·rw [List.mem_singleton.1 hs];have:=dec_len (n:=k+1) (by omega);omega
  ·exact partsG_le h hs
 have l:(baseP g k m).length≤102:=by
  unfold baseP
  split
  ·simp
  ·have:=partsG_len g k m;omega
 have:(baseP g k m).length*(1048576+1)≤102*(1048576+1):=Nat.mul_le_mul_right _ l
 unfold baseG;omega
def cand (b:List UInt8) (n:Nat):List UInt8:=b++[32]++Lib.decDigits n
theorem dec_inj {a b:Nat} (ha:a<100000000) (hb:b<100000000) (h:Lib.decDigits a=Lib.decDigits b):a=b:=by
 have e:=natO_dec ha
 rw [h,natO_dec hb] at e
 exact (Option.some.inj e).symm
theorem cand_inj {b:List UInt8} {m n:Nat} (hm:m<100000000) (hn:n<100000000) (h:cand b m=cand b n):m=n:=dec_inj hm hn (List.append_cancel_left h)
theorem cand_ne (b:List UInt8) (n:Nat):cand b n≠b:=fun h=>by
 have:=congrArg List.length h
 simp [cand] at this
theorem cand_len {b:List UInt8} {n:Nat} (h:n≤1048576):(cand b n).length≤b.length+22:=by
 have:=dec_len h
 simp only [cand,List.length_append,List.length_cons,List.length_nil];omega
def cands (b:List UInt8):Nat→List (List UInt8)
 | 0=>[b]
 | n+1=>cand b (n+2)::cands b n
theorem cands_len (b:List UInt8):∀ n,(cands b n).length=n+1
 | 0=>rfl
 | n+1=>by rw [cands,List.length_cons,cands_len b n]
theorem cands_mem {b s:List UInt8}:∀ {n},s∈cands b n→s=b∨∃ j,2≤j∧j≤n+1∧s=cand b j
 | 0,h=>.inl (List.mem_singleton.1 h)
 | n+1,h=>by
   rcases List.mem_cons.1 h with h | h
   ·exact .inr ⟨n+2,by omega,by omega,h⟩
   ·rcases cands_mem h with h | ⟨j,h1,h2,h3⟩
    ·exact .inl h
    ·exact .inr ⟨j,h1,by omega,h3⟩
theorem cands_nodup (b:List UInt8):∀ n,n<1000000→(cands b n).Nodup
 | 0,_=>List.nodup_cons.2 ⟨by simp,List.nodup_nil⟩
 | n+1,hn=>List.nodup_cons.2 ⟨fun h=>by
   rcases cands_mem h with h | ⟨j,h1,h2,h3⟩
   ·exact cand_ne _ _ h
   ·have:=cand_inj (by omega) (by omega) h3;omega,cands_nodup b n (by omega)⟩
theorem nodup_le:∀ {l out:List (List UInt8)},l.Nodup→(∀ s∈l,s∈out)→l.length≤out.length
 | [],_,_,_=>Nat.zero_le _
 | x::l,out,h,hs=>by
   obtain ⟨h1,h2⟩:=List.nodup_cons.1 h
   have hx:=hs x (by simp)
   have i:=nodup_le (l:=l) (out:=out.erase x) h2 fun s q=>by
    refine (List.mem_erase_of_ne (fun e=>?_)).2 (hs s (List.mem_cons_of_mem _ q))
    subst e;exact h1 q
   rw [List.length_erase_of_mem hx] at i
   have:=List.length_pos_of_mem hx
   simp only [List.length_cons];omega
def TakenTo (out:Row) (b:List UInt8) (n:Nat):Prop:=∀ j,2≤j→j<n→cand b j∈out
theorem takenTo_le {out:Row} {b:List UInt8} {n:Nat} (hb:b∈out) (h:TakenTo out b n) (hn:n<100000):n≤out.length+1:=by
 rcases Nat.lt_or_ge n 2 with h2 | h2
 ·omega
 ·have:=nodup_le (cands_nodup b (n - 2) (by omega)) (out:=out) fun s hs=>by
   rcases cands_mem hs with rfl | ⟨j,h1,h3,rfl⟩
   ·exact hb
   ·exact h j h1 (by omega)
  rw [cands_len] at this
  omega
def IsFree (out:Row) (b s:List UInt8):Prop:=s∉out∧(s=b∨(b∈out∧∃ n,2≤n∧s=cand b n∧TakenTo out b n))
theorem IsFree.uniq {out:Row} {b s t:List UInt8} (h1:IsFree out b s) (h2:IsFree out b t):s=t:=by
 obtain ⟨a1,a2⟩:=h1
 obtain ⟨b1,b2⟩:=h2
 rcases a2 with rfl | ⟨a2,n,a3,rfl,a4⟩
 ·rcases b2 with rfl | ⟨b2,_⟩
  ·rfl
  ·exact absurd b2 a1
 ·rcases b2 with rfl | ⟨b2,m,b3,rfl,b4⟩
  ·exact absurd a2 b1
  ·rcases Nat.lt_trichotomy n m with q | q | q
   ·exact absurd (b4 n a3 q) a1
   ·rw [q]
   ·exact absurd (a4 m b3 q) b1
def pickN (out:Row) (b:List UInt8):Nat→Nat→List UInt8
 | 0,n=>cand b n
 | f+1,n=>if cand b n∈out then pickN out b f (n+1) else cand b n
def nameN (out:Row) (b:List UInt8):List UInt8:=if b∈out then pickN out b out.length 2 else b
theorem pickN_free {out:Row} {b:List UInt8} (hb:b∈out) (ho:out.length<10000):∀ (f n:Nat),2≤n→TakenTo out b n→out.length+2≤f+n→n≤out.length+2→IsFree out b (pickN out b f n)
 | 0,n,h2,ht,hf,hn=>by
   rw [pickN]
   refine ⟨fun h=>?_,.inr ⟨hb,n,h2,rfl,ht⟩⟩
   have:=takenTo_le hb (n:=n+1) (fun j h1 h3=>by
    rcases Nat.lt_or_ge j n with q | q
    ·exact ht j h1 q
    ·rw [show j=n by omega];exact h) (by omega)
   omega
 | f+1,n,h2,ht,hf,hn=>by
   rw [pickN]
   by_cases h:cand b n∈out
   ·rw [if_pos h]
    have t2:TakenTo out b (n+1):=fun j h1 h3=>by
     rcases Nat.lt_or_ge j n with q | q
     ·exact ht j h1 q
     ·rw [show j=n by omega];exact h
    have:=takenTo_le hb t2 (by omega)
    exact pickN_free hb ho f (n+1) (by omega) t2 (by omega) (by omega)
   ·rw [if_neg h]
    exact ⟨h,.inr ⟨hb,n,h2,rfl,ht⟩⟩
theorem nameN_free {out:Row} {b:List UInt8} (ho:out.length<10000):IsFree out b (nameN out b):=by
 unfold nameN
 by_cases h:b∈out
 ·rw [if_pos h]
  exact pickN_free h ho _ _ (by omega) (fun j h1 h2=>by omega) (by omega) (by omega)
 ·rw [if_neg h];exact ⟨h,.inl rfl⟩
def namesG (g:List Row) (m:Nat):Nat→Row
 | 0=>[]
 | k+1=>namesG g m k++[nameN (namesG g m k) (baseG g k m)]
theorem namesG_len (g:List Row) (m:Nat):∀ k,(namesG g m k).length=k
 | 0=>rfl
 | k+1=>by rw [namesG,List.length_append,namesG_len g m k];rfl
def mRows (g:List Row) (n:Int):Nat:=(min n g.length).toNat
end Go.Proofs.YthbnileadffpiaaGreatDoor
namespace Go.Proofs.YthbnileadffpiaaGreatDoor
open Go Go.Proofs Go.Abs
variable {G:Globals}
theorem TakenTo.app {out o2:Row} {b:List UInt8} {n:Nat} (h:TakenTo out b n):TakenTo (out++o2) b n:=fun j h1 h2=>List.mem_append_left _ (h j h1 h2)
def NxI (out:Row) (mn:List (D × D)):Prop:=KeyS mn∧∀ b,∃ nx:Nat,lookV (.int .i64 0) mn (S b) false=.int .i64 nx∧nx≤100000∧TakenTo out b nx
theorem NxI.nil (out:Row):NxI out []:=⟨KeyS.nil,fun b=>⟨0,rfl,by omega,fun j h1 h2=>by omega⟩⟩
theorem NxI.app {out o2:Row} {mn:List (D × D)} (h:NxI out mn):NxI (out++o2) mn:=⟨h.1,fun b=>by
 obtain ⟨nx,h1,h2,h3⟩:=h.2 b
 exact ⟨nx,h1,h2,h3.app⟩⟩
theorem NxI.upd {out:Row} {mn:List (D × D)} (h:NxI out mn) {b:List UInt8} {n:Nat} (hn:n≤100000) (ht:TakenTo out b n):NxI out (updE mn (S b) (.int .i64 n)):=⟨h.1.upd _ _,fun c=>by
 rw [look_upd h.1]
 by_cases e:c=b
 ·rw [if_pos e];subst e;exact ⟨n,rfl,hn,ht⟩
 ·rw [if_neg e];exact h.2 c⟩
def TkI (out:Row) (mt:List (D × D)):Prop:=KeyS mt∧∀ s,lookV (.bool false) mt (S s) false=.bool (decide (s∈out))
theorem TkI.nil:TkI [] []:=⟨KeyS.nil,fun s=>rfl⟩
theorem TkI.upd {out:Row} {mt:List (D × D)} (h:TkI out mt) (t:List UInt8):TkI (out++[t]) (updE mt (S t) (.bool true)):=⟨h.1.upd _ _,fun s=>by
 rw [look_upd h.1]
 by_cases e:s=t
 ·rw [if_pos e,decide_eq_true (by simp [e])]
 ·rw [if_neg e,h.2 s];congr 1;exact decide_eq_decide.2 (by simp [e])⟩
def CurI (out:Row) (b:List UInt8) (n:Nat) (s:List UInt8):Prop:=2≤n∧n≤100001∧((s=b∧TakenTo out b n)∨(b∈out∧3≤n∧s=cand b (n - 1)∧TakenTo out b (n - 1)))
theorem CurI.step {out:Row} {b s:List UInt8} {n:Nat} (h:CurI out b n s) (hs:s∈out) (ho:out.length≤1000):n≤1001∧TakenTo out b n∧CurI out b (n+1) (cand b n):=by
 obtain ⟨h1,h0,h2⟩:=h
 have key:b∈out∧TakenTo out b n:=by
  rcases h2 with ⟨rfl,h3⟩ | ⟨h3,h4,rfl,h5⟩
  ·exact ⟨hs,h3⟩
  ·refine ⟨h3,fun j j1 j2=>?_⟩
   rcases Nat.lt_or_ge j (n - 1) with q | q
   ·exact h5 j j1 q
   ·rw [show j=n - 1 by omega];exact hs
 have le:n≤1001:=by
  rcases Nat.lt_or_ge n 100000 with q | q
  ·have:=takenTo_le key.1 key.2 q;omega
  ·have:=takenTo_le (n:=99999) key.1 (fun j j1 j2=>key.2 j j1 (by omega)) (by omega);omega
 exact ⟨le,key.2,by omega,by omega,.inr ⟨key.1,by omega,by rw [Nat.add_sub_cancel],by rw [Nat.add_sub_cancel];exact key.2⟩⟩
theorem CurI.fin {out:Row} {b s:List UInt8} {n:Nat} (h:CurI out b n s) (hs:s∉out) (ho:out.length≤1000):s=nameN out b:=by
 refine IsFree.uniq (out:=out) (b:=b) ⟨hs,?_⟩ (nameN_free (by omega))
 obtain ⟨h1,h0,h2⟩:=h
 rcases h2 with ⟨rfl,h3⟩ | ⟨h3,h4,rfl,h5⟩
 ·exact .inl rfl
 ·exact .inr ⟨h3,n - 1,by omega,rfl,h5⟩
theorem strs_snoc (a:Row) (s:List UInt8):strs a++[S s]=strs (a++[s]):=by simp [strs]
def NmI (g:List Row) (m:Nat) (x:Nat × List (D × D) × List (D × D)):Prop:=x.1≤widG g∧TkI (namesG g m x.1) x.2.1∧NxI (namesG g m x.1) x.2.2
set_option maxHeartbeats 16000000 in
set_option maxRecDepth 100000 in
theorem names_spec (hI:HI G) (g:List Row) (full:Bool) (hg:okH g) (n:Int) (n1:-9223372036854775808≤n) (n2:n≤9223372036854775807) :
  Ctr Tryz.prog G 17 [.d (.agg [Gr g full]),.d (.int .i64 n)] [] (.d (Ss (namesG g (mRows g n) (widG g)) false)) []:=by
 refine Ctr.pure (M:=M0) hmix Tryz.func17 rfl go17 ?_
 have gl:=@rowsD_length g
 have hgl:=hg.1
 have hw:=hg.wid
 have hm:(if (if (g.length:Int)<n then (g.length:Int) else n) > 0 then (if (g.length:Int)<n then (g.length:Int) else n) else 0)=((mRows g n:Nat):Int):=by
  unfold mRows;split<;>split at *<;>omega
 have hm2:mRows g n≤g.length:=by unfold mRows;omega
 simp (config:={maxSteps:=1000000}) (disch:=((try simp only [awL]);omega)) only [QR,QS,QT,QU,QV,QW,QX,QY,QZ,Q0,Q1,Q2,gl,Tryz.f17,↓awU,awV,awF,Qa,Qb,Qc,Qd,forall_const,↓reduceIte,↓reduceDIte,↓Qe,Qf,Qg,Qh,Qi,Qj,Qk,Ql,Qm,Qn,Qo,Qp,Qq,Qr,Qs,implies_true,Qt,Qu,Qv,Qw,Qx,Qy,Qz,QA,QB,QC,QD,QE,QF,QG,QH,QI,QJ,QK,QL,QM,QN,QO,QP,QQ]
 rw [hm]
 clear hm
 generalize mRows g n=m at *
 refine CallC.pure (width_spec g false hg.ok.w) ?_
 simp (config:={maxSteps:=1000000}) (disch:=((try simp only [awL]);omega)) only [QR,QS,QT,QU,QV,QW,QX,QY,QZ,Q0,Q1,Q2,gl,↓awU,awV,awF,Qa,Qb,Qc,Qd,forall_const,↓reduceIte,↓reduceDIte,↓Qe,Qf,Qg,Qh,Qi,Qj,Qk,Ql,Qm,Qn,Qo,Qp,Qq,Qr,Qs,implies_true,Qt,Qu,Qv,Qw,Qx,Qy,Qz,QA,QB,QC,QD,QE,QF,QG,QH,QI,QJ,QK,QL,QM,QN,QO,QP,QQ]
 refine LoopC.fr 16777414 (α:=Nat × List (D × D) × List (D × D)) (fun x=>widG g - x.1) (fun x=>[(5,.lsl 3 1 0 x.1),(25,.d (.int .i64 (x.1:Nat)))])
  (fun x=>[.box [.d (Gr g full)],.map x.2.1,.map x.2.2,.row false (strs (namesG g m x.1))]) (NmI g m) (0,[],[]) ⟨Nat.zero_le _,TkI.nil,NxI.nil _⟩ ?_ ?_
 ·exact ⟨[some 0,some 1,some 2,none],rfl,by simp,by simp [setsA,keepA,SWeak,AWeak],by simp [HWeak,BWeak,SWeak,AWeak,namesG,strs]⟩
 ·rintro ⟨k,mt,mn⟩ ⟨hk,ht,hx⟩
  simp only at hk ht hx
  have nl:=namesG_len g m k
  have sl:=@strs_length (namesG g m k)
  rw [nl] at sl
  simp only [awK,Nat.reduceMod,Nat.reduceDiv,reduceIte]
  rcases Nat.lt_or_ge k (widG g) with h3 | h3
  ·have hst:namesG g m (k+1)=namesG g m k++[nameN (namesG g m k) (baseG g k m)]:=rfl
   simp (config:={maxSteps:=1000000}) (disch:=((try simp only [awL]);omega)) only [QR,QS,QT,QU,QV,QW,QX,QY,QZ,Q0,Q1,Q2,gl,↓awU,awV,awF,Qa,Qb,Qc,Qd,forall_const,↓reduceIte,↓reduceDIte,↓Qe,Qf,Qg,Qh,Qi,Qj,Qk,Ql,Qm,Qn,Qo,Qp,Qq,Qr,Qs,implies_true,Qt,Qu,Qv,Qw,Qx,Qy,Qz,QA,QB,QC,QD,QE,QF,QG,QH,QI,QJ,QK,QL,QM,QN,QO,QP,QQ]
   refine LoopC.fx 318767590 (α:=Nat) (β:=Unit) (fun i=>m - i) (fun i=>[(9,.lsl 4 1 0 (partsG g k i).length),(29,.d (.int .i64 (i:Nat)))]) (fun i=>[.box [.d (Gr g full)],.map mt,.map mn,.row false (strs (namesG g m k)),.row false (strs (partsG g k i))])
    (fun i=>i≤m) 50332134 (fun _=>[(9,.lsl 4 1 0 (partsG g k m).length)]) (fun _=>[.box [.d (Gr g full)],.map mt,.map mn,.row false (strs (namesG g m k)),.row false (strs (partsG g k m))]) (fun _=>True) 0 (Nat.zero_le _) ?_ ?_ ?_
   ·exact ⟨[some 0,some 1,some 2,some 3,none],rfl,by simp,by simp [setsA,keepA,SWeak,AWeak,partsG],by simp [HWeak,BWeak,SWeak,AWeak,partsG,strs]⟩
   ·intro i hi
    have pl:=partsG_len g k i
    have sp:=@strs_length (partsG g k i)
    simp only [awK,Nat.reduceMod,Nat.reduceDiv,reduceIte]
    rcases Nat.lt_or_ge i m with h4 | h4
    ·have ps:=partsG_succ g k i
     have al:=hg.at i k
     have tl:=trimB_len (atG g i k)
     simp (config:={maxSteps:=1000000}) (disch:=((try simp only [awL]);omega)) only [QR,QS,QT,QU,QV,QW,QX,QY,QZ,Q0,Q1,Q2,gl,↓awU,awV,awF,Qa,Qb,Qc,Qd,forall_const,↓reduceIte,↓reduceDIte,↓Qe,Qf,Qg,Qh,Qi,Qj,Qk,Ql,Qm,Qn,Qo,Qp,Qq,Qr,Qs,implies_true,Qt,Qu,Qv,Qw,Qx,Qy,Qz,QA,QB,QC,QD,QE,QF,QG,QH,QI,QJ,QK,QL,QM,QN,QO,QP,QQ]
     refine CallC.pure (gat_spec g false hg.ok.w i k (by omega) (by omega) (by omega) (by omega)) ?_
     simp (config:={maxSteps:=1000000}) (disch:=((try simp only [awL]);omega)) only [QR,QS,QT,QU,QV,QW,QX,QY,QZ,Q0,Q1,Q2,gl,↓awU,awV,awF,Qa,Qb,Qc,Qd,forall_const,↓reduceIte,↓reduceDIte,↓Qe,Qf,Qg,Qh,Qi,Qj,Qk,Ql,Qm,Qn,Qo,Qp,Qq,Qr,Qs,implies_true,Qt,Qu,Qv,Qw,Qx,Qy,Qz,QA,QB,QC,QD,QE,QF,QG,QH,QI,QJ,QK,QL,QM,QN,QO,QP,QQ]
     refine CallC.pure (ttrim_spec (atG g i k) (by omega)) ?_
     generalize Lib.trimB (atG g i k) 32=s at *
     by_cases h5:s=[]
     ·rw [if_pos h5] at ps
      rw [h5]
      simp (config:={maxSteps:=1000000}) (disch:=((try simp only [awL]);omega)) only [QR,QS,QT,QU,QV,QW,QX,QY,QZ,Q0,Q1,Q2,gl,↓awU,awV,awF,Qa,Qb,Qc,Qd,forall_const,↓reduceIte,↓reduceDIte,↓Qe,Qf,Qg,Qh,Qi,Qj,Qk,Ql,Qm,Qn,Qo,Qp,Qq,Qr,Qs,implies_true,Qt,Qu,Qv,Qw,Qx,Qy,Qz,QA,QB,QC,QD,QE,QF,QG,QH,QI,QJ,QK,QL,QM,QN,QO,QP,QQ]
      exact ⟨i+1,h4,by simp only;omega,⟨[some 0,some 1,some 2,some 3,some 4],rfl,by simp,by simp [setsA,keepA,SWeak,AWeak,ps],by simp [HWeak,BWeak,SWeak,AWeak,ps]⟩⟩
     ·rw [if_neg h5] at ps
      have pll:(partsG g k (i+1)).length=(partsG g k i).length+1:=by rw [ps,List.length_append];rfl
      have psn:=strs_snoc (partsG g k i) s
      rw [← ps] at psn
      simp (config:={maxSteps:=1000000}) (disch:=((try simp only [awL]);omega)) only [QR,QS,QT,QU,QV,QW,QX,QY,QZ,Q0,Q1,Q2,gl,h5,sp,↓awU,awV,awF,Qa,Qb,Qc,Qd,forall_const,↓reduceIte,↓reduceDIte,↓Qe,Qf,Qg,Qh,Qi,Qj,Qk,Ql,Qm,Qn,Qo,Qp,Qq,Qr,Qs,implies_true,Qt,Qu,Qv,Qw,Qx,Qy,Qz,QA,QB,QC,QD,QE,QF,QG,QH,QI,QJ,QK,QL,QM,QN,QO,QP,QQ]
      exact ⟨i+1,h4,by simp only;omega,⟨[some 0,some 1,some 2,some 3,some 6],rfl,by simp,by simp [setsA,keepA,SWeak,AWeak,pll],by simp [HWeak,BWeak,SWeak,AWeak,← psn]⟩⟩
    ·have e:i=m:=by omega
     subst e
     simp (config:={maxSteps:=1000000}) (disch:=((try simp only [awL]);omega)) only [QR,QS,QT,QU,QV,QW,QX,QY,QZ,Q0,Q1,Q2,gl,↓awU,awV,awF,Qa,Qb,Qc,Qd,forall_const,↓reduceIte,↓reduceDIte,↓Qe,Qf,Qg,Qh,Qi,Qj,Qk,Ql,Qm,Qn,Qo,Qp,Qq,Qr,Qs,implies_true,Qt,Qu,Qv,Qw,Qx,Qy,Qz,QA,QB,QC,QD,QE,QF,QG,QH,QI,QJ,QK,QL,QM,QN,QO,QP,QQ]
     exact ⟨(),trivial,⟨[some 0,some 1,some 2,some 3,some 4],rfl,by simp,by simp [setsA,keepA,SWeak,AWeak],by simp [HWeak,BWeak,SWeak,AWeak]⟩⟩
   ·rintro ⟨⟩ -
    simp only [awK,Nat.reduceMod,Nat.reduceDiv,reduceIte]
    have pl:=partsG_len g k m
    have sp:=@strs_length (partsG g k m)
    simp (config:={maxSteps:=1000000}) (disch:=((try simp only [awL]);omega)) only [QR,QS,QT,QU,QV,QW,QX,QY,QZ,Q0,Q1,Q2,gl,sp,↓awU,awV,awF,Qa,Qb,Qc,Qd,forall_const,↓reduceIte,↓reduceDIte,↓Qe,Qf,Qg,Qh,Qi,Qj,Qk,Ql,Qm,Qn,Qo,Qp,Qq,Qr,Qs,implies_true,Qt,Qu,Qv,Qw,Qx,Qy,Qz,QA,QB,QC,QD,QE,QF,QG,QH,QI,QJ,QK,QL,QM,QN,QO,QP,QQ]
    refine ⟨fun h5=>?_,fun h5=>?_⟩
    ·have e0:partsG g k m=[]:=List.eq_nil_of_length_eq_zero (by omega)
     refine CallC.pure (hI (k+1) (by omega)) ?_
     simp (config:={maxSteps:=1000000}) (disch:=((try simp only [awL]);omega)) only [QR,QS,QT,QU,QV,QW,QX,QY,QZ,Q0,Q1,Q2,gl,sp,↓awU,awV,awF,Qa,Qb,Qc,Qd,forall_const,↓reduceIte,↓reduceDIte,↓Qe,Qf,Qg,Qh,Qi,Qj,Qk,Ql,Qm,Qn,Qo,Qp,Qq,Qr,Qs,implies_true,Qt,Qu,Qv,Qw,Qx,Qy,Qz,QA,QB,QC,QD,QE,QF,QG,QH,QI,QJ,QK,QL,QM,QN,QO,QP,QQ]
     refine CallC.frozenE (join_spec [colT,Lib.decDigits (k+1)] false [32] (by simp) (by simp) (by have:=dec_len (n:=k+1) (by omega);simp [Lib.join_cons,Lib.joinTail];try omega)) (by rfl) ?_
     rw [show Lib.join ([colT,Lib.decDigits (k+1)]) [32]=baseG g k m by rw [baseG,baseP,if_pos e0]]
     have bl:=baseG_len hg (k:=k) (m:=m) (by omega) (by omega)
     obtain ⟨nx,nx1,nx2,nx3⟩:=hx.2 (baseG g k m)
     have okx:=hx.1.ok
     generalize baseG g k m=b at *
     have hmx:(if (nx:Int) > 2 then (nx:Int) else 2)=((max 2 nx:Nat):Int):=by split<;>omega
     simp (config:={maxSteps:=1000000}) (disch:=((try simp only [awL]);omega)) only [QR,QS,QT,QU,QV,QW,QX,QY,QZ,Q0,Q1,Q2,gl,okx,nx1,hmx,↓awU,awV,awF,Qa,Qb,Qc,Qd,forall_const,↓reduceIte,↓reduceDIte,↓Qe,Qf,Qg,Qh,Qi,Qj,Qk,Ql,Qm,Qn,Qo,Qp,Qq,Qr,Qs,implies_true,Qt,Qu,Qv,Qw,Qx,Qy,Qz,QA,QB,QC,QD,QE,QF,QG,QH,QI,QJ,QK,QL,QM,QN,QO,QP,QQ]
     have okt:=ht.1.ok
     refine LoopC.fx 50335974 (α:=Nat × List UInt8 × List (D × D)) (β:=List UInt8 × List (D × D)) (fun y=>200000 - y.1) (fun y=>[(13,.d (S y.2.1)),(14,.d (.int .i64 (y.1:Nat)))]) (fun y=>[.box [.d (Gr g full)],.map mt,.map y.2.2,.row false (strs (namesG g m k))])
      (fun y=>CurI (namesG g m k) b y.1 y.2.1∧NxI (namesG g m k) y.2.2) 50331878 (fun y=>[(13,.d (S y.1))]) (fun y=>[.box [.d (Gr g full)],.map mt,.map y.2,.row false (strs (namesG g m k))]) (fun y=>y.1∉namesG g m k∧y.1=nameN (namesG g m k) b∧NxI (namesG g m k) y.2)
      (max 2 nx,b,mn) ⟨⟨by simp only;omega,by simp only;omega,.inl ⟨rfl,fun j j1 j2=>nx3 j j1 (by simp only at j2;omega)⟩⟩,hx⟩ ?_ ?_ ?_
     ·exact ⟨[some 0,some 1,some 2,some 3],rfl,by simp,by simp [setsA,keepA,SWeak,AWeak],by simp [HWeak,BWeak,SWeak,AWeak]⟩
     ·rintro ⟨n3,s,mq⟩ ⟨hc,hq⟩
      simp only at hc hq
      simp only [awK,Nat.reduceMod,Nat.reduceDiv,reduceIte]
      have lk:=ht.2 s
      have okq:=hq.1.ok
      by_cases h6:s∈namesG g m k
      ·rw [decide_eq_true h6] at lk
       obtain ⟨c1,c2,c3⟩:=hc.step h6 (by omega)
       have dl:=dec_len (n:=n3) (by omega)
       simp (config:={maxSteps:=1000000}) (disch:=((try simp only [awL]);omega)) only [QR,QS,QT,QU,QV,QW,QX,QY,QZ,Q0,Q1,Q2,gl,okt,okq,lk,↓awU,awV,awF,Qa,Qb,Qc,Qd,forall_const,↓reduceIte,↓reduceDIte,↓Qe,Qf,Qg,Qh,Qi,Qj,Qk,Ql,Qm,Qn,Qo,Qp,Qq,Qr,Qs,implies_true,Qt,Qu,Qv,Qw,Qx,Qy,Qz,QA,QB,QC,QD,QE,QF,QG,QH,QI,QJ,QK,QL,QM,QN,QO,QP,QQ]
       refine CallC.pure (hI n3 (by omega)) ?_
       simp (config:={maxSteps:=1000000}) (disch:=((try simp only [awL]);omega)) only [QR,QS,QT,QU,QV,QW,QX,QY,QZ,Q0,Q1,Q2,gl,okt,okq,lk,↓awU,awV,awF,Qa,Qb,Qc,Qd,forall_const,↓reduceIte,↓reduceDIte,↓Qe,Qf,Qg,Qh,Qi,Qj,Qk,Ql,Qm,Qn,Qo,Qp,Qq,Qr,Qs,implies_true,Qt,Qu,Qv,Qw,Qx,Qy,Qz,QA,QB,QC,QD,QE,QF,QG,QH,QI,QJ,QK,QL,QM,QN,QO,QP,QQ]
       exact ⟨(n3+1,cand b n3,updE mq (S b) (.int .i64 n3)),⟨c3,hq.upd (by omega) c2⟩,by simp only;omega,⟨[some 0,some 1,some 2,some 3],rfl,by simp,by simp [setsA,keepA,SWeak,AWeak,cand],by simp [HWeak,BWeak,SWeak,AWeak]⟩⟩
      ·rw [decide_eq_false h6] at lk
       have hf:=hc.fin h6 (by omega)
       simp (config:={maxSteps:=1000000}) (disch:=((try simp only [awL]);omega)) only [QR,QS,QT,QU,QV,QW,QX,QY,QZ,Q0,Q1,Q2,gl,okt,lk,↓awU,awV,awF,Qa,Qb,Qc,Qd,forall_const,↓reduceIte,↓reduceDIte,↓Qe,Qf,Qg,Qh,Qi,Qj,Qk,Ql,Qm,Qn,Qo,Qp,Qq,Qr,Qs,implies_true,Qt,Qu,Qv,Qw,Qx,Qy,Qz,QA,QB,QC,QD,QE,QF,QG,QH,QI,QJ,QK,QL,QM,QN,QO,QP,QQ]
       exact ⟨(s,mq),⟨h6,hf,hq⟩,⟨[some 0,some 1,some 2,some 3],rfl,by simp,by simp [setsA,keepA,SWeak,AWeak],by simp [HWeak,BWeak,SWeak,AWeak]⟩⟩
     ·rintro ⟨s,mq⟩ ⟨h6,hf,hq⟩
      simp only at h6 hf hq
      simp only [awK,Nat.reduceMod,Nat.reduceDiv,reduceIte]
      have okq:=hq.1.ok
      rw [← hf] at hst
      have ssn:=strs_snoc (namesG g m k) s
      rw [← hst] at ssn
      have htk:=ht.upd s
      have hqk:=hq.app (o2:=[s])
      rw [← hst] at htk hqk
      simp (config:={maxSteps:=1000000}) (disch:=((try simp only [awL]);omega)) only [QR,QS,QT,QU,QV,QW,QX,QY,QZ,Q0,Q1,Q2,gl,okt,sl,↓awU,awV,awF,Qa,Qb,Qc,Qd,forall_const,↓reduceIte,↓reduceDIte,↓Qe,Qf,Qg,Qh,Qi,Qj,Qk,Ql,Qm,Qn,Qo,Qp,Qq,Qr,Qs,implies_true,Qt,Qu,Qv,Qw,Qx,Qy,Qz,QA,QB,QC,QD,QE,QF,QG,QH,QI,QJ,QK,QL,QM,QN,QO,QP,QQ]
      exact ⟨(k+1,updE mt (S s) (.bool true),mq),⟨h3,htk,hqk⟩,by simp only;omega,⟨[some 0,some 1,some 2,some 5],rfl,by simp,by simp [setsA,keepA,SWeak,AWeak],by simp [HWeak,BWeak,SWeak,AWeak,← ssn]⟩⟩
    ·have e0:¬ partsG g k m=[]:=fun q=>h5 (by rw [q];rfl)
     have jl:=baseG_len hg (k:=k) (m:=m) (by omega) (by omega)
     rw [baseG,baseP,if_neg e0] at jl
     refine CallC.frozenE (join_spec (partsG g k m) false [32] (by omega) (by omega) (by omega)) (by rw [cut_all (by rw [sp])]) ?_
     rw [show Lib.join (partsG g k m) [32]=baseG g k m by rw [baseG,baseP,if_neg e0]]
     have bl:=baseG_len hg (k:=k) (m:=m) (by omega) (by omega)
     obtain ⟨nx,nx1,nx2,nx3⟩:=hx.2 (baseG g k m)
     have okx:=hx.1.ok
     generalize baseG g k m=b at *
     have hmx:(if (nx:Int) > 2 then (nx:Int) else 2)=((max 2 nx:Nat):Int):=by split<;>omega
     simp (config:={maxSteps:=1000000}) (disch:=((try simp only [awL]);omega)) only [QR,QS,QT,QU,QV,QW,QX,QY,QZ,Q0,Q1,Q2,gl,okx,nx1,hmx,↓awU,awV,awF,Qa,Qb,Qc,Qd,forall_const,↓reduceIte,↓reduceDIte,↓Qe,Qf,Qg,Qh,Qi,Qj,Qk,Ql,Qm,Qn,Qo,Qp,Qq,Qr,Qs,implies_true,Qt,Qu,Qv,Qw,Qx,Qy,Qz,QA,QB,QC,QD,QE,QF,QG,QH,QI,QJ,QK,QL,QM,QN,QO,QP,QQ]
     have okt:=ht.1.ok
     refine LoopC.fx 50335974 (α:=Nat × List UInt8 × List (D × D)) (β:=List UInt8 × List (D × D)) (fun y=>200000 - y.1) (fun y=>[(13,.d (S y.2.1)),(14,.d (.int .i64 (y.1:Nat)))]) (fun y=>[.box [.d (Gr g full)],.map mt,.map y.2.2,.row false (strs (namesG g m k))])
      (fun y=>CurI (namesG g m k) b y.1 y.2.1∧NxI (namesG g m k) y.2.2) 50331878 (fun y=>[(13,.d (S y.1))]) (fun y=>[.box [.d (Gr g full)],.map mt,.map y.2,.row false (strs (namesG g m k))]) (fun y=>y.1∉namesG g m k∧y.1=nameN (namesG g m k) b∧NxI (namesG g m k) y.2)
      (max 2 nx,b,mn) ⟨⟨by simp only;omega,by simp only;omega,.inl ⟨rfl,fun j j1 j2=>nx3 j j1 (by simp only at j2;omega)⟩⟩,hx⟩ ?_ ?_ ?_
     ·exact ⟨[some 0,some 1,some 2,some 3],rfl,by simp,by simp [setsA,keepA,SWeak,AWeak],by simp [HWeak,BWeak,SWeak,AWeak]⟩
     ·rintro ⟨n3,s,mq⟩ ⟨hc,hq⟩
      simp only at hc hq
      simp only [awK,Nat.reduceMod,Nat.reduceDiv,reduceIte]
      have lk:=ht.2 s
      have okq:=hq.1.ok
      by_cases h6:s∈namesG g m k
      ·rw [decide_eq_true h6] at lk
       obtain ⟨c1,c2,c3⟩:=hc.step h6 (by omega)
       have dl:=dec_len (n:=n3) (by omega)
       simp (config:={maxSteps:=1000000}) (disch:=((try simp only [awL]);omega)) only [QR,QS,QT,QU,QV,QW,QX,QY,QZ,Q0,Q1,Q2,gl,okt,okq,lk,↓awU,awV,awF,Qa,Qb,Qc,Qd,forall_const,↓reduceIte,↓reduceDIte,↓Qe,Qf,Qg,Qh,Qi,Qj,Qk,Ql,Qm,Qn,Qo,Qp,Qq,Qr,Qs,implies_true,Qt,Qu,Qv,Qw,Qx,Qy,Qz,QA,QB,QC,QD,QE,QF,QG,QH,QI,QJ,QK,QL,QM,QN,QO,QP,QQ]
       refine CallC.pure (hI n3 (by omega)) ?_
       simp (config:={maxSteps:=1000000}) (disch:=((try simp only [awL]);omega)) only [QR,QS,QT,QU,QV,QW,QX,QY,QZ,Q0,Q1,Q2,gl,okt,okq,lk,↓awU,awV,awF,Qa,Qb,Qc,Qd,forall_const,↓reduceIte,↓reduceDIte,↓Qe,Qf,Qg,Qh,Qi,Qj,Qk,Ql,Qm,Qn,Qo,Qp,Qq,Qr,Qs,implies_true,Qt,Qu,Qv,Qw,Qx,Qy,Qz,QA,QB,QC,QD,QE,QF,QG,QH,QI,QJ,QK,QL,QM,QN,QO,QP,QQ]
       exact ⟨(n3+1,cand b n3,updE mq (S b) (.int .i64 n3)),⟨c3,hq.upd (by omega) c2⟩,by simp only;omega,⟨[some 0,some 1,some 2,some 3],rfl,by simp,by simp [setsA,keepA,SWeak,AWeak,cand],by simp [HWeak,BWeak,SWeak,AWeak]⟩⟩
      ·rw [decide_eq_false h6] at lk
       have hf:=hc.fin h6 (by omega)
       simp (config:={maxSteps:=1000000}) (disch:=((try simp only [awL]);omega)) only [QR,QS,QT,QU,QV,QW,QX,QY,QZ,Q0,Q1,Q2,gl,okt,lk,↓awU,awV,awF,Qa,Qb,Qc,Qd,forall_const,↓reduceIte,↓reduceDIte,↓Qe,Qf,Qg,Qh,Qi,Qj,Qk,Ql,Qm,Qn,Qo,Qp,Qq,Qr,Qs,implies_true,Qt,Qu,Qv,Qw,Qx,Qy,Qz,QA,QB,QC,QD,QE,QF,QG,QH,QI,QJ,QK,QL,QM,QN,QO,QP,QQ]
       exact ⟨(s,mq),⟨h6,hf,hq⟩,⟨[some 0,some 1,some 2,some 3],rfl,by simp,by simp [setsA,keepA,SWeak,AWeak],by simp [HWeak,BWeak,SWeak,AWeak]⟩⟩
     ·rintro ⟨s,mq⟩ ⟨h6,hf,hq⟩
      simp only at h6 hf hq
      simp only [awK,Nat.reduceMod,Nat.reduceDiv,reduceIte]
      have okq:=hq.1.ok
      rw [← hf] at hst
      have ssn:=strs_snoc (namesG g m k) s
      rw [← hst] at ssn
      have htk:=ht.upd s
      have hqk:=hq.app (o2:=[s])
      rw [← hst] at htk hqk
      simp (config:={maxSteps:=1000000}) (disch:=((try simp only [awL]);omega)) only [QR,QS,QT,QU,QV,QW,QX,QY,QZ,Q0,Q1,Q2,gl,okt,sl,↓awU,awV,awF,Qa,Qb,Qc,Qd,forall_const,↓reduceIte,↓reduceDIte,↓Qe,Qf,Qg,Qh,Qi,Qj,Qk,Ql,Qm,Qn,Qo,Qp,Qq,Qr,Qs,implies_true,Qt,Qu,Qv,Qw,Qx,Qy,Qz,QA,QB,QC,QD,QE,QF,QG,QH,QI,QJ,QK,QL,QM,QN,QO,QP,QQ]
      exact ⟨(k+1,updE mt (S s) (.bool true),mq),⟨h3,htk,hqk⟩,by simp only;omega,⟨[some 0,some 1,some 2,some 5],rfl,by simp,by simp [setsA,keepA,SWeak,AWeak],by simp [HWeak,BWeak,SWeak,AWeak,← ssn]⟩⟩
  ·have e:k=widG g:=by omega
   subst e
   simp (config:={maxSteps:=1000000}) (disch:=((try simp only [awL]);omega)) only [QR,QS,QT,QU,QV,QW,QX,QY,QZ,Q0,Q1,Q2,gl,sl,↓awU,awV,awF,Qa,Qb,Qc,Qd,forall_const,↓reduceIte,↓reduceDIte,↓Qe,Qf,Qg,Qh,Qi,Qj,Qk,Ql,Qm,Qn,Qo,Qp,Qq,Qr,Qs,implies_true,Qt,Qu,Qv,Qw,Qx,Qy,Qz,QA,QB,QC,QD,QE,QF,QG,QH,QI,QJ,QK,QL,QM,QN,QO,QP,QQ]
   rw [cut_all (by rw [sl])]
   unfold Ss
   rw [nl]
end Go.Proofs.YthbnileadffpiaaGreatDoor
namespace Go.Proofs.YthbnileadffpiaaGreatDoor
open Go Go.Proofs Go.Abs
variable {G:Globals}
theorem join_ne {l:Row} (h:∀ s∈l,s≠[]) (hl:l≠[]):Lib.join l [32]≠[]:=by
 rcases l with _ | ⟨x,r⟩
 ·exact absurd rfl hl
 ·rw [Lib.join_cons]
  intro e
  exact h x (by simp) (List.append_eq_nil_iff.1 e).1
set_option maxHeartbeats 16000000 in
set_option maxRecDepth 100000 in
theorem rnames_spec (hI:HI G) (g:List Row) (full:Bool) (hg:okH g) (n:Int) (n1:-9223372036854775808≤n) (n2:n≤9223372036854775807) :
  Ctr Tryz.prog G 18 [.d (.agg [Gr g full]),.d (.int .i64 n)] [] (.d (Ss (namesG g (mRows g n) (widG g)) false)) []:=by
 refine Ctr.pure (M:=M0) hmix Tryz.func18 rfl go18 ?_
 have gl:=@rowsD_length g
 have hgl:=hg.1
 have hw:=hg.wid
 have hm:∀ i:Nat,i<mRows g n↔((i:Int)<n∧(i:Int)<g.length):=fun i=>by unfold mRows;omega
 have hm2:mRows g n≤g.length:=by unfold mRows;omega
 generalize mRows g n=m at *
 simp (config:={maxSteps:=1000000}) (disch:=((try simp only [awL]);omega)) only [QR,QS,QT,QU,QV,QW,QX,QY,QZ,Q0,Q1,Q2,gl,Tryz.f18,↓awU,awV,awF,Qa,Qb,Qc,Qd,forall_const,↓reduceIte,↓reduceDIte,↓Qe,Qf,Qg,Qh,Qi,Qj,Qk,Ql,Qm,Qn,Qo,Qp,Qq,Qr,Qs,implies_true,Qt,Qu,Qv,Qw,Qx,Qy,Qz,QA,QB,QC,QD,QE,QF,QG,QH,QI,QJ,QK,QL,QM,QN,QO,QP,QQ]
 refine LoopC.fr 6 (α:=Nat) (fun k=>widG g - k) (fun k=>[(5,.lsl 1 1 0 k),(6,.d (.int .i64 (k:Nat)))])
  (fun k=>[.box [.d (Gr g full)],.row false (strs (namesG g m k))]) (fun k=>k≤widG g) 0 (Nat.zero_le _) ?_ ?_
 ·exact ⟨[some 0,none],rfl,by simp,by simp [setsA,keepA,SWeak,AWeak],by simp [HWeak,BWeak,SWeak,AWeak,namesG,strs]⟩
 ·intro k hk
  have nl:=namesG_len g m k
  have sl:=@strs_length (namesG g m k)
  rw [nl] at sl
  simp only [awK,Nat.reduceMod,Nat.reduceDiv,reduceIte]
  simp (config:={maxSteps:=1000000}) (disch:=((try simp only [awL]);omega)) only [QR,QS,QT,QU,QV,QW,QX,QY,QZ,Q0,Q1,Q2,gl,↓awU,awV,awF,Qa,Qb,Qc,Qd,forall_const,↓reduceIte,↓reduceDIte,↓Qe,Qf,Qg,Qh,Qi,Qj,Qk,Ql,Qm,Qn,Qo,Qp,Qq,Qr,Qs,implies_true,Qt,Qu,Qv,Qw,Qx,Qy,Qz,QA,QB,QC,QD,QE,QF,QG,QH,QI,QJ,QK,QL,QM,QN,QO,QP,QQ]
  refine CallC.pure (rwidth_spec g false hg.ok.w) ?_
  rcases Nat.lt_or_ge k (widG g) with h3 | h3
  ·have hst:namesG g m (k+1)=namesG g m k++[nameN (namesG g m k) (baseG g k m)]:=rfl
   simp (config:={maxSteps:=1000000}) (disch:=((try simp only [awL]);omega)) only [QR,QS,QT,QU,QV,QW,QX,QY,QZ,Q0,Q1,Q2,gl,↓awU,awV,awF,Qa,Qb,Qc,Qd,forall_const,↓reduceIte,↓reduceDIte,↓Qe,Qf,Qg,Qh,Qi,Qj,Qk,Ql,Qm,Qn,Qo,Qp,Qq,Qr,Qs,implies_true,Qt,Qu,Qv,Qw,Qx,Qy,Qz,QA,QB,QC,QD,QE,QF,QG,QH,QI,QJ,QK,QL,QM,QN,QO,QP,QQ]
   refine LoopC.fx 102 (α:=Nat) (β:=Unit) (fun i=>m - i) (fun i=>[(7,.d (S (Lib.join (partsG g k i) [32]))),(8,.d (.int .i64 (i:Nat)))]) (fun i=>[.box [.d (Gr g full)],.row false (strs (namesG g m k))])
    (fun i=>i≤m) 102 (fun _=>[(7,.d (S (Lib.join (partsG g k m) [32])))]) (fun _=>[.box [.d (Gr g full)],.row false (strs (namesG g m k))]) (fun _=>True) 0 (Nat.zero_le _) ?_ ?_ ?_
   ·exact ⟨[some 0,some 1],rfl,by simp,by simp [setsA,keepA,SWeak,AWeak,partsG,Lib.join_nil],by simp [HWeak,BWeak,SWeak,AWeak]⟩
   ·intro i hi
    simp only [awK,Nat.reduceMod,Nat.reduceDiv,reduceIte]
    rcases Nat.lt_or_ge i m with h4 | h4
    ·obtain ⟨q1,q2⟩:=(hm i).1 h4
     have ps:=partsG_succ g k i
     have al:=hg.at i k
     have tl:=trimB_len (atG g i k)
     have pl:=partsG_len g k i
     have jl:=join_len [32] 1048576 (Nat.le_refl _) (partsG g k i) fun s hs=>partsG_le hg hs
     have jm:(partsG g k i).length*(1048576+1)≤100*(1048576+1):=Nat.mul_le_mul_right _ (by omega)
     have js:=fun s=>join_snoc [32] s (partsG g k i)
     have jn:=join_ne (l:=partsG g k i) fun s hs=>partsG_ne hs
     simp (config:={maxSteps:=1000000}) (disch:=((try simp only [awL]);omega)) only [QR,QS,QT,QU,QV,QW,QX,QY,QZ,Q0,Q1,Q2,gl,↓awU,awV,awF,Qa,Qb,Qc,Qd,forall_const,↓reduceIte,↓reduceDIte,↓Qe,Qf,Qg,Qh,Qi,Qj,Qk,Ql,Qm,Qn,Qo,Qp,Qq,Qr,Qs,implies_true,Qt,Qu,Qv,Qw,Qx,Qy,Qz,QA,QB,QC,QD,QE,QF,QG,QH,QI,QJ,QK,QL,QM,QN,QO,QP,QQ]
     refine CallC.pure (rat_spec g false hg.ok.w i k (by omega) (by omega) (by omega) (by omega) (by omega)) ?_
     generalize Lib.trimB (atG g i k) 32=s at *
     by_cases h5:s=[]
     ·rw [if_pos h5] at ps
      rw [h5]
      simp (config:={maxSteps:=1000000}) (disch:=((try simp only [awL]);omega)) only [QR,QS,QT,QU,QV,QW,QX,QY,QZ,Q0,Q1,Q2,gl,↓awU,awV,awF,Qa,Qb,Qc,Qd,forall_const,↓reduceIte,↓reduceDIte,↓Qe,Qf,Qg,Qh,Qi,Qj,Qk,Ql,Qm,Qn,Qo,Qp,Qq,Qr,Qs,implies_true,Qt,Qu,Qv,Qw,Qx,Qy,Qz,QA,QB,QC,QD,QE,QF,QG,QH,QI,QJ,QK,QL,QM,QN,QO,QP,QQ]
      exact ⟨i+1,h4,by simp only;omega,⟨[some 0,some 1],rfl,by simp,by simp [setsA,keepA,SWeak,AWeak,ps],by simp [HWeak,BWeak,SWeak,AWeak,ps]⟩⟩
     ·rw [if_neg h5] at ps
      have js2:=js s
      rw [← ps] at js2
      by_cases h6:partsG g k i=[]
      ·rw [if_pos h6] at js2
       rw [h6,Lib.join_nil]
       simp (config:={maxSteps:=1000000}) (disch:=((try simp only [awL]);omega)) only [QR,QS,QT,QU,QV,QW,QX,QY,QZ,Q0,Q1,Q2,gl,h5,↓awU,awV,awF,Qa,Qb,Qc,Qd,forall_const,↓reduceIte,↓reduceDIte,↓Qe,Qf,Qg,Qh,Qi,Qj,Qk,Ql,Qm,Qn,Qo,Qp,Qq,Qr,Qs,implies_true,Qt,Qu,Qv,Qw,Qx,Qy,Qz,QA,QB,QC,QD,QE,QF,QG,QH,QI,QJ,QK,QL,QM,QN,QO,QP,QQ]
       exact ⟨i+1,h4,by simp only;omega,⟨[some 0,some 1],rfl,by simp,by simp [setsA,keepA,SWeak,AWeak,js2],by simp [HWeak,BWeak,SWeak,AWeak]⟩⟩
      ·rw [if_neg h6] at js2
       have jn2:=jn h6
       generalize Lib.join (partsG g k i) [32]=a at *
       simp (config:={maxSteps:=1000000}) (disch:=((try simp only [awL]);omega)) only [QR,QS,QT,QU,QV,QW,QX,QY,QZ,Q0,Q1,Q2,gl,h5,jn2,↓awU,awV,awF,Qa,Qb,Qc,Qd,forall_const,↓reduceIte,↓reduceDIte,↓Qe,Qf,Qg,Qh,Qi,Qj,Qk,Ql,Qm,Qn,Qo,Qp,Qq,Qr,Qs,implies_true,Qt,Qu,Qv,Qw,Qx,Qy,Qz,QA,QB,QC,QD,QE,QF,QG,QH,QI,QJ,QK,QL,QM,QN,QO,QP,QQ]
       exact ⟨i+1,h4,by simp only;omega,⟨[some 0,some 1],rfl,by simp,by simp [setsA,keepA,SWeak,AWeak,js2],by simp [HWeak,BWeak,SWeak,AWeak]⟩⟩
    ·have e:i=m:=by omega
     have e2:=fun h=>Nat.lt_irrefl m ((hm m).2 h)
     subst e
     by_cases q1:(i:Int)<n
     ·have q2:¬ (i:Int)<g.length:=fun h=>e2 ⟨q1,h⟩
      simp (config:={maxSteps:=1000000}) (disch:=((try simp only [awL]);omega)) only [QR,QS,QT,QU,QV,QW,QX,QY,QZ,Q0,Q1,Q2,gl,↓awU,awV,awF,Qa,Qb,Qc,Qd,forall_const,↓reduceIte,↓reduceDIte,↓Qe,Qf,Qg,Qh,Qi,Qj,Qk,Ql,Qm,Qn,Qo,Qp,Qq,Qr,Qs,implies_true,Qt,Qu,Qv,Qw,Qx,Qy,Qz,QA,QB,QC,QD,QE,QF,QG,QH,QI,QJ,QK,QL,QM,QN,QO,QP,QQ]
      exact ⟨(),trivial,⟨[some 0,some 1],rfl,by simp,by simp [setsA,keepA,SWeak,AWeak],by simp [HWeak,BWeak,SWeak,AWeak]⟩⟩
     ·simp (config:={maxSteps:=1000000}) (disch:=((try simp only [awL]);omega)) only [QR,QS,QT,QU,QV,QW,QX,QY,QZ,Q0,Q1,Q2,gl,↓awU,awV,awF,Qa,Qb,Qc,Qd,forall_const,↓reduceIte,↓reduceDIte,↓Qe,Qf,Qg,Qh,Qi,Qj,Qk,Ql,Qm,Qn,Qo,Qp,Qq,Qr,Qs,implies_true,Qt,Qu,Qv,Qw,Qx,Qy,Qz,QA,QB,QC,QD,QE,QF,QG,QH,QI,QJ,QK,QL,QM,QN,QO,QP,QQ]
      exact ⟨(),trivial,⟨[some 0,some 1],rfl,by simp,by simp [setsA,keepA,SWeak,AWeak],by simp [HWeak,BWeak,SWeak,AWeak]⟩⟩
   ·rintro ⟨⟩ -
    simp only [awK,Nat.reduceMod,Nat.reduceDiv,reduceIte]
    have bl:=baseG_len hg (k:=k) (m:=m) (by omega) (by omega)
    have jn:=join_ne (l:=partsG g k m) fun s hs=>partsG_ne hs
    by_cases e0:partsG g k m=[]
    ·have hb:baseG g k m=Lib.join [colT,Lib.decDigits (k+1)] [32]:=by rw [baseG,baseP,if_pos e0]
     have dl:=dec_len (n:=k+1) (by omega)
     have hb2:99::111::108::117::109::110::32::Lib.decDigits (k+1)=baseG g k m:=by rw [hb];simp [Lib.join_cons,Lib.joinTail]
     rw [e0,Lib.join_nil]
     simp (config:={maxSteps:=1000000}) (disch:=((try simp only [awL]);omega)) only [QR,QS,QT,QU,QV,QW,QX,QY,QZ,Q0,Q1,Q2,gl,↓awU,awV,awF,Qa,Qb,Qc,Qd,forall_const,↓reduceIte,↓reduceDIte,↓Qe,Qf,Qg,Qh,Qi,Qj,Qk,Ql,Qm,Qn,Qo,Qp,Qq,Qr,Qs,implies_true,Qt,Qu,Qv,Qw,Qx,Qy,Qz,QA,QB,QC,QD,QE,QF,QG,QH,QI,QJ,QK,QL,QM,QN,QO,QP,QQ]
     refine CallC.pure (hI (k+1) (by omega)) ?_
     simp (config:={maxSteps:=1000000}) (disch:=((try simp only [awL]);omega)) only [QR,QS,QT,QU,QV,QW,QX,QY,QZ,Q0,Q1,Q2,gl,↓awU,awV,awF,Qa,Qb,Qc,Qd,forall_const,↓reduceIte,↓reduceDIte,↓Qe,Qf,Qg,Qh,Qi,Qj,Qk,Ql,Qm,Qn,Qo,Qp,Qq,Qr,Qs,implies_true,Qt,Qu,Qv,Qw,Qx,Qy,Qz,QA,QB,QC,QD,QE,QF,QG,QH,QI,QJ,QK,QL,QM,QN,QO,QP,QQ]
     rw [hb2]
     clear hb hb2
     generalize baseG g k m=b at *
     refine LoopC.fx 230 (α:=Nat × List UInt8) (β:=List UInt8) (fun y=>200000 - y.1) (fun y=>[(10,.d (S y.2)),(11,.d (.int .i64 (y.1:Nat)))]) (fun y=>[.box [.d (Gr g full)],.row false (strs (namesG g m k))])
      (fun y=>CurI (namesG g m k) b y.1 y.2) 102 (fun y=>[(10,.d (S y))]) (fun y=>[.box [.d (Gr g full)],.row false (strs (namesG g m k))]) (fun y=>y∉namesG g m k∧y=nameN (namesG g m k) b)
      (2,b) ⟨Nat.le_refl _,by simp only;omega,.inl ⟨rfl,fun j j1 j2=>by simp only at j2;omega⟩⟩ ?_ ?_ ?_
     ·exact ⟨[some 0,some 1],rfl,by simp,by simp [setsA,keepA,SWeak,AWeak],by simp [HWeak,BWeak,SWeak,AWeak]⟩
     ·rintro ⟨n3,s⟩ hc
      simp only at hc
      simp only [awK,Nat.reduceMod,Nat.reduceDiv,reduceIte]
      simp (config:={maxSteps:=1000000}) (disch:=((try simp only [awL]);omega)) only [QR,QS,QT,QU,QV,QW,QX,QY,QZ,Q0,Q1,Q2,gl,↓awU,awV,awF,Qa,Qb,Qc,Qd,forall_const,↓reduceIte,↓reduceDIte,↓Qe,Qf,Qg,Qh,Qi,Qj,Qk,Ql,Qm,Qn,Qo,Qp,Qq,Qr,Qs,implies_true,Qt,Qu,Qv,Qw,Qx,Qy,Qz,QA,QB,QC,QD,QE,QF,QG,QH,QI,QJ,QK,QL,QM,QN,QO,QP,QQ]
      refine CallC.frozenE (has_spec (namesG g m k) false s (by omega)) (by rw [cut_all (by rw [sl])];unfold Ss;rw [nl]) ?_
      by_cases h6:s∈namesG g m k
      ·rw [decide_eq_true h6]
       obtain ⟨c1,c2,c3⟩:=hc.step h6 (by omega)
       have dl:=dec_len (n:=n3) (by omega)
       simp (config:={maxSteps:=1000000}) (disch:=((try simp only [awL]);omega)) only [QR,QS,QT,QU,QV,QW,QX,QY,QZ,Q0,Q1,Q2,gl,↓awU,awV,awF,Qa,Qb,Qc,Qd,forall_const,↓reduceIte,↓reduceDIte,↓Qe,Qf,Qg,Qh,Qi,Qj,Qk,Ql,Qm,Qn,Qo,Qp,Qq,Qr,Qs,implies_true,Qt,Qu,Qv,Qw,Qx,Qy,Qz,QA,QB,QC,QD,QE,QF,QG,QH,QI,QJ,QK,QL,QM,QN,QO,QP,QQ]
       refine CallC.pure (hI n3 (by omega)) ?_
       simp (config:={maxSteps:=1000000}) (disch:=((try simp only [awL]);omega)) only [QR,QS,QT,QU,QV,QW,QX,QY,QZ,Q0,Q1,Q2,gl,↓awU,awV,awF,Qa,Qb,Qc,Qd,forall_const,↓reduceIte,↓reduceDIte,↓Qe,Qf,Qg,Qh,Qi,Qj,Qk,Ql,Qm,Qn,Qo,Qp,Qq,Qr,Qs,implies_true,Qt,Qu,Qv,Qw,Qx,Qy,Qz,QA,QB,QC,QD,QE,QF,QG,QH,QI,QJ,QK,QL,QM,QN,QO,QP,QQ]
       exact ⟨(n3+1,cand b n3),c3,by simp only;omega,⟨[some 0,some 1],rfl,by simp,by simp [setsA,keepA,SWeak,AWeak,cand],by simp [HWeak,BWeak,SWeak,AWeak]⟩⟩
      ·rw [decide_eq_false h6]
       have hf:=hc.fin h6 (by omega)
       simp (config:={maxSteps:=1000000}) (disch:=((try simp only [awL]);omega)) only [QR,QS,QT,QU,QV,QW,QX,QY,QZ,Q0,Q1,Q2,gl,↓awU,awV,awF,Qa,Qb,Qc,Qd,forall_const,↓reduceIte,↓reduceDIte,↓Qe,Qf,Qg,Qh,Qi,Qj,Qk,Ql,Qm,Qn,Qo,Qp,Qq,Qr,Qs,implies_true,Qt,Qu,Qv,Qw,Qx,Qy,Qz,QA,QB,QC,QD,QE,QF,QG,QH,QI,QJ,QK,QL,QM,QN,QO,QP,QQ]
       exact ⟨s,⟨h6,hf⟩,⟨[some 0,some 1],rfl,by simp,by simp [setsA,keepA,SWeak,AWeak],by simp [HWeak,BWeak,SWeak,AWeak]⟩⟩
     ·rintro s ⟨h6,hf⟩
      simp only [awK,Nat.reduceMod,Nat.reduceDiv,reduceIte]
      rw [← hf] at hst
      have ssn:=strs_snoc (namesG g m k) s
      rw [← hst] at ssn
      simp (config:={maxSteps:=1000000}) (disch:=((try simp only [awL]);omega)) only [QR,QS,QT,QU,QV,QW,QX,QY,QZ,Q0,Q1,Q2,gl,sl,↓awU,awV,awF,Qa,Qb,Qc,Qd,forall_const,↓reduceIte,↓reduceDIte,↓Qe,Qf,Qg,Qh,Qi,Qj,Qk,Ql,Qm,Qn,Qo,Qp,Qq,Qr,Qs,implies_true,Qt,Qu,Qv,Qw,Qx,Qy,Qz,QA,QB,QC,QD,QE,QF,QG,QH,QI,QJ,QK,QL,QM,QN,QO,QP,QQ]
      exact ⟨k+1,h3,by simp only;omega,⟨[some 0,some 3],rfl,by simp,by simp [setsA,keepA,SWeak,AWeak],by simp [HWeak,BWeak,SWeak,AWeak,← ssn]⟩⟩
    ·have hb:Lib.join (partsG g k m) [32]=baseG g k m:=by rw [baseG,baseP,if_neg e0]
     have jn2:=jn e0
     rw [hb] at jn2 ⊢
     generalize baseG g k m=b at *
     simp (config:={maxSteps:=1000000}) (disch:=((try simp only [awL]);omega)) only [QR,QS,QT,QU,QV,QW,QX,QY,QZ,Q0,Q1,Q2,gl,jn2,↓awU,awV,awF,Qa,Qb,Qc,Qd,forall_const,↓reduceIte,↓reduceDIte,↓Qe,Qf,Qg,Qh,Qi,Qj,Qk,Ql,Qm,Qn,Qo,Qp,Qq,Qr,Qs,implies_true,Qt,Qu,Qv,Qw,Qx,Qy,Qz,QA,QB,QC,QD,QE,QF,QG,QH,QI,QJ,QK,QL,QM,QN,QO,QP,QQ]
     refine LoopC.fx 230 (α:=Nat × List UInt8) (β:=List UInt8) (fun y=>200000 - y.1) (fun y=>[(10,.d (S y.2)),(11,.d (.int .i64 (y.1:Nat)))]) (fun y=>[.box [.d (Gr g full)],.row false (strs (namesG g m k))])
      (fun y=>CurI (namesG g m k) b y.1 y.2) 102 (fun y=>[(10,.d (S y))]) (fun y=>[.box [.d (Gr g full)],.row false (strs (namesG g m k))]) (fun y=>y∉namesG g m k∧y=nameN (namesG g m k) b)
      (2,b) ⟨Nat.le_refl _,by simp only;omega,.inl ⟨rfl,fun j j1 j2=>by simp only at j2;omega⟩⟩ ?_ ?_ ?_
     ·exact ⟨[some 0,some 1],rfl,by simp,by simp [setsA,keepA,SWeak,AWeak],by simp [HWeak,BWeak,SWeak,AWeak]⟩
     ·rintro ⟨n3,s⟩ hc
      simp only at hc
      simp only [awK,Nat.reduceMod,Nat.reduceDiv,reduceIte]
      simp (config:={maxSteps:=1000000}) (disch:=((try simp only [awL]);omega)) only [QR,QS,QT,QU,QV,QW,QX,QY,QZ,Q0,Q1,Q2,gl,↓awU,awV,awF,Qa,Qb,Qc,Qd,forall_const,↓reduceIte,↓reduceDIte,↓Qe,Qf,Qg,Qh,Qi,Qj,Qk,Ql,Qm,Qn,Qo,Qp,Qq,Qr,Qs,implies_true,Qt,Qu,Qv,Qw,Qx,Qy,Qz,QA,QB,QC,QD,QE,QF,QG,QH,QI,QJ,QK,QL,QM,QN,QO,QP,QQ]
      refine CallC.frozenE (has_spec (namesG g m k) false s (by omega)) (by rw [cut_all (by rw [sl])];unfold Ss;rw [nl]) ?_
      by_cases h6:s∈namesG g m k
      ·rw [decide_eq_true h6]
       obtain ⟨c1,c2,c3⟩:=hc.step h6 (by omega)
       have dl:=dec_len (n:=n3) (by omega)
       simp (config:={maxSteps:=1000000}) (disch:=((try simp only [awL]);omega)) only [QR,QS,QT,QU,QV,QW,QX,QY,QZ,Q0,Q1,Q2,gl,↓awU,awV,awF,Qa,Qb,Qc,Qd,forall_const,↓reduceIte,↓reduceDIte,↓Qe,Qf,Qg,Qh,Qi,Qj,Qk,Ql,Qm,Qn,Qo,Qp,Qq,Qr,Qs,implies_true,Qt,Qu,Qv,Qw,Qx,Qy,Qz,QA,QB,QC,QD,QE,QF,QG,QH,QI,QJ,QK,QL,QM,QN,QO,QP,QQ]
       refine CallC.pure (hI n3 (by omega)) ?_
       simp (config:={maxSteps:=1000000}) (disch:=((try simp only [awL]);omega)) only [QR,QS,QT,QU,QV,QW,QX,QY,QZ,Q0,Q1,Q2,gl,↓awU,awV,awF,Qa,Qb,Qc,Qd,forall_const,↓reduceIte,↓reduceDIte,↓Qe,Qf,Qg,Qh,Qi,Qj,Qk,Ql,Qm,Qn,Qo,Qp,Qq,Qr,Qs,implies_true,Qt,Qu,Qv,Qw,Qx,Qy,Qz,QA,QB,QC,QD,QE,QF,QG,QH,QI,QJ,QK,QL,QM,QN,QO,QP,QQ]
       exact ⟨(n3+1,cand b n3),c3,by simp only;omega,⟨[some 0,some 1],rfl,by simp,by simp [setsA,keepA,SWeak,AWeak,cand],by simp [HWeak,BWeak,SWeak,AWeak]⟩⟩
      ·rw [decide_eq_false h6]
       have hf:=hc.fin h6 (by omega)
       simp (config:={maxSteps:=1000000}) (disch:=((try simp only [awL]);omega)) only [QR,QS,QT,QU,QV,QW,QX,QY,QZ,Q0,Q1,Q2,gl,↓awU,awV,awF,Qa,Qb,Qc,Qd,forall_const,↓reduceIte,↓reduceDIte,↓Qe,Qf,Qg,Qh,Qi,Qj,Qk,Ql,Qm,Qn,Qo,Qp,Qq,Qr,Qs,implies_true,Qt,Qu,Qv,Qw,Qx,Qy,Qz,QA,QB,QC,QD,QE,QF,QG,QH,QI,QJ,QK,QL,QM,QN,QO,QP,QQ]
       exact ⟨s,⟨h6,hf⟩,⟨[some 0,some 1],rfl,by simp,by simp [setsA,keepA,SWeak,AWeak],by simp [HWeak,BWeak,SWeak,AWeak]⟩⟩
     ·rintro s ⟨h6,hf⟩
      simp only [awK,Nat.reduceMod,Nat.reduceDiv,reduceIte]
      rw [← hf] at hst
      have ssn:=strs_snoc (namesG g m k) s
      rw [← hst] at ssn
      simp (config:={maxSteps:=1000000}) (disch:=((try simp only [awL]);omega)) only [QR,QS,QT,QU,QV,QW,QX,QY,QZ,Q0,Q1,Q2,gl,sl,↓awU,awV,awF,Qa,Qb,Qc,Qd,forall_const,↓reduceIte,↓reduceDIte,↓Qe,Qf,Qg,Qh,Qi,Qj,Qk,Ql,Qm,Qn,Qo,Qp,Qq,Qr,Qs,implies_true,Qt,Qu,Qv,Qw,Qx,Qy,Qz,QA,QB,QC,QD,QE,QF,QG,QH,QI,QJ,QK,QL,QM,QN,QO,QP,QQ]
      exact ⟨k+1,h3,by simp only;omega,⟨[some 0,some 3],rfl,by simp,by simp [setsA,keepA,SWeak,AWeak],by simp [HWeak,BWeak,SWeak,AWeak,← ssn]⟩⟩
  ·have e:k=widG g:=by omega
   subst e
   simp (config:={maxSteps:=1000000}) (disch:=((try simp only [awL]);omega)) only [QR,QS,QT,QU,QV,QW,QX,QY,QZ,Q0,Q1,Q2,gl,sl,↓awU,awV,awF,Qa,Qb,Qc,Qd,forall_const,↓reduceIte,↓reduceDIte,↓Qe,Qf,Qg,Qh,Qi,Qj,Qk,Ql,Qm,Qn,Qo,Qp,Qq,Qr,Qs,implies_true,Qt,Qu,Qv,Qw,Qx,Qy,Qz,QA,QB,QC,QD,QE,QF,QG,QH,QI,QJ,QK,QL,QM,QN,QO,QP,QQ]
   rw [cut_all (by rw [sl])]
   unfold Ss
   rw [nl]
end Go.Proofs.YthbnileadffpiaaGreatDoor
