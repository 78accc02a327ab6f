/-
  Contracts of the functions, one after another.
-/
import Derived.Test.YtdpjcghiegggbaaGreatDoorMb2
set_option linter.all false
open Go.Abs renaming ofVal→Qa,ofVal0→Qb,isShift→Qc,aggK→Qd,purePost→Qe,combine→Qf,idsA→Qg,cellsA→Qh,numsOf→Qi,srcA→Qj,calleeA→Qk,refsA→Ql,isScalar→Qm,scalarD→Qn,scalar0→Qo,putL→Qr,unfA→Qs,sidsB→QJ,keyKD→QL,isIntK→QM,aggD→QN,aggL→QO,eqKs→QP,boxRow→QQ,nextC_more→QT,nextC_over→QU,bs_size→QV,bs_extract→QW,bs_toList→QX,bs_append→QY,byteAt_bs→QZ,bs_cells→Q0,nums_length→Q1,nums_getD→Q2
open Go.Abs.AV renaming one→Qp
open Go.Abs.D renaming one→Qq
open Go.IntKind renaming signed→Qt
open Nat renaming reduceAdd→Qu,reduceSub→Qv,reduceMul→Qw,reducePow→Qx,reduceDiv→Qy,reduceMod→Qz,reduceEqDiff→QI,reduceBEq→QK
open Int renaming reduceAdd→QA,reduceSub→QB,reduceMul→QC,reducePow→QD,reduceNeg→QE,reduceToNat→QF,reduceLT→QG,reduceLE→QH
open Option renaming toList_some→QR,toList_none→QS
namespace Go.Proofs.YtdpjcghiegggbaaGreatDoor.Num
open Go Go.Proofs Go.Abs
variable {G:Globals}
def decNeg (s:List UInt8):Bool:=hasP s [45]
def decBody (s:List UInt8):List UInt8:=if hasP s [45] then s.drop 1 else if hasP s [43] then s.drop 1 else s
def decF (s:List UInt8):List UInt8:=cutL 46 (decBody s)
def decB (s:List UInt8):List UInt8:=cutR 46 (decBody s)
def decOk (s:List UInt8):Bool:=digB (decF s) 15 && (!decide (46∈decBody s) || digB (decB s) 9)
def decNum (l:List UInt8):Nat:=l.foldl (fun v b=>v*10+(b.toNat - 48)) 0
def decVal (s:List UInt8):Rat:=Rat.divInt (if decNeg s then -(decNum (decF s++decB s):Int) else (decNum (decF s++decB s):Int)) ((10 ^ (decB s).length:Nat):Int)
theorem decNum_push {l:List UInt8} {i:Nat} (h:i<l.length):decNum (l.take i)*10+((l.getD i 0).toNat - 48)=decNum (l.take (i+1)):=by
 rw [take_snoc h,decNum,decNum,List.foldl_append];rfl
theorem cutL_len {c:UInt8}:∀ s:List UInt8,(cutL c s).length≤s.length
 | []=>Nat.le_refl _
 | b::l=>by
   have:=cutL_len (c:=c) l
   rw [cutL];split<;>simp;exact this
theorem cutR_none {c:UInt8} {s:List UInt8} (h:c∉s):cutR c s=[]:=((cut_index c s).2 h).2.2
theorem cutR_len {c:UInt8}:∀ s:List UInt8,(cutR c s).length≤s.length
 | []=>Nat.le_refl _
 | b::l=>by
   have:=cutR_len (c:=c) l
   rw [cutR];split<;>simp;omega
theorem dig_range {b:UInt8} (h:dig10.contains b=true):48≤b.toNat∧b.toNat≤57:=by
 have:b∈dig10:=by simpa using h
 simp only [dig10,List.mem_cons,List.not_mem_nil,or_false] at this
 rcases this with rfl | rfl | rfl | rfl | rfl | rfl | rfl | rfl | rfl | rfl<;>decide
theorem decNum_lt {l:List UInt8} (h:∀ b∈l,dig10.contains b=true):decNum l<10 ^ l.length:=by
 have key:∀ (l:List UInt8) (v:Nat),(∀ b∈l,dig10.contains b=true)→l.foldl (fun v b=>v*10+(b.toNat - 48)) v<(v+1)*10 ^ l.length:=by
  intro l
  induction l with
  | nil=>intro v _;simp
  | cons b l ih =>
   intro v hl
   have hb:=dig_range (hl b (List.mem_cons_self ..))
   have:=ih (v*10+(b.toNat - 48)) (fun c hc=>hl c (List.mem_cons_of_mem _ hc))
   rw [List.foldl_cons,List.length_cons,Nat.pow_succ]
   refine Nat.lt_of_lt_of_le this ?_
   rw [Nat.mul_comm (10 ^ l.length) 10,← Nat.mul_assoc]
   exact Nat.mul_le_mul_right _ (by omega)
 have:=key l 0 h
 rw [Nat.zero_add,Nat.one_mul] at this
 exact this
theorem cells_nums {l:List UInt8}:(l.map fun b=>D.int .u8 (b.toNat:Int))=ints .u8 (nums l):=by simp [ints,nums]
theorem decOk_facts {s:List UInt8} (h:decOk s=true):(∀ b∈decF s++decB s,dig10.contains b=true)∧(decF s++decB s).length≤24∧(decB s).length≤9:=by
 unfold decOk at h
 rw [Bool.and_eq_true,Bool.or_eq_true] at h
 obtain ⟨h1,h2⟩:=h
 unfold digB at h1
 rw [Bool.and_eq_true,decide_eq_true_eq] at h1
 have hb:(decB s).length≤9∧∀ b∈decB s,dig10.contains b=true:=by
  rcases h2 with h2 | h2
  ·have e:decB s=[]:=cutR_none (by simpa using h2)
   rw [e];exact ⟨by simp,fun b hb=>by cases hb⟩
  ·unfold digB at h2
   rw [Bool.and_eq_true,decide_eq_true_eq] at h2
   exact ⟨by omega,fun b hb=>List.all_eq_true.1 h2.2 b hb⟩
 refine ⟨fun b hb'=>?_,by rw [List.length_append];omega,hb.1⟩
 rcases List.mem_append.1 hb' with h | h
 ·exact List.all_eq_true.1 h1.2 b h
 ·exact hb.2 b h
theorem toW_10:toW 10=[10]:=by rw [toW_pos (by decide),show 10 / B=0 from rfl,toW_zero];rfl
theorem sz_small {n k:Nat} (h:n<10 ^ k):(toW n).length≤k:=toW_length_le (Nat.lt_of_lt_of_le h (Nat.pow_le_pow_left (by decide) _))
set_option maxHeartbeats 4000000 in
set_option maxRecDepth 100000 in
theorem cut_sum (c:UInt8):∀ s:List UInt8,(cutL c s).length+(cutR c s).length≤s.length
 | []=>by simp [cutL,cutR]
 | b::l=>by
   have ih:=cut_sum c l
   rw [cutL,cutR]
   by_cases e:b=c
   ·rw [if_pos e,if_pos e,List.length_cons,List.length_nil];omega
   ·rw [if_neg e,if_neg e,List.length_cons,List.length_cons];omega
theorem decimalF_spec (hG:HG G) (s:List UInt8) (hs:s.length≤9223372036854775807):Ctr Tryz.prog G 69 [.d (S s)] [] (.d (.tup [if decOk s=true then Frac (decVal s) else Zf,.bool (decOk s)])) []:=by
 have hG':=hG
 unfold HG at hG
 refine Ctr.pure (M:=M0) hmix Tryz.func69 rfl go69 ?_
 simp (config:={maxSteps:=1000000}) (disch:=((try simp only [awL]);omega)) only [QR,QS,QT,QU,QV,QW,QX,QY,QZ,Q0,Q1,Q2,Tryz.f69,↓awU,awV,awF,Qa,Qb,Qc,Qd,forall_const,↓reduceIte,↓reduceDIte,↓Qe,Qf,Qg,Qh,Qi,Qj,Qk,Ql,Qm,Qn,Qo,Qp,Qq,Qr,Qs,implies_true,Qt,Qu,Qv,Qw,Qx,Qy,Qz,QA,QB,QC,QD,QE,QF,QG,QH,QI,QJ,QK,QL,QM,QN,QO,QP,QQ]
 refine CallC.pure (cutPrefix_spec s [45]) ?_
 have hbody:(decBody s).length≤s.length:=by
  unfold decBody
  split
  ·simp
  ·split<;>simp
 have lsum:=cut_sum 46 (decBody s)
 have l1:=cutL_len (c:=46) (decBody s)
 have l2:=cutR_len (c:=46) (decBody s)
 have hno:decide (46∈decBody s)=false→decB s=[]:=fun h=>cutR_none (of_decide_eq_false h)
 have hok:decOk s=(digB (decF s) 15 && (!decide (46∈decBody s) || digB (decB s) 9)):=rfl
 have hdv:decVal s=Rat.divInt (if decNeg s then -(decNum (decF s++decB s):Int) else (decNum (decF s++decB s):Int)) ((10 ^ (decB s).length:Nat):Int):=rfl
 have f1:cutL 46 (decBody s)=decF s:=rfl
 have f2:cutR 46 (decBody s)=decB s:=rfl
 rw [f1] at l1
 rw [f2] at l2
 rw [f1,f2] at lsum
 cases h45:hasP s [45]
 ·simp (config:={maxSteps:=1000000}) (disch:=((try simp only [awL]);omega)) only [QR,QS,QT,QU,QV,QW,QX,QY,QZ,Q0,Q1,Q2,↓awU,awV,awF,Qa,Qb,Qc,Qd,forall_const,↓reduceIte,↓reduceDIte,↓Qe,Qf,Qg,Qh,Qi,Qj,Qk,Ql,Qm,Qn,Qo,Qp,Qq,Qr,Qs,implies_true,Qt,Qu,Qv,Qw,Qx,Qy,Qz,QA,QB,QC,QD,QE,QF,QG,QH,QI,QJ,QK,QL,QM,QN,QO,QP,QQ]
  refine CallC.pure (trimPrefix_spec s [43]) ?_
  have eb:(if hasP s [43] then s.drop ([43]:List UInt8).length else s)=decBody s:=by rw [decBody,h45];rfl
  have en:decNeg s=false:=h45
  rw [eb]
  rw [en] at hdv
  simp (config:={maxSteps:=1000000}) (disch:=((try simp only [awL]);omega)) only [QR,QS,QT,QU,QV,QW,QX,QY,QZ,Q0,Q1,Q2,↓awU,awV,awF,Qa,Qb,Qc,Qd,forall_const,↓reduceIte,↓reduceDIte,↓Qe,Qf,Qg,Qh,Qi,Qj,Qk,Ql,Qm,Qn,Qo,Qp,Qq,Qr,Qs,implies_true,Qt,Qu,Qv,Qw,Qx,Qy,Qz,QA,QB,QC,QD,QE,QF,QG,QH,QI,QJ,QK,QL,QM,QN,QO,QP,QQ]
  refine CallC.pure (cut_spec (decBody s) 46 (by omega)) ?_
  rw [f1,f2]
  simp (config:={maxSteps:=1000000}) (disch:=((try simp only [awL]);omega)) only [QR,QS,QT,QU,QV,QW,QX,QY,QZ,Q0,Q1,Q2,↓awU,awV,awF,Qa,Qb,Qc,Qd,forall_const,↓reduceIte,↓reduceDIte,↓Qe,Qf,Qg,Qh,Qi,Qj,Qk,Ql,Qm,Qn,Qo,Qp,Qq,Qr,Qs,implies_true,Qt,Qu,Qv,Qw,Qx,Qy,Qz,QA,QB,QC,QD,QE,QF,QG,QH,QI,QJ,QK,QL,QM,QN,QO,QP,QQ]
  refine CallC.pure (digits_spec (decF s) 15 (by omega)) ?_
  cases d1:digB (decF s) 15
  ·rw [hok,d1,Bool.false_and]
   simp (config:={maxSteps:=1000000}) (disch:=((try simp only [awL]);omega)) only [QR,QS,QT,QU,QV,QW,QX,QY,QZ,Q0,Q1,Q2,↓awU,awV,awF,Qa,Qb,Qc,Qd,forall_const,↓reduceIte,↓reduceDIte,↓Qe,Qf,Qg,Qh,Qi,Qj,Qk,Ql,Qm,Qn,Qo,Qp,Qq,Qr,Qs,implies_true,Qt,Qu,Qv,Qw,Qx,Qy,Qz,QA,QB,QC,QD,QE,QF,QG,QH,QI,QJ,QK,QL,QM,QN,QO,QP,QQ]
   first | done | rfl
  ·rw [d1,Bool.true_and] at hok
   cases dp:decide (46∈decBody s)
   ·rw [dp,Bool.not_false,Bool.true_or] at hok
    obtain ⟨hall,hlen,hlb⟩:=decOk_facts hok
    have hsm:∀ i,i≤(decF s++decB s).length→(toW (decNum ((decF s++decB s).take i))).length≤30:=fun i hi=>by
     have h:=decNum_lt (l:=(decF s++decB s).take i) fun b hb=>hall b (List.mem_of_mem_take hb)
     exact sz_small (Nat.lt_of_lt_of_le h (Nat.pow_le_pow_right (by decide) (by rw [List.length_take];omega)))
    have hlt:∀ i,i≤(decF s++decB s).length→decNum ((decF s++decB s).take i)*10<10 ^ 30:=fun i hi=>by
     have h:=decNum_lt (l:=(decF s++decB s).take i) fun b hb=>hall b (List.mem_of_mem_take hb)
     have h2:10 ^ ((decF s++decB s).take i).length≤10 ^ 29:=Nat.pow_le_pow_right (by decide) (by rw [List.length_take];omega)
     have h3:(10:Nat) ^ 30=10 ^ 29*10:=rfl
     omega
    rw [if_pos hok,hok]
    generalize hL:decF s++decB s=L at *
    simp (config:={maxSteps:=1000000}) (disch:=((try simp only [awL]);omega)) only [hG,QR,QS,QT,QU,QV,QW,QX,QY,QZ,Q0,Q1,Q2,↓awU,awV,awF,Qa,Qb,Qc,Qd,forall_const,↓reduceIte,↓reduceDIte,↓Qe,Qf,Qg,Qh,Qi,Qj,Qk,Ql,Qm,Qn,Qo,Qp,Qq,Qr,Qs,implies_true,Qt,Qu,Qv,Qw,Qx,Qy,Qz,QA,QB,QC,QD,QE,QF,QG,QH,QI,QJ,QK,QL,QM,QN,QO,QP,QQ]
    refine CallC.of (clone_spec [1] (by decide)) (by rfl) ?_
    simp (config:={maxSteps:=1000000}) (disch:=((try simp only [awL]);omega)) only [hG,QR,QS,QT,QU,QV,QW,QX,QY,QZ,Q0,Q1,Q2,hL,cells_nums,↓awU,awV,awF,Qa,Qb,Qc,Qd,forall_const,↓reduceIte,↓reduceDIte,↓Qe,Qf,Qg,Qh,Qi,Qj,Qk,Ql,Qm,Qn,Qo,Qp,Qq,Qr,Qs,implies_true,Qt,Qu,Qv,Qw,Qx,Qy,Qz,QA,QB,QC,QD,QE,QF,QG,QH,QI,QJ,QK,QL,QM,QN,QO,QP,QQ]
    refine LoopC.fr 422212465069220 (α:=Nat) (fun i=>L.length - i) (fun i=>[(9,.d (W (toW (decNum (L.take i))))),(49,.d (.int .i64 i))])
     (fun _=>[.box [.d (.bool false),.d (.sl 0 true []),.d (.bool false),.d (.sl 0 true [])],.row true (nats .u32 [10]),.row false (ints .u8 (nums L))]) (fun i=>i≤L.length) 0 (Nat.zero_le _) ?_ ?_
    ·exact ⟨[some 0,some 1,some 2],rfl,by simp,by simp [setsA,keepA,SWeak,AWeak,decNum,toW_zero,nats],by simp [HWeak,BWeak,SWeak,AWeak,nats]⟩
    ·intro i hi
     have lt:=hsm i hi
     have nl:=@nums_length L
     simp only [awK,Nat.reduceMod,Nat.reduceDiv,reduceIte]
     rcases Nat.lt_or_ge i L.length with h1 | h1
     ·have hb:=dig_range (hall _ (mem_getDU (d:=0) h1))
      have hp:=decNum_push h1
      have ls:=sz_small (n:=(L.getD i 0).toNat - 48) (k:=2) (by omega)
      have e48:((L.getD i 0).toNat:Int) - 48=(((L.getD i 0).toNat - 48:Nat):Int):=by omega
      have lm:(toW (decNum (L.take i)*10)).length≤40:=sz_small (Nat.lt_of_lt_of_le (hlt i hi) (by decide))
      simp (config:={maxSteps:=1000000}) (disch:=((try simp only [awL]);omega)) only [hG,QR,QS,QT,QU,QV,QW,QX,QY,QZ,Q0,Q1,Q2,nl,↓awU,awV,awF,Qa,Qb,Qc,Qd,forall_const,↓reduceIte,↓reduceDIte,↓Qe,Qf,Qg,Qh,Qi,Qj,Qk,Ql,Qm,Qn,Qo,Qp,Qq,Qr,Qs,implies_true,Qt,Qu,Qv,Qw,Qx,Qy,Qz,QA,QB,QC,QD,QE,QF,QG,QH,QI,QJ,QK,QL,QM,QN,QO,QP,QQ]
      refine CallC.frozenE (times_spec (decNum (L.take i)) 10 (by omega) (by rw [toW_10];decide)) (by rw [toW_10];rfl) ?_
      simp (config:={maxSteps:=1000000}) (disch:=((try simp only [awL]);omega)) only [hG,QR,QS,QT,QU,QV,QW,QX,QY,QZ,Q0,Q1,Q2,nl,e48,↓awU,awV,awF,Qa,Qb,Qc,Qd,forall_const,↓reduceIte,↓reduceDIte,↓Qe,Qf,Qg,Qh,Qi,Qj,Qk,Ql,Qm,Qn,Qo,Qp,Qq,Qr,Qs,implies_true,Qt,Qu,Qv,Qw,Qx,Qy,Qz,QA,QB,QC,QD,QE,QF,QG,QH,QI,QJ,QK,QL,QM,QN,QO,QP,QQ]
      refine CallC.pure (natural_spec ((L.getD i 0).toNat - 48) (by omega)) ?_
      simp (config:={maxSteps:=1000000}) (disch:=((try simp only [awL]);omega)) only [hG,QR,QS,QT,QU,QV,QW,QX,QY,QZ,Q0,Q1,Q2,nl,↓awU,awV,awF,Qa,Qb,Qc,Qd,forall_const,↓reduceIte,↓reduceDIte,↓Qe,Qf,Qg,Qh,Qi,Qj,Qk,Ql,Qm,Qn,Qo,Qp,Qq,Qr,Qs,implies_true,Qt,Qu,Qv,Qw,Qx,Qy,Qz,QA,QB,QC,QD,QE,QF,QG,QH,QI,QJ,QK,QL,QM,QN,QO,QP,QQ]
      refine CallC.pure (plus_spec (decNum (L.take i)*10) ((L.getD i 0).toNat - 48) (by omega) (by omega)) ?_
      rw [hp]
      simp (config:={maxSteps:=1000000}) (disch:=((try simp only [awL]);omega)) only [hG,QR,QS,QT,QU,QV,QW,QX,QY,QZ,Q0,Q1,Q2,nl,↓awU,awV,awF,Qa,Qb,Qc,Qd,forall_const,↓reduceIte,↓reduceDIte,↓Qe,Qf,Qg,Qh,Qi,Qj,Qk,Ql,Qm,Qn,Qo,Qp,Qq,Qr,Qs,implies_true,Qt,Qu,Qv,Qw,Qx,Qy,Qz,QA,QB,QC,QD,QE,QF,QG,QH,QI,QJ,QK,QL,QM,QN,QO,QP,QQ]
      exact ⟨i+1,h1,by simp only;omega,⟨[some 0,some 1,some 2],rfl,by simp,by simp [setsA,keepA,SWeak,AWeak],by simp [HWeak,BWeak,SWeak,AWeak]⟩⟩
     ·obtain rfl:i=L.length:=by omega
      rw [List.take_length] at *
      simp (config:={maxSteps:=1000000}) (disch:=((try simp only [awL]);omega)) only [hG,QR,QS,QT,QU,QV,QW,QX,QY,QZ,Q0,Q1,Q2,nl,↓awU,awV,awF,Qa,Qb,Qc,Qd,forall_const,↓reduceIte,↓reduceDIte,↓Qe,Qf,Qg,Qh,Qi,Qj,Qk,Ql,Qm,Qn,Qo,Qp,Qq,Qr,Qs,implies_true,Qt,Qu,Qv,Qw,Qx,Qy,Qz,QA,QB,QC,QD,QE,QF,QG,QH,QI,QJ,QK,QL,QM,QN,QO,QP,QQ]
      refine LoopC.fr 9223372036854777380 (α:=Nat) (fun j=>(decB s).length - j) (fun j=>[(11,.d (W (toW (10 ^ j)))),(64,.d (.int .i64 j))])
       (fun _=>[.box [.d (.bool false),.d (.sl 0 true []),.d (.bool false),.d (.sl 0 true [])],.row true (nats .u32 [10]),.row false (ints .u8 (nums L))]) (fun j=>j≤(decB s).length) 0 (Nat.zero_le _) ?_ ?_
      ·exact ⟨[some 0,some 1,some 2],rfl,by simp,by simp [setsA,keepA,SWeak,AWeak,toW_one],by simp [HWeak,BWeak,SWeak,AWeak,nats]⟩
      ·intro j hj
       have lj:(toW (10 ^ j)).length≤10:=sz_small (Nat.pow_lt_pow_right (by decide) (by omega))
       simp only [awK,Nat.reduceMod,Nat.reduceDiv,reduceIte]
       rcases Nat.lt_or_ge j (decB s).length with h2 | h2
       ·simp (config:={maxSteps:=1000000}) (disch:=((try simp only [awL]);omega)) only [hG,QR,QS,QT,QU,QV,QW,QX,QY,QZ,Q0,Q1,Q2,↓awU,awV,awF,Qa,Qb,Qc,Qd,forall_const,↓reduceIte,↓reduceDIte,↓Qe,Qf,Qg,Qh,Qi,Qj,Qk,Ql,Qm,Qn,Qo,Qp,Qq,Qr,Qs,implies_true,Qt,Qu,Qv,Qw,Qx,Qy,Qz,QA,QB,QC,QD,QE,QF,QG,QH,QI,QJ,QK,QL,QM,QN,QO,QP,QQ]
        refine CallC.frozenE (times_spec (10 ^ j) 10 (by omega) (by rw [toW_10];decide)) (by rw [toW_10];rfl) ?_
        rw [← Nat.pow_succ]
        simp (config:={maxSteps:=1000000}) (disch:=((try simp only [awL]);omega)) only [hG,QR,QS,QT,QU,QV,QW,QX,QY,QZ,Q0,Q1,Q2,↓awU,awV,awF,Qa,Qb,Qc,Qd,forall_const,↓reduceIte,↓reduceDIte,↓Qe,Qf,Qg,Qh,Qi,Qj,Qk,Ql,Qm,Qn,Qo,Qp,Qq,Qr,Qs,implies_true,Qt,Qu,Qv,Qw,Qx,Qy,Qz,QA,QB,QC,QD,QE,QF,QG,QH,QI,QJ,QK,QL,QM,QN,QO,QP,QQ]
        exact ⟨j+1,h2,by simp only;omega,⟨[some 0,some 1,some 2],rfl,by simp,by simp [setsA,keepA,SWeak,AWeak],by simp [HWeak,BWeak,SWeak,AWeak]⟩⟩
       ·obtain rfl:j=(decB s).length:=by omega
        have hd0:((10 ^ (decB s).length:Nat):Int)≠0:=by
         have:0<10 ^ (decB s).length:=Nat.pow_pos (by decide)
         omega
        simp (config:={maxSteps:=1000000}) (disch:=((try simp only [awL]);omega)) only [hG,QR,QS,QT,QU,QV,QW,QX,QY,QZ,Q0,Q1,Q2,↓awU,awV,awF,Qa,Qb,Qc,Qd,forall_const,↓reduceIte,↓reduceDIte,↓Qe,Qf,Qg,Qh,Qi,Qj,Qk,Ql,Qm,Qn,Qo,Qp,Qq,Qr,Qs,implies_true,Qt,Qu,Qv,Qw,Qx,Qy,Qz,QA,QB,QC,QD,QE,QF,QG,QH,QI,QJ,QK,QL,QM,QN,QO,QP,QQ]
        refine CallC.pure (signed_spec false (decNum L) (by omega)) ?_
        simp (config:={maxSteps:=1000000}) (disch:=((try simp only [awL]);omega)) only [hG,QR,QS,QT,QU,QV,QW,QX,QY,QZ,Q0,Q1,Q2,↓awU,awV,awF,Qa,Qb,Qc,Qd,forall_const,↓reduceIte,↓reduceDIte,↓Qe,Qf,Qg,Qh,Qi,Qj,Qk,Ql,Qm,Qn,Qo,Qp,Qq,Qr,Qs,implies_true,Qt,Qu,Qv,Qw,Qx,Qy,Qz,QA,QB,QC,QD,QE,QF,QG,QH,QI,QJ,QK,QL,QM,QN,QO,QP,QQ]
        refine CallC.pure (signed_spec false (10 ^ (decB s).length) (by omega)) ?_
        simp (config:={maxSteps:=1000000}) (disch:=((try simp only [awL]);omega)) only [hG,QR,QS,QT,QU,QV,QW,QX,QY,QZ,Q0,Q1,Q2,↓awU,awV,awF,Qa,Qb,Qc,Qd,forall_const,↓reduceIte,↓reduceDIte,↓Qe,Qf,Qg,Qh,Qi,Qj,Qk,Ql,Qm,Qn,Qo,Qp,Qq,Qr,Qs,implies_true,Qt,Qu,Qv,Qw,Qx,Qy,Qz,QA,QB,QC,QD,QE,QF,QG,QH,QI,QJ,QK,QL,QM,QN,QO,QP,QQ]
        refine CallC.of (reduced_spec (if false=true then -(decNum L:Int) else (decNum L:Int)) ((10 ^ (decB s).length:Nat):Int) hd0 (by simp only [sz];split<;>simp<;>omega) (by simp only [sz,Int.natAbs_natCast];omega)) (by rfl) ?_
        rw [← hdv]
        simp (config:={maxSteps:=1000000}) (disch:=((try simp only [awL]);omega)) only [hG,QR,QS,QT,QU,QV,QW,QX,QY,QZ,Q0,Q1,Q2,↓awU,awV,awF,Qa,Qb,Qc,Qd,forall_const,↓reduceIte,↓reduceDIte,↓Qe,Qf,Qg,Qh,Qi,Qj,Qk,Ql,Qm,Qn,Qo,Qp,Qq,Qr,Qs,implies_true,Qt,Qu,Qv,Qw,Qx,Qy,Qz,QA,QB,QC,QD,QE,QF,QG,QH,QI,QJ,QK,QL,QM,QN,QO,QP,QQ]
        first | done | rfl
   ·rw [dp,Bool.not_true,Bool.false_or] at hok
    simp (config:={maxSteps:=1000000}) (disch:=((try simp only [awL]);omega)) only [QR,QS,QT,QU,QV,QW,QX,QY,QZ,Q0,Q1,Q2,↓awU,awV,awF,Qa,Qb,Qc,Qd,forall_const,↓reduceIte,↓reduceDIte,↓Qe,Qf,Qg,Qh,Qi,Qj,Qk,Ql,Qm,Qn,Qo,Qp,Qq,Qr,Qs,implies_true,Qt,Qu,Qv,Qw,Qx,Qy,Qz,QA,QB,QC,QD,QE,QF,QG,QH,QI,QJ,QK,QL,QM,QN,QO,QP,QQ]
    refine CallC.pure (digits_spec (decB s) 9 (by omega)) ?_
    cases d2:digB (decB s) 9
    ·rw [hok,d2]
     simp (config:={maxSteps:=1000000}) (disch:=((try simp only [awL]);omega)) only [QR,QS,QT,QU,QV,QW,QX,QY,QZ,Q0,Q1,Q2,↓awU,awV,awF,Qa,Qb,Qc,Qd,forall_const,↓reduceIte,↓reduceDIte,↓Qe,Qf,Qg,Qh,Qi,Qj,Qk,Ql,Qm,Qn,Qo,Qp,Qq,Qr,Qs,implies_true,Qt,Qu,Qv,Qw,Qx,Qy,Qz,QA,QB,QC,QD,QE,QF,QG,QH,QI,QJ,QK,QL,QM,QN,QO,QP,QQ]
     first | done | rfl
    ·rw [d2] at hok
     obtain ⟨hall,hlen,hlb⟩:=decOk_facts hok
     have hsm:∀ i,i≤(decF s++decB s).length→(toW (decNum ((decF s++decB s).take i))).length≤30:=fun i hi=>by
      have h:=decNum_lt (l:=(decF s++decB s).take i) fun b hb=>hall b (List.mem_of_mem_take hb)
      exact sz_small (Nat.lt_of_lt_of_le h (Nat.pow_le_pow_right (by decide) (by rw [List.length_take];omega)))
     have hlt:∀ i,i≤(decF s++decB s).length→decNum ((decF s++decB s).take i)*10<10 ^ 30:=fun i hi=>by
      have h:=decNum_lt (l:=(decF s++decB s).take i) fun b hb=>hall b (List.mem_of_mem_take hb)
      have h2:10 ^ ((decF s++decB s).take i).length≤10 ^ 29:=Nat.pow_le_pow_right (by decide) (by rw [List.length_take];omega)
      have h3:(10:Nat) ^ 30=10 ^ 29*10:=rfl
      omega
     rw [if_pos hok,hok]
     generalize hL:decF s++decB s=L at *
     simp (config:={maxSteps:=1000000}) (disch:=((try simp only [awL]);omega)) only [hG,QR,QS,QT,QU,QV,QW,QX,QY,QZ,Q0,Q1,Q2,↓awU,awV,awF,Qa,Qb,Qc,Qd,forall_const,↓reduceIte,↓reduceDIte,↓Qe,Qf,Qg,Qh,Qi,Qj,Qk,Ql,Qm,Qn,Qo,Qp,Qq,Qr,Qs,implies_true,Qt,Qu,Qv,Qw,Qx,Qy,Qz,QA,QB,QC,QD,QE,QF,QG,QH,QI,QJ,QK,QL,QM,QN,QO,QP,QQ]
     refine CallC.of (clone_spec [1] (by decide)) (by rfl) ?_
     simp (config:={maxSteps:=1000000}) (disch:=((try simp only [awL]);omega)) only [hG,QR,QS,QT,QU,QV,QW,QX,QY,QZ,Q0,Q1,Q2,hL,cells_nums,↓awU,awV,awF,Qa,Qb,Qc,Qd,forall_const,↓reduceIte,↓reduceDIte,↓Qe,Qf,Qg,Qh,Qi,Qj,Qk,Ql,Qm,Qn,Qo,Qp,Qq,Qr,Qs,implies_true,Qt,Qu,Qv,Qw,Qx,Qy,Qz,QA,QB,QC,QD,QE,QF,QG,QH,QI,QJ,QK,QL,QM,QN,QO,QP,QQ]
     refine LoopC.fr 422212465069220 (α:=Nat) (fun i=>L.length - i) (fun i=>[(9,.d (W (toW (decNum (L.take i))))),(49,.d (.int .i64 i))])
      (fun _=>[.box [.d (.bool false),.d (.sl 0 true []),.d (.bool false),.d (.sl 0 true [])],.row true (nats .u32 [10]),.row false (ints .u8 (nums L))]) (fun i=>i≤L.length) 0 (Nat.zero_le _) ?_ ?_
     ·exact ⟨[some 0,some 1,some 2],rfl,by simp,by simp [setsA,keepA,SWeak,AWeak,decNum,toW_zero,nats],by simp [HWeak,BWeak,SWeak,AWeak,nats]⟩
     ·intro i hi
      have lt:=hsm i hi
      have nl:=@nums_length L
      simp only [awK,Nat.reduceMod,Nat.reduceDiv,reduceIte]
      rcases Nat.lt_or_ge i L.length with h1 | h1
      ·have hb:=dig_range (hall _ (mem_getDU (d:=0) h1))
       have hp:=decNum_push h1
       have ls:=sz_small (n:=(L.getD i 0).toNat - 48) (k:=2) (by omega)
       have e48:((L.getD i 0).toNat:Int) - 48=(((L.getD i 0).toNat - 48:Nat):Int):=by omega
       have lm:(toW (decNum (L.take i)*10)).length≤40:=sz_small (Nat.lt_of_lt_of_le (hlt i hi) (by decide))
       simp (config:={maxSteps:=1000000}) (disch:=((try simp only [awL]);omega)) only [hG,QR,QS,QT,QU,QV,QW,QX,QY,QZ,Q0,Q1,Q2,nl,↓awU,awV,awF,Qa,Qb,Qc,Qd,forall_const,↓reduceIte,↓reduceDIte,↓Qe,Qf,Qg,Qh,Qi,Qj,Qk,Ql,Qm,Qn,Qo,Qp,Qq,Qr,Qs,implies_true,Qt,Qu,Qv,Qw,Qx,Qy,Qz,QA,QB,QC,QD,QE,QF,QG,QH,QI,QJ,QK,QL,QM,QN,QO,QP,QQ]
       refine CallC.frozenE (times_spec (decNum (L.take i)) 10 (by omega) (by rw [toW_10];decide)) (by rw [toW_10];rfl) ?_
       simp (config:={maxSteps:=1000000}) (disch:=((try simp only [awL]);omega)) only [hG,QR,QS,QT,QU,QV,QW,QX,QY,QZ,Q0,Q1,Q2,nl,e48,↓awU,awV,awF,Qa,Qb,Qc,Qd,forall_const,↓reduceIte,↓reduceDIte,↓Qe,Qf,Qg,Qh,Qi,Qj,Qk,Ql,Qm,Qn,Qo,Qp,Qq,Qr,Qs,implies_true,Qt,Qu,Qv,Qw,Qx,Qy,Qz,QA,QB,QC,QD,QE,QF,QG,QH,QI,QJ,QK,QL,QM,QN,QO,QP,QQ]
       refine CallC.pure (natural_spec ((L.getD i 0).toNat - 48) (by omega)) ?_
       simp (config:={maxSteps:=1000000}) (disch:=((try simp only [awL]);omega)) only [hG,QR,QS,QT,QU,QV,QW,QX,QY,QZ,Q0,Q1,Q2,nl,↓awU,awV,awF,Qa,Qb,Qc,Qd,forall_const,↓reduceIte,↓reduceDIte,↓Qe,Qf,Qg,Qh,Qi,Qj,Qk,Ql,Qm,Qn,Qo,Qp,Qq,Qr,Qs,implies_true,Qt,Qu,Qv,Qw,Qx,Qy,Qz,QA,QB,QC,QD,QE,QF,QG,QH,QI,QJ,QK,QL,QM,QN,QO,QP,QQ]
       refine CallC.pure (plus_spec (decNum (L.take i)*10) ((L.getD i 0).toNat - 48) (by omega) (by omega)) ?_
       rw [hp]
       simp (config:={maxSteps:=1000000}) (disch:=((try simp only [awL]);omega)) only [hG,QR,QS,QT,QU,QV,QW,QX,QY,QZ,Q0,Q1,Q2,nl,↓awU,awV,awF,Qa,Qb,Qc,Qd,forall_const,↓reduceIte,↓reduceDIte,↓Qe,Qf,Qg,Qh,Qi,Qj,Qk,Ql,Qm,Qn,Qo,Qp,Qq,Qr,Qs,implies_true,Qt,Qu,Qv,Qw,Qx,Qy,Qz,QA,QB,QC,QD,QE,QF,QG,QH,QI,QJ,QK,QL,QM,QN,QO,QP,QQ]
       exact ⟨i+1,h1,by simp only;omega,⟨[some 0,some 1,some 2],rfl,by simp,by simp [setsA,keepA,SWeak,AWeak],by simp [HWeak,BWeak,SWeak,AWeak]⟩⟩
      ·obtain rfl:i=L.length:=by omega
       rw [List.take_length] at *
       simp (config:={maxSteps:=1000000}) (disch:=((try simp only [awL]);omega)) only [hG,QR,QS,QT,QU,QV,QW,QX,QY,QZ,Q0,Q1,Q2,nl,↓awU,awV,awF,Qa,Qb,Qc,Qd,forall_const,↓reduceIte,↓reduceDIte,↓Qe,Qf,Qg,Qh,Qi,Qj,Qk,Ql,Qm,Qn,Qo,Qp,Qq,Qr,Qs,implies_true,Qt,Qu,Qv,Qw,Qx,Qy,Qz,QA,QB,QC,QD,QE,QF,QG,QH,QI,QJ,QK,QL,QM,QN,QO,QP,QQ]
       refine LoopC.fr 9223372036854777380 (α:=Nat) (fun j=>(decB s).length - j) (fun j=>[(11,.d (W (toW (10 ^ j)))),(64,.d (.int .i64 j))])
        (fun _=>[.box [.d (.bool false),.d (.sl 0 true []),.d (.bool false),.d (.sl 0 true [])],.row true (nats .u32 [10]),.row false (ints .u8 (nums L))]) (fun j=>j≤(decB s).length) 0 (Nat.zero_le _) ?_ ?_
       ·exact ⟨[some 0,some 1,some 2],rfl,by simp,by simp [setsA,keepA,SWeak,AWeak,toW_one],by simp [HWeak,BWeak,SWeak,AWeak,nats]⟩
       ·intro j hj
        have lj:(toW (10 ^ j)).length≤10:=sz_small (Nat.pow_lt_pow_right (by decide) (by omega))
        simp only [awK,Nat.reduceMod,Nat.reduceDiv,reduceIte]
        rcases Nat.lt_or_ge j (decB s).length with h2 | h2
        ·simp (config:={maxSteps:=1000000}) (disch:=((try simp only [awL]);omega)) only [hG,QR,QS,QT,QU,QV,QW,QX,QY,QZ,Q0,Q1,Q2,↓awU,awV,awF,Qa,Qb,Qc,Qd,forall_const,↓reduceIte,↓reduceDIte,↓Qe,Qf,Qg,Qh,Qi,Qj,Qk,Ql,Qm,Qn,Qo,Qp,Qq,Qr,Qs,implies_true,Qt,Qu,Qv,Qw,Qx,Qy,Qz,QA,QB,QC,QD,QE,QF,QG,QH,QI,QJ,QK,QL,QM,QN,QO,QP,QQ]
         refine CallC.frozenE (times_spec (10 ^ j) 10 (by omega) (by rw [toW_10];decide)) (by rw [toW_10];rfl) ?_
         rw [← Nat.pow_succ]
         simp (config:={maxSteps:=1000000}) (disch:=((try simp only [awL]);omega)) only [hG,QR,QS,QT,QU,QV,QW,QX,QY,QZ,Q0,Q1,Q2,↓awU,awV,awF,Qa,Qb,Qc,Qd,forall_const,↓reduceIte,↓reduceDIte,↓Qe,Qf,Qg,Qh,Qi,Qj,Qk,Ql,Qm,Qn,Qo,Qp,Qq,Qr,Qs,implies_true,Qt,Qu,Qv,Qw,Qx,Qy,Qz,QA,QB,QC,QD,QE,QF,QG,QH,QI,QJ,QK,QL,QM,QN,QO,QP,QQ]
         exact ⟨j+1,h2,by simp only;omega,⟨[some 0,some 1,some 2],rfl,by simp,by simp [setsA,keepA,SWeak,AWeak],by simp [HWeak,BWeak,SWeak,AWeak]⟩⟩
        ·obtain rfl:j=(decB s).length:=by omega
         have hd0:((10 ^ (decB s).length:Nat):Int)≠0:=by
          have:0<10 ^ (decB s).length:=Nat.pow_pos (by decide)
          omega
         simp (config:={maxSteps:=1000000}) (disch:=((try simp only [awL]);omega)) only [hG,QR,QS,QT,QU,QV,QW,QX,QY,QZ,Q0,Q1,Q2,↓awU,awV,awF,Qa,Qb,Qc,Qd,forall_const,↓reduceIte,↓reduceDIte,↓Qe,Qf,Qg,Qh,Qi,Qj,Qk,Ql,Qm,Qn,Qo,Qp,Qq,Qr,Qs,implies_true,Qt,Qu,Qv,Qw,Qx,Qy,Qz,QA,QB,QC,QD,QE,QF,QG,QH,QI,QJ,QK,QL,QM,QN,QO,QP,QQ]
         refine CallC.pure (signed_spec false (decNum L) (by omega)) ?_
         simp (config:={maxSteps:=1000000}) (disch:=((try simp only [awL]);omega)) only [hG,QR,QS,QT,QU,QV,QW,QX,QY,QZ,Q0,Q1,Q2,↓awU,awV,awF,Qa,Qb,Qc,Qd,forall_const,↓reduceIte,↓reduceDIte,↓Qe,Qf,Qg,Qh,Qi,Qj,Qk,Ql,Qm,Qn,Qo,Qp,Qq,Qr,Qs,implies_true,Qt,Qu,Qv,Qw,Qx,Qy,Qz,QA,QB,QC,QD,QE,QF,QG,QH,QI,QJ,QK,QL,QM,QN,QO,QP,QQ]
         refine CallC.pure (signed_spec false (10 ^ (decB s).length) (by omega)) ?_
         simp (config:={maxSteps:=1000000}) (disch:=((try simp only [awL]);omega)) only [hG,QR,QS,QT,QU,QV,QW,QX,QY,QZ,Q0,Q1,Q2,↓awU,awV,awF,Qa,Qb,Qc,Qd,forall_const,↓reduceIte,↓reduceDIte,↓Qe,Qf,Qg,Qh,Qi,Qj,Qk,Ql,Qm,Qn,Qo,Qp,Qq,Qr,Qs,implies_true,Qt,Qu,Qv,Qw,Qx,Qy,Qz,QA,QB,QC,QD,QE,QF,QG,QH,QI,QJ,QK,QL,QM,QN,QO,QP,QQ]
         refine CallC.of (reduced_spec (if false=true then -(decNum L:Int) else (decNum L:Int)) ((10 ^ (decB s).length:Nat):Int) hd0 (by simp only [sz];split<;>simp<;>omega) (by simp only [sz,Int.natAbs_natCast];omega)) (by rfl) ?_
         rw [← hdv]
         simp (config:={maxSteps:=1000000}) (disch:=((try simp only [awL]);omega)) only [hG,QR,QS,QT,QU,QV,QW,QX,QY,QZ,Q0,Q1,Q2,↓awU,awV,awF,Qa,Qb,Qc,Qd,forall_const,↓reduceIte,↓reduceDIte,↓Qe,Qf,Qg,Qh,Qi,Qj,Qk,Ql,Qm,Qn,Qo,Qp,Qq,Qr,Qs,implies_true,Qt,Qu,Qv,Qw,Qx,Qy,Qz,QA,QB,QC,QD,QE,QF,QG,QH,QI,QJ,QK,QL,QM,QN,QO,QP,QQ]
         first | done | rfl
 ·have eb:s.drop 1=decBody s:=by rw [decBody,h45];rfl
  have en:decNeg s=true:=h45
  rw [en] at hdv
  simp (config:={maxSteps:=1000000}) (disch:=((try simp only [awL]);omega)) only [QR,QS,QT,QU,QV,QW,QX,QY,QZ,Q0,Q1,Q2,eb,↓awU,awV,awF,Qa,Qb,Qc,Qd,forall_const,↓reduceIte,↓reduceDIte,↓Qe,Qf,Qg,Qh,Qi,Qj,Qk,Ql,Qm,Qn,Qo,Qp,Qq,Qr,Qs,implies_true,Qt,Qu,Qv,Qw,Qx,Qy,Qz,QA,QB,QC,QD,QE,QF,QG,QH,QI,QJ,QK,QL,QM,QN,QO,QP,QQ]
  refine CallC.pure (cut_spec (decBody s) 46 (by omega)) ?_
  rw [f1,f2]
  simp (config:={maxSteps:=1000000}) (disch:=((try simp only [awL]);omega)) only [QR,QS,QT,QU,QV,QW,QX,QY,QZ,Q0,Q1,Q2,↓awU,awV,awF,Qa,Qb,Qc,Qd,forall_const,↓reduceIte,↓reduceDIte,↓Qe,Qf,Qg,Qh,Qi,Qj,Qk,Ql,Qm,Qn,Qo,Qp,Qq,Qr,Qs,implies_true,Qt,Qu,Qv,Qw,Qx,Qy,Qz,QA,QB,QC,QD,QE,QF,QG,QH,QI,QJ,QK,QL,QM,QN,QO,QP,QQ]
  refine CallC.pure (digits_spec (decF s) 15 (by omega)) ?_
  cases d1:digB (decF s) 15
  ·rw [hok,d1,Bool.false_and]
   simp (config:={maxSteps:=1000000}) (disch:=((try simp only [awL]);omega)) only [QR,QS,QT,QU,QV,QW,QX,QY,QZ,Q0,Q1,Q2,↓awU,awV,awF,Qa,Qb,Qc,Qd,forall_const,↓reduceIte,↓reduceDIte,↓Qe,Qf,Qg,Qh,Qi,Qj,Qk,Ql,Qm,Qn,Qo,Qp,Qq,Qr,Qs,implies_true,Qt,Qu,Qv,Qw,Qx,Qy,Qz,QA,QB,QC,QD,QE,QF,QG,QH,QI,QJ,QK,QL,QM,QN,QO,QP,QQ]
   first | done | rfl
  ·rw [d1,Bool.true_and] at hok
   cases dp:decide (46∈decBody s)
   ·rw [dp,Bool.not_false,Bool.true_or] at hok
    obtain ⟨hall,hlen,hlb⟩:=decOk_facts hok
    have hsm:∀ i,i≤(decF s++decB s).length→(toW (decNum ((decF s++decB s).take i))).length≤30:=fun i hi=>by
     have h:=decNum_lt (l:=(decF s++decB s).take i) fun b hb=>hall b (List.mem_of_mem_take hb)
     exact sz_small (Nat.lt_of_lt_of_le h (Nat.pow_le_pow_right (by decide) (by rw [List.length_take];omega)))
    have hlt:∀ i,i≤(decF s++decB s).length→decNum ((decF s++decB s).take i)*10<10 ^ 30:=fun i hi=>by
     have h:=decNum_lt (l:=(decF s++decB s).take i) fun b hb=>hall b (List.mem_of_mem_take hb)
     have h2:10 ^ ((decF s++decB s).take i).length≤10 ^ 29:=Nat.pow_le_pow_right (by decide) (by rw [List.length_take];omega)
     have h3:(10:Nat) ^ 30=10 ^ 29*10:=rfl
     omega
    rw [if_pos hok,hok]
    generalize hL:decF s++decB s=L at *
    simp (config:={maxSteps:=1000000}) (disch:=((try simp only [awL]);omega)) only [hG,QR,QS,QT,QU,QV,QW,QX,QY,QZ,Q0,Q1,Q2,↓awU,awV,awF,Qa,Qb,Qc,Qd,forall_const,↓reduceIte,↓reduceDIte,↓Qe,Qf,Qg,Qh,Qi,Qj,Qk,Ql,Qm,Qn,Qo,Qp,Qq,Qr,Qs,implies_true,Qt,Qu,Qv,Qw,Qx,Qy,Qz,QA,QB,QC,QD,QE,QF,QG,QH,QI,QJ,QK,QL,QM,QN,QO,QP,QQ]
    refine CallC.of (clone_spec [1] (by decide)) (by rfl) ?_
    simp (config:={maxSteps:=1000000}) (disch:=((try simp only [awL]);omega)) only [hG,QR,QS,QT,QU,QV,QW,QX,QY,QZ,Q0,Q1,Q2,hL,cells_nums,↓awU,awV,awF,Qa,Qb,Qc,Qd,forall_const,↓reduceIte,↓reduceDIte,↓Qe,Qf,Qg,Qh,Qi,Qj,Qk,Ql,Qm,Qn,Qo,Qp,Qq,Qr,Qs,implies_true,Qt,Qu,Qv,Qw,Qx,Qy,Qz,QA,QB,QC,QD,QE,QF,QG,QH,QI,QJ,QK,QL,QM,QN,QO,QP,QQ]
    refine LoopC.fr 422212465069220 (α:=Nat) (fun i=>L.length - i) (fun i=>[(9,.d (W (toW (decNum (L.take i))))),(49,.d (.int .i64 i))])
     (fun _=>[.box [.d (.bool false),.d (.sl 0 true []),.d (.bool false),.d (.sl 0 true [])],.row true (nats .u32 [10]),.row false (ints .u8 (nums L))]) (fun i=>i≤L.length) 0 (Nat.zero_le _) ?_ ?_
    ·exact ⟨[some 0,some 1,some 2],rfl,by simp,by simp [setsA,keepA,SWeak,AWeak,decNum,toW_zero,nats],by simp [HWeak,BWeak,SWeak,AWeak,nats]⟩
    ·intro i hi
     have lt:=hsm i hi
     have nl:=@nums_length L
     simp only [awK,Nat.reduceMod,Nat.reduceDiv,reduceIte]
     rcases Nat.lt_or_ge i L.length with h1 | h1
     ·have hb:=dig_range (hall _ (mem_getDU (d:=0) h1))
      have hp:=decNum_push h1
      have ls:=sz_small (n:=(L.getD i 0).toNat - 48) (k:=2) (by omega)
      have e48:((L.getD i 0).toNat:Int) - 48=(((L.getD i 0).toNat - 48:Nat):Int):=by omega
      have lm:(toW (decNum (L.take i)*10)).length≤40:=sz_small (Nat.lt_of_lt_of_le (hlt i hi) (by decide))
      simp (config:={maxSteps:=1000000}) (disch:=((try simp only [awL]);omega)) only [hG,QR,QS,QT,QU,QV,QW,QX,QY,QZ,Q0,Q1,Q2,nl,↓awU,awV,awF,Qa,Qb,Qc,Qd,forall_const,↓reduceIte,↓reduceDIte,↓Qe,Qf,Qg,Qh,Qi,Qj,Qk,Ql,Qm,Qn,Qo,Qp,Qq,Qr,Qs,implies_true,Qt,Qu,Qv,Qw,Qx,Qy,Qz,QA,QB,QC,QD,QE,QF,QG,QH,QI,QJ,QK,QL,QM,QN,QO,QP,QQ]
      refine CallC.frozenE (times_spec (decNum (L.take i)) 10 (by omega) (by rw [toW_10];decide)) (by rw [toW_10];rfl) ?_
      simp (config:={maxSteps:=1000000}) (disch:=((try simp only [awL]);omega)) only [hG,QR,QS,QT,QU,QV,QW,QX,QY,QZ,Q0,Q1,Q2,nl,e48,↓awU,awV,awF,Qa,Qb,Qc,Qd,forall_const,↓reduceIte,↓reduceDIte,↓Qe,Qf,Qg,Qh,Qi,Qj,Qk,Ql,Qm,Qn,Qo,Qp,Qq,Qr,Qs,implies_true,Qt,Qu,Qv,Qw,Qx,Qy,Qz,QA,QB,QC,QD,QE,QF,QG,QH,QI,QJ,QK,QL,QM,QN,QO,QP,QQ]
      refine CallC.pure (natural_spec ((L.getD i 0).toNat - 48) (by omega)) ?_
      simp (config:={maxSteps:=1000000}) (disch:=((try simp only [awL]);omega)) only [hG,QR,QS,QT,QU,QV,QW,QX,QY,QZ,Q0,Q1,Q2,nl,↓awU,awV,awF,Qa,Qb,Qc,Qd,forall_const,↓reduceIte,↓reduceDIte,↓Qe,Qf,Qg,Qh,Qi,Qj,Qk,Ql,Qm,Qn,Qo,Qp,Qq,Qr,Qs,implies_true,Qt,Qu,Qv,Qw,Qx,Qy,Qz,QA,QB,QC,QD,QE,QF,QG,QH,QI,QJ,QK,QL,QM,QN,QO,QP,QQ]
      refine CallC.pure (plus_spec (decNum (L.take i)*10) ((L.getD i 0).toNat - 48) (by omega) (by omega)) ?_
      rw [hp]
      simp (config:={maxSteps:=1000000}) (disch:=((try simp only [awL]);omega)) only [hG,QR,QS,QT,QU,QV,QW,QX,QY,QZ,Q0,Q1,Q2,nl,↓awU,awV,awF,Qa,Qb,Qc,Qd,forall_const,↓reduceIte,↓reduceDIte,↓Qe,Qf,Qg,Qh,Qi,Qj,Qk,Ql,Qm,Qn,Qo,Qp,Qq,Qr,Qs,implies_true,Qt,Qu,Qv,Qw,Qx,Qy,Qz,QA,QB,QC,QD,QE,QF,QG,QH,QI,QJ,QK,QL,QM,QN,QO,QP,QQ]
      exact ⟨i+1,h1,by simp only;omega,⟨[some 0,some 1,some 2],rfl,by simp,by simp [setsA,keepA,SWeak,AWeak],by simp [HWeak,BWeak,SWeak,AWeak]⟩⟩
     ·obtain rfl:i=L.length:=by omega
      rw [List.take_length] at *
      simp (config:={maxSteps:=1000000}) (disch:=((try simp only [awL]);omega)) only [hG,QR,QS,QT,QU,QV,QW,QX,QY,QZ,Q0,Q1,Q2,nl,↓awU,awV,awF,Qa,Qb,Qc,Qd,forall_const,↓reduceIte,↓reduceDIte,↓Qe,Qf,Qg,Qh,Qi,Qj,Qk,Ql,Qm,Qn,Qo,Qp,Qq,Qr,Qs,implies_true,Qt,Qu,Qv,Qw,Qx,Qy,Qz,QA,QB,QC,QD,QE,QF,QG,QH,QI,QJ,QK,QL,QM,QN,QO,QP,QQ]
      refine LoopC.fr 9223372036854777380 (α:=Nat) (fun j=>(decB s).length - j) (fun j=>[(11,.d (W (toW (10 ^ j)))),(64,.d (.int .i64 j))])
       (fun _=>[.box [.d (.bool false),.d (.sl 0 true []),.d (.bool false),.d (.sl 0 true [])],.row true (nats .u32 [10]),.row false (ints .u8 (nums L))]) (fun j=>j≤(decB s).length) 0 (Nat.zero_le _) ?_ ?_
      ·exact ⟨[some 0,some 1,some 2],rfl,by simp,by simp [setsA,keepA,SWeak,AWeak,toW_one],by simp [HWeak,BWeak,SWeak,AWeak,nats]⟩
      ·intro j hj
       have lj:(toW (10 ^ j)).length≤10:=sz_small (Nat.pow_lt_pow_right (by decide) (by omega))
       simp only [awK,Nat.reduceMod,Nat.reduceDiv,reduceIte]
       rcases Nat.lt_or_ge j (decB s).length with h2 | h2
       ·simp (config:={maxSteps:=1000000}) (disch:=((try simp only [awL]);omega)) only [hG,QR,QS,QT,QU,QV,QW,QX,QY,QZ,Q0,Q1,Q2,↓awU,awV,awF,Qa,Qb,Qc,Qd,forall_const,↓reduceIte,↓reduceDIte,↓Qe,Qf,Qg,Qh,Qi,Qj,Qk,Ql,Qm,Qn,Qo,Qp,Qq,Qr,Qs,implies_true,Qt,Qu,Qv,Qw,Qx,Qy,Qz,QA,QB,QC,QD,QE,QF,QG,QH,QI,QJ,QK,QL,QM,QN,QO,QP,QQ]
        refine CallC.frozenE (times_spec (10 ^ j) 10 (by omega) (by rw [toW_10];decide)) (by rw [toW_10];rfl) ?_
        rw [← Nat.pow_succ]
        simp (config:={maxSteps:=1000000}) (disch:=((try simp only [awL]);omega)) only [hG,QR,QS,QT,QU,QV,QW,QX,QY,QZ,Q0,Q1,Q2,↓awU,awV,awF,Qa,Qb,Qc,Qd,forall_const,↓reduceIte,↓reduceDIte,↓Qe,Qf,Qg,Qh,Qi,Qj,Qk,Ql,Qm,Qn,Qo,Qp,Qq,Qr,Qs,implies_true,Qt,Qu,Qv,Qw,Qx,Qy,Qz,QA,QB,QC,QD,QE,QF,QG,QH,QI,QJ,QK,QL,QM,QN,QO,QP,QQ]
        exact ⟨j+1,h2,by simp only;omega,⟨[some 0,some 1,some 2],rfl,by simp,by simp [setsA,keepA,SWeak,AWeak],by simp [HWeak,BWeak,SWeak,AWeak]⟩⟩
       ·obtain rfl:j=(decB s).length:=by omega
        have hd0:((10 ^ (decB s).length:Nat):Int)≠0:=by
         have:0<10 ^ (decB s).length:=Nat.pow_pos (by decide)
         omega
        simp (config:={maxSteps:=1000000}) (disch:=((try simp only [awL]);omega)) only [hG,QR,QS,QT,QU,QV,QW,QX,QY,QZ,Q0,Q1,Q2,↓awU,awV,awF,Qa,Qb,Qc,Qd,forall_const,↓reduceIte,↓reduceDIte,↓Qe,Qf,Qg,Qh,Qi,Qj,Qk,Ql,Qm,Qn,Qo,Qp,Qq,Qr,Qs,implies_true,Qt,Qu,Qv,Qw,Qx,Qy,Qz,QA,QB,QC,QD,QE,QF,QG,QH,QI,QJ,QK,QL,QM,QN,QO,QP,QQ]
        refine CallC.pure (signed_spec true (decNum L) (by omega)) ?_
        simp (config:={maxSteps:=1000000}) (disch:=((try simp only [awL]);omega)) only [hG,QR,QS,QT,QU,QV,QW,QX,QY,QZ,Q0,Q1,Q2,↓awU,awV,awF,Qa,Qb,Qc,Qd,forall_const,↓reduceIte,↓reduceDIte,↓Qe,Qf,Qg,Qh,Qi,Qj,Qk,Ql,Qm,Qn,Qo,Qp,Qq,Qr,Qs,implies_true,Qt,Qu,Qv,Qw,Qx,Qy,Qz,QA,QB,QC,QD,QE,QF,QG,QH,QI,QJ,QK,QL,QM,QN,QO,QP,QQ]
        refine CallC.pure (signed_spec false (10 ^ (decB s).length) (by omega)) ?_
        simp (config:={maxSteps:=1000000}) (disch:=((try simp only [awL]);omega)) only [hG,QR,QS,QT,QU,QV,QW,QX,QY,QZ,Q0,Q1,Q2,↓awU,awV,awF,Qa,Qb,Qc,Qd,forall_const,↓reduceIte,↓reduceDIte,↓Qe,Qf,Qg,Qh,Qi,Qj,Qk,Ql,Qm,Qn,Qo,Qp,Qq,Qr,Qs,implies_true,Qt,Qu,Qv,Qw,Qx,Qy,Qz,QA,QB,QC,QD,QE,QF,QG,QH,QI,QJ,QK,QL,QM,QN,QO,QP,QQ]
        refine CallC.of (reduced_spec (if true=true then -(decNum L:Int) else (decNum L:Int)) ((10 ^ (decB s).length:Nat):Int) hd0 (by simp only [sz];split<;>simp<;>omega) (by simp only [sz,Int.natAbs_natCast];omega)) (by rfl) ?_
        rw [← hdv]
        simp (config:={maxSteps:=1000000}) (disch:=((try simp only [awL]);omega)) only [hG,QR,QS,QT,QU,QV,QW,QX,QY,QZ,Q0,Q1,Q2,↓awU,awV,awF,Qa,Qb,Qc,Qd,forall_const,↓reduceIte,↓reduceDIte,↓Qe,Qf,Qg,Qh,Qi,Qj,Qk,Ql,Qm,Qn,Qo,Qp,Qq,Qr,Qs,implies_true,Qt,Qu,Qv,Qw,Qx,Qy,Qz,QA,QB,QC,QD,QE,QF,QG,QH,QI,QJ,QK,QL,QM,QN,QO,QP,QQ]
        first | done | rfl
   ·rw [dp,Bool.not_true,Bool.false_or] at hok
    simp (config:={maxSteps:=1000000}) (disch:=((try simp only [awL]);omega)) only [QR,QS,QT,QU,QV,QW,QX,QY,QZ,Q0,Q1,Q2,↓awU,awV,awF,Qa,Qb,Qc,Qd,forall_const,↓reduceIte,↓reduceDIte,↓Qe,Qf,Qg,Qh,Qi,Qj,Qk,Ql,Qm,Qn,Qo,Qp,Qq,Qr,Qs,implies_true,Qt,Qu,Qv,Qw,Qx,Qy,Qz,QA,QB,QC,QD,QE,QF,QG,QH,QI,QJ,QK,QL,QM,QN,QO,QP,QQ]
    refine CallC.pure (digits_spec (decB s) 9 (by omega)) ?_
    cases d2:digB (decB s) 9
    ·rw [hok,d2]
     simp (config:={maxSteps:=1000000}) (disch:=((try simp only [awL]);omega)) only [QR,QS,QT,QU,QV,QW,QX,QY,QZ,Q0,Q1,Q2,↓awU,awV,awF,Qa,Qb,Qc,Qd,forall_const,↓reduceIte,↓reduceDIte,↓Qe,Qf,Qg,Qh,Qi,Qj,Qk,Ql,Qm,Qn,Qo,Qp,Qq,Qr,Qs,implies_true,Qt,Qu,Qv,Qw,Qx,Qy,Qz,QA,QB,QC,QD,QE,QF,QG,QH,QI,QJ,QK,QL,QM,QN,QO,QP,QQ]
     first | done | rfl
    ·rw [d2] at hok
     obtain ⟨hall,hlen,hlb⟩:=decOk_facts hok
     have hsm:∀ i,i≤(decF s++decB s).length→(toW (decNum ((decF s++decB s).take i))).length≤30:=fun i hi=>by
      have h:=decNum_lt (l:=(decF s++decB s).take i) fun b hb=>hall b (List.mem_of_mem_take hb)
      exact sz_small (Nat.lt_of_lt_of_le h (Nat.pow_le_pow_right (by decide) (by rw [List.length_take];omega)))
     have hlt:∀ i,i≤(decF s++decB s).length→decNum ((decF s++decB s).take i)*10<10 ^ 30:=fun i hi=>by
      have h:=decNum_lt (l:=(decF s++decB s).take i) fun b hb=>hall b (List.mem_of_mem_take hb)
      have h2:10 ^ ((decF s++decB s).take i).length≤10 ^ 29:=Nat.pow_le_pow_right (by decide) (by rw [List.length_take];omega)
      have h3:(10:Nat) ^ 30=10 ^ 29*10:=rfl
      omega
     rw [if_pos hok,hok]
     generalize hL:decF s++decB s=L at *
     simp (config:={maxSteps:=1000000}) (disch:=((try simp only [awL]);omega)) only [hG,QR,QS,QT,QU,QV,QW,QX,QY,QZ,Q0,Q1,Q2,↓awU,awV,awF,Qa,Qb,Qc,Qd,forall_const,↓reduceIte,↓reduceDIte,↓Qe,Qf,Qg,Qh,Qi,Qj,Qk,Ql,Qm,Qn,Qo,Qp,Qq,Qr,Qs,implies_true,Qt,Qu,Qv,Qw,Qx,Qy,Qz,QA,QB,QC,QD,QE,QF,QG,QH,QI,QJ,QK,QL,QM,QN,QO,QP,QQ]
     refine CallC.of (clone_spec [1] (by decide)) (by rfl) ?_
     simp (config:={maxSteps:=1000000}) (disch:=((try simp only [awL]);omega)) only [hG,QR,QS,QT,QU,QV,QW,QX,QY,QZ,Q0,Q1,Q2,hL,cells_nums,↓awU,awV,awF,Qa,Qb,Qc,Qd,forall_const,↓reduceIte,↓reduceDIte,↓Qe,Qf,Qg,Qh,Qi,Qj,Qk,Ql,Qm,Qn,Qo,Qp,Qq,Qr,Qs,implies_true,Qt,Qu,Qv,Qw,Qx,Qy,Qz,QA,QB,QC,QD,QE,QF,QG,QH,QI,QJ,QK,QL,QM,QN,QO,QP,QQ]
     refine LoopC.fr 422212465069220 (α:=Nat) (fun i=>L.length - i) (fun i=>[(9,.d (W (toW (decNum (L.take i))))),(49,.d (.int .i64 i))])
      (fun _=>[.box [.d (.bool false),.d (.sl 0 true []),.d (.bool false),.d (.sl 0 true [])],.row true (nats .u32 [10]),.row false (ints .u8 (nums L))]) (fun i=>i≤L.length) 0 (Nat.zero_le _) ?_ ?_
     ·exact ⟨[some 0,some 1,some 2],rfl,by simp,by simp [setsA,keepA,SWeak,AWeak,decNum,toW_zero,nats],by simp [HWeak,BWeak,SWeak,AWeak,nats]⟩
     ·intro i hi
      have lt:=hsm i hi
      have nl:=@nums_length L
      simp only [awK,Nat.reduceMod,Nat.reduceDiv,reduceIte]
      rcases Nat.lt_or_ge i L.length with h1 | h1
      ·have hb:=dig_range (hall _ (mem_getDU (d:=0) h1))
       have hp:=decNum_push h1
       have ls:=sz_small (n:=(L.getD i 0).toNat - 48) (k:=2) (by omega)
       have e48:((L.getD i 0).toNat:Int) - 48=(((L.getD i 0).toNat - 48:Nat):Int):=by omega
       have lm:(toW (decNum (L.take i)*10)).length≤40:=sz_small (Nat.lt_of_lt_of_le (hlt i hi) (by decide))
       simp (config:={maxSteps:=1000000}) (disch:=((try simp only [awL]);omega)) only [hG,QR,QS,QT,QU,QV,QW,QX,QY,QZ,Q0,Q1,Q2,nl,↓awU,awV,awF,Qa,Qb,Qc,Qd,forall_const,↓reduceIte,↓reduceDIte,↓Qe,Qf,Qg,Qh,Qi,Qj,Qk,Ql,Qm,Qn,Qo,Qp,Qq,Qr,Qs,implies_true,Qt,Qu,Qv,Qw,Qx,Qy,Qz,QA,QB,QC,QD,QE,QF,QG,QH,QI,QJ,QK,QL,QM,QN,QO,QP,QQ]
       refine CallC.frozenE (times_spec (decNum (L.take i)) 10 (by omega) (by rw [toW_10];decide)) (by rw [toW_10];rfl) ?_
       simp (config:={maxSteps:=1000000}) (disch:=((try simp only [awL]);omega)) only [hG,QR,QS,QT,QU,QV,QW,QX,QY,QZ,Q0,Q1,Q2,nl,e48,↓awU,awV,awF,Qa,Qb,Qc,Qd,forall_const,↓reduceIte,↓reduceDIte,↓Qe,Qf,Qg,Qh,Qi,Qj,Qk,Ql,Qm,Qn,Qo,Qp,Qq,Qr,Qs,implies_true,Qt,Qu,Qv,Qw,Qx,Qy,Qz,QA,QB,QC,QD,QE,QF,QG,QH,QI,QJ,QK,QL,QM,QN,QO,QP,QQ]
       refine CallC.pure (natural_spec ((L.getD i 0).toNat - 48) (by omega)) ?_
       simp (config:={maxSteps:=1000000}) (disch:=((try simp only [awL]);omega)) only [hG,QR,QS,QT,QU,QV,QW,QX,QY,QZ,Q0,Q1,Q2,nl,↓awU,awV,awF,Qa,Qb,Qc,Qd,forall_const,↓reduceIte,↓reduceDIte,↓Qe,Qf,Qg,Qh,Qi,Qj,Qk,Ql,Qm,Qn,Qo,Qp,Qq,Qr,Qs,implies_true,Qt,Qu,Qv,Qw,Qx,Qy,Qz,QA,QB,QC,QD,QE,QF,QG,QH,QI,QJ,QK,QL,QM,QN,QO,QP,QQ]
       refine CallC.pure (plus_spec (decNum (L.take i)*10) ((L.getD i 0).toNat - 48) (by omega) (by omega)) ?_
       rw [hp]
       simp (config:={maxSteps:=1000000}) (disch:=((try simp only [awL]);omega)) only [hG,QR,QS,QT,QU,QV,QW,QX,QY,QZ,Q0,Q1,Q2,nl,↓awU,awV,awF,Qa,Qb,Qc,Qd,forall_const,↓reduceIte,↓reduceDIte,↓Qe,Qf,Qg,Qh,Qi,Qj,Qk,Ql,Qm,Qn,Qo,Qp,Qq,Qr,Qs,implies_true,Qt,Qu,Qv,Qw,Qx,Qy,Qz,QA,QB,QC,QD,QE,QF,QG,QH,QI,QJ,QK,QL,QM,QN,QO,QP,QQ]
       exact ⟨i+1,h1,by simp only;omega,⟨[some 0,some 1,some 2],rfl,by simp,by simp [setsA,keepA,SWeak,AWeak],by simp [HWeak,BWeak,SWeak,AWeak]⟩⟩
      ·obtain rfl:i=L.length:=by omega
       rw [List.take_length] at *
       simp (config:={maxSteps:=1000000}) (disch:=((try simp only [awL]);omega)) only [hG,QR,QS,QT,QU,QV,QW,QX,QY,QZ,Q0,Q1,Q2,nl,↓awU,awV,awF,Qa,Qb,Qc,Qd,forall_const,↓reduceIte,↓reduceDIte,↓Qe,Qf,Qg,Qh,Qi,Qj,Qk,Ql,Qm,Qn,Qo,Qp,Qq,Qr,Qs,implies_true,Qt,Qu,Qv,Qw,Qx,Qy,Qz,QA,QB,QC,QD,QE,QF,QG,QH,QI,QJ,QK,QL,QM,QN,QO,QP,QQ]
       refine LoopC.fr 9223372036854777380 (α:=Nat) (fun j=>(decB s).length - j) (fun j=>[(11,.d (W (toW (10 ^ j)))),(64,.d (.int .i64 j))])
        (fun _=>[.box [.d (.bool false),.d (.sl 0 true []),.d (.bool false),.d (.sl 0 true [])],.row true (nats .u32 [10]),.row false (ints .u8 (nums L))]) (fun j=>j≤(decB s).length) 0 (Nat.zero_le _) ?_ ?_
       ·exact ⟨[some 0,some 1,some 2],rfl,by simp,by simp [setsA,keepA,SWeak,AWeak,toW_one],by simp [HWeak,BWeak,SWeak,AWeak,nats]⟩
       ·intro j hj
        have lj:(toW (10 ^ j)).length≤10:=sz_small (Nat.pow_lt_pow_right (by decide) (by omega))
        simp only [awK,Nat.reduceMod,Nat.reduceDiv,reduceIte]
        rcases Nat.lt_or_ge j (decB s).length with h2 | h2
        ·simp (config:={maxSteps:=1000000}) (disch:=((try simp only [awL]);omega)) only [hG,QR,QS,QT,QU,QV,QW,QX,QY,QZ,Q0,Q1,Q2,↓awU,awV,awF,Qa,Qb,Qc,Qd,forall_const,↓reduceIte,↓reduceDIte,↓Qe,Qf,Qg,Qh,Qi,Qj,Qk,Ql,Qm,Qn,Qo,Qp,Qq,Qr,Qs,implies_true,Qt,Qu,Qv,Qw,Qx,Qy,Qz,QA,QB,QC,QD,QE,QF,QG,QH,QI,QJ,QK,QL,QM,QN,QO,QP,QQ]
         refine CallC.frozenE (times_spec (10 ^ j) 10 (by omega) (by rw [toW_10];decide)) (by rw [toW_10];rfl) ?_
         rw [← Nat.pow_succ]
         simp (config:={maxSteps:=1000000}) (disch:=((try simp only [awL]);omega)) only [hG,QR,QS,QT,QU,QV,QW,QX,QY,QZ,Q0,Q1,Q2,↓awU,awV,awF,Qa,Qb,Qc,Qd,forall_const,↓reduceIte,↓reduceDIte,↓Qe,Qf,Qg,Qh,Qi,Qj,Qk,Ql,Qm,Qn,Qo,Qp,Qq,Qr,Qs,implies_true,Qt,Qu,Qv,Qw,Qx,Qy,Qz,QA,QB,QC,QD,QE,QF,QG,QH,QI,QJ,QK,QL,QM,QN,QO,QP,QQ]
         exact ⟨j+1,h2,by simp only;omega,⟨[some 0,some 1,some 2],rfl,by simp,by simp [setsA,keepA,SWeak,AWeak],by simp [HWeak,BWeak,SWeak,AWeak]⟩⟩
        ·obtain rfl:j=(decB s).length:=by omega
         have hd0:((10 ^ (decB s).length:Nat):Int)≠0:=by
          have:0<10 ^ (decB s).length:=Nat.pow_pos (by decide)
          omega
         simp (config:={maxSteps:=1000000}) (disch:=((try simp only [awL]);omega)) only [hG,QR,QS,QT,QU,QV,QW,QX,QY,QZ,Q0,Q1,Q2,↓awU,awV,awF,Qa,Qb,Qc,Qd,forall_const,↓reduceIte,↓reduceDIte,↓Qe,Qf,Qg,Qh,Qi,Qj,Qk,Ql,Qm,Qn,Qo,Qp,Qq,Qr,Qs,implies_true,Qt,Qu,Qv,Qw,Qx,Qy,Qz,QA,QB,QC,QD,QE,QF,QG,QH,QI,QJ,QK,QL,QM,QN,QO,QP,QQ]
         refine CallC.pure (signed_spec true (decNum L) (by omega)) ?_
         simp (config:={maxSteps:=1000000}) (disch:=((try simp only [awL]);omega)) only [hG,QR,QS,QT,QU,QV,QW,QX,QY,QZ,Q0,Q1,Q2,↓awU,awV,awF,Qa,Qb,Qc,Qd,forall_const,↓reduceIte,↓reduceDIte,↓Qe,Qf,Qg,Qh,Qi,Qj,Qk,Ql,Qm,Qn,Qo,Qp,Qq,Qr,Qs,implies_true,Qt,Qu,Qv,Qw,Qx,Qy,Qz,QA,QB,QC,QD,QE,QF,QG,QH,QI,QJ,QK,QL,QM,QN,QO,QP,QQ]
         refine CallC.pure (signed_spec false (10 ^ (decB s).length) (by omega)) ?_
         simp (config:={maxSteps:=1000000}) (disch:=((try simp only [awL]);omega)) only [hG,QR,QS,QT,QU,QV,QW,QX,QY,QZ,Q0,Q1,Q2,↓awU,awV,awF,Qa,Qb,Qc,Qd,forall_const,↓reduceIte,↓reduceDIte,↓Qe,Qf,Qg,Qh,Qi,Qj,Qk,Ql,Qm,Qn,Qo,Qp,Qq,Qr,Qs,implies_true,Qt,Qu,Qv,Qw,Qx,Qy,Qz,QA,QB,QC,QD,QE,QF,QG,QH,QI,QJ,QK,QL,QM,QN,QO,QP,QQ]
         refine CallC.of (reduced_spec (if true=true then -(decNum L:Int) else (decNum L:Int)) ((10 ^ (decB s).length:Nat):Int) hd0 (by simp only [sz];split<;>simp<;>omega) (by simp only [sz,Int.natAbs_natCast];omega)) (by rfl) ?_
         rw [← hdv]
         simp (config:={maxSteps:=1000000}) (disch:=((try simp only [awL]);omega)) only [hG,QR,QS,QT,QU,QV,QW,QX,QY,QZ,Q0,Q1,Q2,↓awU,awV,awF,Qa,Qb,Qc,Qd,forall_const,↓reduceIte,↓reduceDIte,↓Qe,Qf,Qg,Qh,Qi,Qj,Qk,Ql,Qm,Qn,Qo,Qp,Qq,Qr,Qs,implies_true,Qt,Qu,Qv,Qw,Qx,Qy,Qz,QA,QB,QC,QD,QE,QF,QG,QH,QI,QJ,QK,QL,QM,QN,QO,QP,QQ]
         first | done | rfl
end Go.Proofs.YtdpjcghiegggbaaGreatDoor.Num
namespace Go.Proofs.YtdpjcghiegggbaaGreatDoor.Num
open Go Go.Proofs Go.Abs
variable {G:Globals}
def isD (c:UInt8):Prop:=48≤c.toNat∧c.toNat≤57
theorem not_isD_46 {c:UInt8} (h:isD c):c≠46:=fun e=>by subst e;obtain ⟨h1,_⟩:=h;exact absurd h1 (by decide)
theorem cut_all:∀ {b:List UInt8},(∀ d∈b,isD d)→(46:UInt8)∉b∧cutL 46 b=b∧cutR 46 b=[]
 | b,h=>by
   have hm:(46:UInt8)∉b:=fun hm=>not_isD_46 (h _ hm) rfl
   exact ⟨hm,((cut_index 46 b).2 hm).2⟩
end Go.Proofs.YtdpjcghiegggbaaGreatDoor.Num
namespace Go.Proofs.YtdpjcghiegggbaaGreatDoor.Num
open Go Go.Proofs Go.Abs
variable {G:Globals}
theorem rtrim_spec (l:List Nat) (hd:Dig l) (hl:l.length<2 ^ 60):Ctr Tryz.prog G 121 [.d (W l)] [] (.d (W (toW (val l)))) []:=by
 refine Ctr.pure (M:=M0) hmix Tryz.func121 rfl go121 ?_
 simp (config:={maxSteps:=1000000}) (disch:=((try simp only [awL]);omega)) only [Tryz.f121,↓awU,awV,awF,Qa,Qb,Qc,Qd,forall_const,↓reduceIte,↓reduceDIte,↓Qe,Qf,Qg,Qh,Qi,Qj,Qk,Ql,Qm,Qn,Qo,Qp,Qq,Qr,Qs,implies_true,Qt,Qu,Qv,Qw,Qx,Qy,Qz,QA,QB,QC,QD,QE,QF,QG,QH,QI,QJ,QK,QL,QM,QN,QO,QP,QQ]
 refine LoopC.fr 0 (α:=Nat) (fun k=>k) (fun k=>[(0,.d (.sl k false (nats .u32 (l.take k))))]) (fun _=>[]) (fun k=>k≤l.length∧val (l.take k)=val l) l.length ⟨Nat.le_refl _,by simp⟩ ?_ ?_
 ·exact ⟨[],rfl,by simp,by simp [setsA,keepA,SWeak,AWeak],by simp [HWeak,BWeak,SWeak,AWeak]⟩
 ·rintro k ⟨hk,hv⟩
  simp only [awK,Nat.reduceMod,Nat.reduceDiv,reduceIte]
  rcases k with _ | k
  ·simp (config:={maxSteps:=1000000}) (disch:=((try simp only [awL]);omega)) only [↓awU,awV,awF,Qa,Qb,Qc,Qd,forall_const,↓reduceIte,↓reduceDIte,↓Qe,Qf,Qg,Qh,Qi,Qj,Qk,Ql,Qm,Qn,Qo,Qp,Qq,Qr,Qs,implies_true,Qt,Qu,Qv,Qw,Qx,Qy,Qz,QA,QB,QC,QD,QE,QF,QG,QH,QI,QJ,QK,QL,QM,QN,QO,QP,QQ]
   have:toW (val l)=[]:=by rw [← hv];exact toW_zero
   rw [this];rfl
  ·have eg:(l.take (k+1)).getD k 0=l.getD k 0:=by
    rw [List.getD_eq_getElem?_getD,List.getElem?_take,if_pos (by omega),← List.getD_eq_getElem?_getD]
   have et:(l.take (k+1)).take k=l.take k:=by rw [List.take_take];congr 1;omega
   simp (config:={maxSteps:=1000000}) (disch:=((try simp only [awL]);omega)) only [eg,et,↓awU,awV,awF,Qa,Qb,Qc,Qd,forall_const,↓reduceIte,↓reduceDIte,↓Qe,Qf,Qg,Qh,Qi,Qj,Qk,Ql,Qm,Qn,Qo,Qp,Qq,Qr,Qs,implies_true,Qt,Qu,Qv,Qw,Qx,Qy,Qz,QA,QB,QC,QD,QE,QF,QG,QH,QI,QJ,QK,QL,QM,QN,QO,QP,QQ]
   refine ⟨fun h=>⟨k,⟨by omega,?_⟩,Nat.lt_succ_self _,⟨[],rfl,by simp,by simp [setsA,keepA,SWeak,AWeak],by simp [HWeak,BWeak,SWeak,AWeak]⟩⟩,fun h=>?_⟩
   ·rw [← hv,take_val l k,show l.getD k 0=0 by omega];simp
   ·have:=toW_take hd (k:=k+1) (by omega) (.inr (by simpa using h))
    rw [hv] at this
    rw [this]
    simp [W];omega
theorem rbig_spec (neg:Bool) (l:List Nat) (hd:Dig l) (hl:l.length<2 ^ 40):Ctr Tryz.prog G 78 [.d (.bool neg),.d (W l)] [] (.d (Big (if neg then -(val l:Int) else val l))) []:=by
 refine Ctr.pure (M:=M0) hmix Tryz.func78 rfl go78 ?_
 have hlt:=trim_len hd
 simp (config:={maxSteps:=1000000}) (disch:=((try simp only [awL]);omega)) only [Tryz.f78,↓awU,awV,awF,Qa,Qb,Qc,Qd,forall_const,↓reduceIte,↓reduceDIte,↓Qe,Qf,Qg,Qh,Qi,Qj,Qk,Ql,Qm,Qn,Qo,Qp,Qq,Qr,Qs,implies_true,Qt,Qu,Qv,Qw,Qx,Qy,Qz,QA,QB,QC,QD,QE,QF,QG,QH,QI,QJ,QK,QL,QM,QN,QO,QP,QQ]
 refine CallC.pure (rtrim_spec l hd (by omega)) ?_
 have:=@sz_pos (val l)
 cases neg
 ·simp (config:={maxSteps:=1000000}) (disch:=((try simp only [awL]);omega)) only [↓awU,awV,awF,Qa,Qb,Qc,Qd,forall_const,↓reduceIte,↓reduceDIte,↓Qe,Qf,Qg,Qh,Qi,Qj,Qk,Ql,Qm,Qn,Qo,Qp,Qq,Qr,Qs,implies_true,Qt,Qu,Qv,Qw,Qx,Qy,Qz,QA,QB,QC,QD,QE,QF,QG,QH,QI,QJ,QK,QL,QM,QN,QO,QP,QQ]
  simp [Big,bigL,W]
 ·simp (config:={maxSteps:=1000000}) (disch:=((try simp only [awL]);omega)) only [↓awU,awV,awF,Qa,Qb,Qc,Qd,forall_const,↓reduceIte,↓reduceDIte,↓Qe,Qf,Qg,Qh,Qi,Qj,Qk,Ql,Qm,Qn,Qo,Qp,Qq,Qr,Qs,implies_true,Qt,Qu,Qv,Qw,Qx,Qy,Qz,QA,QB,QC,QD,QE,QF,QG,QH,QI,QJ,QK,QL,QM,QN,QO,QP,QQ]
  simp [Big,bigL,W]
  omega
theorem rcmp_spec (a b:Nat) (ha:(toW a).length<2 ^ 40) (hb:(toW b).length<2 ^ 40) :
  Ctr Tryz.prog G 76 [.d (W (toW a)),.d (W (toW b))] [] (.d (.int .i64 (cmpI a b))) []:=by
 have da:=dig_toW a
 have db:=dig_toW b
 have va:=val_toW a
 have vb:=val_toW b
 have la:=@toW_len_lt a b
 have lb:=@toW_len_lt b a
 generalize toW a=l at *
 generalize toW b=m at *
 refine Ctr.pure (M:=M0) hmix Tryz.func76 rfl go76 ?_
 simp (config:={maxSteps:=1000000}) (disch:=((try simp only [awL]);omega)) only [Tryz.f76,↓awU,awV,awF,Qa,Qb,Qc,Qd,forall_const,↓reduceIte,↓reduceDIte,↓Qe,Qf,Qg,Qh,Qi,Qj,Qk,Ql,Qm,Qn,Qo,Qp,Qq,Qr,Qs,implies_true,Qt,Qu,Qv,Qw,Qx,Qy,Qz,QA,QB,QC,QD,QE,QF,QG,QH,QI,QJ,QK,QL,QM,QN,QO,QP,QQ]
 refine ⟨fun h=>⟨fun h'=>?_,fun h'=>?_⟩,fun h=>?_⟩
 ·exact (cmpI_lt (by have:=la (by omega);omega)).symm
 ·exact (cmpI_gt (by have:=lb (by omega);omega)).symm
 ·have e:l.length=m.length:=by omega
  refine LoopC.fr 3 (α:=Nat) (fun k=>k) (fun k=>[(5,.d (.int .i64 ((k:Int) - 1)))]) (fun _=>[]) (fun k=>k≤l.length∧l.drop k=m.drop k) l.length ⟨Nat.le_refl _,by rw [List.drop_length,e,List.drop_length]⟩ ?_ ?_
  ·exact ⟨[],rfl,by simp,by simp [setsA,keepA,SWeak,AWeak,e],by simp [HWeak]⟩
  ·rintro k ⟨hk,hv⟩
   simp only [awK,Nat.reduceMod,Nat.reduceDiv,reduceIte]
   rcases k with _ | k
   ·simp (config:={maxSteps:=1000000}) (disch:=((try simp only [awL]);omega)) only [↓awU,awV,awF,Qa,Qb,Qc,Qd,forall_const,↓reduceIte,↓reduceDIte,↓Qe,Qf,Qg,Qh,Qi,Qj,Qk,Ql,Qm,Qn,Qo,Qp,Qq,Qr,Qs,implies_true,Qt,Qu,Qv,Qw,Qx,Qy,Qz,QA,QB,QC,QD,QE,QF,QG,QH,QI,QJ,QK,QL,QM,QN,QO,QP,QQ]
    simp only [List.drop_zero] at hv
    rw [← va,← vb,hv]
    exact (cmpI_eq rfl).symm
   ·simp (config:={maxSteps:=1000000}) (disch:=((try simp only [awL]);omega)) only [↓awU,awV,awF,Qa,Qb,Qc,Qd,forall_const,↓reduceIte,↓reduceDIte,↓Qe,Qf,Qg,Qh,Qi,Qj,Qk,Ql,Qm,Qn,Qo,Qp,Qq,Qr,Qs,implies_true,Qt,Qu,Qv,Qw,Qx,Qy,Qz,QA,QB,QC,QD,QE,QF,QG,QH,QI,QJ,QK,QL,QM,QN,QO,QP,QQ]
    refine ⟨by rfl,fun h1=>?_,fun h1=>⟨by rfl,fun h2=>?_,fun h2=>?_⟩⟩
    ·have:=val_lt_of (k:=k) da (by omega) (by omega) hv (by omega)
     rw [← va,← vb];exact (cmpI_lt (by omega)).symm
    ·have:=val_lt_of (k:=k) db (by omega) (by omega) hv.symm (by omega)
     rw [← va,← vb];exact (cmpI_gt (by omega)).symm
    ·exact ⟨k,⟨by omega,drop_eq (by omega) (by omega) hv (by omega)⟩,Nat.lt_succ_self _,⟨[],rfl,by simp,by simp [setsA,keepA,SWeak,AWeak],by simp [HWeak,BWeak,SWeak,AWeak]⟩⟩
set_option maxHeartbeats 4000000 in
set_option maxRecDepth 100000 in
theorem rvalidBig_spec (n:Int):Ctr Tryz.prog G 75 [.d (Big n)] [] (.d (.bool (decide (sz n≤256)))) []:=by
 refine Ctr.pure (M:=M0) hmix Tryz.func75 rfl go75 ?_
 by_cases hn:n=0
 ·subst hn
  have e:toW (0:Int).natAbs=[]:=toW_zero
  simp only [Big,bigL,sz,e]
  simp (config:={maxSteps:=1000000}) (disch:=((try simp only [awL]);omega)) only [Tryz.f75,↓awU,awV,awF,Qa,Qb,Qc,Qd,forall_const,↓reduceIte,↓reduceDIte,↓Qe,Qf,Qg,Qh,Qi,Qj,Qk,Ql,Qm,Qn,Qo,Qp,Qq,Qr,Qs,implies_true,Qt,Qu,Qv,Qw,Qx,Qy,Qz,QA,QB,QC,QD,QE,QF,QG,QH,QI,QJ,QK,QL,QM,QN,QO,QP,QQ]
 ·have h0:=(@sz_pos n.natAbs).2 (by omega)
  have hl:=@toW_last n.natAbs (by omega)
  simp only [Big,bigL,sz]
  obtain ⟨m,hm⟩:∃ m,(toW n.natAbs).length=m+1:=⟨(toW n.natAbs).length - 1,by omega⟩
  rw [hm,Nat.add_sub_cancel] at hl
  have hl':¬ (((toW n.natAbs).getD m 0:Nat):Int)=0:=by omega
  by_cases h256:m+1≤256
  ·simp (config:={maxSteps:=1000000}) (disch:=((try simp only [awL]);omega)) only [Tryz.f75,hm,hl',↓awU,awV,awF,Qa,Qb,Qc,Qd,forall_const,↓reduceIte,↓reduceDIte,↓Qe,Qf,Qg,Qh,Qi,Qj,Qk,Ql,Qm,Qn,Qo,Qp,Qq,Qr,Qs,implies_true,Qt,Qu,Qv,Qw,Qx,Qy,Qz,QA,QB,QC,QD,QE,QF,QG,QH,QI,QJ,QK,QL,QM,QN,QO,QP,QQ]
  ·simp (config:={maxSteps:=1000000}) (disch:=((try simp only [awL]);omega)) only [Tryz.f75,hm,↓awU,awV,awF,Qa,Qb,Qc,Qd,forall_const,↓reduceIte,↓reduceDIte,↓Qe,Qf,Qg,Qh,Qi,Qj,Qk,Ql,Qm,Qn,Qo,Qp,Qq,Qr,Qs,implies_true,Qt,Qu,Qv,Qw,Qx,Qy,Qz,QA,QB,QC,QD,QE,QF,QG,QH,QI,QJ,QK,QL,QM,QN,QO,QP,QQ]
set_option maxHeartbeats 4000000 in
set_option maxRecDepth 100000 in
theorem rmul_spec (a b:Nat) (ha:(toW a).length<2 ^ 40) (hb:(toW b).length<2 ^ 40) :
  Ctr Tryz.prog G 81 [.d (W (toW a)),.d (W (toW b))] [] (.d (W (toW (a*b)))) []:=by
 have da:=dig_toW a
 have db:=dig_toW b
 have va:=val_toW a
 have vb:=val_toW b
 generalize toW a=l at *
 generalize toW b=m at *
 refine Ctr.pure (M:=M0) hmix Tryz.func81 rfl go81 ?_
 simp (config:={maxSteps:=1000000}) (disch:=((try simp only [awL]);omega)) only [Tryz.f81,↓awU,awV,awF,Qa,Qb,Qc,Qd,forall_const,↓reduceIte,↓reduceDIte,↓Qe,Qf,Qg,Qh,Qi,Qj,Qk,Ql,Qm,Qn,Qo,Qp,Qq,Qr,Qs,implies_true,Qt,Qu,Qv,Qw,Qx,Qy,Qz,QA,QB,QC,QD,QE,QF,QG,QH,QI,QJ,QK,QL,QM,QN,QO,QP,QQ]
 refine LoopC.fr 35 (α:=Nat × List Nat) (fun x=>l.length - x.1) (fun x=>[(6,.d (.int .i64 x.1))])
  (fun x=>[.row false (nats .u32 x.2)]) (fun x=>x.1≤l.length∧x.2.length=l.length+m.length∧Dig x.2∧val x.2=val (l.take x.1)*b∧∀ p,x.1+m.length≤p→x.2.getD p 0=0) (0,List.replicate (l.length+m.length) 0)
  ⟨by simp,by simp,Dig.zeros _,by simp [val_zeros,val],fun p _=>by simp only [List.getD_eq_getElem?_getD,List.getElem?_replicate];split<;>rfl⟩ ?_ ?_
 ·exact ⟨[some 0],rfl,by simp,by simp [setsA,keepA,SWeak,AWeak],by simp [HWeak,BWeak,SWeak,AWeak]⟩
 ·rintro ⟨i,o⟩ ⟨hi,ho,hd,hv,hz⟩
  simp only at hi ho hd hv hz
  simp only [awK,Nat.reduceMod,Nat.reduceDiv,reduceIte]
  simp (config:={maxSteps:=1000000}) (disch:=((try simp only [awL]);omega)) only [↓awU,awV,awF,Qa,Qb,Qc,Qd,forall_const,↓reduceIte,↓reduceDIte,↓Qe,Qf,Qg,Qh,Qi,Qj,Qk,Ql,Qm,Qn,Qo,Qp,Qq,Qr,Qs,implies_true,Qt,Qu,Qv,Qw,Qx,Qy,Qz,QA,QB,QC,QD,QE,QF,QG,QH,QI,QJ,QK,QL,QM,QN,QO,QP,QQ]
  refine ⟨fun h=>?_,fun h=>?_⟩
  ·refine LoopC.fr 99 (α:=Nat × List Nat × Nat) (fun x=>m.length - x.1) (fun x=>[(7,.d (.int .u64 x.2.2)),(8,.d (.int .i64 x.1))])
    (fun x=>[.row false (nats .u32 x.2.1)]) (fun x=>x.1≤m.length∧x.2.1.length=l.length+m.length∧Dig x.2.1∧x.2.2<B∧val x.2.1+B ^ (i+x.1)*x.2.2=val o+B ^ i*(l.getD i 0*val (m.take x.1))∧∀ p,i+m.length≤p→x.2.1.getD p 0=0) (0,o,0)
    ⟨by simp,ho,hd,by simp [B],by simp [val],hz⟩ ?_ ?_
   ·exact ⟨[some 0],rfl,by simp,by simp [setsA,keepA,SWeak,AWeak],by simp [HWeak,BWeak,SWeak,AWeak]⟩
   ·rintro ⟨j,q,c⟩ ⟨hj,hq,hdq,hc,hvq,hzq⟩
    simp only at hj hq hdq hc hvq hzq
    simp only [awK,Nat.reduceMod,Nat.reduceDiv,reduceIte]
    replace hv:=Hid.mk hv
    replace hvq:=Hid.mk hvq
    have p1:=mul_digit (da.getD i) (db.getD j)
    have p2:=hdq.getD (i+j)
    have p3:c<4294967296:=hc
    have p4:q.getD (i+j) 0<4294967296:=p2
    have p5:l.getD i 0<4294967296:=da.getD i
    have p6:m.getD j 0<4294967296:=db.getD j
    simp (config:={maxSteps:=1000000}) (disch:=((try simp only [awL]);omega)) only [↓awU,awV,awF,Qa,Qb,Qc,Qd,forall_const,↓reduceIte,↓reduceDIte,↓Qe,Qf,Qg,Qh,Qi,Qj,Qk,Ql,Qm,Qn,Qo,Qp,Qq,Qr,Qs,implies_true,Qt,Qu,Qv,Qw,Qx,Qy,Qz,QA,QB,QC,QD,QE,QF,QG,QH,QI,QJ,QK,QL,QM,QN,QO,QP,QQ]
    refine ⟨fun h1=>⟨by rfl,?_⟩,fun h1=>?_⟩
    ·simp only [w_u32,nats_set]
     have hsl:c+(l.getD i 0*m.getD j 0+q.getD (i+j) 0)<B*B:=by simp only [B];omega
     generalize hg:c+(l.getD i 0*m.getD j 0+q.getD (i+j) 0)=s at hsl ⊢
     refine ⟨(j+1,q.set (i+j) (s % B),s / B),⟨by simp only;omega,by simp [hq],hdq.set (Nat.mod_lt _ (by decide)),(Nat.div_lt_iff_lt_mul (by decide)).2 hsl,times_step (by omega) hg.symm hvq.out,fun p hp=>?_⟩,
      by simp only;omega,[some 0],rfl,by simp,by simp [SWeak,AWeak,B],by simp [HWeak,BWeak,w_u32,nats_set,B]⟩
     rw [getD_set_ne (by omega)];exact hzq p hp
    ·have ej:j=m.length:=by omega
     have hvq:=hvq.out
     rw [ej,List.take_of_length_le (Nat.le_refl _),vb] at hvq
     refine ⟨(i+1,q.set (i+m.length) c),⟨by simp only;omega,by simp [hq],hdq.set hc,times_row (by omega) (hzq _ (Nat.le_refl _)) hvq hv.out,fun p hp=>?_⟩,
      by simp only;omega,[some 0],rfl,by simp,by simp [SWeak,AWeak],by simp [HWeak,BWeak]⟩
     rw [getD_set_ne (by omega)];exact hzq p (by omega)
  ·have e:(D.sl (l.length+m.length) false (nats .u32 o))=W o:=by simp [W,ho]
   have ei:i=l.length:=by omega
   rw [e]
   refine CallC.frozen (rtrim_spec _ hd ?_) ?_
   ·omega
   ·rw [hv,ei,List.take_of_length_le (Nat.le_refl _),va]
    simp (config:={maxSteps:=1000000}) (disch:=((try simp only [awL]);omega)) only [↓awU,awV,awF,Qa,Qb,Qc,Qd,forall_const,↓reduceIte,↓reduceDIte,↓Qe,Qf,Qg,Qh,Qi,Qj,Qk,Ql,Qm,Qn,Qo,Qp,Qq,Qr,Qs,implies_true,Qt,Qu,Qv,Qw,Qx,Qy,Qz,QA,QB,QC,QD,QE,QF,QG,QH,QI,QJ,QK,QL,QM,QN,QO,QP,QQ]
end Go.Proofs.YtdpjcghiegggbaaGreatDoor.Num
namespace Go.Proofs.YtdpjcghiegggbaaGreatDoor.Num
open Go Go.Proofs Go.Abs
variable {G:Globals}
set_option maxHeartbeats 4000000 in
set_option maxRecDepth 100000 in
theorem radd_spec (a b:Nat) (ha:(toW a).length<2 ^ 40) (hb:(toW b).length<2 ^ 40) :
  Ctr Tryz.prog G 79 [.d (W (toW a)),.d (W (toW b))] [] (.d (W (digs (max (toW a).length (toW b).length+1) (a+b)))) []:=by
 have da:=dig_toW a
 have db:=dig_toW b
 have va:=val_toW a
 have vb:=val_toW b
 generalize toW a=l at *
 generalize toW b=m at *
 refine Ctr.pure (M:=M0) hmix Tryz.func79 rfl go79 ?_
 simp (config:={maxSteps:=1000000}) (disch:=((try simp only [awL]);omega)) only [Tryz.f79,↓awU,awV,awF,Qa,Qb,Qc,Qd,forall_const,↓reduceIte,↓reduceDIte,↓Qe,Qf,Qg,Qh,Qi,Qj,Qk,Ql,Qm,Qn,Qo,Qp,Qq,Qr,Qs,implies_true,Qt,Qu,Qv,Qw,Qx,Qy,Qz,QA,QB,QC,QD,QE,QF,QG,QH,QI,QJ,QK,QL,QM,QN,QO,QP,QQ]
 refine LoopC.fr 3 (α:=Nat × List Nat × Nat) (fun x=>max l.length m.length - x.1) (fun x=>[(5,.lsl 0 1 0 x.1),(6,.d (.int .u64 x.2.2)),(7,.d (.int .i64 x.1))])
  (fun x=>[.row false (nats .u32 x.2.1)]) (fun x=>x.1≤max l.length m.length∧x.2.1.length=x.1∧Dig x.2.1∧x.2.2≤1∧val x.2.1+B ^ x.1*x.2.2=val (l.take x.1)+val (m.take x.1)) (0,[],0) ⟨by simp,rfl,by simp [Dig],by simp,by simp [val]⟩ ?_ ?_
 ·exact ⟨[none],rfl,by simp,by simp [setsA,keepA,SWeak,AWeak],by simp [HWeak,BWeak,nats]⟩
 ·rintro ⟨k,out,c⟩ ⟨hk,ho,hd,hc,hv⟩
  simp only at hk ho hd hc hv
  simp only [awK,Nat.reduceMod,Nat.reduceDiv,reduceIte]
  have p1:l.getD k 0<4294967296:=da.getD k
  have p2:m.getD k 0<4294967296:=db.getD k
  replace hv:=Hid.mk hv
  have fin:∀ s,s=l.getD k 0+m.getD k 0+c→k<max l.length m.length→k+1≤max l.length m.length∧(out++[s % B]).length=k+1∧Dig (out++[s % B])∧s / B≤1∧val (out++[s % B])+B ^ (k+1)*(s / B)=val (l.take (k+1))+val (m.take (k+1)):=fun s hs hk2 =>
   ⟨hk2,by simp [ho],hd.append (by intro x hx;simp at hx;subst hx;exact Nat.mod_lt _ (by decide)),by simp only [B];omega,ab_step ho hs hv.out⟩
  have z1:l.length≤k→l.getD k 0=0:=fun h=>by rw [List.getD_eq_getElem?_getD,List.getElem?_eq_none h];rfl
  have z2:m.length≤k→m.getD k 0=0:=fun h=>by rw [List.getD_eq_getElem?_getD,List.getElem?_eq_none h];rfl
  rcases Nat.lt_or_ge k l.length with h1 | h1<;>rcases Nat.lt_or_ge k m.length with h2 | h2
  ·simp (config:={maxSteps:=1000000}) (disch:=((try simp only [awL]);omega)) only [w_u32,↓awU,awV,awF,Qa,Qb,Qc,Qd,forall_const,↓reduceIte,↓reduceDIte,↓Qe,Qf,Qg,Qh,Qi,Qj,Qk,Ql,Qm,Qn,Qo,Qp,Qq,Qr,Qs,implies_true,Qt,Qu,Qv,Qw,Qx,Qy,Qz,QA,QB,QC,QD,QE,QF,QG,QH,QI,QJ,QK,QL,QM,QN,QO,QP,QQ]
   refine ⟨(k+1,out++[(c+l.getD k 0+m.getD k 0) % B],(c+l.getD k 0+m.getD k 0) / B),fin _ (by omega) (by omega),by simp only;omega,[some 2],rfl,by simp,by simp [SWeak,AWeak,B],by simp [HWeak,BWeak,B]⟩
  ·have:=z2 h2
   simp (config:={maxSteps:=1000000}) (disch:=((try simp only [awL]);omega)) only [w_u32,↓awU,awV,awF,Qa,Qb,Qc,Qd,forall_const,↓reduceIte,↓reduceDIte,↓Qe,Qf,Qg,Qh,Qi,Qj,Qk,Ql,Qm,Qn,Qo,Qp,Qq,Qr,Qs,implies_true,Qt,Qu,Qv,Qw,Qx,Qy,Qz,QA,QB,QC,QD,QE,QF,QG,QH,QI,QJ,QK,QL,QM,QN,QO,QP,QQ]
   refine ⟨(k+1,out++[(c+l.getD k 0) % B],(c+l.getD k 0) / B),fin _ (by omega) (by omega),by simp only;omega,[some 2],rfl,by simp,by simp [SWeak,AWeak,B],by simp [HWeak,BWeak,B]⟩
  ·have:=z1 h1
   simp (config:={maxSteps:=1000000}) (disch:=((try simp only [awL]);omega)) only [w_u32,↓awU,awV,awF,Qa,Qb,Qc,Qd,forall_const,↓reduceIte,↓reduceDIte,↓Qe,Qf,Qg,Qh,Qi,Qj,Qk,Ql,Qm,Qn,Qo,Qp,Qq,Qr,Qs,implies_true,Qt,Qu,Qv,Qw,Qx,Qy,Qz,QA,QB,QC,QD,QE,QF,QG,QH,QI,QJ,QK,QL,QM,QN,QO,QP,QQ]
   refine ⟨(k+1,out++[(c+m.getD k 0) % B],(c+m.getD k 0) / B),fin _ (by omega) (by omega),by simp only;omega,[some 2],rfl,by simp,by simp [SWeak,AWeak,B],by simp [HWeak,BWeak,B]⟩
  ·simp (config:={maxSteps:=1000000}) (disch:=((try simp only [awL]);omega)) only [w_u32,↓awU,awV,awF,Qa,Qb,Qc,Qd,forall_const,↓reduceIte,↓reduceDIte,↓Qe,Qf,Qg,Qh,Qi,Qj,Qk,Ql,Qm,Qn,Qo,Qp,Qq,Qr,Qs,implies_true,Qt,Qu,Qv,Qw,Qx,Qy,Qz,QA,QB,QC,QD,QE,QF,QG,QH,QI,QJ,QK,QL,QM,QN,QO,QP,QQ]
   have hk':k=max l.length m.length:=by omega
   have hv:=hv.out
   rw [List.take_of_length_le (l:=l) (by omega),List.take_of_length_le (l:=m) (by omega),va,vb] at hv
   rw [← digs_eq (l:=out++[c]) (hd.append (by intro x hx;simp at hx;subst hx;simp only [B];omega)) (by simp;omega) (by rw [val_append,ho];simpa [val] using hv)]
   simp [W,ho]
theorem sub_w {x y b:Nat} (hx:x<4294967296) (hy:y<4294967296) (hb:b≤1):IntKind.u32.wrap (-(b:Int)+(x:Int) - (y:Int))=(((x+B - y - b) % B:Nat):Int):=by
 simp [IntKind.wrap,IntKind.bits,IntKind.signed,B];omega
theorem sub_c {x y b:Nat} (hx:x<4294967296) (hy:y<4294967296) (hb:b≤1):(-(b:Int)+(x:Int) - (y:Int)) / 4294967296=-((if x<y+b then 1 else 0:Nat):Int):=by
 split<;>omega
set_option maxHeartbeats 4000000 in
set_option maxRecDepth 100000 in
theorem rsub_spec (a b:Nat) (hab:b≤a) (ha:(toW a).length<2 ^ 40) :
  Ctr Tryz.prog G 80 [.d (W (toW a)),.d (W (toW b))] [] (.d (W (toW (a - b)))) []:=by
 have da:=dig_toW a
 have db:=dig_toW b
 have va:=val_toW a
 have vb:=val_toW b
 have hlen:=toW_len_mono hab
 generalize toW a=l at *
 generalize toW b=m at *
 refine Ctr.pure (M:=M0) hmix Tryz.func80 rfl go80 ?_
 simp (config:={maxSteps:=1000000}) (disch:=((try simp only [awL]);omega)) only [Tryz.f80,↓awU,awV,awF,Qa,Qb,Qc,Qd,forall_const,↓reduceIte,↓reduceDIte,↓Qe,Qf,Qg,Qh,Qi,Qj,Qk,Ql,Qm,Qn,Qo,Qp,Qq,Qr,Qs,implies_true,Qt,Qu,Qv,Qw,Qx,Qy,Qz,QA,QB,QC,QD,QE,QF,QG,QH,QI,QJ,QK,QL,QM,QN,QO,QP,QQ]
 refine LoopC.fr 3 (α:=Nat × List Nat × Nat) (fun x=>l.length - x.1) (fun x=>[(5,.lsl 0 1 0 x.1),(6,.d (.int .i64 (-(x.2.2:Int)))),(7,.d (.int .i64 x.1))])
  (fun x=>[.row false (nats .u32 x.2.1)]) (fun x=>x.1≤l.length∧x.2.1.length=x.1∧Dig x.2.1∧x.2.2≤1∧val x.2.1+val (m.take x.1)=val (l.take x.1)+B ^ x.1*x.2.2) (0,[],0) ⟨by simp,rfl,by simp [Dig],by simp,by simp [val]⟩ ?_ ?_
 ·exact ⟨[none],rfl,by simp,by simp [setsA,keepA,SWeak,AWeak],by simp [HWeak,BWeak,nats]⟩
 ·rintro ⟨k,out,c⟩ ⟨hk,ho,hd,hc,hv⟩
  simp only at hk ho hd hc hv
  simp only [awK,Nat.reduceMod,Nat.reduceDiv,reduceIte]
  have p1:l.getD k 0<4294967296:=da.getD k
  have p2:m.getD k 0<4294967296:=db.getD k
  have sw:=sub_w p1 p2 hc
  have sc:=sub_c p1 p2 hc
  replace hv:=Hid.mk hv
  have fin:∀ s q,s=(l.getD k 0+B - m.getD k 0 - c) % B→q=(if l.getD k 0<m.getD k 0+c then 1 else 0)→k<l.length→k+1≤l.length∧(out++[s]).length=k+1∧Dig (out++[s])∧q≤1∧val (out++[s])+val (m.take (k+1))=val (l.take (k+1))+B ^ (k+1)*q:=fun s q hs hq hk2 =>
   ⟨hk2,by simp [ho],hd.append (by intro x hx;simp at hx;subst hx;rw [hs];exact Nat.mod_lt _ (by decide)),by rw [hq];split<;>omega,minus_step ho hv.out (by rw [hs,hq];exact sub_digit (da.getD k) (db.getD k) hc)⟩
  have z2:m.length≤k→m.getD k 0=0:=fun h=>by rw [List.getD_eq_getElem?_getD,List.getElem?_eq_none h];rfl
  rcases Nat.lt_or_ge k l.length with h1 | h1
  ·rcases Nat.lt_or_ge k m.length with h2 | h2
   ·simp (config:={maxSteps:=1000000}) (disch:=((try simp only [awL]);omega)) only [sw,sc,↓awU,awV,awF,Qa,Qb,Qc,Qd,forall_const,↓reduceIte,↓reduceDIte,↓Qe,Qf,Qg,Qh,Qi,Qj,Qk,Ql,Qm,Qn,Qo,Qp,Qq,Qr,Qs,implies_true,Qt,Qu,Qv,Qw,Qx,Qy,Qz,QA,QB,QC,QD,QE,QF,QG,QH,QI,QJ,QK,QL,QM,QN,QO,QP,QQ]
    exact ⟨(k+1,out++[(l.getD k 0+B - m.getD k 0 - c) % B],if l.getD k 0<m.getD k 0+c then 1 else 0),fin _ _ rfl rfl h1,by simp only;omega,[some 2],rfl,by simp,by simp [SWeak,AWeak],by simp [HWeak,BWeak]⟩
   ·have hz:=z2 h2
    have sw2:IntKind.u32.wrap (-(c:Int)+(l.getD k 0:Int))=(((l.getD k 0+B - m.getD k 0 - c) % B:Nat):Int):=by rw [← sw,hz];congr 1;omega
    have sc2:(-(c:Int)+(l.getD k 0:Int)) / 4294967296=-((if l.getD k 0<m.getD k 0+c then 1 else 0:Nat):Int):=by rw [← sc,hz];congr 1;omega
    simp (config:={maxSteps:=1000000}) (disch:=((try simp only [awL]);omega)) only [sw2,sc2,↓awU,awV,awF,Qa,Qb,Qc,Qd,forall_const,↓reduceIte,↓reduceDIte,↓Qe,Qf,Qg,Qh,Qi,Qj,Qk,Ql,Qm,Qn,Qo,Qp,Qq,Qr,Qs,implies_true,Qt,Qu,Qv,Qw,Qx,Qy,Qz,QA,QB,QC,QD,QE,QF,QG,QH,QI,QJ,QK,QL,QM,QN,QO,QP,QQ]
    exact ⟨(k+1,out++[(l.getD k 0+B - m.getD k 0 - c) % B],if l.getD k 0<m.getD k 0+c then 1 else 0),fin _ _ rfl rfl h1,by simp only;omega,[some 2],rfl,by simp,by simp [SWeak,AWeak],by simp [HWeak,BWeak]⟩
  ·simp (config:={maxSteps:=1000000}) (disch:=((try simp only [awL]);omega)) only [↓awU,awV,awF,Qa,Qb,Qc,Qd,forall_const,↓reduceIte,↓reduceDIte,↓Qe,Qf,Qg,Qh,Qi,Qj,Qk,Ql,Qm,Qn,Qo,Qp,Qq,Qr,Qs,implies_true,Qt,Qu,Qv,Qw,Qx,Qy,Qz,QA,QB,QC,QD,QE,QF,QG,QH,QI,QJ,QK,QL,QM,QN,QO,QP,QQ]
   have ek:k=l.length:=by omega
   have hv:=hv.out
   rw [ek,List.take_of_length_le (Nat.le_refl _),List.take_of_length_le hlen,va,vb] at hv
   have h3:=val_lt hd
   rw [ho,ek] at h3
   have hv':val out=a - b:=minus_end hv h3 hab hc
   refine CallC.frozenE (rtrim_spec out hd (by omega)) (by simp [W,ho]) ?_
   rw [hv']
   simp (config:={maxSteps:=1000000}) (disch:=((try simp only [awL]);omega)) only [↓awU,awV,awF,Qa,Qb,Qc,Qd,forall_const,↓reduceIte,↓reduceDIte,↓Qe,Qf,Qg,Qh,Qi,Qj,Qk,Ql,Qm,Qn,Qo,Qp,Qq,Qr,Qs,implies_true,Qt,Qu,Qv,Qw,Qx,Qy,Qz,QA,QB,QC,QD,QE,QF,QG,QH,QI,QJ,QK,QL,QM,QN,QO,QP,QQ]
end Go.Proofs.YtdpjcghiegggbaaGreatDoor.Num
namespace Go.Proofs.YtdpjcghiegggbaaGreatDoor.Num
open Go Go.Proofs Go.Abs
variable {G:Globals}
theorem tw_step {out l:List Nat} {k c x d0:Nat} (ho:out.length=k) (hx:l.getD k 0=x) (hv:val out+B ^ k*c=2*val (l.take k)+d0) :
  val (out++[(2*x+c) % B])+B ^ (k+1)*((2*x+c) / B)=2*val (l.take (k+1))+d0:=by
 rw [val_append,ho,take_val l k,hx]
 simp only [val,Nat.mul_zero,Nat.add_zero]
 have h1:=Nat.mod_add_div (2*x+c) B
 have e1:B ^ (k+1)*((2*x+c) / B)=B ^ k*(B*((2*x+c) / B)):=by rw [Nat.pow_succ,Nat.mul_assoc]
 have e3:B ^ k*((2*x+c) % B+B*((2*x+c) / B))=B ^ k*(2*x+c):=by rw [h1]
 rw [e1]
 simp only [Nat.mul_add] at e3 ⊢
 have e4:B ^ k*(2*x)=2*(B ^ k*x):=Nat.mul_left_comm ..
 omega
theorem tw_or {x c:Nat} (hx:x<4294967296) (hc:c≤1):bitsI .or .u32 (IntKind.u32.wrap ((x:Int)*2)) (c:Int)=(((2*x+c) % B:Nat):Int):=by
 have e1:IntKind.u32.wrap ((x:Int)*2)=((x*2 ^ 1 % 4294967296:Nat):Int):=by rw [← w_u32];congr 1
 rw [e1,low_mul (by decide),bi_u32_or_nat (by omega) (by omega),Nat.or_comm,or_low (by omega)]
 simp only [B]
 omega
set_option maxHeartbeats 4000000 in
set_option maxRecDepth 100000 in
theorem twice_spec (a d:Nat) (hd1:d≤1) (ha:(toW a).length<2 ^ 40) :
  Ctr Tryz.prog G 120 [.d (W (toW a)),.d (.int .u32 d)] [] (.d (W (toW (2*a+d)))) []:=by
 have da:=dig_toW a
 have va:=val_toW a
 generalize toW a=l at *
 refine Ctr.pure (M:=M0) hmix Tryz.func120 rfl go120 ?_
 simp (config:={maxSteps:=1000000}) (disch:=((try simp only [awL]);omega)) only [Tryz.f120,↓awU,awV,awF,Qa,Qb,Qc,Qd,forall_const,↓reduceIte,↓reduceDIte,↓Qe,Qf,Qg,Qh,Qi,Qj,Qk,Ql,Qm,Qn,Qo,Qp,Qq,Qr,Qs,implies_true,Qt,Qu,Qv,Qw,Qx,Qy,Qz,QA,QB,QC,QD,QE,QF,QG,QH,QI,QJ,QK,QL,QM,QN,QO,QP,QQ]
 refine LoopC.fr 1 (α:=Nat × List Nat × Nat) (fun x=>l.length - x.1) (fun x=>[(1,.d (.int .u32 x.2.2)),(5,.lsl 0 1 0 x.1),(6,.d (.int .i64 x.1))])
  (fun x=>[.row false (nats .u32 x.2.1)]) (fun x=>x.1≤l.length∧x.2.1.length=x.1∧Dig x.2.1∧x.2.2≤1∧val x.2.1+B ^ x.1*x.2.2=2*val (l.take x.1)+d) (0,[],d) ⟨by simp,rfl,by simp [Dig],hd1,by simp [val]⟩ ?_ ?_
 ·exact ⟨[none],rfl,by simp,by simp [setsA,keepA,SWeak,AWeak],by simp [HWeak,BWeak,nats]⟩
 ·rintro ⟨k,out,c⟩ ⟨hk,ho,hd,hc,hv⟩
  simp only at hk ho hd hc hv
  simp only [awK,Nat.reduceMod,Nat.reduceDiv,reduceIte]
  have p1:l.getD k 0<4294967296:=da.getD k
  replace hv:=Hid.mk hv
  rcases Nat.lt_or_ge k l.length with h1 | h1
  ·have hor:=tw_or p1 hc
   simp (config:={maxSteps:=1000000}) (disch:=((try simp only [awL]);omega)) only [hor,↓awU,awV,awF,Qa,Qb,Qc,Qd,forall_const,↓reduceIte,↓reduceDIte,↓Qe,Qf,Qg,Qh,Qi,Qj,Qk,Ql,Qm,Qn,Qo,Qp,Qq,Qr,Qs,implies_true,Qt,Qu,Qv,Qw,Qx,Qy,Qz,QA,QB,QC,QD,QE,QF,QG,QH,QI,QJ,QK,QL,QM,QN,QO,QP,QQ]
   refine ⟨(k+1,out++[(2*l.getD k 0+c) % B],(2*l.getD k 0+c) / B),⟨by simp only;omega,by simp [ho],hd.append (by intro x hx;simp at hx;subst hx;exact Nat.mod_lt _ (by decide)),by simp only [B];omega,tw_step ho rfl hv.out⟩,by simp only;omega,[some 2],rfl,by simp,?_,by simp [HWeak,BWeak]⟩
   have e:((l.getD k 0:Nat):Int) / 2147483648=(((2*l.getD k 0+c) / B:Nat):Int):=by simp only [B];omega
   rw [e]
   simp [SWeak,AWeak]
  ·simp (config:={maxSteps:=1000000}) (disch:=((try simp only [awL]);omega)) only [↓awU,awV,awF,Qa,Qb,Qc,Qd,forall_const,↓reduceIte,↓reduceDIte,↓Qe,Qf,Qg,Qh,Qi,Qj,Qk,Ql,Qm,Qn,Qo,Qp,Qq,Qr,Qs,implies_true,Qt,Qu,Qv,Qw,Qx,Qy,Qz,QA,QB,QC,QD,QE,QF,QG,QH,QI,QJ,QK,QL,QM,QN,QO,QP,QQ]
   have hk':k=l.length:=by omega
   have hv:=hv.out
   rw [List.take_of_length_le (by omega),va] at hv
   have hv':val (out++[c])=2*a+d:=by rw [val_append,ho];simpa [val] using hv
   refine CallC.frozenE (rtrim_spec (out++[c]) (hd.append (by intro x hx;simp at hx;subst hx;simp only [B];omega)) (by simp;omega)) (by simp [W,ho]) ?_
   rw [hv']
   simp (config:={maxSteps:=1000000}) (disch:=((try simp only [awL]);omega)) only [↓awU,awV,awF,Qa,Qb,Qc,Qd,forall_const,↓reduceIte,↓reduceDIte,↓Qe,Qf,Qg,Qh,Qi,Qj,Qk,Ql,Qm,Qn,Qo,Qp,Qq,Qr,Qs,implies_true,Qt,Qu,Qv,Qw,Qx,Qy,Qz,QA,QB,QC,QD,QE,QF,QG,QH,QI,QJ,QK,QL,QM,QN,QO,QP,QQ]
theorem set_get {l:List Nat} {i v:Nat} (h:i<l.length):(l.set i v).getD i 0=v:=by
 rw [List.getD_eq_getElem?_getD,List.getElem?_set_self h];rfl
theorem hf_or {x y:Nat} (hx:x<4294967296):bitsI .or .u32 ((x / 2:Nat):Int) (IntKind.u32.wrap ((y:Int)*2147483648))=(((y*B+x) / 2 ^ 1 % B:Nat):Int):=by
 have e1:IntKind.u32.wrap ((y:Int)*2147483648)=((y*2 ^ 31 % 4294967296:Nat):Int):=by rw [← w_u32];congr 1
 rw [e1,low_mul (by decide),bi_u32_or_nat (by omega) (by omega),or_low (by omega)]
 simp only [B]
 omega
set_option maxHeartbeats 4000000 in
set_option maxRecDepth 100000 in
theorem half_spec (a:Nat) (ha:(toW a).length<2 ^ 38) :
  Ctr Tryz.prog G 119 [.d (W (toW a))] [] (.d (W (toW (a / 2)))) []:=by
 have da:=dig_toW a
 have va:=val_toW a
 have la:=lt_of_toW a
 have ea:=toW_digs a
 generalize toW a=l at *
 refine Ctr.pure (M:=M0) hmix Tryz.func119 rfl go119 ?_
 simp (config:={maxSteps:=1000000}) (disch:=((try simp only [awL]);omega)) only [Tryz.f119,↓awU,awV,awF,Qa,Qb,Qc,Qd,forall_const,↓reduceIte,↓reduceDIte,↓Qe,Qf,Qg,Qh,Qi,Qj,Qk,Ql,Qm,Qn,Qo,Qp,Qq,Qr,Qs,implies_true,Qt,Qu,Qv,Qw,Qx,Qy,Qz,QA,QB,QC,QD,QE,QF,QG,QH,QI,QJ,QK,QL,QM,QN,QO,QP,QQ]
 refine LoopC.fr 513 (α:=Nat) (fun i=>l.length - i) (fun i=>[(3,.lsl 0 1 0 l.length),(10,.d (.int .i64 i))])
  (fun i=>[.row false (nats .u32 (backRow l.length 1 a i))]) (fun i=>i≤l.length) 0 (Nat.zero_le _) ?_ ?_
 ·exact ⟨[some 1],rfl,by simp,by simp [setsA,keepA,SWeak,AWeak],by simp [HWeak,BWeak,backRow_zero,← ea]⟩
 ·intro i hi
  simp only [awK,Nat.reduceMod,Nat.reduceDiv,reduceIte]
  have b1:=backRow_length (s:=1) (r:=a) hi
  rcases Nat.lt_or_ge i l.length with h1 | h1
  ·have b3:=backRow_getD (s:=1) (r:=a) h1
   have hun:=unshift (r:=a) (i:=i) (show 1<32 by decide)
   have bs:=backRow_set (s:=1) (r:=a) h1
   have bg:∀ v,((backRow l.length 1 a i).set i v).getD i 0=v:=fun v=>set_get (by rw [b1];exact h1)
   have p1:a / B ^ i % B<4294967296:=Nat.mod_lt _ (by decide)
   have p2:l.getD (i+1) 0<4294967296:=da.getD _
   rcases Nat.lt_or_ge (i+1) l.length with h2 | h2
   ·have hy:l.getD (i+1) 0=a / B ^ (i+1) % B:=by
     have:=digs_getD (k:=l.length) (n:=a) h2
     rwa [← ea] at this
    have hor:=hf_or (x:=a / B ^ i % B) (y:=l.getD (i+1) 0) p1
    have ed:((a / B ^ i % B:Nat):Int) / 2=((a / B ^ i % B / 2:Nat):Int):=rfl
    rw [hy] at hor
    have hun':(a / B ^ (i+1) % B*B+a / B ^ i % B) / 2 ^ 1 % B=a / 2 ^ 1 / B ^ i % B:=hun
    rw [hun'] at hor
    simp (config:={maxSteps:=1000000}) (disch:=((try simp only [awL]);omega)) only [b1,b3,bg,ed,hy,hor,List.set_set,↓awU,awV,awF,Qa,Qb,Qc,Qd,forall_const,↓reduceIte,↓reduceDIte,↓Qe,Qf,Qg,Qh,Qi,Qj,Qk,Ql,Qm,Qn,Qo,Qp,Qq,Qr,Qs,implies_true,Qt,Qu,Qv,Qw,Qx,Qy,Qz,QA,QB,QC,QD,QE,QF,QG,QH,QI,QJ,QK,QL,QM,QN,QO,QP,QQ]
    refine ⟨by rfl,i+1,h1,by simp only;omega,[some 0],rfl,by simp,by simp [SWeak,AWeak],?_⟩
    simp only [bs]
    simp [HWeak,BWeak]
   ·have hy:a / B ^ (i+1)=0:=Nat.div_eq_of_lt (Nat.lt_of_lt_of_le la (Nat.pow_le_pow_right (by decide) h2))
    have ed:((a / B ^ i % B:Nat):Int) / 2=((a / 2 ^ 1 / B ^ i % B:Nat):Int):=by
     rw [← hun,hy]
     simp only [B] at p1 ⊢
     omega
    simp (config:={maxSteps:=1000000}) (disch:=((try simp only [awL]);omega)) only [b1,b3,bg,ed,↓awU,awV,awF,Qa,Qb,Qc,Qd,forall_const,↓reduceIte,↓reduceDIte,↓Qe,Qf,Qg,Qh,Qi,Qj,Qk,Ql,Qm,Qn,Qo,Qp,Qq,Qr,Qs,implies_true,Qt,Qu,Qv,Qw,Qx,Qy,Qz,QA,QB,QC,QD,QE,QF,QG,QH,QI,QJ,QK,QL,QM,QN,QO,QP,QQ]
    refine ⟨i+1,h1,by simp only;omega,[some 0],rfl,by simp,by simp [SWeak,AWeak],?_⟩
    simp only [bs]
    simp [HWeak,BWeak]
  ·simp (config:={maxSteps:=1000000}) (disch:=((try simp only [awL]);omega)) only [b1,↓awU,awV,awF,Qa,Qb,Qc,Qd,forall_const,↓reduceIte,↓reduceDIte,↓Qe,Qf,Qg,Qh,Qi,Qj,Qk,Ql,Qm,Qn,Qo,Qp,Qq,Qr,Qs,implies_true,Qt,Qu,Qv,Qw,Qx,Qy,Qz,QA,QB,QC,QD,QE,QF,QG,QH,QI,QJ,QK,QL,QM,QN,QO,QP,QQ]
   have ei:i=l.length:=by omega
   subst ei
   have er:backRow l.length 1 a l.length=digs l.length (a / 2):=by
    rw [backRow,List.drop_of_length_le (by rw [digs_length];omega),List.append_nil]
   refine CallC.frozenE (rtrim_spec (backRow l.length 1 a l.length) dig_backRow (by rw [b1];omega)) (by simp [W,b1]) ?_
   rw [er,val_digs (by omega)]
   simp (config:={maxSteps:=1000000}) (disch:=((try simp only [awL]);omega)) only [↓awU,awV,awF,Qa,Qb,Qc,Qd,forall_const,↓reduceIte,↓reduceDIte,↓Qe,Qf,Qg,Qh,Qi,Qj,Qk,Ql,Qm,Qn,Qo,Qp,Qq,Qr,Qs,implies_true,Qt,Qu,Qv,Qw,Qx,Qy,Qz,QA,QB,QC,QD,QE,QF,QG,QH,QI,QJ,QK,QL,QM,QN,QO,QP,QQ]
end Go.Proofs.YtdpjcghiegggbaaGreatDoor.Num
namespace Go.Proofs.YtdpjcghiegggbaaGreatDoor.Num
open Go Go.Proofs Go.Abs
variable {G:Globals}
theorem B_pow:B=2 ^ 32:=rfl
end Go.Proofs.YtdpjcghiegggbaaGreatDoor.Num
namespace Go.Proofs.YtdpjcghiegggbaaGreatDoor.Num
open Go Go.Proofs Go.Abs
variable {G:Globals}
theorem toW_0 {a:Nat} (h:a≠0):(toW a).getD 0 0=a % B:=by rw [toW_pos h];rfl
theorem and1 {x:Nat} (h:x<4294967296):bitsI .and .u32 (x:Int) 1=((x % 2:Nat):Int):=by
 have:=bi_u32_and_nat (a:=x) (b:=1) h (by decide)
 rw [Nat.and_one_is_mod] at this
 exact this
theorem low_bit {a:Nat} (h:a≠0):bitsI .and .u32 (((toW a).getD 0 0:Nat):Int) 1=((a % 2:Nat):Int):=by
 rw [toW_0 h,and1 (show a % B<4294967296 from Nat.mod_lt _ (by decide)),Nat.mod_mod_of_dvd _ (by decide)]
theorem gcd_even {a b g:Nat} (h:Nat.gcd a b=g) (ha:a % 2=0) (hg:g % 2=1):Nat.gcd (a / 2) b=g:=by
 have hb:b % 2=1:=by
  rcases Nat.mod_two_eq_zero_or_one b with hb | hb
  ·have:2 ∣ g:=h▸Nat.dvd_gcd (Nat.dvd_of_mod_eq_zero ha) (Nat.dvd_of_mod_eq_zero hb)
   omega
  ·exact hb
 have hc:Nat.Coprime 2 b:=by rw [Nat.Coprime,Nat.gcd_rec,hb];rfl
 have:=Nat.Coprime.gcd_mul_left_cancel (a / 2) hc
 rw [← this,Nat.mul_div_cancel' (Nat.dvd_of_mod_eq_zero ha),h]
theorem gcd_even' {a b g:Nat} (h:Nat.gcd a b=g) (hb:b % 2=0) (hg:g % 2=1):Nat.gcd a (b / 2)=g:=by
 rw [Nat.gcd_comm] at h ⊢
 exact gcd_even h hb hg
theorem gcd_odd {a b:Nat} (h:¬ (a % 2=0∧b % 2=0)):Nat.gcd a b % 2=1:=by
 rcases Nat.mod_two_eq_zero_or_one (Nat.gcd a b) with hg | hg
 ·have hd:=Nat.dvd_of_mod_eq_zero hg
  have h1:=Nat.dvd_trans hd (Nat.gcd_dvd_left a b)
  have h2:=Nat.dvd_trans hd (Nat.gcd_dvd_right a b)
  exact absurd ⟨Nat.mod_eq_zero_of_dvd h1,Nat.mod_eq_zero_of_dvd h2⟩ h
 ·exact hg
theorem two_bound {a k n:Nat} (h:a*2 ^ k=n) (ha:a≠0):k<32*(toW n).length:=by
 have h1:=lt_of_toW n
 rw [B_pow,← Nat.pow_mul] at h1
 have h2:2 ^ k≤n:=by rw [← h];exact Nat.le_mul_of_pos_left _ (Nat.pos_of_ne_zero ha)
 exact (Nat.pow_lt_pow_iff_right (by decide)).1 (Nat.lt_of_le_of_lt h2 h1)
theorem half_pow {a k n:Nat} (h:a*2 ^ k=n) (ha:a % 2=0):a / 2*2 ^ (k+1)=n:=by
 rw [Nat.pow_succ',← Nat.mul_assoc,Nat.div_mul_cancel (Nat.dvd_of_mod_eq_zero ha)];exact h
theorem le_of_pow {a k n:Nat} (h:a*2 ^ k=n):a≤n:=by
 rw [← h];exact Nat.le_mul_of_pos_right _ (Nat.two_pow_pos k)
set_option maxHeartbeats 4000000 in
set_option maxRecDepth 100000 in
theorem gcd_spec (a0 b0:Nat) (ha0:a0≠0) (hb0:b0≠0) (hla:(toW a0).length<2 ^ 37) (hlb:(toW b0).length<2 ^ 37) :
  Ctr Tryz.prog G 77 [.d (W (toW a0)),.d (W (toW b0))] [] (.d (W (toW (Nat.gcd a0 b0)))) []:=by
 have le1:∀ {x},x≤a0→(toW x).length<2 ^ 37:=fun h=>Nat.lt_of_le_of_lt (toW_len_mono h) hla
 have le2:∀ {x},x≤max a0 b0→(toW x).length<2 ^ 37:=fun {x} h=>by
  rcases Nat.le_total a0 b0 with h2 | h2
  ·exact Nat.lt_of_le_of_lt (toW_len_mono (by omega:x≤b0)) hlb
  ·exact Nat.lt_of_le_of_lt (toW_len_mono (by omega:x≤a0)) hla
 refine Ctr.pure (M:=M0) hmix Tryz.func77 rfl go77 ?_
 simp (config:={maxSteps:=1000000}) (disch:=((try simp only [awL]);omega)) only [Tryz.f77,↓awU,awV,awF,Qa,Qb,Qc,Qd,forall_const,↓reduceIte,↓reduceDIte,↓Qe,Qf,Qg,Qh,Qi,Qj,Qk,Ql,Qm,Qn,Qo,Qp,Qq,Qr,Qs,implies_true,Qt,Qu,Qv,Qw,Qx,Qy,Qz,QA,QB,QC,QD,QE,QF,QG,QH,QI,QJ,QK,QL,QM,QN,QO,QP,QQ]
 refine LoopC.fx 0 (α:=Nat × Nat × Nat) (β:=Nat × Nat × Nat) (fun x=>x.1) (fun x=>[(0,.d (W (toW x.1))),(1,.d (W (toW x.2.1))),(5,.d (.int .i64 x.2.2))])
  (fun _=>[]) (fun x=>x.1≠0∧x.2.1≠0∧x.1*2 ^ x.2.2=a0∧x.2.1*2 ^ x.2.2=b0)
  0 (fun x=>[(0,.d (W (toW x.1))),(1,.d (W (toW x.2.1))),(5,.d (.int .i64 x.2.2))]) (fun _=>[]) (fun x=>(x.1≠0∧x.2.1≠0∧x.1*2 ^ x.2.2=a0∧x.2.1*2 ^ x.2.2=b0)∧¬ (x.1 % 2=0∧x.2.1 % 2=0))
  (a0,b0,0) ⟨ha0,hb0,by simp,by simp⟩ ?_ ?_ ?_
 ·exact ⟨[],rfl,by simp,by simp [setsA,keepA,SWeak,AWeak],by simp [HWeak,BWeak,SWeak,AWeak]⟩
 ·rintro ⟨a,b,k⟩ hR
  have hR':=hR
  obtain ⟨ha,hb,hak,hbk⟩:=hR'
  simp only at ha hb hak hbk
  simp only [awK,Nat.reduceMod,Nat.reduceDiv,reduceIte]
  have l1:=low_bit ha
  have l2:=low_bit hb
  have p1:=sz_pos.2 ha
  have p2:=sz_pos.2 hb
  have q1:=le1 (le_of_pow hak)
  have q2:=le2 (show b≤max a0 b0 by have:=le_of_pow hbk;omega)
  have q3:=two_bound hak ha
  have m1:=Nat.mod_two_eq_zero_or_one a
  have m2:=Nat.mod_two_eq_zero_or_one b
  by_cases e1:a % 2=0
  ·by_cases e2:b % 2=0
   ·simp (config:={maxSteps:=1000000}) (disch:=((try simp only [awL]);omega)) only [l1,l2,e1,e2,↓awU,awV,awF,Qa,Qb,Qc,Qd,forall_const,↓reduceIte,↓reduceDIte,↓Qe,Qf,Qg,Qh,Qi,Qj,Qk,Ql,Qm,Qn,Qo,Qp,Qq,Qr,Qs,implies_true,Qt,Qu,Qv,Qw,Qx,Qy,Qz,QA,QB,QC,QD,QE,QF,QG,QH,QI,QJ,QK,QL,QM,QN,QO,QP,QQ]
    refine CallC.pure (half_spec a (by omega)) ?_
    simp (config:={maxSteps:=1000000}) (disch:=((try simp only [awL]);omega)) only [↓awU,awV,awF,Qa,Qb,Qc,Qd,forall_const,↓reduceIte,↓reduceDIte,↓Qe,Qf,Qg,Qh,Qi,Qj,Qk,Ql,Qm,Qn,Qo,Qp,Qq,Qr,Qs,implies_true,Qt,Qu,Qv,Qw,Qx,Qy,Qz,QA,QB,QC,QD,QE,QF,QG,QH,QI,QJ,QK,QL,QM,QN,QO,QP,QQ]
    refine CallC.pure (half_spec b (by omega)) ?_
    simp (config:={maxSteps:=1000000}) (disch:=((try simp only [awL]);omega)) only [↓awU,awV,awF,Qa,Qb,Qc,Qd,forall_const,↓reduceIte,↓reduceDIte,↓Qe,Qf,Qg,Qh,Qi,Qj,Qk,Ql,Qm,Qn,Qo,Qp,Qq,Qr,Qs,implies_true,Qt,Qu,Qv,Qw,Qx,Qy,Qz,QA,QB,QC,QD,QE,QF,QG,QH,QI,QJ,QK,QL,QM,QN,QO,QP,QQ]
    exact ⟨(a / 2,b / 2,k+1),⟨by simp only;omega,by simp only;omega,half_pow hak e1,half_pow hbk e2⟩,by simp only;omega,⟨[],rfl,by simp,by simp [setsA,keepA,SWeak,AWeak],by simp [HWeak,BWeak,SWeak,AWeak]⟩⟩
   ·simp (config:={maxSteps:=1000000}) (disch:=((try simp only [awL]);omega)) only [l1,l2,e1,e2,↓awU,awV,awF,Qa,Qb,Qc,Qd,forall_const,↓reduceIte,↓reduceDIte,↓Qe,Qf,Qg,Qh,Qi,Qj,Qk,Ql,Qm,Qn,Qo,Qp,Qq,Qr,Qs,implies_true,Qt,Qu,Qv,Qw,Qx,Qy,Qz,QA,QB,QC,QD,QE,QF,QG,QH,QI,QJ,QK,QL,QM,QN,QO,QP,QQ]
    exact ⟨(a,b,k),⟨hR,fun h=>e2 h.2⟩,⟨[],rfl,by simp,by simp [setsA,keepA,SWeak,AWeak],by simp [HWeak,BWeak,SWeak,AWeak]⟩⟩
  ·simp (config:={maxSteps:=1000000}) (disch:=((try simp only [awL]);omega)) only [l1,l2,e1,↓awU,awV,awF,Qa,Qb,Qc,Qd,forall_const,↓reduceIte,↓reduceDIte,↓Qe,Qf,Qg,Qh,Qi,Qj,Qk,Ql,Qm,Qn,Qo,Qp,Qq,Qr,Qs,implies_true,Qt,Qu,Qv,Qw,Qx,Qy,Qz,QA,QB,QC,QD,QE,QF,QG,QH,QI,QJ,QK,QL,QM,QN,QO,QP,QQ]
   exact ⟨(a,b,k),⟨hR,fun h=>e1 h.1⟩,⟨[],rfl,by simp,by simp [setsA,keepA,SWeak,AWeak],by simp [HWeak,BWeak,SWeak,AWeak]⟩⟩
 ·rintro ⟨a1,b1,K⟩ ⟨⟨ha1,hb1,hak1,hbk1⟩,hodd⟩
  simp only at ha1 hb1 hak1 hbk1 hodd
  simp only [awK,Nat.reduceMod,Nat.reduceDiv,reduceIte]
  have hgo:=gcd_odd hodd
  have hgg:Nat.gcd a0 b0=Nat.gcd a1 b1*2 ^ K:=by rw [← hak1,← hbk1,Nat.gcd_mul_right]
  have hg0:Nat.gcd a1 b1≠0:=by omega
  have hKb:=two_bound hak1 ha1
  rw [hgg]
  have hgl:Nat.gcd a1 b1*2 ^ K≤a0:=by rw [← hgg];exact Nat.gcd_le_left _ (Nat.pos_of_ne_zero ha0)
  generalize Nat.gcd a0 b0=gg at *
  generalize hg:Nat.gcd a1 b1=g at *
  have ma1:a1≤max a0 b0:=by have:=le_of_pow hak1;omega
  have mb1:b1≤max a0 b0:=by have:=le_of_pow hbk1;omega
  simp (config:={maxSteps:=1000000}) (disch:=((try simp only [awL]);omega)) only [↓awU,awV,awF,Qa,Qb,Qc,Qd,forall_const,↓reduceIte,↓reduceDIte,↓Qe,Qf,Qg,Qh,Qi,Qj,Qk,Ql,Qm,Qn,Qo,Qp,Qq,Qr,Qs,implies_true,Qt,Qu,Qv,Qw,Qx,Qy,Qz,QA,QB,QC,QD,QE,QF,QG,QH,QI,QJ,QK,QL,QM,QN,QO,QP,QQ]
  refine LoopC.fx 32 (α:=Nat × Nat) (β:=Unit) (fun x=>x.1+x.2) (fun x=>[(0,.d (W (toW x.1))),(1,.d (W (toW x.2)))])
   (fun _=>[]) (fun x=>x.1≠0∧x.1≤max a0 b0∧x.2≤max a0 b0∧Nat.gcd x.1 x.2=g)
   32 (fun _=>[(0,.d (W (toW g)))]) (fun _=>[]) (fun _=>True) (a1,b1) ⟨ha1,ma1,mb1,hg⟩ ?_ ?_ ?_
  ·exact ⟨[],rfl,by simp,by simp [setsA,keepA,SWeak,AWeak],by simp [HWeak,BWeak,SWeak,AWeak]⟩
  ·rintro ⟨a,b⟩ ⟨ha,hma,hmb,hgab⟩
   simp only at ha hma hmb hgab
   simp only [awK,Nat.reduceMod,Nat.reduceDiv,reduceIte]
   by_cases hb:b=0
   ·subst hb
    rw [Nat.gcd_zero_right] at hgab
    subst hgab
    have e:toW 0=[]:=toW_zero
    rw [e]
    simp (config:={maxSteps:=1000000}) (disch:=((try simp only [awL]);omega)) only [↓awU,awV,awF,Qa,Qb,Qc,Qd,forall_const,↓reduceIte,↓reduceDIte,↓Qe,Qf,Qg,Qh,Qi,Qj,Qk,Ql,Qm,Qn,Qo,Qp,Qq,Qr,Qs,implies_true,Qt,Qu,Qv,Qw,Qx,Qy,Qz,QA,QB,QC,QD,QE,QF,QG,QH,QI,QJ,QK,QL,QM,QN,QO,QP,QQ]
    exact ⟨(),trivial,⟨[],rfl,by simp,by simp [setsA,keepA,SWeak,AWeak],by simp [HWeak,BWeak,SWeak,AWeak]⟩⟩
   ·have p2:=sz_pos.2 hb
    simp (config:={maxSteps:=1000000}) (disch:=((try simp only [awL]);omega)) only [↓awU,awV,awF,Qa,Qb,Qc,Qd,forall_const,↓reduceIte,↓reduceDIte,↓Qe,Qf,Qg,Qh,Qi,Qj,Qk,Ql,Qm,Qn,Qo,Qp,Qq,Qr,Qs,implies_true,Qt,Qu,Qv,Qw,Qx,Qy,Qz,QA,QB,QC,QD,QE,QF,QG,QH,QI,QJ,QK,QL,QM,QN,QO,QP,QQ]
    refine LoopC.fx 34 (α:=Nat) (β:=Nat) (fun x=>x) (fun x=>[(0,.d (W (toW x)))])
     (fun _=>[]) (fun x=>x≠0∧x≤a∧Nat.gcd x b=g)
     34 (fun x=>[(0,.d (W (toW x)))]) (fun _=>[]) (fun x=>x≠0∧x≤a∧Nat.gcd x b=g∧x % 2=1) a ⟨ha,Nat.le_refl _,hgab⟩ ?_ ?_ ?_
    ·exact ⟨[],rfl,by simp,by simp [setsA,keepA,SWeak,AWeak],by simp [HWeak,BWeak,SWeak,AWeak]⟩
    ·rintro x ⟨hx,hxa,hxg⟩
     simp only [awK,Nat.reduceMod,Nat.reduceDiv,reduceIte]
     have l1:=low_bit hx
     have p1:=sz_pos.2 hx
     have q1:=le2 (show x≤max a0 b0 by omega)
     have m1:=Nat.mod_two_eq_zero_or_one x
     by_cases e1:x % 2=0
     ·simp (config:={maxSteps:=1000000}) (disch:=((try simp only [awL]);omega)) only [l1,e1,↓awU,awV,awF,Qa,Qb,Qc,Qd,forall_const,↓reduceIte,↓reduceDIte,↓Qe,Qf,Qg,Qh,Qi,Qj,Qk,Ql,Qm,Qn,Qo,Qp,Qq,Qr,Qs,implies_true,Qt,Qu,Qv,Qw,Qx,Qy,Qz,QA,QB,QC,QD,QE,QF,QG,QH,QI,QJ,QK,QL,QM,QN,QO,QP,QQ]
      refine CallC.pure (half_spec x (by omega)) ?_
      simp (config:={maxSteps:=1000000}) (disch:=((try simp only [awL]);omega)) only [↓awU,awV,awF,Qa,Qb,Qc,Qd,forall_const,↓reduceIte,↓reduceDIte,↓Qe,Qf,Qg,Qh,Qi,Qj,Qk,Ql,Qm,Qn,Qo,Qp,Qq,Qr,Qs,implies_true,Qt,Qu,Qv,Qw,Qx,Qy,Qz,QA,QB,QC,QD,QE,QF,QG,QH,QI,QJ,QK,QL,QM,QN,QO,QP,QQ]
      exact ⟨x / 2,⟨by omega,by omega,gcd_even hxg e1 hgo⟩,by simp only;omega,⟨[],rfl,by simp,by simp [setsA,keepA,SWeak,AWeak],by simp [HWeak,BWeak,SWeak,AWeak]⟩⟩
     ·simp (config:={maxSteps:=1000000}) (disch:=((try simp only [awL]);omega)) only [l1,e1,↓awU,awV,awF,Qa,Qb,Qc,Qd,forall_const,↓reduceIte,↓reduceDIte,↓Qe,Qf,Qg,Qh,Qi,Qj,Qk,Ql,Qm,Qn,Qo,Qp,Qq,Qr,Qs,implies_true,Qt,Qu,Qv,Qw,Qx,Qy,Qz,QA,QB,QC,QD,QE,QF,QG,QH,QI,QJ,QK,QL,QM,QN,QO,QP,QQ]
      exact ⟨x,⟨hx,hxa,hxg,by omega⟩,⟨[],rfl,by simp,by simp [setsA,keepA,SWeak,AWeak],by simp [HWeak,BWeak,SWeak,AWeak]⟩⟩
    ·rintro a' ⟨ha',haa',hga',hoa⟩
     simp only [awK,Nat.reduceMod,Nat.reduceDiv,reduceIte]
     simp (config:={maxSteps:=1000000}) (disch:=((try simp only [awL]);omega)) only [↓awU,awV,awF,Qa,Qb,Qc,Qd,forall_const,↓reduceIte,↓reduceDIte,↓Qe,Qf,Qg,Qh,Qi,Qj,Qk,Ql,Qm,Qn,Qo,Qp,Qq,Qr,Qs,implies_true,Qt,Qu,Qv,Qw,Qx,Qy,Qz,QA,QB,QC,QD,QE,QF,QG,QH,QI,QJ,QK,QL,QM,QN,QO,QP,QQ]
     refine LoopC.fx 33 (α:=Nat) (β:=Nat) (fun x=>x) (fun x=>[(1,.d (W (toW x)))])
      (fun _=>[]) (fun x=>x≠0∧x≤b∧Nat.gcd a' x=g)
      33 (fun x=>[(1,.d (W (toW x)))]) (fun _=>[]) (fun x=>x≠0∧x≤b∧Nat.gcd a' x=g) b ⟨hb,Nat.le_refl _,hga'⟩ ?_ ?_ ?_
     ·exact ⟨[],rfl,by simp,by simp [setsA,keepA,SWeak,AWeak],by simp [HWeak,BWeak,SWeak,AWeak]⟩
     ·rintro x ⟨hx,hxa,hxg⟩
      simp only [awK,Nat.reduceMod,Nat.reduceDiv,reduceIte]
      have l1:=low_bit hx
      have p1:=sz_pos.2 hx
      have q1:=le2 (show x≤max a0 b0 by omega)
      have m1:=Nat.mod_two_eq_zero_or_one x
      by_cases e1:x % 2=0
      ·simp (config:={maxSteps:=1000000}) (disch:=((try simp only [awL]);omega)) only [l1,e1,↓awU,awV,awF,Qa,Qb,Qc,Qd,forall_const,↓reduceIte,↓reduceDIte,↓Qe,Qf,Qg,Qh,Qi,Qj,Qk,Ql,Qm,Qn,Qo,Qp,Qq,Qr,Qs,implies_true,Qt,Qu,Qv,Qw,Qx,Qy,Qz,QA,QB,QC,QD,QE,QF,QG,QH,QI,QJ,QK,QL,QM,QN,QO,QP,QQ]
       refine CallC.pure (half_spec x (by omega)) ?_
       simp (config:={maxSteps:=1000000}) (disch:=((try simp only [awL]);omega)) only [↓awU,awV,awF,Qa,Qb,Qc,Qd,forall_const,↓reduceIte,↓reduceDIte,↓Qe,Qf,Qg,Qh,Qi,Qj,Qk,Ql,Qm,Qn,Qo,Qp,Qq,Qr,Qs,implies_true,Qt,Qu,Qv,Qw,Qx,Qy,Qz,QA,QB,QC,QD,QE,QF,QG,QH,QI,QJ,QK,QL,QM,QN,QO,QP,QQ]
       exact ⟨x / 2,⟨by omega,by omega,gcd_even' hxg e1 hgo⟩,by simp only;omega,⟨[],rfl,by simp,by simp [setsA,keepA,SWeak,AWeak],by simp [HWeak,BWeak,SWeak,AWeak]⟩⟩
      ·simp (config:={maxSteps:=1000000}) (disch:=((try simp only [awL]);omega)) only [l1,e1,↓awU,awV,awF,Qa,Qb,Qc,Qd,forall_const,↓reduceIte,↓reduceDIte,↓Qe,Qf,Qg,Qh,Qi,Qj,Qk,Ql,Qm,Qn,Qo,Qp,Qq,Qr,Qs,implies_true,Qt,Qu,Qv,Qw,Qx,Qy,Qz,QA,QB,QC,QD,QE,QF,QG,QH,QI,QJ,QK,QL,QM,QN,QO,QP,QQ]
       exact ⟨x,⟨hx,hxa,hxg⟩,⟨[],rfl,by simp,by simp [setsA,keepA,SWeak,AWeak],by simp [HWeak,BWeak,SWeak,AWeak]⟩⟩
     ·rintro b' ⟨hb',hbb',hgb'⟩
      simp only [awK,Nat.reduceMod,Nat.reduceDiv,reduceIte]
      have q1:=le2 (show a'≤max a0 b0 by omega)
      have q2:=le2 (show b'≤max a0 b0 by omega)
      simp (config:={maxSteps:=1000000}) (disch:=((try simp only [awL]);omega)) only [↓awU,awV,awF,Qa,Qb,Qc,Qd,forall_const,↓reduceIte,↓reduceDIte,↓Qe,Qf,Qg,Qh,Qi,Qj,Qk,Ql,Qm,Qn,Qo,Qp,Qq,Qr,Qs,implies_true,Qt,Qu,Qv,Qw,Qx,Qy,Qz,QA,QB,QC,QD,QE,QF,QG,QH,QI,QJ,QK,QL,QM,QN,QO,QP,QQ]
      refine CallC.pure (rcmp_spec a' b' (by omega) (by omega)) ?_
      by_cases hc:b'<a'
      ·have hci:cmpI (a':Int) b'=1:=cmpI_gt (by omega)
       simp (config:={maxSteps:=1000000}) (disch:=((try simp only [awL]);omega)) only [hci,↓awU,awV,awF,Qa,Qb,Qc,Qd,forall_const,↓reduceIte,↓reduceDIte,↓Qe,Qf,Qg,Qh,Qi,Qj,Qk,Ql,Qm,Qn,Qo,Qp,Qq,Qr,Qs,implies_true,Qt,Qu,Qv,Qw,Qx,Qy,Qz,QA,QB,QC,QD,QE,QF,QG,QH,QI,QJ,QK,QL,QM,QN,QO,QP,QQ]
       refine CallC.pure (rsub_spec a' b' (by omega) (by omega)) ?_
       simp (config:={maxSteps:=1000000}) (disch:=((try simp only [awL]);omega)) only [↓awU,awV,awF,Qa,Qb,Qc,Qd,forall_const,↓reduceIte,↓reduceDIte,↓Qe,Qf,Qg,Qh,Qi,Qj,Qk,Ql,Qm,Qn,Qo,Qp,Qq,Qr,Qs,implies_true,Qt,Qu,Qv,Qw,Qx,Qy,Qz,QA,QB,QC,QD,QE,QF,QG,QH,QI,QJ,QK,QL,QM,QN,QO,QP,QQ]
       exact ⟨(b',a' - b'),⟨hb',by simp only;omega,by simp only;omega,by simp only;rw [Nat.gcd_sub_self_right (by omega),Nat.gcd_comm];exact hgb'⟩,by simp only;omega,⟨[],rfl,by simp,by simp [setsA,keepA,SWeak,AWeak],by simp [HWeak,BWeak,SWeak,AWeak]⟩⟩
      ·have hci:¬ cmpI (a':Int) b' > 0:=by unfold cmpI;split<;>first | omega | (split<;>omega)
       simp (config:={maxSteps:=1000000}) (disch:=((try simp only [awL]);omega)) only [hci,↓awU,awV,awF,Qa,Qb,Qc,Qd,forall_const,↓reduceIte,↓reduceDIte,↓Qe,Qf,Qg,Qh,Qi,Qj,Qk,Ql,Qm,Qn,Qo,Qp,Qq,Qr,Qs,implies_true,Qt,Qu,Qv,Qw,Qx,Qy,Qz,QA,QB,QC,QD,QE,QF,QG,QH,QI,QJ,QK,QL,QM,QN,QO,QP,QQ]
       refine CallC.pure (rsub_spec b' a' (by omega) (by omega)) ?_
       simp (config:={maxSteps:=1000000}) (disch:=((try simp only [awL]);omega)) only [↓awU,awV,awF,Qa,Qb,Qc,Qd,forall_const,↓reduceIte,↓reduceDIte,↓Qe,Qf,Qg,Qh,Qi,Qj,Qk,Ql,Qm,Qn,Qo,Qp,Qq,Qr,Qs,implies_true,Qt,Qu,Qv,Qw,Qx,Qy,Qz,QA,QB,QC,QD,QE,QF,QG,QH,QI,QJ,QK,QL,QM,QN,QO,QP,QQ]
       exact ⟨(a',b' - a'),⟨ha',by simp only;omega,by simp only;omega,by simp only;rw [Nat.gcd_sub_self_right (by omega)];exact hgb'⟩,by simp only;omega,⟨[],rfl,by simp,by simp [setsA,keepA,SWeak,AWeak],by simp [HWeak,BWeak,SWeak,AWeak]⟩⟩
  ·rintro ⟨⟩ -
   simp only [awK,Nat.reduceMod,Nat.reduceDiv,reduceIte]
   simp (config:={maxSteps:=1000000}) (disch:=((try simp only [awL]);omega)) only [↓awU,awV,awF,Qa,Qb,Qc,Qd,forall_const,↓reduceIte,↓reduceDIte,↓Qe,Qf,Qg,Qh,Qi,Qj,Qk,Ql,Qm,Qn,Qo,Qp,Qq,Qr,Qs,implies_true,Qt,Qu,Qv,Qw,Qx,Qy,Qz,QA,QB,QC,QD,QE,QF,QG,QH,QI,QJ,QK,QL,QM,QN,QO,QP,QQ]
   refine LoopC.fx 0 (α:=Nat × Nat) (β:=Unit) (fun x=>x.2) (fun x=>[(0,.d (W (toW x.1))),(5,.d (.int .i64 x.2))])
    (fun _=>[]) (fun x=>x.1*2 ^ x.2=g*2 ^ K∧x.2≤K) 0 (fun _=>[(0,.d (W (toW (g*2 ^ K))))]) (fun _=>[]) (fun _=>True) (g,K) ⟨rfl,Nat.le_refl _⟩ ?_ ?_ ?_
   ·exact ⟨[],rfl,by simp,by simp [setsA,keepA,SWeak,AWeak],by simp [HWeak,BWeak,SWeak,AWeak]⟩
   ·rintro ⟨x,k⟩ ⟨hx,hk⟩
    simp only at hx hk
    simp only [awK,Nat.reduceMod,Nat.reduceDiv,reduceIte]
    rcases k with _ | k
    ·rw [Nat.pow_zero,Nat.mul_one] at hx
     subst hx
     simp (config:={maxSteps:=1000000}) (disch:=((try simp only [awL]);omega)) only [↓awU,awV,awF,Qa,Qb,Qc,Qd,forall_const,↓reduceIte,↓reduceDIte,↓Qe,Qf,Qg,Qh,Qi,Qj,Qk,Ql,Qm,Qn,Qo,Qp,Qq,Qr,Qs,implies_true,Qt,Qu,Qv,Qw,Qx,Qy,Qz,QA,QB,QC,QD,QE,QF,QG,QH,QI,QJ,QK,QL,QM,QN,QO,QP,QQ]
     exact ⟨(),trivial,⟨[],rfl,by simp,by simp [setsA,keepA,SWeak,AWeak],by simp [HWeak,BWeak,SWeak,AWeak]⟩⟩
    ·have q1:=le1 (Nat.le_trans (le_of_pow hx) hgl)
     simp (config:={maxSteps:=1000000}) (disch:=((try simp only [awL]);omega)) only [↓awU,awV,awF,Qa,Qb,Qc,Qd,forall_const,↓reduceIte,↓reduceDIte,↓Qe,Qf,Qg,Qh,Qi,Qj,Qk,Ql,Qm,Qn,Qo,Qp,Qq,Qr,Qs,implies_true,Qt,Qu,Qv,Qw,Qx,Qy,Qz,QA,QB,QC,QD,QE,QF,QG,QH,QI,QJ,QK,QL,QM,QN,QO,QP,QQ]
     refine CallC.pure (twice_spec x 0 (by decide) (by omega)) ?_
     simp (config:={maxSteps:=1000000}) (disch:=((try simp only [awL]);omega)) only [↓awU,awV,awF,Qa,Qb,Qc,Qd,forall_const,↓reduceIte,↓reduceDIte,↓Qe,Qf,Qg,Qh,Qi,Qj,Qk,Ql,Qm,Qn,Qo,Qp,Qq,Qr,Qs,implies_true,Qt,Qu,Qv,Qw,Qx,Qy,Qz,QA,QB,QC,QD,QE,QF,QG,QH,QI,QJ,QK,QL,QM,QN,QO,QP,QQ]
     refine ⟨(2*x,k),⟨?_,by simp only;omega⟩,Nat.lt_succ_self _,⟨[],rfl,by simp,by simp [setsA,keepA,SWeak,AWeak],by simp [HWeak,BWeak,SWeak,AWeak]⟩⟩
     rw [← hx,Nat.pow_succ']
     simp only
     rw [Nat.mul_comm 2 x,Nat.mul_assoc]
   ·rintro ⟨⟩ -
    simp only [awK,Nat.reduceMod,Nat.reduceDiv,reduceIte]
    simp (config:={maxSteps:=1000000}) (disch:=((try simp only [awL]);omega)) only [↓awU,awV,awF,Qa,Qb,Qc,Qd,forall_const,↓reduceIte,↓reduceDIte,↓Qe,Qf,Qg,Qh,Qi,Qj,Qk,Ql,Qm,Qn,Qo,Qp,Qq,Qr,Qs,implies_true,Qt,Qu,Qv,Qw,Qx,Qy,Qz,QA,QB,QC,QD,QE,QF,QG,QH,QI,QJ,QK,QL,QM,QN,QO,QP,QQ]
end Go.Proofs.YtdpjcghiegggbaaGreatDoor.Num
namespace Go.Proofs.YtdpjcghiegggbaaGreatDoor.Num
open Go Go.Proofs Go.Abs
variable {G:Globals}
theorem rminus_spec (n:Int) (hn:sz n<2 ^ 36):Ctr Tryz.prog G 47 [.d (Big n)] [] (.d (Big (-n))) []:=by
 refine Ctr.pure (M:=M0) hmix Tryz.func47 rfl go47 ?_
 simp only [sz] at hn
 simp (config:={maxSteps:=1000000}) (disch:=((try simp only [awL]);omega)) only [Tryz.f47,↓awU,awV,awF,Qa,Qb,Qc,Qd,forall_const,↓reduceIte,↓reduceDIte,↓Qe,Qf,Qg,Qh,Qi,Qj,Qk,Ql,Qm,Qn,Qo,Qp,Qq,Qr,Qs,implies_true,Qt,Qu,Qv,Qw,Qx,Qy,Qz,QA,QB,QC,QD,QE,QF,QG,QH,QI,QJ,QK,QL,QM,QN,QO,QP,QQ]
 refine CallC.pure (rbig_spec _ _ (dig_toW _) (by omega)) ?_
 rw [val_toW]
 have e:(if decide (¬ n<0)=true then -((n.natAbs:Nat):Int) else ((n.natAbs:Nat):Int))=-n:=by
  by_cases h:n<0
  ·simp [h];omega
  ·simp [h];omega
 rw [e]
 simp (config:={maxSteps:=1000000}) (disch:=((try simp only [awL]);omega)) only [↓awU,awV,awF,Qa,Qb,Qc,Qd,forall_const,↓reduceIte,↓reduceDIte,↓Qe,Qf,Qg,Qh,Qi,Qj,Qk,Ql,Qm,Qn,Qo,Qp,Qq,Qr,Qs,implies_true,Qt,Qu,Qv,Qw,Qx,Qy,Qz,QA,QB,QC,QD,QE,QF,QG,QH,QI,QJ,QK,QL,QM,QN,QO,QP,QQ]
theorem rtimes_spec (a b:Int) (ha:sz a<2 ^ 36) (hb:sz b<2 ^ 36):Ctr Tryz.prog G 46 [.d (Big a),.d (Big b)] [] (.d (Big (a*b))) []:=by
 refine Ctr.pure (M:=M0) hmix Tryz.func46 rfl go46 ?_
 simp only [sz] at ha hb
 have hl:=@times_len a.natAbs b.natAbs
 simp (config:={maxSteps:=1000000}) (disch:=((try simp only [awL]);omega)) only [Tryz.f46,↓awU,awV,awF,Qa,Qb,Qc,Qd,forall_const,↓reduceIte,↓reduceDIte,↓Qe,Qf,Qg,Qh,Qi,Qj,Qk,Ql,Qm,Qn,Qo,Qp,Qq,Qr,Qs,implies_true,Qt,Qu,Qv,Qw,Qx,Qy,Qz,QA,QB,QC,QD,QE,QF,QG,QH,QI,QJ,QK,QL,QM,QN,QO,QP,QQ]
 refine CallC.pure (rmul_spec _ _ (by omega) (by omega)) ?_
 simp (config:={maxSteps:=1000000}) (disch:=((try simp only [awL]);omega)) only [↓awU,awV,awF,Qa,Qb,Qc,Qd,forall_const,↓reduceIte,↓reduceDIte,↓Qe,Qf,Qg,Qh,Qi,Qj,Qk,Ql,Qm,Qn,Qo,Qp,Qq,Qr,Qs,implies_true,Qt,Qu,Qv,Qw,Qx,Qy,Qz,QA,QB,QC,QD,QE,QF,QG,QH,QI,QJ,QK,QL,QM,QN,QO,QP,QQ]
 refine CallC.pure (rbig_spec _ _ (dig_toW _) (by omega)) ?_
 rw [val_toW]
 have e:(if decide (¬ decide (a<0)=decide (b<0))=true then -((a.natAbs*b.natAbs:Nat):Int) else ((a.natAbs*b.natAbs:Nat):Int))=a*b:=by
  have ea:((a.natAbs:Nat):Int)=if a<0 then -a else a:=by split<;>omega
  have eb:((b.natAbs:Nat):Int)=if b<0 then -b else b:=by split<;>omega
  rw [Int.natCast_mul,ea,eb]
  by_cases ha':a<0<;>by_cases hb':b<0<;>simp [ha',hb',Int.neg_mul,Int.mul_neg]
 rw [e]
 simp (config:={maxSteps:=1000000}) (disch:=((try simp only [awL]);omega)) only [↓awU,awV,awF,Qa,Qb,Qc,Qd,forall_const,↓reduceIte,↓reduceDIte,↓Qe,Qf,Qg,Qh,Qi,Qj,Qk,Ql,Qm,Qn,Qo,Qp,Qq,Qr,Qs,implies_true,Qt,Qu,Qv,Qw,Qx,Qy,Qz,QA,QB,QC,QD,QE,QF,QG,QH,QI,QJ,QK,QL,QM,QN,QO,QP,QQ]
 try rfl
theorem rplus_spec (a b:Int) (ha:sz a<2 ^ 36) (hb:sz b<2 ^ 36):Ctr Tryz.prog G 45 [.d (Big a),.d (Big b)] [] (.d (Big (a+b))) []:=by
 have hpl:=@plus_len a.natAbs b.natAbs
 have ka:((a.natAbs:Nat):Int)=if a<0 then -a else a:=by split<;>omega
 have kb:((b.natAbs:Nat):Int)=if b<0 then -b else b:=by split<;>omega
 have hcmp:0≤cmpI (a.natAbs:Int) b.natAbs↔b.natAbs≤a.natAbs:=by
  unfold cmpI;split
  ·omega
  ·split<;>omega
 refine Ctr.pure (M:=M0) hmix Tryz.func45 rfl go45 ?_
 simp only [sz] at ha hb
 have hdl:=digs_length (max (toW a.natAbs).length (toW b.natAbs).length+1) (a.natAbs+b.natAbs)
 have hdv:val (digs (max (toW a.natAbs).length (toW b.natAbs).length+1) (a.natAbs+b.natAbs))=a.natAbs+b.natAbs:=val_digs (Nat.lt_of_lt_of_le (lt_of_toW _) (Nat.pow_le_pow_right (by decide) hpl))
 have hsub1:=toW_len_mono (Nat.sub_le a.natAbs b.natAbs)
 have hsub2:=toW_len_mono (Nat.sub_le b.natAbs a.natAbs)
 by_cases hs:decide (a<0)=decide (b<0)
 ·simp (config:={maxSteps:=1000000}) (disch:=((try simp only [awL]);omega)) only [Tryz.f45,hs,↓awU,awV,awF,Qa,Qb,Qc,Qd,forall_const,↓reduceIte,↓reduceDIte,↓Qe,Qf,Qg,Qh,Qi,Qj,Qk,Ql,Qm,Qn,Qo,Qp,Qq,Qr,Qs,implies_true,Qt,Qu,Qv,Qw,Qx,Qy,Qz,QA,QB,QC,QD,QE,QF,QG,QH,QI,QJ,QK,QL,QM,QN,QO,QP,QQ]
  refine CallC.pure (radd_spec _ _ (by omega) (by omega)) ?_
  simp (config:={maxSteps:=1000000}) (disch:=((try simp only [awL]);omega)) only [hs,↓awU,awV,awF,Qa,Qb,Qc,Qd,forall_const,↓reduceIte,↓reduceDIte,↓Qe,Qf,Qg,Qh,Qi,Qj,Qk,Ql,Qm,Qn,Qo,Qp,Qq,Qr,Qs,implies_true,Qt,Qu,Qv,Qw,Qx,Qy,Qz,QA,QB,QC,QD,QE,QF,QG,QH,QI,QJ,QK,QL,QM,QN,QO,QP,QQ]
  refine CallC.pure (rbig_spec _ _ (dig_digs _ _) (by omega)) ?_
  rw [hdv]
  have e:(if decide (b<0)=true then -((a.natAbs+b.natAbs:Nat):Int) else ((a.natAbs+b.natAbs:Nat):Int))=a+b:=by
   have hs':=decide_eq_decide.1 hs
   rw [Int.natCast_add,ka,kb]
   by_cases hb':b<0<;>simp [hs',hb']<;>omega
  rw [e]
  simp (config:={maxSteps:=1000000}) (disch:=((try simp only [awL]);omega)) only [↓awU,awV,awF,Qa,Qb,Qc,Qd,forall_const,↓reduceIte,↓reduceDIte,↓Qe,Qf,Qg,Qh,Qi,Qj,Qk,Ql,Qm,Qn,Qo,Qp,Qq,Qr,Qs,implies_true,Qt,Qu,Qv,Qw,Qx,Qy,Qz,QA,QB,QC,QD,QE,QF,QG,QH,QI,QJ,QK,QL,QM,QN,QO,QP,QQ]
  try rfl
 ·simp (config:={maxSteps:=1000000}) (disch:=((try simp only [awL]);omega)) only [Tryz.f45,hs,↓awU,awV,awF,Qa,Qb,Qc,Qd,forall_const,↓reduceIte,↓reduceDIte,↓Qe,Qf,Qg,Qh,Qi,Qj,Qk,Ql,Qm,Qn,Qo,Qp,Qq,Qr,Qs,implies_true,Qt,Qu,Qv,Qw,Qx,Qy,Qz,QA,QB,QC,QD,QE,QF,QG,QH,QI,QJ,QK,QL,QM,QN,QO,QP,QQ]
  refine CallC.pure (rcmp_spec _ _ (by omega) (by omega)) ?_
  have hsg:¬ (a<0)∨¬ (b<0):=by
   by_cases h1:a<0
   ·right;intro h2;exact hs (by simp [h1,h2])
   ·left;exact h1
  have hsg2:a<0∨b<0:=by
   by_cases h1:a<0
   ·left;exact h1
   ·right
    by_cases h2:b<0
    ·exact h2
    ·exact absurd (by simp [h1,h2]) hs
  by_cases h:b.natAbs≤a.natAbs
  ·have h':=hcmp.2 h
   simp (config:={maxSteps:=1000000}) (disch:=((try simp only [awL]);omega)) only [h',↓awU,awV,awF,Qa,Qb,Qc,Qd,forall_const,↓reduceIte,↓reduceDIte,↓Qe,Qf,Qg,Qh,Qi,Qj,Qk,Ql,Qm,Qn,Qo,Qp,Qq,Qr,Qs,implies_true,Qt,Qu,Qv,Qw,Qx,Qy,Qz,QA,QB,QC,QD,QE,QF,QG,QH,QI,QJ,QK,QL,QM,QN,QO,QP,QQ]
   refine CallC.pure (rsub_spec _ _ h (by omega)) ?_
   simp (config:={maxSteps:=1000000}) (disch:=((try simp only [awL]);omega)) only [↓awU,awV,awF,Qa,Qb,Qc,Qd,forall_const,↓reduceIte,↓reduceDIte,↓Qe,Qf,Qg,Qh,Qi,Qj,Qk,Ql,Qm,Qn,Qo,Qp,Qq,Qr,Qs,implies_true,Qt,Qu,Qv,Qw,Qx,Qy,Qz,QA,QB,QC,QD,QE,QF,QG,QH,QI,QJ,QK,QL,QM,QN,QO,QP,QQ]
   refine CallC.pure (rbig_spec _ _ (dig_toW _) (by omega)) ?_
   rw [val_toW]
   have e:(if decide (a<0)=true then -((a.natAbs - b.natAbs:Nat):Int) else ((a.natAbs - b.natAbs:Nat):Int))=a+b:=by
    by_cases h1:a<0
    ·simp only [h1,decide_true,if_true];omega
    ·simp only [h1,decide_false,Bool.false_eq_true,if_false];omega
   rw [e]
   simp (config:={maxSteps:=1000000}) (disch:=((try simp only [awL]);omega)) only [↓awU,awV,awF,Qa,Qb,Qc,Qd,forall_const,↓reduceIte,↓reduceDIte,↓Qe,Qf,Qg,Qh,Qi,Qj,Qk,Ql,Qm,Qn,Qo,Qp,Qq,Qr,Qs,implies_true,Qt,Qu,Qv,Qw,Qx,Qy,Qz,QA,QB,QC,QD,QE,QF,QG,QH,QI,QJ,QK,QL,QM,QN,QO,QP,QQ]
   try rfl
  ·have h':¬ 0≤cmpI (a.natAbs:Int) b.natAbs:=fun h2=>h (hcmp.1 h2)
   simp (config:={maxSteps:=1000000}) (disch:=((try simp only [awL]);omega)) only [h',↓awU,awV,awF,Qa,Qb,Qc,Qd,forall_const,↓reduceIte,↓reduceDIte,↓Qe,Qf,Qg,Qh,Qi,Qj,Qk,Ql,Qm,Qn,Qo,Qp,Qq,Qr,Qs,implies_true,Qt,Qu,Qv,Qw,Qx,Qy,Qz,QA,QB,QC,QD,QE,QF,QG,QH,QI,QJ,QK,QL,QM,QN,QO,QP,QQ]
   refine CallC.pure (rsub_spec _ _ (by omega) (by omega)) ?_
   simp (config:={maxSteps:=1000000}) (disch:=((try simp only [awL]);omega)) only [↓awU,awV,awF,Qa,Qb,Qc,Qd,forall_const,↓reduceIte,↓reduceDIte,↓Qe,Qf,Qg,Qh,Qi,Qj,Qk,Ql,Qm,Qn,Qo,Qp,Qq,Qr,Qs,implies_true,Qt,Qu,Qv,Qw,Qx,Qy,Qz,QA,QB,QC,QD,QE,QF,QG,QH,QI,QJ,QK,QL,QM,QN,QO,QP,QQ]
   refine CallC.pure (rbig_spec _ _ (dig_toW _) (by omega)) ?_
   rw [val_toW]
   have e:(if decide (b<0)=true then -((b.natAbs - a.natAbs:Nat):Int) else ((b.natAbs - a.natAbs:Nat):Int))=a+b:=by
    by_cases h1:b<0
    ·simp only [h1,decide_true,if_true];omega
    ·simp only [h1,decide_false,Bool.false_eq_true,if_false];omega
   rw [e]
   simp (config:={maxSteps:=1000000}) (disch:=((try simp only [awL]);omega)) only [↓awU,awV,awF,Qa,Qb,Qc,Qd,forall_const,↓reduceIte,↓reduceDIte,↓Qe,Qf,Qg,Qh,Qi,Qj,Qk,Ql,Qm,Qn,Qo,Qp,Qq,Qr,Qs,implies_true,Qt,Qu,Qv,Qw,Qx,Qy,Qz,QA,QB,QC,QD,QE,QF,QG,QH,QI,QJ,QK,QL,QM,QN,QO,QP,QQ]
   try rfl
set_option maxHeartbeats 4000000 in
set_option maxRecDepth 100000 in
theorem rvalid_spec (x:Rat) (h1:sz x.num<2 ^ 36) (h2:(toW x.den).length<2 ^ 36):Ctr Tryz.prog G 44 [.d (Frac x)] [] (.d (.bool (decide (FV x)))) []:=by
 have hd:0<(toW x.den).length:=sz_pos.2 x.den_nz
 simp only [sz] at h1
 have w1:W (toW 1)=W [1]:=by rw [toW_one]
 have r1:(toW 1).length<2 ^ 40:=by rw [toW_one];decide
 refine Ctr.pure (M:=M0) hmix Tryz.func44 rfl go44 ?_
 simp (config:={maxSteps:=1000000}) (disch:=((try simp only [awL]);omega)) only [Tryz.f44,↓awU,awV,awF,Qa,Qb,Qc,Qd,forall_const,↓reduceIte,↓reduceDIte,↓Qe,Qf,Qg,Qh,Qi,Qj,Qk,Ql,Qm,Qn,Qo,Qp,Qq,Qr,Qs,implies_true,Qt,Qu,Qv,Qw,Qx,Qy,Qz,QA,QB,QC,QD,QE,QF,QG,QH,QI,QJ,QK,QL,QM,QN,QO,QP,QQ]
 refine CallC.pure (rvalidBig_spec x.num) ?_
 by_cases v1:sz x.num≤256
 ·rw [decide_eq_true v1]
  simp (config:={maxSteps:=1000000}) (disch:=((try simp only [awL]);omega)) only [↓awU,awV,awF,Qa,Qb,Qc,Qd,forall_const,↓reduceIte,↓reduceDIte,↓Qe,Qf,Qg,Qh,Qi,Qj,Qk,Ql,Qm,Qn,Qo,Qp,Qq,Qr,Qs,implies_true,Qt,Qu,Qv,Qw,Qx,Qy,Qz,QA,QB,QC,QD,QE,QF,QG,QH,QI,QJ,QK,QL,QM,QN,QO,QP,QQ]
  refine CallC.of (rvalidBig_spec x.den) (by rw [Big,bigL_nat]) ?_
  by_cases v2:(toW x.den).length≤256
  ·rw [decide_eq_true (show sz (x.den:Int)≤256 by simpa [sz] using v2),decide_eq_true (show FV x from ⟨v1,v2⟩)]
   have hg:Nat.gcd x.num.natAbs x.den=1:=x.reduced
   by_cases h0:x.num.natAbs=0
   ·have e0:(toW x.num.natAbs).length=0:=by rw [h0,toW_zero];rfl
    rw [h0,Nat.gcd_zero_left] at hg
    simp (config:={maxSteps:=1000000}) (disch:=((try simp only [awL]);omega)) only [e0,↓awU,awV,awF,Qa,Qb,Qc,Qd,forall_const,↓reduceIte,↓reduceDIte,↓Qe,Qf,Qg,Qh,Qi,Qj,Qk,Ql,Qm,Qn,Qo,Qp,Qq,Qr,Qs,implies_true,Qt,Qu,Qv,Qw,Qx,Qy,Qz,QA,QB,QC,QD,QE,QF,QG,QH,QI,QJ,QK,QL,QM,QN,QO,QP,QQ]
    refine CallC.frozenE (rcmp_spec x.den 1 (by omega) r1) (by rw [w1];rfl) ?_
    rw [hg,cmpI_self]
    simp (config:={maxSteps:=1000000}) (disch:=((try simp only [awL]);omega)) only [↓awU,awV,awF,Qa,Qb,Qc,Qd,forall_const,↓reduceIte,↓reduceDIte,↓Qe,Qf,Qg,Qh,Qi,Qj,Qk,Ql,Qm,Qn,Qo,Qp,Qq,Qr,Qs,implies_true,Qt,Qu,Qv,Qw,Qx,Qy,Qz,QA,QB,QC,QD,QE,QF,QG,QH,QI,QJ,QK,QL,QM,QN,QO,QP,QQ]
    try rfl
   ·have e0:=sz_pos.2 h0
    simp (config:={maxSteps:=1000000}) (disch:=((try simp only [awL]);omega)) only [↓awU,awV,awF,Qa,Qb,Qc,Qd,forall_const,↓reduceIte,↓reduceDIte,↓Qe,Qf,Qg,Qh,Qi,Qj,Qk,Ql,Qm,Qn,Qo,Qp,Qq,Qr,Qs,implies_true,Qt,Qu,Qv,Qw,Qx,Qy,Qz,QA,QB,QC,QD,QE,QF,QG,QH,QI,QJ,QK,QL,QM,QN,QO,QP,QQ]
    refine CallC.pure (gcd_spec _ _ h0 x.den_nz (by omega) (by omega)) ?_
    rw [hg]
    simp (config:={maxSteps:=1000000}) (disch:=((try simp only [awL]);omega)) only [↓awU,awV,awF,Qa,Qb,Qc,Qd,forall_const,↓reduceIte,↓reduceDIte,↓Qe,Qf,Qg,Qh,Qi,Qj,Qk,Ql,Qm,Qn,Qo,Qp,Qq,Qr,Qs,implies_true,Qt,Qu,Qv,Qw,Qx,Qy,Qz,QA,QB,QC,QD,QE,QF,QG,QH,QI,QJ,QK,QL,QM,QN,QO,QP,QQ]
    refine CallC.frozenE (rcmp_spec 1 1 r1 r1) (by simp only [toW_one];rfl) ?_
    rw [cmpI_self]
    simp (config:={maxSteps:=1000000}) (disch:=((try simp only [awL]);omega)) only [↓awU,awV,awF,Qa,Qb,Qc,Qd,forall_const,↓reduceIte,↓reduceDIte,↓Qe,Qf,Qg,Qh,Qi,Qj,Qk,Ql,Qm,Qn,Qo,Qp,Qq,Qr,Qs,implies_true,Qt,Qu,Qv,Qw,Qx,Qy,Qz,QA,QB,QC,QD,QE,QF,QG,QH,QI,QJ,QK,QL,QM,QN,QO,QP,QQ]
    try rfl
  ·rw [decide_eq_false (show ¬ sz (x.den:Int)≤256 by simpa [sz] using v2),decide_eq_false (show ¬ FV x from fun h=>v2 h.2)]
   simp (config:={maxSteps:=1000000}) (disch:=((try simp only [awL]);omega)) only [↓awU,awV,awF,Qa,Qb,Qc,Qd,forall_const,↓reduceIte,↓reduceDIte,↓Qe,Qf,Qg,Qh,Qi,Qj,Qk,Ql,Qm,Qn,Qo,Qp,Qq,Qr,Qs,implies_true,Qt,Qu,Qv,Qw,Qx,Qy,Qz,QA,QB,QC,QD,QE,QF,QG,QH,QI,QJ,QK,QL,QM,QN,QO,QP,QQ]
 ·rw [decide_eq_false v1,decide_eq_false (show ¬ FV x from fun h=>v1 h.1)]
  simp (config:={maxSteps:=1000000}) (disch:=((try simp only [awL]);omega)) only [↓awU,awV,awF,Qa,Qb,Qc,Qd,forall_const,↓reduceIte,↓reduceDIte,↓Qe,Qf,Qg,Qh,Qi,Qj,Qk,Ql,Qm,Qn,Qo,Qp,Qq,Qr,Qs,implies_true,Qt,Qu,Qv,Qw,Qx,Qy,Qz,QA,QB,QC,QD,QE,QF,QG,QH,QI,QJ,QK,QL,QM,QN,QO,QP,QQ]
end Go.Proofs.YtdpjcghiegggbaaGreatDoor.Num
namespace Go.Proofs.YtdpjcghiegggbaaGreatDoor.Num
open Go Go.Proofs Go.Abs
variable {G:Globals}
set_option maxHeartbeats 4000000 in
set_option maxRecDepth 100000 in
theorem rcmpF_spec (x y:Rat) (h1:FV x) (h2:FV y):Ctr Tryz.prog G 18 [.d (Frac x),.d (Frac y)] [] (.d (.int .i64 (cmpQ x y))) []:=by
 have h1':=h1
 have h2':=h2
 obtain ⟨a1,a2⟩:=h1'
 obtain ⟨b1,b2⟩:=h2'
 have s1:=@sz_mul x.num y.den
 have s2:=@sz_mul y.num x.den
 have c2:sz (x.den:Int)≤256:=by simpa [sz] using a2
 have d2:sz (y.den:Int)≤256:=by simpa [sz] using b2
 have sn:sz (-(y.num*x.den))=sz (y.num*x.den):=by simp only [sz,Int.natAbs_neg]
 refine Ctr.pure (M:=M0) hmix Tryz.func18 rfl go18 ?_
 simp (config:={maxSteps:=1000000}) (disch:=((try simp only [awL]);omega)) only [Tryz.f18,↓awU,awV,awF,Qa,Qb,Qc,Qd,forall_const,↓reduceIte,↓reduceDIte,↓Qe,Qf,Qg,Qh,Qi,Qj,Qk,Ql,Qm,Qn,Qo,Qp,Qq,Qr,Qs,implies_true,Qt,Qu,Qv,Qw,Qx,Qy,Qz,QA,QB,QC,QD,QE,QF,QG,QH,QI,QJ,QK,QL,QM,QN,QO,QP,QQ]
 refine CallC.pure (rvalid_spec x (by omega) (by omega)) ?_
 rw [decide_eq_true h1]
 simp (config:={maxSteps:=1000000}) (disch:=((try simp only [awL]);omega)) only [↓awU,awV,awF,Qa,Qb,Qc,Qd,forall_const,↓reduceIte,↓reduceDIte,↓Qe,Qf,Qg,Qh,Qi,Qj,Qk,Ql,Qm,Qn,Qo,Qp,Qq,Qr,Qs,implies_true,Qt,Qu,Qv,Qw,Qx,Qy,Qz,QA,QB,QC,QD,QE,QF,QG,QH,QI,QJ,QK,QL,QM,QN,QO,QP,QQ]
 refine CallC.pure (rvalid_spec y (by omega) (by omega)) ?_
 rw [decide_eq_true h2]
 simp (config:={maxSteps:=1000000}) (disch:=((try simp only [awL]);omega)) only [↓awU,awV,awF,Qa,Qb,Qc,Qd,forall_const,↓reduceIte,↓reduceDIte,↓Qe,Qf,Qg,Qh,Qi,Qj,Qk,Ql,Qm,Qn,Qo,Qp,Qq,Qr,Qs,implies_true,Qt,Qu,Qv,Qw,Qx,Qy,Qz,QA,QB,QC,QD,QE,QF,QG,QH,QI,QJ,QK,QL,QM,QN,QO,QP,QQ]
 refine CallC.of (rtimes_spec x.num y.den (by omega) (by omega)) (by rw [Big_neg,Big,bigL_nat]) ?_
 simp (config:={maxSteps:=1000000}) (disch:=((try simp only [awL]);omega)) only [↓awU,awV,awF,Qa,Qb,Qc,Qd,forall_const,↓reduceIte,↓reduceDIte,↓Qe,Qf,Qg,Qh,Qi,Qj,Qk,Ql,Qm,Qn,Qo,Qp,Qq,Qr,Qs,implies_true,Qt,Qu,Qv,Qw,Qx,Qy,Qz,QA,QB,QC,QD,QE,QF,QG,QH,QI,QJ,QK,QL,QM,QN,QO,QP,QQ]
 refine CallC.of (rtimes_spec y.num x.den (by omega) (by omega)) (by rw [Big_neg,Big,bigL_nat]) ?_
 simp (config:={maxSteps:=1000000}) (disch:=((try simp only [awL]);omega)) only [↓awU,awV,awF,Qa,Qb,Qc,Qd,forall_const,↓reduceIte,↓reduceDIte,↓Qe,Qf,Qg,Qh,Qi,Qj,Qk,Ql,Qm,Qn,Qo,Qp,Qq,Qr,Qs,implies_true,Qt,Qu,Qv,Qw,Qx,Qy,Qz,QA,QB,QC,QD,QE,QF,QG,QH,QI,QJ,QK,QL,QM,QN,QO,QP,QQ]
 refine CallC.pure (rminus_spec _ (by omega)) ?_
 simp (config:={maxSteps:=1000000}) (disch:=((try simp only [awL]);omega)) only [↓awU,awV,awF,Qa,Qb,Qc,Qd,forall_const,↓reduceIte,↓reduceDIte,↓Qe,Qf,Qg,Qh,Qi,Qj,Qk,Ql,Qm,Qn,Qo,Qp,Qq,Qr,Qs,implies_true,Qt,Qu,Qv,Qw,Qx,Qy,Qz,QA,QB,QC,QD,QE,QF,QG,QH,QI,QJ,QK,QL,QM,QN,QO,QP,QQ]
 refine CallC.pure (rplus_spec _ _ (by omega) (by omega)) ?_
 have hp:=@sz_pos (x.num*y.den+-(y.num*x.den)).natAbs
 have l1:=Rat.lt_iff x y
 have l2:=Rat.lt_iff y x
 by_cases hz:x.num*y.den+-(y.num*x.den)=0
 ·have e:(toW (x.num*y.den+-(y.num*x.den)).natAbs).length=0:=by rw [hz];rw [show (0:Int).natAbs=0 from rfl,toW_zero];rfl
  simp (config:={maxSteps:=1000000}) (disch:=((try simp only [awL]);omega)) only [e,↓awU,awV,awF,Qa,Qb,Qc,Qd,forall_const,↓reduceIte,↓reduceDIte,↓Qe,Qf,Qg,Qh,Qi,Qj,Qk,Ql,Qm,Qn,Qo,Qp,Qq,Qr,Qs,implies_true,Qt,Qu,Qv,Qw,Qx,Qy,Qz,QA,QB,QC,QD,QE,QF,QG,QH,QI,QJ,QK,QL,QM,QN,QO,QP,QQ]
  refine ⟨by rfl,?_⟩
  rw [cmpQ,if_neg (fun h2=>by have:=l1.1 h2;omega),if_neg (fun h2=>by have:=l2.1 h2;omega)]
 ·have e:=hp.2 (by omega)
  by_cases hn:x.num*y.den+-(y.num*x.den)<0
  ·simp (config:={maxSteps:=1000000}) (disch:=((try simp only [awL]);omega)) only [hn,↓awU,awV,awF,Qa,Qb,Qc,Qd,forall_const,↓reduceIte,↓reduceDIte,↓Qe,Qf,Qg,Qh,Qi,Qj,Qk,Ql,Qm,Qn,Qo,Qp,Qq,Qr,Qs,implies_true,Qt,Qu,Qv,Qw,Qx,Qy,Qz,QA,QB,QC,QD,QE,QF,QG,QH,QI,QJ,QK,QL,QM,QN,QO,QP,QQ]
   refine ⟨by rfl,?_⟩
   rw [cmpQ,if_pos (l1.2 (by omega))]
  ·simp (config:={maxSteps:=1000000}) (disch:=((try simp only [awL]);omega)) only [hn,↓awU,awV,awF,Qa,Qb,Qc,Qd,forall_const,↓reduceIte,↓reduceDIte,↓Qe,Qf,Qg,Qh,Qi,Qj,Qk,Ql,Qm,Qn,Qo,Qp,Qq,Qr,Qs,implies_true,Qt,Qu,Qv,Qw,Qx,Qy,Qz,QA,QB,QC,QD,QE,QF,QG,QH,QI,QJ,QK,QL,QM,QN,QO,QP,QQ]
   refine ⟨by rfl,?_⟩
   rw [cmpQ,if_neg (fun h2=>by have:=l1.1 h2;omega),if_pos (l2.2 (by omega))]
end Go.Proofs.YtdpjcghiegggbaaGreatDoor.Num
namespace Go.Proofs.YtdpjcghiegggbaaGreatDoor.Num
open Go Go.Proofs Go.Abs
variable {G:Globals}
end Go.Proofs.YtdpjcghiegggbaaGreatDoor.Num
namespace Go.Proofs.YtdpjcghiegggbaaGreatDoor
open Go Go.Proofs Go.Abs Go.RowKit Go.Shelf
variable {G:Globals}
theorem trimLeftC_spec (c:UInt8) (hc:c.toNat<128) (s:List UInt8):Ctr Tryz.prog G 104 [.d (S s),.d (S [c])] [] (.d (S (Lib.trimLeftB s c))) [] :=
 Ctr.of_calls_ss go104 fun h w=>(Any.strings_TrimLeft_one Tryz.laysTrimLeft (bs s) c hc w).mono (by rintro e w' ⟨rfl,rfl⟩;exact ⟨_,rfl,.str _,.refl _ _⟩)
theorem trimRightC_spec (c:UInt8) (hc:c.toNat<128) (s:List UInt8) (hs:s.length≤9223372036854775807):Ctr Tryz.prog G 105 [.d (S s),.d (S [c])] [] (.d (S (Lib.trimRightB s c))) [] :=
 Ctr.of_calls_ss go105 fun h w=>(Any.strings_TrimRight_one Tryz.laysTrimRight (bs s) c hc w (by rw [bs_size];exact hs)).mono (by rintro e w' ⟨rfl,rfl⟩;exact ⟨_,rfl,.str _,.refl _ _⟩)
def OrI (x y:List UInt8) (i:Nat):Prop:=i≤2∧(1≤i→x=[])∧(2≤i→y=[])
theorem trimRB_le (l:List UInt8) (c:UInt8):(Lib.trimRightB l c).length≤l.length:=by
 unfold Lib.trimRightB
 rw [List.length_reverse]
 have:=(List.dropWhile_sublist (p:=(· == c)) (l:=l.reverse)).length_le
 rwa [List.length_reverse] at this
theorem orS_spec (x y:List UInt8) (full:Bool):Ctr Tryz.prog G 106 [.d (.sl 2 full [S x,S y])] [] (.d (S (if x=[] then y else x))) []:=by
 obtain ⟨r,hr⟩:∃ r,r=if x=[] then y else x:=⟨_,rfl⟩
 rw [← hr]
 refine Ctr.pure (M:=M0) hmix Tryz.func106 rfl go106 ?_
 have hb0:ByteArray.empty=bs []:=rfl
 simp (config:={maxSteps:=1000000}) (disch:=((try simp only [awL]);omega)) only [QR,QS,QT,QU,QV,QW,QX,QY,QZ,Q0,Q1,Q2,Tryz.f106,↓awU,awV,awF,Qa,Qb,Qc,Qd,forall_const,↓reduceIte,↓reduceDIte,↓Qe,Qf,Qg,Qh,Qi,Qj,Qk,Ql,Qm,Qn,Qo,Qp,Qq,Qr,Qs,implies_true,Qt,Qu,Qv,Qw,Qx,Qy,Qz,QA,QB,QC,QD,QE,QF,QG,QH,QI,QJ,QK,QL,QM,QN,QO,QP,QQ]
 refine LoopC.fr 200 (α:=Nat) (fun i=>2 - i) (fun i=>[(8,.d (.int .i64 (i:Nat)))]) (fun _=>[]) (OrI x y) 0 ⟨by omega,fun h=>absurd h (by omega),fun h=>absurd h (by omega)⟩ ?_ ?_
 ·exact ⟨[],rfl,by simp,by simp [setsA,keepA,SWeak,AWeak],by simp [HWeak,BWeak,SWeak,AWeak]⟩
 ·intro i hI
  obtain ⟨h1,h2,h3⟩:=hI
  simp only [awK,Nat.reduceMod,Nat.reduceDiv,reduceIte]
  rcases (by omega:i=0∨i=1∨i=2) with e | e | e
  ·subst e
   by_cases q:x=[]
   ·have q':(x=[])=True:=eq_true q
    simp (config:={maxSteps:=1000000}) (disch:=((try simp only [awL]);omega)) only [QR,QS,QT,QU,QV,QW,QX,QY,QZ,Q0,Q1,Q2,q',↓awU,awV,awF,Qa,Qb,Qc,Qd,forall_const,↓reduceIte,↓reduceDIte,↓Qe,Qf,Qg,Qh,Qi,Qj,Qk,Ql,Qm,Qn,Qo,Qp,Qq,Qr,Qs,implies_true,Qt,Qu,Qv,Qw,Qx,Qy,Qz,QA,QB,QC,QD,QE,QF,QG,QH,QI,QJ,QK,QL,QM,QN,QO,QP,QQ]
    exact ⟨0+1,(⟨by omega,fun _=>q,fun h=>absurd h (by omega)⟩:OrI x y (0+1)),by simp only;omega,⟨[],rfl,by simp,by simp [setsA,keepA,SWeak,AWeak],by simp [HWeak,BWeak,SWeak,AWeak]⟩⟩
   ·have q':(x=[])=False:=eq_false q
    rw [if_neg q] at hr
    subst hr
    simp (config:={maxSteps:=1000000}) (disch:=((try simp only [awL]);omega)) only [QR,QS,QT,QU,QV,QW,QX,QY,QZ,Q0,Q1,Q2,q',↓awU,awV,awF,Qa,Qb,Qc,Qd,forall_const,↓reduceIte,↓reduceDIte,↓Qe,Qf,Qg,Qh,Qi,Qj,Qk,Ql,Qm,Qn,Qo,Qp,Qq,Qr,Qs,implies_true,Qt,Qu,Qv,Qw,Qx,Qy,Qz,QA,QB,QC,QD,QE,QF,QG,QH,QI,QJ,QK,QL,QM,QN,QO,QP,QQ]
    first | done | rfl
  ·subst e
   have x0:=h2 (by omega)
   rw [if_pos x0] at hr
   by_cases q:y=[]
   ·have q':(y=[])=True:=eq_true q
    simp (config:={maxSteps:=1000000}) (disch:=((try simp only [awL]);omega)) only [QR,QS,QT,QU,QV,QW,QX,QY,QZ,Q0,Q1,Q2,q',↓awU,awV,awF,Qa,Qb,Qc,Qd,forall_const,↓reduceIte,↓reduceDIte,↓Qe,Qf,Qg,Qh,Qi,Qj,Qk,Ql,Qm,Qn,Qo,Qp,Qq,Qr,Qs,implies_true,Qt,Qu,Qv,Qw,Qx,Qy,Qz,QA,QB,QC,QD,QE,QF,QG,QH,QI,QJ,QK,QL,QM,QN,QO,QP,QQ]
    exact ⟨1+1,(⟨by omega,fun _=>x0,fun _=>q⟩:OrI x y (1+1)),by simp only;omega,⟨[],rfl,by simp,by simp [setsA,keepA,SWeak,AWeak],by simp [HWeak,BWeak,SWeak,AWeak]⟩⟩
   ·have q':(y=[])=False:=eq_false q
    subst hr
    simp (config:={maxSteps:=1000000}) (disch:=((try simp only [awL]);omega)) only [QR,QS,QT,QU,QV,QW,QX,QY,QZ,Q0,Q1,Q2,q',↓awU,awV,awF,Qa,Qb,Qc,Qd,forall_const,↓reduceIte,↓reduceDIte,↓Qe,Qf,Qg,Qh,Qi,Qj,Qk,Ql,Qm,Qn,Qo,Qp,Qq,Qr,Qs,implies_true,Qt,Qu,Qv,Qw,Qx,Qy,Qz,QA,QB,QC,QD,QE,QF,QG,QH,QI,QJ,QK,QL,QM,QN,QO,QP,QQ]
    first | done | rfl
  ·subst e
   have x0:=h2 (by omega)
   rw [if_pos x0,h3 (by omega)] at hr
   subst hr
   simp (config:={maxSteps:=1000000}) (disch:=((try simp only [awL]);omega)) only [QR,QS,QT,QU,QV,QW,QX,QY,QZ,Q0,Q1,Q2,↓awU,awV,awF,Qa,Qb,Qc,Qd,forall_const,↓reduceIte,↓reduceDIte,↓Qe,Qf,Qg,Qh,Qi,Qj,Qk,Ql,Qm,Qn,Qo,Qp,Qq,Qr,Qs,implies_true,Qt,Qu,Qv,Qw,Qx,Qy,Qz,QA,QB,QC,QD,QE,QF,QG,QH,QI,QJ,QK,QL,QM,QN,QO,QP,QQ]
   first | done | rfl
def canO (f b:List UInt8):List UInt8:=(if f=[] then [48] else f)++(if b=[] then [] else 46::b)
def canS (neg:Bool) (o:List UInt8):List UInt8:=if neg=true∧o≠[48] then 45::o else o
def canD (t:List UInt8):List UInt8:=canS (decide (t.getD 0 0=45)) (canO (Lib.trimLeftB (cutL 46 (Num.trimL [43,45] t)) 48) (Lib.trimRightB (cutR 46 (Num.trimL [43,45] t)) 48))
theorem trimL_len (l s:List UInt8):(Num.trimL l s).length≤s.length:=(List.dropWhile_sublist _).length_le
theorem cutL_len (c:UInt8):∀ s:List UInt8,(cutL c s).length≤s.length
 | []=>by simp [cutL]
 | b::l=>by
   rw [cutL]
   split
   ·simp
   ·have:=cutL_len c l;simp only [List.length_cons];omega
theorem cutR_len (c:UInt8):∀ s:List UInt8,(cutR c s).length≤s.length
 | []=>by simp [cutR]
 | b::l=>by
   rw [cutR]
   split
   ·simp
   ·have:=cutR_len c l;simp only [List.length_cons];omega
set_option maxHeartbeats 8000000 in
set_option maxRecDepth 100000 in
theorem tdecimal_spec (hG:Num.HG G) (t:List UInt8) (ht:t.length≤2000000):Ctr Tryz.prog G 70 [.d (S t)] [] (.d (.tup [S (if Num.decOk t=true then canD t else []),.bool (Num.decOk t)])) []:=by
 refine Ctr.pure (M:=M0) hmix Tryz.func70 rfl go70 ?_
 have sp:=Num.decimalF_spec hG t (by omega)
 cases ok:Num.decOk t
 ·rw [ok] at sp
  rw [if_neg Bool.false_ne_true] at sp ⊢
  simp (config:={maxSteps:=1000000}) (disch:=((try simp only [awL]);omega)) only [QR,QS,QT,QU,QV,QW,QX,QY,QZ,Q0,Q1,Q2,Tryz.f70,↓awU,awV,awF,Qa,Qb,Qc,Qd,forall_const,↓reduceIte,↓reduceDIte,↓Qe,Qf,Qg,Qh,Qi,Qj,Qk,Ql,Qm,Qn,Qo,Qp,Qq,Qr,Qs,implies_true,Qt,Qu,Qv,Qw,Qx,Qy,Qz,QA,QB,QC,QD,QE,QF,QG,QH,QI,QJ,QK,QL,QM,QN,QO,QP,QQ]
  refine CallC.of sp (by rfl) ?_
  simp (config:={maxSteps:=1000000}) (disch:=((try simp only [awL]);omega)) only [QR,QS,QT,QU,QV,QW,QX,QY,QZ,Q0,Q1,Q2,↓awU,awV,awF,Qa,Qb,Qc,Qd,forall_const,↓reduceIte,↓reduceDIte,↓Qe,Qf,Qg,Qh,Qi,Qj,Qk,Ql,Qm,Qn,Qo,Qp,Qq,Qr,Qs,implies_true,Qt,Qu,Qv,Qw,Qx,Qy,Qz,QA,QB,QC,QD,QE,QF,QG,QH,QI,QJ,QK,QL,QM,QN,QO,QP,QQ]
  first | done | rfl
 ·rw [ok] at sp
  rw [if_pos rfl] at sp ⊢
  have tne:0<t.length:=by
   rcases t with _ | ⟨b,u⟩
   ·exact absurd ok (by decide +kernel)
   ·simp
  have l1:=trimL_len [43,45] t
  have l2:=cutL_len 46 (Num.trimL [43,45] t)
  have l3:=cutR_len 46 (Num.trimL [43,45] t)
  simp (config:={maxSteps:=1000000}) (disch:=((try simp only [awL]);omega)) only [QR,QS,QT,QU,QV,QW,QX,QY,QZ,Q0,Q1,Q2,Tryz.f70,↓awU,awV,awF,Qa,Qb,Qc,Qd,forall_const,↓reduceIte,↓reduceDIte,↓Qe,Qf,Qg,Qh,Qi,Qj,Qk,Ql,Qm,Qn,Qo,Qp,Qq,Qr,Qs,implies_true,Qt,Qu,Qv,Qw,Qx,Qy,Qz,QA,QB,QC,QD,QE,QF,QG,QH,QI,QJ,QK,QL,QM,QN,QO,QP,QQ]
  refine CallC.of sp (by rfl) ?_
  simp (config:={maxSteps:=1000000}) (disch:=((try simp only [awL]);omega)) only [QR,QS,QT,QU,QV,QW,QX,QY,QZ,Q0,Q1,Q2,↓awU,awV,awF,Qa,Qb,Qc,Qd,forall_const,↓reduceIte,↓reduceDIte,↓Qe,Qf,Qg,Qh,Qi,Qj,Qk,Ql,Qm,Qn,Qo,Qp,Qq,Qr,Qs,implies_true,Qt,Qu,Qv,Qw,Qx,Qy,Qz,QA,QB,QC,QD,QE,QF,QG,QH,QI,QJ,QK,QL,QM,QN,QO,QP,QQ]
  refine CallC.of (Num.trimLeftSet_spec t [43,45] (by omega) (by decide) (by decide) (by decide)) (by rfl) ?_
  simp (config:={maxSteps:=1000000}) (disch:=((try simp only [awL]);omega)) only [QR,QS,QT,QU,QV,QW,QX,QY,QZ,Q0,Q1,Q2,↓awU,awV,awF,Qa,Qb,Qc,Qd,forall_const,↓reduceIte,↓reduceDIte,↓Qe,Qf,Qg,Qh,Qi,Qj,Qk,Ql,Qm,Qn,Qo,Qp,Qq,Qr,Qs,implies_true,Qt,Qu,Qv,Qw,Qx,Qy,Qz,QA,QB,QC,QD,QE,QF,QG,QH,QI,QJ,QK,QL,QM,QN,QO,QP,QQ]
  refine CallC.of (cut_spec (Num.trimL [43,45] t) 46 (by omega)) (by rfl) ?_
  simp (config:={maxSteps:=1000000}) (disch:=((try simp only [awL]);omega)) only [QR,QS,QT,QU,QV,QW,QX,QY,QZ,Q0,Q1,Q2,↓awU,awV,awF,Qa,Qb,Qc,Qd,forall_const,↓reduceIte,↓reduceDIte,↓Qe,Qf,Qg,Qh,Qi,Qj,Qk,Ql,Qm,Qn,Qo,Qp,Qq,Qr,Qs,implies_true,Qt,Qu,Qv,Qw,Qx,Qy,Qz,QA,QB,QC,QD,QE,QF,QG,QH,QI,QJ,QK,QL,QM,QN,QO,QP,QQ]
  refine CallC.of (trimLeftC_spec 48 (by decide) (cutL 46 (Num.trimL [43,45] t))) (by rfl) ?_
  simp (config:={maxSteps:=1000000}) (disch:=((try simp only [awL]);omega)) only [QR,QS,QT,QU,QV,QW,QX,QY,QZ,Q0,Q1,Q2,↓awU,awV,awF,Qa,Qb,Qc,Qd,forall_const,↓reduceIte,↓reduceDIte,↓Qe,Qf,Qg,Qh,Qi,Qj,Qk,Ql,Qm,Qn,Qo,Qp,Qq,Qr,Qs,implies_true,Qt,Qu,Qv,Qw,Qx,Qy,Qz,QA,QB,QC,QD,QE,QF,QG,QH,QI,QJ,QK,QL,QM,QN,QO,QP,QQ]
  refine CallC.of (trimRightC_spec 48 (by decide) (cutR 46 (Num.trimL [43,45] t)) (by omega)) (by rfl) ?_
  obtain ⟨r,hr⟩:∃ r,r=canD t:=⟨_,rfl⟩
  rw [← hr]
  unfold canD at hr
  have f1:(Lib.trimLeftB (cutL 46 (Num.trimL [43,45] t)) 48).length≤2000000:=Nat.le_trans (List.dropWhile_sublist _).length_le (by omega)
  have f2:(Lib.trimRightB (cutR 46 (Num.trimL [43,45] t)) 48).length≤2000000:=Nat.le_trans (trimRB_le _ _) (by omega)
  generalize Lib.trimLeftB (cutL 46 (Num.trimL [43,45] t)) 48=f at *
  generalize Lib.trimRightB (cutR 46 (Num.trimL [43,45] t)) 48=b at *
  simp (config:={maxSteps:=1000000}) (disch:=((try simp only [awL]);omega)) only [QR,QS,QT,QU,QV,QW,QX,QY,QZ,Q0,Q1,Q2,↓awU,awV,awF,Qa,Qb,Qc,Qd,forall_const,↓reduceIte,↓reduceDIte,↓Qe,Qf,Qg,Qh,Qi,Qj,Qk,Ql,Qm,Qn,Qo,Qp,Qq,Qr,Qs,implies_true,Qt,Qu,Qv,Qw,Qx,Qy,Qz,QA,QB,QC,QD,QE,QF,QG,QH,QI,QJ,QK,QL,QM,QN,QO,QP,QQ]
  have os:=orS_spec (G:=G) f [48] false
  refine CallC.frozenE os (by rfl) ?_
  obtain ⟨o1,ho1⟩:∃ o1,o1=if f=[] then [48] else f:=⟨_,rfl⟩
  rw [← ho1]
  have o1l:o1.length≤2000001:=by
   rw [ho1]
   split
   ·simp
   ·omega
  unfold canO at hr
  rw [← ho1] at hr
  have g0:t.getD 0 0=t.getD 0 0:=rfl
  by_cases e1:b=[]
  ·have e1':(b=[])=True:=eq_true e1
   rw [if_pos e1,List.append_nil] at hr
   unfold canS at hr
   by_cases e2:t.getD 0 0=45
   ·have e2':(((t.getD 0 0).toNat:Int)=45)=True:=eq_true (by rw [e2];rfl)
    rw [decide_eq_true e2] at hr
    by_cases e3:o1=[48]
    ·have e3':(o1=[48])=True:=eq_true e3
     rw [if_neg (fun q=>q.2 e3)] at hr
     subst hr
     simp (config:={maxSteps:=1000000}) (disch:=((try simp only [awL]);omega)) only [QR,QS,QT,QU,QV,QW,QX,QY,QZ,Q0,Q1,Q2,e1',e2',e3',↓awU,awV,awF,Qa,Qb,Qc,Qd,forall_const,↓reduceIte,↓reduceDIte,↓Qe,Qf,Qg,Qh,Qi,Qj,Qk,Ql,Qm,Qn,Qo,Qp,Qq,Qr,Qs,implies_true,Qt,Qu,Qv,Qw,Qx,Qy,Qz,QA,QB,QC,QD,QE,QF,QG,QH,QI,QJ,QK,QL,QM,QN,QO,QP,QQ]
     first | done | rfl
    ·have e3':(o1=[48])=False:=eq_false e3
     rw [if_pos ⟨rfl,e3⟩] at hr
     subst hr
     simp (config:={maxSteps:=1000000}) (disch:=((try simp only [awL]);omega)) only [QR,QS,QT,QU,QV,QW,QX,QY,QZ,Q0,Q1,Q2,e1',e2',e3',↓awU,awV,awF,Qa,Qb,Qc,Qd,forall_const,↓reduceIte,↓reduceDIte,↓Qe,Qf,Qg,Qh,Qi,Qj,Qk,Ql,Qm,Qn,Qo,Qp,Qq,Qr,Qs,implies_true,Qt,Qu,Qv,Qw,Qx,Qy,Qz,QA,QB,QC,QD,QE,QF,QG,QH,QI,QJ,QK,QL,QM,QN,QO,QP,QQ]
     first | done | rfl
   ·have e2':(((t.getD 0 0).toNat:Int)=45)=False:=eq_false (fun q=>e2 (UInt8.toNat_inj.1 (by show (t.getD 0 0).toNat=45;omega)))
    rw [decide_eq_false e2,if_neg (fun q=>Bool.false_ne_true q.1)] at hr
    subst hr
    simp (config:={maxSteps:=1000000}) (disch:=((try simp only [awL]);omega)) only [QR,QS,QT,QU,QV,QW,QX,QY,QZ,Q0,Q1,Q2,e1',e2',↓awU,awV,awF,Qa,Qb,Qc,Qd,forall_const,↓reduceIte,↓reduceDIte,↓Qe,Qf,Qg,Qh,Qi,Qj,Qk,Ql,Qm,Qn,Qo,Qp,Qq,Qr,Qs,implies_true,Qt,Qu,Qv,Qw,Qx,Qy,Qz,QA,QB,QC,QD,QE,QF,QG,QH,QI,QJ,QK,QL,QM,QN,QO,QP,QQ]
    first | done | rfl
  ·have e1':(b=[])=False:=eq_false e1
   rw [if_neg e1] at hr
   unfold canS at hr
   by_cases e2:t.getD 0 0=45
   ·have e2':(((t.getD 0 0).toNat:Int)=45)=True:=eq_true (by rw [e2];rfl)
    rw [decide_eq_true e2] at hr
    by_cases e3:o1++46::b=[48]
    ·have e3':(o1++46::b=[48])=True:=eq_true e3
     rw [if_neg (fun q=>q.2 e3)] at hr
     subst hr
     simp (config:={maxSteps:=1000000}) (disch:=((try simp only [awL]);omega)) only [QR,QS,QT,QU,QV,QW,QX,QY,QZ,Q0,Q1,Q2,e1',e2',e3',↓awU,awV,awF,Qa,Qb,Qc,Qd,forall_const,↓reduceIte,↓reduceDIte,↓Qe,Qf,Qg,Qh,Qi,Qj,Qk,Ql,Qm,Qn,Qo,Qp,Qq,Qr,Qs,implies_true,Qt,Qu,Qv,Qw,Qx,Qy,Qz,QA,QB,QC,QD,QE,QF,QG,QH,QI,QJ,QK,QL,QM,QN,QO,QP,QQ]
     first | done | rfl
    ·have e3':(o1++46::b=[48])=False:=eq_false e3
     rw [if_pos ⟨rfl,e3⟩] at hr
     subst hr
     simp (config:={maxSteps:=1000000}) (disch:=((try simp only [awL]);omega)) only [QR,QS,QT,QU,QV,QW,QX,QY,QZ,Q0,Q1,Q2,e1',e2',e3',↓awU,awV,awF,Qa,Qb,Qc,Qd,forall_const,↓reduceIte,↓reduceDIte,↓Qe,Qf,Qg,Qh,Qi,Qj,Qk,Ql,Qm,Qn,Qo,Qp,Qq,Qr,Qs,implies_true,Qt,Qu,Qv,Qw,Qx,Qy,Qz,QA,QB,QC,QD,QE,QF,QG,QH,QI,QJ,QK,QL,QM,QN,QO,QP,QQ]
     first | done | rfl
   ·have e2':(((t.getD 0 0).toNat:Int)=45)=False:=eq_false (fun q=>e2 (UInt8.toNat_inj.1 (by show (t.getD 0 0).toNat=45;omega)))
    rw [decide_eq_false e2,if_neg (fun q=>Bool.false_ne_true q.1)] at hr
    subst hr
    simp (config:={maxSteps:=1000000}) (disch:=((try simp only [awL]);omega)) only [QR,QS,QT,QU,QV,QW,QX,QY,QZ,Q0,Q1,Q2,e1',e2',↓awU,awV,awF,Qa,Qb,Qc,Qd,forall_const,↓reduceIte,↓reduceDIte,↓Qe,Qf,Qg,Qh,Qi,Qj,Qk,Ql,Qm,Qn,Qo,Qp,Qq,Qr,Qs,implies_true,Qt,Qu,Qv,Qw,Qx,Qy,Qz,QA,QB,QC,QD,QE,QF,QG,QH,QI,QJ,QK,QL,QM,QN,QO,QP,QQ]
    first | done | rfl
end Go.Proofs.YtdpjcghiegggbaaGreatDoor
namespace Go.Proofs.YtdpjcghiegggbaaGreatDoor
open Go Go.Proofs Go.Abs
variable {G:Globals}
theorem leap_spec (y:Int) (y1:-9223372036854775808≤y) (y2:y≤9223372036854775807):Ctr Tryz.prog G 64 [.d (.int .i64 y)] [] (.d (.bool (leapB y))) []:=by
 refine Ctr.pure (M:=M0) hmix Tryz.func64 rfl go64 ?_
 obtain ⟨r,hr⟩:∃ r,r=leapB y:=⟨_,rfl⟩
 rw [← hr]
 unfold leapB at hr
 have b1:-4<y.tmod 4∧y.tmod 4<4:=⟨Int.lt_tmod_of_pos y (by decide),Int.tmod_lt_of_pos y (by decide)⟩
 have b2:-100<y.tmod 100∧y.tmod 100<100:=⟨Int.lt_tmod_of_pos y (by decide),Int.tmod_lt_of_pos y (by decide)⟩
 have b3:-400<y.tmod 400∧y.tmod 400<400:=⟨Int.lt_tmod_of_pos y (by decide),Int.tmod_lt_of_pos y (by decide)⟩
 by_cases e1:y.tmod 4=0
 ·have f1:(y.tmod 4=0)=True:=eq_true e1
  rw [decide_eq_true e1] at hr
  by_cases e2:y.tmod 100=0
  ·have f2:(y.tmod 100=0)=True:=eq_true e2
   rw [decide_eq_true e2] at hr
   by_cases e3:y.tmod 400=0
   ·have f3:(y.tmod 400=0)=True:=eq_true e3
    rw [decide_eq_true e3] at hr
    subst hr
    simp (config:={maxSteps:=1000000}) (disch:=((try simp only [awL]);omega)) only [QR,QS,QT,QU,QV,QW,QX,QY,QZ,Q0,Q1,Q2,f1,f2,f3,Tryz.f64,↓awU,awV,awF,Qa,Qb,Qc,Qd,forall_const,↓reduceIte,↓reduceDIte,↓Qe,Qf,Qg,Qh,Qi,Qj,Qk,Ql,Qm,Qn,Qo,Qp,Qq,Qr,Qs,implies_true,Qt,Qu,Qv,Qw,Qx,Qy,Qz,QA,QB,QC,QD,QE,QF,QG,QH,QI,QJ,QK,QL,QM,QN,QO,QP,QQ]
    first | done | rfl | simp [f2,f3]
   ·have f3:(y.tmod 400=0)=False:=eq_false e3
    rw [decide_eq_false e3] at hr
    subst hr
    simp (config:={maxSteps:=1000000}) (disch:=((try simp only [awL]);omega)) only [QR,QS,QT,QU,QV,QW,QX,QY,QZ,Q0,Q1,Q2,f1,f2,f3,Tryz.f64,↓awU,awV,awF,Qa,Qb,Qc,Qd,forall_const,↓reduceIte,↓reduceDIte,↓Qe,Qf,Qg,Qh,Qi,Qj,Qk,Ql,Qm,Qn,Qo,Qp,Qq,Qr,Qs,implies_true,Qt,Qu,Qv,Qw,Qx,Qy,Qz,QA,QB,QC,QD,QE,QF,QG,QH,QI,QJ,QK,QL,QM,QN,QO,QP,QQ]
    first | done | rfl | simp [f2,f3]
  ·have f2:(y.tmod 100=0)=False:=eq_false e2
   rw [decide_eq_false e2] at hr
   subst hr
   simp (config:={maxSteps:=1000000}) (disch:=((try simp only [awL]);omega)) only [QR,QS,QT,QU,QV,QW,QX,QY,QZ,Q0,Q1,Q2,f1,f2,Tryz.f64,↓awU,awV,awF,Qa,Qb,Qc,Qd,forall_const,↓reduceIte,↓reduceDIte,↓Qe,Qf,Qg,Qh,Qi,Qj,Qk,Ql,Qm,Qn,Qo,Qp,Qq,Qr,Qs,implies_true,Qt,Qu,Qv,Qw,Qx,Qy,Qz,QA,QB,QC,QD,QE,QF,QG,QH,QI,QJ,QK,QL,QM,QN,QO,QP,QQ]
   first | done | rfl | simp [f2]
 ·have f1:(y.tmod 4=0)=False:=eq_false e1
  rw [decide_eq_false e1] at hr
  subst hr
  simp (config:={maxSteps:=1000000}) (disch:=((try simp only [awL]);omega)) only [QR,QS,QT,QU,QV,QW,QX,QY,QZ,Q0,Q1,Q2,f1,Tryz.f64,↓awU,awV,awF,Qa,Qb,Qc,Qd,forall_const,↓reduceIte,↓reduceDIte,↓Qe,Qf,Qg,Qh,Qi,Qj,Qk,Ql,Qm,Qn,Qo,Qp,Qq,Qr,Qs,implies_true,Qt,Qu,Qv,Qw,Qx,Qy,Qz,QA,QB,QC,QD,QE,QF,QG,QH,QI,QJ,QK,QL,QM,QN,QO,QP,QQ]
  first | done | rfl | simp [f1]
set_option maxHeartbeats 1000000 in
theorem length_spec (y m:Int) (y1:-9223372036854775808≤y) (y2:y≤9223372036854775807) (m1:-9223372036854775808≤m) (m2:m≤9223372036854775807):Ctr Tryz.prog G 38 [.d (.int .i64 y),.d (.int .i64 m)] [] (.d (.int .i64 (lenM y m))) []:=by
 refine Ctr.pure (M:=M0) hmix Tryz.func38 rfl go38 ?_
 obtain ⟨r,hr⟩:∃ r,r=lenM y m:=⟨_,rfl⟩
 rw [← hr]
 unfold lenM at hr
 by_cases e1:m=2
 ·subst e1
  rw [if_pos rfl] at hr
  simp (config:={maxSteps:=1000000}) (disch:=((try simp only [awL]);omega)) only [QR,QS,QT,QU,QV,QW,QX,QY,QZ,Q0,Q1,Q2,Tryz.f38,↓awU,awV,awF,Qa,Qb,Qc,Qd,forall_const,↓reduceIte,↓reduceDIte,↓Qe,Qf,Qg,Qh,Qi,Qj,Qk,Ql,Qm,Qn,Qo,Qp,Qq,Qr,Qs,implies_true,Qt,Qu,Qv,Qw,Qx,Qy,Qz,QA,QB,QC,QD,QE,QF,QG,QH,QI,QJ,QK,QL,QM,QN,QO,QP,QQ]
  refine CallC.of (leap_spec y y1 y2) (by rfl) ?_
  cases e2:leapB y
  ·rw [e2,if_neg Bool.false_ne_true] at hr
   subst hr
   simp (config:={maxSteps:=1000000}) (disch:=((try simp only [awL]);omega)) only [QR,QS,QT,QU,QV,QW,QX,QY,QZ,Q0,Q1,Q2,↓awU,awV,awF,Qa,Qb,Qc,Qd,forall_const,↓reduceIte,↓reduceDIte,↓Qe,Qf,Qg,Qh,Qi,Qj,Qk,Ql,Qm,Qn,Qo,Qp,Qq,Qr,Qs,implies_true,Qt,Qu,Qv,Qw,Qx,Qy,Qz,QA,QB,QC,QD,QE,QF,QG,QH,QI,QJ,QK,QL,QM,QN,QO,QP,QQ]
   first | done | rfl
  ·rw [e2,if_pos rfl] at hr
   subst hr
   simp (config:={maxSteps:=1000000}) (disch:=((try simp only [awL]);omega)) only [QR,QS,QT,QU,QV,QW,QX,QY,QZ,Q0,Q1,Q2,↓awU,awV,awF,Qa,Qb,Qc,Qd,forall_const,↓reduceIte,↓reduceDIte,↓Qe,Qf,Qg,Qh,Qi,Qj,Qk,Ql,Qm,Qn,Qo,Qp,Qq,Qr,Qs,implies_true,Qt,Qu,Qv,Qw,Qx,Qy,Qz,QA,QB,QC,QD,QE,QF,QG,QH,QI,QJ,QK,QL,QM,QN,QO,QP,QQ]
   first | done | rfl
 ·have f1:(m=2)=False:=eq_false e1
  rw [if_neg e1] at hr
  by_cases e4:m=4
  ·subst e4;rw [if_pos (by omega)] at hr;subst hr
   simp (config:={maxSteps:=1000000}) (disch:=((try simp only [awL]);omega)) only [QR,QS,QT,QU,QV,QW,QX,QY,QZ,Q0,Q1,Q2,Tryz.f38,↓awU,awV,awF,Qa,Qb,Qc,Qd,forall_const,↓reduceIte,↓reduceDIte,↓Qe,Qf,Qg,Qh,Qi,Qj,Qk,Ql,Qm,Qn,Qo,Qp,Qq,Qr,Qs,implies_true,Qt,Qu,Qv,Qw,Qx,Qy,Qz,QA,QB,QC,QD,QE,QF,QG,QH,QI,QJ,QK,QL,QM,QN,QO,QP,QQ]
   first | done | rfl
  by_cases e6:m=6
  ·subst e6;rw [if_pos (by omega)] at hr;subst hr
   simp (config:={maxSteps:=1000000}) (disch:=((try simp only [awL]);omega)) only [QR,QS,QT,QU,QV,QW,QX,QY,QZ,Q0,Q1,Q2,Tryz.f38,↓awU,awV,awF,Qa,Qb,Qc,Qd,forall_const,↓reduceIte,↓reduceDIte,↓Qe,Qf,Qg,Qh,Qi,Qj,Qk,Ql,Qm,Qn,Qo,Qp,Qq,Qr,Qs,implies_true,Qt,Qu,Qv,Qw,Qx,Qy,Qz,QA,QB,QC,QD,QE,QF,QG,QH,QI,QJ,QK,QL,QM,QN,QO,QP,QQ]
   first | done | rfl
  by_cases e9:m=9
  ·subst e9;rw [if_pos (by omega)] at hr;subst hr
   simp (config:={maxSteps:=1000000}) (disch:=((try simp only [awL]);omega)) only [QR,QS,QT,QU,QV,QW,QX,QY,QZ,Q0,Q1,Q2,Tryz.f38,↓awU,awV,awF,Qa,Qb,Qc,Qd,forall_const,↓reduceIte,↓reduceDIte,↓Qe,Qf,Qg,Qh,Qi,Qj,Qk,Ql,Qm,Qn,Qo,Qp,Qq,Qr,Qs,implies_true,Qt,Qu,Qv,Qw,Qx,Qy,Qz,QA,QB,QC,QD,QE,QF,QG,QH,QI,QJ,QK,QL,QM,QN,QO,QP,QQ]
   first | done | rfl
  by_cases e11:m=11
  ·subst e11;rw [if_pos (by omega)] at hr;subst hr
   simp (config:={maxSteps:=1000000}) (disch:=((try simp only [awL]);omega)) only [QR,QS,QT,QU,QV,QW,QX,QY,QZ,Q0,Q1,Q2,Tryz.f38,↓awU,awV,awF,Qa,Qb,Qc,Qd,forall_const,↓reduceIte,↓reduceDIte,↓Qe,Qf,Qg,Qh,Qi,Qj,Qk,Ql,Qm,Qn,Qo,Qp,Qq,Qr,Qs,implies_true,Qt,Qu,Qv,Qw,Qx,Qy,Qz,QA,QB,QC,QD,QE,QF,QG,QH,QI,QJ,QK,QL,QM,QN,QO,QP,QQ]
   first | done | rfl
  rw [if_neg (by omega)] at hr
  subst hr
  have f4:(m=4)=False:=eq_false e4
  have f6:(m=6)=False:=eq_false e6
  have f9:(m=9)=False:=eq_false e9
  have f11:(m=11)=False:=eq_false e11
  simp (config:={maxSteps:=1000000}) (disch:=((try simp only [awL]);omega)) only [QR,QS,QT,QU,QV,QW,QX,QY,QZ,Q0,Q1,Q2,f1,f4,f6,f9,f11,Tryz.f38,↓awU,awV,awF,Qa,Qb,Qc,Qd,forall_const,↓reduceIte,↓reduceDIte,↓Qe,Qf,Qg,Qh,Qi,Qj,Qk,Ql,Qm,Qn,Qo,Qp,Qq,Qr,Qs,implies_true,Qt,Qu,Qv,Qw,Qx,Qy,Qz,QA,QB,QC,QD,QE,QF,QG,QH,QI,QJ,QK,QL,QM,QN,QO,QP,QQ]
  first | done | rfl
theorem began_spec (y:Int) (y1:1≤y) (y2:y≤100000):Ctr Tryz.prog G 37 [.d (.int .i64 y)] [] (.d (.int .i64 (bgn y))) []:=by
 refine Ctr.pure (M:=M0) hmix Tryz.func37 rfl go37 ?_
 have d1:(y - 1).tdiv 4=(y - 1) / 4:=tdiv_pos _ (by omega)
 have d2:(y - 1).tdiv 100=(y - 1) / 100:=tdiv_pos _ (by omega)
 have d3:(y - 1).tdiv 400=(y - 1) / 400:=tdiv_pos _ (by omega)
 rw [bgn_eq y1]
 simp (config:={maxSteps:=1000000}) (disch:=((try simp only [awL]);omega)) only [QR,QS,QT,QU,QV,QW,QX,QY,QZ,Q0,Q1,Q2,d1,d2,d3,Tryz.f37,↓awU,awV,awF,Qa,Qb,Qc,Qd,forall_const,↓reduceIte,↓reduceDIte,↓Qe,Qf,Qg,Qh,Qi,Qj,Qk,Ql,Qm,Qn,Qo,Qp,Qq,Qr,Qs,implies_true,Qt,Qu,Qv,Qw,Qx,Qy,Qz,QA,QB,QC,QD,QE,QF,QG,QH,QI,QJ,QK,QL,QM,QN,QO,QP,QQ]
 first | done | rfl
def dayV (y m d:Int):Int:=if okDt y m d=true then dayN y m d else 0
theorem bgn_le {y:Int} (h1:1≤y) (h2:y≤10000):0≤bgn y∧bgn y≤3700000:=by
 rw [bgn_eq h1];omega
end Go.Proofs.YtdpjcghiegggbaaGreatDoor
namespace Go.Proofs.YtdpjcghiegggbaaGreatDoor
open Go Go.Proofs Go.Abs
variable {G:Globals}
set_option maxHeartbeats 4000000 in
theorem day_spec (y m d:Int) (y1:-9223372036854775808≤y) (y2:y≤9223372036854775807) (m1:-9223372036854775808≤m) (m2:m≤9223372036854775807) (d1:-9223372036854775808≤d) (d2:d≤9223372036854775807) :
  Ctr Tryz.prog G 36 [.d (.int .i64 y),.d (.int .i64 m),.d (.int .i64 d)] [] (.d (.tup [.int .i64 (dayV y m d),.bool (okDt y m d)])) []:=by
 refine Ctr.pure (M:=M0) hmix Tryz.func36 rfl go36 ?_
 have lp:=lenM_pos y m
 by_cases ok:1≤y∧y≤9999∧1≤m∧m≤12∧1≤d∧d≤lenM y m
 ·have okd:okDt y m d=true:=decide_eq_true ok
  have dv:dayV y m d=dayN y m d:=by unfold dayV;rw [if_pos okd]
  rw [okd,dv]
  obtain ⟨o1,o2,o3,o4,o5,o6⟩:=ok
  have bl:=bgn_le o1 (by omega)
  obtain ⟨k,hk,hk2⟩:∃ k:Nat,m=(k+1:Nat)∧k≤11:=⟨(m - 1).toNat,by omega,by omega⟩
  have ml:=monS_le y k
  have e0:dayN y m d=bgn y+monS y k+d - 1 - 719162:=by unfold dayN;rw [show (m - 1).toNat=k by omega]
  rw [e0]
  simp (config:={maxSteps:=1000000}) (disch:=((try simp only [awL]);omega)) only [QR,QS,QT,QU,QV,QW,QX,QY,QZ,Q0,Q1,Q2,Tryz.f36,↓awU,awV,awF,Qa,Qb,Qc,Qd,forall_const,↓reduceIte,↓reduceDIte,↓Qe,Qf,Qg,Qh,Qi,Qj,Qk,Ql,Qm,Qn,Qo,Qp,Qq,Qr,Qs,implies_true,Qt,Qu,Qv,Qw,Qx,Qy,Qz,QA,QB,QC,QD,QE,QF,QG,QH,QI,QJ,QK,QL,QM,QN,QO,QP,QQ]
  refine CallC.of (length_spec y m y1 y2 m1 m2) (by rfl) ?_
  simp (config:={maxSteps:=1000000}) (disch:=((try simp only [awL]);omega)) only [QR,QS,QT,QU,QV,QW,QX,QY,QZ,Q0,Q1,Q2,↓awU,awV,awF,Qa,Qb,Qc,Qd,forall_const,↓reduceIte,↓reduceDIte,↓Qe,Qf,Qg,Qh,Qi,Qj,Qk,Ql,Qm,Qn,Qo,Qp,Qq,Qr,Qs,implies_true,Qt,Qu,Qv,Qw,Qx,Qy,Qz,QA,QB,QC,QD,QE,QF,QG,QH,QI,QJ,QK,QL,QM,QN,QO,QP,QQ]
  refine CallC.of (began_spec y o1 (by omega)) (by rfl) ?_
  simp (config:={maxSteps:=1000000}) (disch:=((try simp only [awL]);omega)) only [QR,QS,QT,QU,QV,QW,QX,QY,QZ,Q0,Q1,Q2,↓awU,awV,awF,Qa,Qb,Qc,Qd,forall_const,↓reduceIte,↓reduceDIte,↓Qe,Qf,Qg,Qh,Qi,Qj,Qk,Ql,Qm,Qn,Qo,Qp,Qq,Qr,Qs,implies_true,Qt,Qu,Qv,Qw,Qx,Qy,Qz,QA,QB,QC,QD,QE,QF,QG,QH,QI,QJ,QK,QL,QM,QN,QO,QP,QQ]
  refine LoopC.fr 3 (α:=Nat) (fun i=>k - i) (fun i=>[(8,.d (.int .i64 (bgn y+d - 1+monS y i))),(9,.d (.int .i64 (i+1:Nat)))]) (fun _=>[]) (fun i=>i≤k) 0 (Nat.zero_le _) ?_ ?_
  ·exact ⟨[],rfl,by simp,by simp [setsA,keepA,SWeak,AWeak,monS],by simp [HWeak,BWeak,SWeak,AWeak]⟩
  ·intro i hi
   have mi:=monS_le y i
   have ms:monS y (i+1)=monS y i+lenM y (i+1:Nat):=rfl
   have mi2:=monS_le y (i+1)
   simp only [awK,Nat.reduceMod,Nat.reduceDiv,reduceIte]
   rcases Nat.lt_or_ge i k with h | h
   ·simp (config:={maxSteps:=1000000}) (disch:=((try simp only [awL]);omega)) only [QR,QS,QT,QU,QV,QW,QX,QY,QZ,Q0,Q1,Q2,↓awU,awV,awF,Qa,Qb,Qc,Qd,forall_const,↓reduceIte,↓reduceDIte,↓Qe,Qf,Qg,Qh,Qi,Qj,Qk,Ql,Qm,Qn,Qo,Qp,Qq,Qr,Qs,implies_true,Qt,Qu,Qv,Qw,Qx,Qy,Qz,QA,QB,QC,QD,QE,QF,QG,QH,QI,QJ,QK,QL,QM,QN,QO,QP,QQ]
    refine CallC.of (length_spec y ((i+1:Nat):Int) y1 y2 (by omega) (by omega)) (by rfl) ?_
    have e1:bgn y+d - 1+monS y i+lenM y ((i+1:Nat):Int)=bgn y+d - 1+monS y (i+1):=by omega
    have l2:=lenM_pos y ((i+1:Nat):Int)
    simp (config:={maxSteps:=1000000}) (disch:=((try simp only [awL]);omega)) only [QR,QS,QT,QU,QV,QW,QX,QY,QZ,Q0,Q1,Q2,e1,↓awU,awV,awF,Qa,Qb,Qc,Qd,forall_const,↓reduceIte,↓reduceDIte,↓Qe,Qf,Qg,Qh,Qi,Qj,Qk,Ql,Qm,Qn,Qo,Qp,Qq,Qr,Qs,implies_true,Qt,Qu,Qv,Qw,Qx,Qy,Qz,QA,QB,QC,QD,QE,QF,QG,QH,QI,QJ,QK,QL,QM,QN,QO,QP,QQ]
    first
    | exact ⟨i+1,h,by simp only;omega,⟨[],rfl,by simp,by simp [setsA,keepA,SWeak,AWeak],by simp [HWeak,BWeak,SWeak,AWeak]⟩⟩
   ·have e:i=k:=by omega
    subst e
    have e2:bgn y+d - 1+monS y i - 719162=bgn y+monS y i+d - 1 - 719162:=by omega
    simp (config:={maxSteps:=1000000}) (disch:=((try simp only [awL]);omega)) only [QR,QS,QT,QU,QV,QW,QX,QY,QZ,Q0,Q1,Q2,e2,↓awU,awV,awF,Qa,Qb,Qc,Qd,forall_const,↓reduceIte,↓reduceDIte,↓Qe,Qf,Qg,Qh,Qi,Qj,Qk,Ql,Qm,Qn,Qo,Qp,Qq,Qr,Qs,implies_true,Qt,Qu,Qv,Qw,Qx,Qy,Qz,QA,QB,QC,QD,QE,QF,QG,QH,QI,QJ,QK,QL,QM,QN,QO,QP,QQ]
    first | done | rfl
 ·have okd:okDt y m d=false:=decide_eq_false ok
  have dv:dayV y m d=0:=by unfold dayV;rw [okd];rfl
  rw [okd,dv]
  by_cases o1:1≤y
  ·by_cases o2:y≤9999
   ·by_cases o3:1≤m
    ·by_cases o4:m≤12
     ·by_cases o5:1≤d
      ·have o6:¬ d≤lenM y m:=fun q=>ok ⟨o1,o2,o3,o4,o5,q⟩
       simp (config:={maxSteps:=1000000}) (disch:=((try simp only [awL]);omega)) only [QR,QS,QT,QU,QV,QW,QX,QY,QZ,Q0,Q1,Q2,Tryz.f36,↓awU,awV,awF,Qa,Qb,Qc,Qd,forall_const,↓reduceIte,↓reduceDIte,↓Qe,Qf,Qg,Qh,Qi,Qj,Qk,Ql,Qm,Qn,Qo,Qp,Qq,Qr,Qs,implies_true,Qt,Qu,Qv,Qw,Qx,Qy,Qz,QA,QB,QC,QD,QE,QF,QG,QH,QI,QJ,QK,QL,QM,QN,QO,QP,QQ]
       refine CallC.of (length_spec y m y1 y2 m1 m2) (by rfl) ?_
       simp (config:={maxSteps:=1000000}) (disch:=((try simp only [awL]);omega)) only [QR,QS,QT,QU,QV,QW,QX,QY,QZ,Q0,Q1,Q2,↓awU,awV,awF,Qa,Qb,Qc,Qd,forall_const,↓reduceIte,↓reduceDIte,↓Qe,Qf,Qg,Qh,Qi,Qj,Qk,Ql,Qm,Qn,Qo,Qp,Qq,Qr,Qs,implies_true,Qt,Qu,Qv,Qw,Qx,Qy,Qz,QA,QB,QC,QD,QE,QF,QG,QH,QI,QJ,QK,QL,QM,QN,QO,QP,QQ]
       first | done | rfl
      ·simp (config:={maxSteps:=1000000}) (disch:=((try simp only [awL]);omega)) only [QR,QS,QT,QU,QV,QW,QX,QY,QZ,Q0,Q1,Q2,Tryz.f36,↓awU,awV,awF,Qa,Qb,Qc,Qd,forall_const,↓reduceIte,↓reduceDIte,↓Qe,Qf,Qg,Qh,Qi,Qj,Qk,Ql,Qm,Qn,Qo,Qp,Qq,Qr,Qs,implies_true,Qt,Qu,Qv,Qw,Qx,Qy,Qz,QA,QB,QC,QD,QE,QF,QG,QH,QI,QJ,QK,QL,QM,QN,QO,QP,QQ]
       first | done | rfl
     ·simp (config:={maxSteps:=1000000}) (disch:=((try simp only [awL]);omega)) only [QR,QS,QT,QU,QV,QW,QX,QY,QZ,Q0,Q1,Q2,Tryz.f36,↓awU,awV,awF,Qa,Qb,Qc,Qd,forall_const,↓reduceIte,↓reduceDIte,↓Qe,Qf,Qg,Qh,Qi,Qj,Qk,Ql,Qm,Qn,Qo,Qp,Qq,Qr,Qs,implies_true,Qt,Qu,Qv,Qw,Qx,Qy,Qz,QA,QB,QC,QD,QE,QF,QG,QH,QI,QJ,QK,QL,QM,QN,QO,QP,QQ]
      first | done | rfl
    ·simp (config:={maxSteps:=1000000}) (disch:=((try simp only [awL]);omega)) only [QR,QS,QT,QU,QV,QW,QX,QY,QZ,Q0,Q1,Q2,Tryz.f36,↓awU,awV,awF,Qa,Qb,Qc,Qd,forall_const,↓reduceIte,↓reduceDIte,↓Qe,Qf,Qg,Qh,Qi,Qj,Qk,Ql,Qm,Qn,Qo,Qp,Qq,Qr,Qs,implies_true,Qt,Qu,Qv,Qw,Qx,Qy,Qz,QA,QB,QC,QD,QE,QF,QG,QH,QI,QJ,QK,QL,QM,QN,QO,QP,QQ]
     first | done | rfl
   ·simp (config:={maxSteps:=1000000}) (disch:=((try simp only [awL]);omega)) only [QR,QS,QT,QU,QV,QW,QX,QY,QZ,Q0,Q1,Q2,Tryz.f36,↓awU,awV,awF,Qa,Qb,Qc,Qd,forall_const,↓reduceIte,↓reduceDIte,↓Qe,Qf,Qg,Qh,Qi,Qj,Qk,Ql,Qm,Qn,Qo,Qp,Qq,Qr,Qs,implies_true,Qt,Qu,Qv,Qw,Qx,Qy,Qz,QA,QB,QC,QD,QE,QF,QG,QH,QI,QJ,QK,QL,QM,QN,QO,QP,QQ]
    first | done | rfl
  ·simp (config:={maxSteps:=1000000}) (disch:=((try simp only [awL]);omega)) only [QR,QS,QT,QU,QV,QW,QX,QY,QZ,Q0,Q1,Q2,Tryz.f36,↓awU,awV,awF,Qa,Qb,Qc,Qd,forall_const,↓reduceIte,↓reduceDIte,↓Qe,Qf,Qg,Qh,Qi,Qj,Qk,Ql,Qm,Qn,Qo,Qp,Qq,Qr,Qs,implies_true,Qt,Qu,Qv,Qw,Qx,Qy,Qz,QA,QB,QC,QD,QE,QF,QG,QH,QI,QJ,QK,QL,QM,QN,QO,QP,QQ]
   first | done | rfl
end Go.Proofs.YtdpjcghiegggbaaGreatDoor
namespace Go.Proofs.YtdpjcghiegggbaaGreatDoor
open Go Go.Proofs Go.Abs
variable {G:Globals}
theorem IsDt.range {N y:Int} {m:Nat} {r:Int} (h:IsDt N y m r):0≤N∧N<3652059:=by
 have a:=h.year
 have b:=bgn_le h.1 (by have:=h.2.1;omega)
 have c:bgn (y+1)≤bgn 10000:=by
  rcases Int.lt_or_le (y+1) 10000 with q | q
  ·have:=bgn_lt (y:=y+1) (z:=10000) (by have:=h.1;omega) q
   have:=bgn_succ (y:=y+1) (by have:=h.1;omega)
   have:365≤yrL (y+1):=by unfold yrL;split<;>omega
   omega
  ·have:y+1=10000:=by have:=h.2.1;omega
   rw [this];exact Int.le_refl _
 rw [bgn_end] at c
 omega
theorem IsDt.le_of {N y z:Int} {m:Nat} {r:Int} (h:IsDt N y m r) (hz:1≤z) (hb:bgn z≤N):z≤y:=by
 rcases Int.lt_or_le y z with q | q
 ·have:=bgn_lt h.1 q;have:=h.year;omega
 ·exact q
set_option maxHeartbeats 4000000 in
theorem tdate_spec (n:Int) {y:Int} {m:Nat} {r:Int} (h:IsDt (n+719162) y m r) :
  Ctr Tryz.prog G 10 [.d (.int .i64 n)] [] (.d (.tup [.int .i64 y,.int .i64 (m+1:Nat),.int .i64 (r+1),.bool true])) []:=by
 refine Ctr.pure (M:=M0) hmix Tryz.func10 rfl go10 ?_
 have rg:=h.range
 have hy:=h.year
 obtain ⟨h1,h2,h3,h4,h5,h6⟩:=h
 have dl:dayV 9999 12 31=2932896∧okDt 9999 12 31=true:=by decide +kernel
 have sp:=day_spec (G:=G) 9999 12 31 (by decide) (by decide) (by decide) (by decide) (by decide) (by decide)
 rw [dl.1,dl.2] at sp
 obtain ⟨N,hN⟩:∃ N,N=n+719162:=⟨_,rfl⟩
 rw [← hN] at rg hy h4
 have q1:N.tdiv 146097=N / 146097:=tdiv_pos _ (by omega)
 have q2:N.tmod 146097=N % 146097:=tmod_pos _ (by omega)
 have q3:(N % 146097).tdiv 36524=N % 146097 / 36524:=tdiv_pos _ (by omega)
 obtain ⟨y0,hy0⟩:∃ y0,y0=N / 146097*400+min (N % 146097 / 36524) 3*100+1:=⟨_,rfl⟩
 have y01:1≤y0∧y0≤10000:=by omega
 have b0:bgn y0≤N:=by
  rw [bgn_eq y01.1,hy0]
  have:N / 146097*400+min (N % 146097 / 36524) 3*100+1 - 1=400*(N / 146097)+100*min (N % 146097 / 36524) 3:=by omega
  rw [this]
  omega
 have hD:IsDt N y m r:=⟨h1,h2,h3,h4,h5,h6⟩
 have yle:=hD.le_of y01.1 b0
 have mn:(if 3<N % 146097 / 36524 then 3 else N % 146097 / 36524)=min (N % 146097 / 36524) 3:=by split<;>omega
 have e0:n+719162=N:=hN.symm
 have f0:N / 146097*400+min (N % 146097 / 36524) 3*100+1=y0:=hy0.symm
 simp (config:={maxSteps:=1000000}) (disch:=((try simp only [awL]);omega)) only [QR,QS,QT,QU,QV,QW,QX,QY,QZ,Q0,Q1,Q2,Tryz.f10,↓awU,awV,awF,Qa,Qb,Qc,Qd,forall_const,↓reduceIte,↓reduceDIte,↓Qe,Qf,Qg,Qh,Qi,Qj,Qk,Ql,Qm,Qn,Qo,Qp,Qq,Qr,Qs,implies_true,Qt,Qu,Qv,Qw,Qx,Qy,Qz,QA,QB,QC,QD,QE,QF,QG,QH,QI,QJ,QK,QL,QM,QN,QO,QP,QQ]
 refine CallC.of sp (by rfl) ?_
 simp (config:={maxSteps:=1000000}) (disch:=((try simp only [awL]);omega)) only [QR,QS,QT,QU,QV,QW,QX,QY,QZ,Q0,Q1,Q2,e0,q1,q2,q3,mn,f0,↓awU,awV,awF,Qa,Qb,Qc,Qd,forall_const,↓reduceIte,↓reduceDIte,↓Qe,Qf,Qg,Qh,Qi,Qj,Qk,Ql,Qm,Qn,Qo,Qp,Qq,Qr,Qs,implies_true,Qt,Qu,Qv,Qw,Qx,Qy,Qz,QA,QB,QC,QD,QE,QF,QG,QH,QI,QJ,QK,QL,QM,QN,QO,QP,QQ]
 refine LoopC.fr 256 (α:=Int) (fun x=>(y - x).toNat) (fun x=>[(2,.d (.int .i64 x))]) (fun _=>[]) (fun x=>1≤x∧x≤y∧bgn x≤N) y0 ⟨y01.1,yle,b0⟩ ?_ ?_
 ·exact ⟨[],rfl,by simp,by simp [setsA,keepA,SWeak,AWeak],by simp [HWeak,BWeak,SWeak,AWeak]⟩
 rintro x ⟨x1,x2,x3⟩
 have bx:=bgn_le x1 (by omega)
 simp only [awK,Nat.reduceMod,Nat.reduceDiv,reduceIte]
 rcases Int.lt_or_le x y with q | q
 ·have bm:=bgn_lt x1 q
  simp (config:={maxSteps:=1000000}) (disch:=((try simp only [awL]);omega)) only [QR,QS,QT,QU,QV,QW,QX,QY,QZ,Q0,Q1,Q2,↓awU,awV,awF,Qa,Qb,Qc,Qd,forall_const,↓reduceIte,↓reduceDIte,↓Qe,Qf,Qg,Qh,Qi,Qj,Qk,Ql,Qm,Qn,Qo,Qp,Qq,Qr,Qs,implies_true,Qt,Qu,Qv,Qw,Qx,Qy,Qz,QA,QB,QC,QD,QE,QF,QG,QH,QI,QJ,QK,QL,QM,QN,QO,QP,QQ]
  refine CallC.of (began_spec (x+1) (by omega) (by omega)) (by rfl) ?_
  simp (config:={maxSteps:=1000000}) (disch:=((try simp only [awL]);omega)) only [QR,QS,QT,QU,QV,QW,QX,QY,QZ,Q0,Q1,Q2,↓awU,awV,awF,Qa,Qb,Qc,Qd,forall_const,↓reduceIte,↓reduceDIte,↓Qe,Qf,Qg,Qh,Qi,Qj,Qk,Ql,Qm,Qn,Qo,Qp,Qq,Qr,Qs,implies_true,Qt,Qu,Qv,Qw,Qx,Qy,Qz,QA,QB,QC,QD,QE,QF,QG,QH,QI,QJ,QK,QL,QM,QN,QO,QP,QQ]
  first
  | exact ⟨x+1,⟨by omega,by omega,by omega⟩,by simp only;omega,⟨[],rfl,by simp,by simp [setsA,keepA,SWeak,AWeak],by simp [HWeak,BWeak,SWeak,AWeak]⟩⟩
 have e:x=y:=by omega
 subst e
 have after:True:=trivial
 by_cases y9:x<9999
 ·simp (config:={maxSteps:=1000000}) (disch:=((try simp only [awL]);omega)) only [QR,QS,QT,QU,QV,QW,QX,QY,QZ,Q0,Q1,Q2,↓awU,awV,awF,Qa,Qb,Qc,Qd,forall_const,↓reduceIte,↓reduceDIte,↓Qe,Qf,Qg,Qh,Qi,Qj,Qk,Ql,Qm,Qn,Qo,Qp,Qq,Qr,Qs,implies_true,Qt,Qu,Qv,Qw,Qx,Qy,Qz,QA,QB,QC,QD,QE,QF,QG,QH,QI,QJ,QK,QL,QM,QN,QO,QP,QQ]
  refine CallC.of (began_spec (x+1) (by omega) (by omega)) (by rfl) ?_
  simp (config:={maxSteps:=1000000}) (disch:=((try simp only [awL]);omega)) only [QR,QS,QT,QU,QV,QW,QX,QY,QZ,Q0,Q1,Q2,↓awU,awV,awF,Qa,Qb,Qc,Qd,forall_const,↓reduceIte,↓reduceDIte,↓Qe,Qf,Qg,Qh,Qi,Qj,Qk,Ql,Qm,Qn,Qo,Qp,Qq,Qr,Qs,implies_true,Qt,Qu,Qv,Qw,Qx,Qy,Qz,QA,QB,QC,QD,QE,QF,QG,QH,QI,QJ,QK,QL,QM,QN,QO,QP,QQ]
  refine CallC.of (began_spec x (by omega) (by omega)) (by rfl) ?_
  simp (config:={maxSteps:=1000000}) (disch:=((try simp only [awL]);omega)) only [QR,QS,QT,QU,QV,QW,QX,QY,QZ,Q0,Q1,Q2,↓awU,awV,awF,Qa,Qb,Qc,Qd,forall_const,↓reduceIte,↓reduceDIte,↓Qe,Qf,Qg,Qh,Qi,Qj,Qk,Ql,Qm,Qn,Qo,Qp,Qq,Qr,Qs,implies_true,Qt,Qu,Qv,Qw,Qx,Qy,Qz,QA,QB,QC,QD,QE,QF,QG,QH,QI,QJ,QK,QL,QM,QN,QO,QP,QQ]
  refine LoopC.fr 4 (α:=Nat) (fun j=>m - j) (fun j=>[(3,.d (.int .i64 (j+1:Nat))),(8,.d (.int .i64 (N - bgn x - monS x j)))]) (fun _=>[]) (fun j=>j≤m) 0 (Nat.zero_le _) ?_ ?_
  ·exact ⟨[],rfl,by simp,by simp [setsA,keepA,SWeak,AWeak,monS],by simp [HWeak,BWeak,SWeak,AWeak]⟩
  ·intro j hj
   have mj:=monS_le x j
   have lj:=lenM_pos x ((j+1:Nat):Int)
   have ms:monS x (j+1)=monS x j+lenM x (j+1:Nat):=rfl
   simp only [awK,Nat.reduceMod,Nat.reduceDiv,reduceIte]
   simp (config:={maxSteps:=1000000}) (disch:=((try simp only [awL]);omega)) only [QR,QS,QT,QU,QV,QW,QX,QY,QZ,Q0,Q1,Q2,↓awU,awV,awF,Qa,Qb,Qc,Qd,forall_const,↓reduceIte,↓reduceDIte,↓Qe,Qf,Qg,Qh,Qi,Qj,Qk,Ql,Qm,Qn,Qo,Qp,Qq,Qr,Qs,implies_true,Qt,Qu,Qv,Qw,Qx,Qy,Qz,QA,QB,QC,QD,QE,QF,QG,QH,QI,QJ,QK,QL,QM,QN,QO,QP,QQ]
   refine CallC.of (length_spec x ((j+1:Nat):Int) (by omega) (by omega) (by omega) (by omega)) (by rfl) ?_
   rcases Nat.lt_or_ge j m with h | h
   ·have:=monS_lt (y:=x) h
    have e1:N - bgn x - monS x j - lenM x ((j+1:Nat):Int)=N - bgn x - monS x (j+1):=by omega
    simp (config:={maxSteps:=1000000}) (disch:=((try simp only [awL]);omega)) only [QR,QS,QT,QU,QV,QW,QX,QY,QZ,Q0,Q1,Q2,↓awU,awV,awF,Qa,Qb,Qc,Qd,forall_const,↓reduceIte,↓reduceDIte,↓Qe,Qf,Qg,Qh,Qi,Qj,Qk,Ql,Qm,Qn,Qo,Qp,Qq,Qr,Qs,implies_true,Qt,Qu,Qv,Qw,Qx,Qy,Qz,QA,QB,QC,QD,QE,QF,QG,QH,QI,QJ,QK,QL,QM,QN,QO,QP,QQ]
    refine CallC.of (length_spec x ((j+1:Nat):Int) (by omega) (by omega) (by omega) (by omega)) (by rfl) ?_
    simp (config:={maxSteps:=1000000}) (disch:=((try simp only [awL]);omega)) only [QR,QS,QT,QU,QV,QW,QX,QY,QZ,Q0,Q1,Q2,e1,↓awU,awV,awF,Qa,Qb,Qc,Qd,forall_const,↓reduceIte,↓reduceDIte,↓Qe,Qf,Qg,Qh,Qi,Qj,Qk,Ql,Qm,Qn,Qo,Qp,Qq,Qr,Qs,implies_true,Qt,Qu,Qv,Qw,Qx,Qy,Qz,QA,QB,QC,QD,QE,QF,QG,QH,QI,QJ,QK,QL,QM,QN,QO,QP,QQ]
    first
    | exact ⟨j+1,h,by simp only;omega,⟨[],rfl,by simp,by simp [setsA,keepA,SWeak,AWeak],by simp [HWeak,BWeak,SWeak,AWeak]⟩⟩
   ·have e:j=m:=by omega
    subst e
    have e1:N - bgn x - monS x j=r:=by omega
    simp (config:={maxSteps:=1000000}) (disch:=((try simp only [awL]);omega)) only [QR,QS,QT,QU,QV,QW,QX,QY,QZ,Q0,Q1,Q2,e1,↓awU,awV,awF,Qa,Qb,Qc,Qd,forall_const,↓reduceIte,↓reduceDIte,↓Qe,Qf,Qg,Qh,Qi,Qj,Qk,Ql,Qm,Qn,Qo,Qp,Qq,Qr,Qs,implies_true,Qt,Qu,Qv,Qw,Qx,Qy,Qz,QA,QB,QC,QD,QE,QF,QG,QH,QI,QJ,QK,QL,QM,QN,QO,QP,QQ]
    first | done | rfl
 ·simp (config:={maxSteps:=1000000}) (disch:=((try simp only [awL]);omega)) only [QR,QS,QT,QU,QV,QW,QX,QY,QZ,Q0,Q1,Q2,↓awU,awV,awF,Qa,Qb,Qc,Qd,forall_const,↓reduceIte,↓reduceDIte,↓Qe,Qf,Qg,Qh,Qi,Qj,Qk,Ql,Qm,Qn,Qo,Qp,Qq,Qr,Qs,implies_true,Qt,Qu,Qv,Qw,Qx,Qy,Qz,QA,QB,QC,QD,QE,QF,QG,QH,QI,QJ,QK,QL,QM,QN,QO,QP,QQ]
  refine CallC.of (began_spec x (by omega) (by omega)) (by rfl) ?_
  simp (config:={maxSteps:=1000000}) (disch:=((try simp only [awL]);omega)) only [QR,QS,QT,QU,QV,QW,QX,QY,QZ,Q0,Q1,Q2,↓awU,awV,awF,Qa,Qb,Qc,Qd,forall_const,↓reduceIte,↓reduceDIte,↓Qe,Qf,Qg,Qh,Qi,Qj,Qk,Ql,Qm,Qn,Qo,Qp,Qq,Qr,Qs,implies_true,Qt,Qu,Qv,Qw,Qx,Qy,Qz,QA,QB,QC,QD,QE,QF,QG,QH,QI,QJ,QK,QL,QM,QN,QO,QP,QQ]
  refine LoopC.fr 4 (α:=Nat) (fun j=>m - j) (fun j=>[(3,.d (.int .i64 (j+1:Nat))),(8,.d (.int .i64 (N - bgn x - monS x j)))]) (fun _=>[]) (fun j=>j≤m) 0 (Nat.zero_le _) ?_ ?_
  ·exact ⟨[],rfl,by simp,by simp [setsA,keepA,SWeak,AWeak,monS],by simp [HWeak,BWeak,SWeak,AWeak]⟩
  ·intro j hj
   have mj:=monS_le x j
   have lj:=lenM_pos x ((j+1:Nat):Int)
   have ms:monS x (j+1)=monS x j+lenM x (j+1:Nat):=rfl
   simp only [awK,Nat.reduceMod,Nat.reduceDiv,reduceIte]
   simp (config:={maxSteps:=1000000}) (disch:=((try simp only [awL]);omega)) only [QR,QS,QT,QU,QV,QW,QX,QY,QZ,Q0,Q1,Q2,↓awU,awV,awF,Qa,Qb,Qc,Qd,forall_const,↓reduceIte,↓reduceDIte,↓Qe,Qf,Qg,Qh,Qi,Qj,Qk,Ql,Qm,Qn,Qo,Qp,Qq,Qr,Qs,implies_true,Qt,Qu,Qv,Qw,Qx,Qy,Qz,QA,QB,QC,QD,QE,QF,QG,QH,QI,QJ,QK,QL,QM,QN,QO,QP,QQ]
   refine CallC.of (length_spec x ((j+1:Nat):Int) (by omega) (by omega) (by omega) (by omega)) (by rfl) ?_
   rcases Nat.lt_or_ge j m with h | h
   ·have:=monS_lt (y:=x) h
    have e1:N - bgn x - monS x j - lenM x ((j+1:Nat):Int)=N - bgn x - monS x (j+1):=by omega
    simp (config:={maxSteps:=1000000}) (disch:=((try simp only [awL]);omega)) only [QR,QS,QT,QU,QV,QW,QX,QY,QZ,Q0,Q1,Q2,↓awU,awV,awF,Qa,Qb,Qc,Qd,forall_const,↓reduceIte,↓reduceDIte,↓Qe,Qf,Qg,Qh,Qi,Qj,Qk,Ql,Qm,Qn,Qo,Qp,Qq,Qr,Qs,implies_true,Qt,Qu,Qv,Qw,Qx,Qy,Qz,QA,QB,QC,QD,QE,QF,QG,QH,QI,QJ,QK,QL,QM,QN,QO,QP,QQ]
    refine CallC.of (length_spec x ((j+1:Nat):Int) (by omega) (by omega) (by omega) (by omega)) (by rfl) ?_
    simp (config:={maxSteps:=1000000}) (disch:=((try simp only [awL]);omega)) only [QR,QS,QT,QU,QV,QW,QX,QY,QZ,Q0,Q1,Q2,e1,↓awU,awV,awF,Qa,Qb,Qc,Qd,forall_const,↓reduceIte,↓reduceDIte,↓Qe,Qf,Qg,Qh,Qi,Qj,Qk,Ql,Qm,Qn,Qo,Qp,Qq,Qr,Qs,implies_true,Qt,Qu,Qv,Qw,Qx,Qy,Qz,QA,QB,QC,QD,QE,QF,QG,QH,QI,QJ,QK,QL,QM,QN,QO,QP,QQ]
    first
    | exact ⟨j+1,h,by simp only;omega,⟨[],rfl,by simp,by simp [setsA,keepA,SWeak,AWeak],by simp [HWeak,BWeak,SWeak,AWeak]⟩⟩
   ·have e:j=m:=by omega
    subst e
    have e1:N - bgn x - monS x j=r:=by omega
    simp (config:={maxSteps:=1000000}) (disch:=((try simp only [awL]);omega)) only [QR,QS,QT,QU,QV,QW,QX,QY,QZ,Q0,Q1,Q2,e1,↓awU,awV,awF,Qa,Qb,Qc,Qd,forall_const,↓reduceIte,↓reduceDIte,↓Qe,Qf,Qg,Qh,Qi,Qj,Qk,Ql,Qm,Qn,Qo,Qp,Qq,Qr,Qs,implies_true,Qt,Qu,Qv,Qw,Qx,Qy,Qz,QA,QB,QC,QD,QE,QF,QG,QH,QI,QJ,QK,QL,QM,QN,QO,QP,QQ]
    first | done | rfl
end Go.Proofs.YtdpjcghiegggbaaGreatDoor
namespace Go.Proofs.YtdpjcghiegggbaaGreatDoor
open Go Go.Proofs Go.Abs
variable {G:Globals}
end Go.Proofs.YtdpjcghiegggbaaGreatDoor
namespace Go.Proofs.YtdpjcghiegggbaaGreatDoor
open Go Go.Proofs Go.Abs
variable {G:Globals}
def kindE (w:List UInt8) (f g:D):D:=.agg [S w,f,g]
def kFn (f:Nat):D:=.fn (.func f) [] []
def kindsM:List (D × D):=[(.int .i64 1,kindE [116,101,120,116] .nilf (kFn 65)),(.int .i64 2,kindE [98,111,111,108] (kFn 66) (kFn 67)),
 (.int .i64 3,kindE [105,110,116,101,103,101,114] (kFn 68) (kFn 69)),(.int .i64 4,kindE [100,101,99,105,109,97,108] (kFn 70) (kFn 69)),
 (.int .i64 5,kindE [100,97,116,101] (kFn 71) (kFn 72))]
set_option maxHeartbeats 4000000 in
set_option maxRecDepth 100000 in
theorem kinds_spec:Ctr Tryz.prog G 39 [] [] (.mp 0) [.map kindsM]:=by
 refine Ctr.body (M:=M0) hmix Tryz.func39 rfl go39 ?_
 simp (config:={maxSteps:=1000000}) (disch:=((try simp only [awL]);omega)) only [QR,QS,QT,QU,QV,QW,QX,QY,QZ,Q0,Q1,Q2,Tryz.f39,↓awU,awV,awF,Qa,Qb,Qc,Qd,forall_const,↓reduceIte,↓reduceDIte,↓Qe,Qf,Qg,Qh,Qi,Qj,Qk,Ql,Qm,Qn,Qo,Qp,Qq,Qr,Qs,implies_true,Qt,Qu,Qv,Qw,Qx,Qy,Qz,QA,QB,QC,QD,QE,QF,QG,QH,QI,QJ,QK,QL,QM,QN,QO,QP,QQ]
 refine ⟨by rfl,by rfl,by rfl,by rfl,by rfl,?_⟩
 show RetC 0 [ABlk.map kindsM] (AV.mp 0) (AV.mp 0) [ABlk.map kindsM]
 exact ⟨[some 0],rfl,by simp,by simp [HWeak,BWeak,SWeak,AWeak],.inl (by simp [AWeak,SWeak])⟩
set_option maxHeartbeats 4000000 in
set_option maxRecDepth 100000 in
theorem canon4_spec (hG:Num.HG G) (s:List UInt8) (hs:s.length≤2000000):Ctr Tryz.prog G 12 [.d (.int .i64 4),.d (S s)] [] (.d (.tup [S (if Num.decOk (Lib.trimB s 32)=true then canD (Lib.trimB s 32) else []),.bool (Num.decOk (Lib.trimB s 32))])) []:=by
 refine Ctr.pure (M:=M0) hmix Tryz.func12 rfl go12 ?_
 have tl:(Lib.trimB s 32).length≤s.length:=Nat.le_trans (List.dropWhile_sublist _).length_le (trimRB_le s 32)
 have kk:keysOK Tryz.prog 3 kindsM=true:=rfl
 simp (config:={maxSteps:=1000000}) (disch:=((try simp only [awL]);omega)) only [QR,QS,QT,QU,QV,QW,QX,QY,QZ,Q0,Q1,Q2,Tryz.f12,↓awU,awV,awF,Qa,Qb,Qc,Qd,forall_const,↓reduceIte,↓reduceDIte,↓Qe,Qf,Qg,Qh,Qi,Qj,Qk,Ql,Qm,Qn,Qo,Qp,Qq,Qr,Qs,implies_true,Qt,Qu,Qv,Qw,Qx,Qy,Qz,QA,QB,QC,QD,QE,QF,QG,QH,QI,QJ,QK,QL,QM,QN,QO,QP,QQ]
 refine CallC.by kinds_spec (by rfl) (by rfl) (Nat.zero_le _) ?_
 have lk:lookV (.agg [.str ByteArray.empty,.nilf,.nilf]) kindsM (.int .i64 4) true=.tup [.agg [S [100,101,99,105,109,97,108],.fn (.func 70) [] [],.fn (.func 69) [] []],.bool true]:=rfl
 simp (config:={maxSteps:=1000000}) (disch:=((try simp only [awL]);omega)) only [QR,QS,QT,QU,QV,QW,QX,QY,QZ,Q0,Q1,Q2,kk,lk,↓awU,awV,awF,Qa,Qb,Qc,Qd,forall_const,↓reduceIte,↓reduceDIte,↓Qe,Qf,Qg,Qh,Qi,Qj,Qk,Ql,Qm,Qn,Qo,Qp,Qq,Qr,Qs,implies_true,Qt,Qu,Qv,Qw,Qx,Qy,Qz,QA,QB,QC,QD,QE,QF,QG,QH,QI,QJ,QK,QL,QM,QN,QO,QP,QQ]
 refine CallC.of (ttrim_spec s (by omega)) (by rfl) ?_
 simp (config:={maxSteps:=1000000}) (disch:=((try simp only [awL]);omega)) only [QR,QS,QT,QU,QV,QW,QX,QY,QZ,Q0,Q1,Q2,↓awU,awV,awF,Qa,Qb,Qc,Qd,forall_const,↓reduceIte,↓reduceDIte,↓Qe,Qf,Qg,Qh,Qi,Qj,Qk,Ql,Qm,Qn,Qo,Qp,Qq,Qr,Qs,implies_true,Qt,Qu,Qv,Qw,Qx,Qy,Qz,QA,QB,QC,QD,QE,QF,QG,QH,QI,QJ,QK,QL,QM,QN,QO,QP,QQ]
 refine CallC.of (tdecimal_spec hG (Lib.trimB s 32) (by omega)) (by rfl) ?_
 simp (config:={maxSteps:=1000000}) (disch:=((try simp only [awL]);omega)) only [QR,QS,QT,QU,QV,QW,QX,QY,QZ,Q0,Q1,Q2,↓awU,awV,awF,Qa,Qb,Qc,Qd,forall_const,↓reduceIte,↓reduceDIte,↓Qe,Qf,Qg,Qh,Qi,Qj,Qk,Ql,Qm,Qn,Qo,Qp,Qq,Qr,Qs,implies_true,Qt,Qu,Qv,Qw,Qx,Qy,Qz,QA,QB,QC,QD,QE,QF,QG,QH,QI,QJ,QK,QL,QM,QN,QO,QP,QQ]
 first | done | rfl | exact ⟨by rfl,by rfl⟩
end Go.Proofs.YtdpjcghiegggbaaGreatDoor
namespace Go.Proofs.YtdpjcghiegggbaaGreatDoor.Dst
def c1 (a b:Int):Nat:=if a=b then 0 else 1
def lev:List Int→List Int→Nat
 | [],y=>y.length
 | x,[]=>x.length
 | a::x,b::y=>min (lev x y+c1 a b) (min (lev x (b::y)+1) (lev (a::x) y+1))
termination_by x y=>x.length+y.length
theorem lev_nil_left (y:List Int):lev [] y=y.length:=by unfold lev;rfl
theorem lev_nil_right (x:List Int):lev x []=x.length:=by cases x<;>(unfold lev;rfl)
theorem lev_cons (a b:Int) (x y:List Int):lev (a::x) (b::y)=min (lev x y+c1 a b) (min (lev x (b::y)+1) (lev (a::x) y+1)):=by
 conv=>lhs;unfold lev
inductive Ed:List Int→List Int→Nat→Prop
 | nil:Ed [] [] 0
 | sub {x y n} (a b):Ed x y n→Ed (a::x) (b::y) (n+c1 a b)
 | del {x y n} (a):Ed x y n→Ed (a::x) y (n+1)
 | ins {x y n} (b):Ed x y n→Ed x (b::y) (n+1)
theorem Ed.left:∀ x:List Int,Ed x [] x.length
 | []=>.nil
 | a::x=>.del a (Ed.left x)
theorem Ed.right:∀ x:List Int,Ed [] x x.length
 | []=>.nil
 | a::x=>.ins a (Ed.right x)
theorem lev_le_left {x y:List Int} (a:Int):lev (a::x) y≤lev x y+1:=by
 cases y with
 | nil=>rw [lev_nil_right,lev_nil_right];simp
 | cons b y=>rw [lev_cons];omega
theorem lev_le_right {x y:List Int} (b:Int):lev x (b::y)≤lev x y+1:=by
 cases x with
 | nil=>rw [lev_nil_left,lev_nil_left];simp
 | cons a x=>rw [lev_cons];omega
theorem lev_le_sub {x y:List Int} (a b:Int):lev (a::x) (b::y)≤lev x y+c1 a b:=by rw [lev_cons];omega
theorem Ed.le {x y:List Int} {n:Nat} (h:Ed x y n):lev x y≤n:=by
 induction h with
 | nil=>rw [lev_nil_left];simp
 | sub a b _ ih=>exact Nat.le_trans (lev_le_sub a b) (by omega)
 | del a _ ih=>exact Nat.le_trans (lev_le_left a) (by omega)
 | ins b _ ih=>exact Nat.le_trans (lev_le_right b) (by omega)
theorem Ed.lev:∀ x y:List Int,Ed x y (lev x y)
 | [],y=>by rw [lev_nil_left];exact .right y
 | a::x,[]=>by rw [lev_nil_right];exact .left _
 | a::x,b::y=>by
   rw [lev_cons]
   have h1:=Ed.lev x y
   have h2:=Ed.lev x (b::y)
   have h3:=Ed.lev (a::x) y
   rcases Nat.le_total (Go.Proofs.YtdpjcghiegggbaaGreatDoor.Dst.lev x y+c1 a b) (min (Go.Proofs.YtdpjcghiegggbaaGreatDoor.Dst.lev x (b::y)+1) (Go.Proofs.YtdpjcghiegggbaaGreatDoor.Dst.lev (a::x) y+1)) with h | h
   ·rw [Nat.min_eq_left h];exact .sub a b h1
   ·rw [Nat.min_eq_right h]
    rcases Nat.le_total (Go.Proofs.YtdpjcghiegggbaaGreatDoor.Dst.lev x (b::y)+1) (Go.Proofs.YtdpjcghiegggbaaGreatDoor.Dst.lev (a::x) y+1) with h | h
    ·rw [Nat.min_eq_left h];exact .del a h2
    ·rw [Nat.min_eq_right h];exact .ins b h3
termination_by x y=>x.length+y.length
theorem Ed.symm {x y:List Int} {n:Nat} (h:Ed x y n):Ed y x n:=by
 induction h with
 | nil=>exact .nil
 | sub a b _ ih =>
  have e:c1 a b=c1 b a:=by unfold c1;split<;>split<;>omega
  rw [e];exact .sub b a ih
 | del a _ ih=>exact .ins a ih
 | ins b _ ih=>exact .del b ih
theorem Ed.refl:∀ x:List Int,Ed x x 0
 | []=>.nil
 | a::x=>by have:=Ed.sub a a (Ed.refl x);simpa [c1] using this
theorem Ed.zero {x y:List Int} {n:Nat} (h:Ed x y n):n=0→x=y:=by
 induction h with
 | nil=>intro _;rfl
 | sub a b _ ih =>
  intro e
  have:a=b:=by unfold c1 at e;split at e<;>first | assumption | omega
  rw [ih (by omega),this]
 | del a _ ih=>intro e;omega
 | ins b _ ih=>intro e;omega
theorem Ed.append {x y:List Int} {n:Nat} (h:Ed x y n) (z:List Int):Ed (x++z) (y++z) n:=by
 induction h with
 | nil=>exact .refl z
 | sub a b _ ih=>exact .sub a b ih
 | del a _ ih=>exact .del a ih
 | ins b _ ih=>exact .ins b ih
theorem Ed.snoc_sub {x y:List Int} {n:Nat} (h:Ed x y n) (a b:Int):Ed (x++[a]) (y++[b]) (n+c1 a b):=by
 induction h with
 | nil=>exact .sub a b .nil
 | sub p q _ ih=>have:=Ed.sub p q ih;simp only [List.cons_append];rw [Nat.add_right_comm];exact this
 | del p _ ih=>have:=Ed.del p ih;simp only [List.cons_append];rw [Nat.add_right_comm];exact this
 | ins p _ ih=>have:=Ed.ins p ih;simp only [List.cons_append];rw [Nat.add_right_comm];exact this
theorem Ed.snoc_del {x y:List Int} {n:Nat} (h:Ed x y n) (a:Int):Ed (x++[a]) y (n+1):=by
 induction h with
 | nil=>exact .del a .nil
 | sub p q _ ih=>have:=Ed.sub p q ih;simp only [List.cons_append];rw [Nat.add_right_comm];exact this
 | del p _ ih=>have:=Ed.del p ih;simp only [List.cons_append];exact this
 | ins p _ ih=>exact .ins p ih
theorem Ed.snoc_ins {x y:List Int} {n:Nat} (h:Ed x y n) (b:Int):Ed x (y++[b]) (n+1):=(h.symm.snoc_del b).symm
theorem Ed.reverse {x y:List Int} {n:Nat} (h:Ed x y n):Ed x.reverse y.reverse n:=by
 induction h with
 | nil=>exact .nil
 | sub a b _ ih=>rw [List.reverse_cons,List.reverse_cons];exact ih.snoc_sub a b
 | del a _ ih=>rw [List.reverse_cons];exact ih.snoc_del a
 | ins b _ ih=>rw [List.reverse_cons];exact ih.snoc_ins b
end Go.Proofs.YtdpjcghiegggbaaGreatDoor.Dst
namespace Go.Proofs.YtdpjcghiegggbaaGreatDoor.Dst
abbrev bl (x y:List UInt8):Bool:=Op.bytesLess x y
theorem bl_irrefl:∀ x:List UInt8,bl x x=false
 | []=>rfl
 | a::x=>by
   show (decide (a<a) || (a == a && bl x x))=false
   rw [bl_irrefl x];simp
def Asc (l:List (List UInt8)):Prop:=l.Pairwise fun x y=>bl x y=true
theorem Asc.tail {x:List UInt8} {l:List (List UInt8)} (h:Asc (x::l)):Asc l:=(List.pairwise_cons.1 h).2
def dedup:List (List UInt8)→List (List UInt8)
 | x::y::l=>if x=y then dedup (y::l) else x::dedup (y::l)
 | l=>l
theorem Asc.nodup {l:List (List UInt8)} (h:Asc l):l.Nodup:=List.Pairwise.imp (fun {x y} hxy e=>by subst e;rw [bl_irrefl] at hxy;cases hxy) h
end Go.Proofs.YtdpjcghiegggbaaGreatDoor.Dst
namespace Go.Proofs.YtdpjcghiegggbaaGreatDoor.Dst
open Go.Abs
def foldB (c:UInt8):UInt8:=if 65≤c.toNat∧c.toNat≤90 then c+32 else c
theorem foldB_nat (c:UInt8):(foldB c).toNat=if 65≤c.toNat∧c.toNat≤90 then c.toNat+32 else c.toNat:=by
 unfold foldB
 split
 ·rw [UInt8.toNat_add];show (c.toNat+32) % 256=_;omega
 ·rfl
end Go.Proofs.YtdpjcghiegggbaaGreatDoor.Dst
namespace Go.Proofs.YtdpjcghiegggbaaGreatDoor.Dst
open Go.Abs
def wordsL:List (List UInt8):=[[97,110,110],[98,111,98],[99,121],[66,101,114,110],[85,108,109],[78,101,119,32,89,111,114,107],[121,111,114,107,32,110,101,119],[97,45,49],[98,45,50,50],[120],[122,195,188,114,105,99,104],[65,110,110],[98,111],[99,97,116],[98,97,116],[114,97,116]]
end Go.Proofs.YtdpjcghiegggbaaGreatDoor.Dst
namespace Go.Proofs.YtdpjcghiegggbaaGreatDoor.Dst
open Go Go.Proofs Go.Abs
variable {G:Globals}
abbrev M0:Muts:=fun _=>false
abbrev S (l:List UInt8):D:=.str (bs l)
end Go.Proofs.YtdpjcghiegggbaaGreatDoor.Dst
namespace Go.Proofs.YtdpjcghiegggbaaGreatDoor.Dst
open Go Go.Proofs Go.Abs
variable {G:Globals}
def foldMid (l:List UInt8) (i:Nat):List UInt8:=(l.take i).map foldB++l.drop i
theorem foldMid_length {l:List UInt8} {i:Nat} (h:i≤l.length):(foldMid l i).length=l.length:=by simp [foldMid];omega
theorem foldMid_get {l:List UInt8} {i:Nat} (h:i<l.length):(foldMid l i).getD i 0=l.getD i 0:=by
 have hl:((l.take i).map foldB).length=i:=by rw [List.length_map,List.length_take];omega
 rw [foldMid,List.getD_eq_getElem?_getD,List.getElem?_append_right (by omega),hl,Nat.sub_self,List.getElem?_drop,Nat.add_zero,← List.getD_eq_getElem?_getD]
theorem foldMid_set {l:List UInt8} {i:Nat} (h:i<l.length):(foldMid l i).set i (foldB (l.getD i 0))=foldMid l (i+1):=by
 have hl:((l.take i).map foldB).length=i:=by rw [List.length_map,List.length_take];omega
 rw [foldMid,foldMid,List.set_append,if_neg (by omega),hl,Nat.sub_self,List.drop_eq_getElem_cons h,List.set_cons_zero,List.take_add_one,List.getElem?_eq_getElem h,List.getD_eq_getElem?_getD,List.getElem?_eq_getElem h]
 simp only [Option.toList_some,Option.getD_some,List.map_append,List.map_cons,List.map_nil,List.append_assoc,List.cons_append,List.nil_append]
theorem foldMid_same {l:List UInt8} {i:Nat} (h:i<l.length) (hc:foldB (l.getD i 0)=l.getD i 0):foldMid l (i+1)=foldMid l i:=by
 rw [← foldMid_set h,hc]
 have hg:=foldMid_get h
 have hl:=foldMid_length (l:=l) (i:=i) (by omega)
 rw [List.getD_eq_getElem?_getD,List.getElem?_eq_getElem (by omega)] at hg
 simp only [Option.getD_some] at hg
 rw [← hg,List.set_getElem_self]
theorem nums_set {l:List UInt8} {i:Nat} {c:UInt8}:(nums l).set i (c.toNat:Int)=nums (l.set i c):=by simp [nums,List.map_set]
theorem cells_nums {l:List UInt8}:(l.map fun b=>D.int .u8 (b.toNat:Int))=ints .u8 (nums l):=by simp [ints,nums]
set_option maxRecDepth 100000 in
theorem fold_spec (l:List UInt8) (hl:l.length≤2000000):Ctr Tryz.prog G 91 [.d (S l)] [] (.d (S (l.map foldB))) []:=by
 refine Ctr.pure (M:=M0) hmix Tryz.func91 rfl go91 ?_
 simp (config:={maxSteps:=1000000}) (disch:=((try simp only [awL]);omega)) only [QR,QS,QT,QU,QV,QW,QX,QY,QZ,Q0,Q1,Q2,Tryz.f91,cells_nums,↓awU,awV,awF,Qa,Qb,Qc,Qd,forall_const,↓reduceIte,↓reduceDIte,↓Qe,Qf,Qg,Qh,Qi,Qj,Qk,Ql,Qm,Qn,Qo,Qp,Qq,Qr,Qs,implies_true,Qt,Qu,Qv,Qw,Qx,Qy,Qz,QA,QB,QC,QD,QE,QF,QG,QH,QI,QJ,QK,QL,QM,QN,QO,QP,QQ]
 refine LoopC.fr 776 (α:=Nat) (fun i=>l.length - i) (fun i=>[(10,.d (.int .i64 i))]) (fun i=>[.row false (ints .u8 (nums (foldMid l i)))]) (fun i=>i≤l.length) 0 (Nat.zero_le _) ?_ ?_
 ·exact ⟨[some 0],rfl,by simp,by simp [setsA,keepA,SWeak,AWeak],by simp [HWeak,BWeak,SWeak,AWeak,foldMid]⟩
 ·intro i hi
  have ml:=foldMid_length hi
  have nl:=@nums_length (foldMid l i)
  simp only [awK,Nat.reduceMod,Nat.reduceDiv,reduceIte]
  rcases Nat.lt_or_ge i l.length with h | h
  ·have mg:=foldMid_get h
   have fs:=foldMid_set h
   have fb:=foldB_nat (l.getD i 0)
   have fe:=foldMid_same h
   have hb:(l.getD i 0).toNat<256:=(l.getD i 0).toNat_lt
   by_cases h1:65≤(l.getD i 0).toNat∧(l.getD i 0).toNat≤90
   ·rw [if_pos h1] at fb
    obtain ⟨h1,h2⟩:=h1
    have hs1:(nums (foldMid l i)).set i (((l.getD i 0).toNat:Int) - 65+97)=nums (foldMid l (i+1)):=by
     rw [← fs,← nums_set,fb];congr 1;omega
    have hs2:(nums (foldMid l i)).set i (((l.getD i 0).toNat:Int)+32)=nums (foldMid l (i+1)):=by
     rw [← fs,← nums_set,fb];congr 1
    simp (config:={maxSteps:=1000000}) (disch:=((try simp only [awL]);omega)) only [QR,QS,QT,QU,QV,QW,QX,QY,QZ,Q0,Q1,Q2,nl,ml,mg,hs1,hs2,↓awU,awV,awF,Qa,Qb,Qc,Qd,forall_const,↓reduceIte,↓reduceDIte,↓Qe,Qf,Qg,Qh,Qi,Qj,Qk,Ql,Qm,Qn,Qo,Qp,Qq,Qr,Qs,implies_true,Qt,Qu,Qv,Qw,Qx,Qy,Qz,QA,QB,QC,QD,QE,QF,QG,QH,QI,QJ,QK,QL,QM,QN,QO,QP,QQ]
    first
    | exact ⟨i+1,h,by simp only;omega,⟨[some 0],rfl,by simp,by simp [setsA,keepA,SWeak,AWeak],by simp [HWeak,BWeak,SWeak,AWeak]⟩⟩
    | exact ⟨by rfl,i+1,h,by simp only;omega,⟨[some 0],rfl,by simp,by simp [setsA,keepA,SWeak,AWeak],by simp [HWeak,BWeak,SWeak,AWeak]⟩⟩
    | trace_state
   ·rw [if_neg h1] at fb
    have e:=fe (UInt8.toNat_inj.1 fb)
    rcases (by omega:(l.getD i 0).toNat<65∨90<(l.getD i 0).toNat) with h2 | h2
    ·simp (config:={maxSteps:=1000000}) (disch:=((try simp only [awL]);omega)) only [QR,QS,QT,QU,QV,QW,QX,QY,QZ,Q0,Q1,Q2,nl,ml,mg,↓awU,awV,awF,Qa,Qb,Qc,Qd,forall_const,↓reduceIte,↓reduceDIte,↓Qe,Qf,Qg,Qh,Qi,Qj,Qk,Ql,Qm,Qn,Qo,Qp,Qq,Qr,Qs,implies_true,Qt,Qu,Qv,Qw,Qx,Qy,Qz,QA,QB,QC,QD,QE,QF,QG,QH,QI,QJ,QK,QL,QM,QN,QO,QP,QQ]
     first
     | exact ⟨i+1,h,by simp only;omega,⟨[some 0],rfl,by simp,by simp [setsA,keepA,SWeak,AWeak],by simp [HWeak,BWeak,SWeak,AWeak,e]⟩⟩
     | exact ⟨by rfl,i+1,h,by simp only;omega,⟨[some 0],rfl,by simp,by simp [setsA,keepA,SWeak,AWeak],by simp [HWeak,BWeak,SWeak,AWeak,e]⟩⟩
     | trace_state
    ·simp (config:={maxSteps:=1000000}) (disch:=((try simp only [awL]);omega)) only [QR,QS,QT,QU,QV,QW,QX,QY,QZ,Q0,Q1,Q2,nl,ml,mg,↓awU,awV,awF,Qa,Qb,Qc,Qd,forall_const,↓reduceIte,↓reduceDIte,↓Qe,Qf,Qg,Qh,Qi,Qj,Qk,Ql,Qm,Qn,Qo,Qp,Qq,Qr,Qs,implies_true,Qt,Qu,Qv,Qw,Qx,Qy,Qz,QA,QB,QC,QD,QE,QF,QG,QH,QI,QJ,QK,QL,QM,QN,QO,QP,QQ]
     first
     | exact ⟨i+1,h,by simp only;omega,⟨[some 0],rfl,by simp,by simp [setsA,keepA,SWeak,AWeak],by simp [HWeak,BWeak,SWeak,AWeak,e]⟩⟩
     | exact ⟨by rfl,i+1,h,by simp only;omega,⟨[some 0],rfl,by simp,by simp [setsA,keepA,SWeak,AWeak],by simp [HWeak,BWeak,SWeak,AWeak,e]⟩⟩
     | trace_state
  ·obtain rfl:i=l.length:=by omega
   have em:foldMid l l.length=l.map foldB:=by simp [foldMid]
   have ht:(nums (foldMid l l.length)).take l.length=nums (foldMid l l.length):=List.take_of_length_le (by omega)
   simp (config:={maxSteps:=1000000}) (disch:=((try simp only [awL]);omega)) only [QR,QS,QT,QU,QV,QW,QX,QY,QZ,Q0,Q1,Q2,nl,ml,numsOf_ints,ht,strOfNums_nums,↓awU,awV,awF,Qa,Qb,Qc,Qd,forall_const,↓reduceIte,↓reduceDIte,↓Qe,Qf,Qg,Qh,Qi,Qj,Qk,Ql,Qm,Qn,Qo,Qp,Qq,Qr,Qs,implies_true,Qt,Qu,Qv,Qw,Qx,Qy,Qz,QA,QB,QC,QD,QE,QF,QG,QH,QI,QJ,QK,QL,QM,QN,QO,QP,QQ]
   first
   | rw [em]
   | trace_state
end Go.Proofs.YtdpjcghiegggbaaGreatDoor.Dst
namespace Go.Proofs.YtdpjcghiegggbaaGreatDoor
open Go Go.Proofs Go.Abs
variable {G:Globals}
def isTr (t:List UInt8):Bool:=decide (t.map Dst.foldB=[116,114,117,101]) || decide (t.map Dst.foldB=[121,101,115])
def isFa (t:List UInt8):Bool:=decide (t.map Dst.foldB=[102,97,108,115,101]) || decide (t.map Dst.foldB=[110,111])
def okBo (t:List UInt8):Bool:=isTr t || isFa t
def canBo (t:List UInt8):List UInt8:=if isTr t=true then [116,114,117,101] else if isFa t=true then [102,97,108,115,101] else []
theorem bo_cases (t:List UInt8) :
  (t.map Dst.foldB=[116,114,117,101]∧canBo t=[116,114,117,101]∧okBo t=true)∨(t.map Dst.foldB=[121,101,115]∧canBo t=[116,114,117,101]∧okBo t=true) ∨
  (t.map Dst.foldB=[102,97,108,115,101]∧canBo t=[102,97,108,115,101]∧okBo t=true)∨(t.map Dst.foldB=[110,111]∧canBo t=[102,97,108,115,101]∧okBo t=true) ∨
  (((t.map Dst.foldB=[116,114,117,101])=False)∧((t.map Dst.foldB=[121,101,115])=False)∧((t.map Dst.foldB=[102,97,108,115,101])=False)∧((t.map Dst.foldB=[110,111])=False)∧canBo t=[]∧okBo t=false):=by
 unfold canBo okBo isTr isFa
 generalize t.map Dst.foldB=f
 by_cases e1:f=[116,114,117,101]
 ·subst e1;exact .inl ⟨rfl,rfl,rfl⟩
 by_cases e2:f=[121,101,115]
 ·subst e2;exact .inr (.inl ⟨rfl,rfl,rfl⟩)
 by_cases e3:f=[102,97,108,115,101]
 ·subst e3;exact .inr (.inr (.inl ⟨rfl,rfl,rfl⟩))
 by_cases e4:f=[110,111]
 ·subst e4;exact .inr (.inr (.inr (.inl ⟨rfl,rfl,rfl⟩)))
 rw [decide_eq_false e1,decide_eq_false e2,decide_eq_false e3,decide_eq_false e4]
 exact .inr (.inr (.inr (.inr ⟨eq_false e1,eq_false e2,eq_false e3,eq_false e4,rfl,rfl⟩)))
set_option maxHeartbeats 4000000 in
set_option maxRecDepth 100000 in
theorem boolean_spec (t:List UInt8) (ht:t.length≤2000000):Ctr Tryz.prog G 66 [.d (S t)] [] (.d (.tup [S (canBo t),.bool (okBo t)])) []:=by
 refine Ctr.pure (M:=M0) hmix Tryz.func66 rfl go66 ?_
 have sp:=Dst.fold_spec (G:=G) t ht
 have cs:=bo_cases t
 generalize canBo t=c at *
 generalize okBo t=o at *
 generalize t.map Dst.foldB=f at *
 simp (config:={maxSteps:=1000000}) (disch:=((try simp only [awL]);omega)) only [QR,QS,QT,QU,QV,QW,QX,QY,QZ,Q0,Q1,Q2,Tryz.f66,↓awU,awV,awF,Qa,Qb,Qc,Qd,forall_const,↓reduceIte,↓reduceDIte,↓Qe,Qf,Qg,Qh,Qi,Qj,Qk,Ql,Qm,Qn,Qo,Qp,Qq,Qr,Qs,implies_true,Qt,Qu,Qv,Qw,Qx,Qy,Qz,QA,QB,QC,QD,QE,QF,QG,QH,QI,QJ,QK,QL,QM,QN,QO,QP,QQ]
 refine CallC.of sp (by rfl) ?_
 rcases cs with ⟨e,rfl,rfl⟩ | ⟨e,rfl,rfl⟩ | ⟨e,rfl,rfl⟩ | ⟨e,rfl,rfl⟩ | ⟨n1,n2,n3,n4,rfl,rfl⟩
 ·have n1:(f=[116,114,117,101])=True:=eq_true e
  simp (config:={maxSteps:=1000000}) (disch:=((try simp only [awL]);omega)) only [QR,QS,QT,QU,QV,QW,QX,QY,QZ,Q0,Q1,Q2,n1,↓awU,awV,awF,Qa,Qb,Qc,Qd,forall_const,↓reduceIte,↓reduceDIte,↓Qe,Qf,Qg,Qh,Qi,Qj,Qk,Ql,Qm,Qn,Qo,Qp,Qq,Qr,Qs,implies_true,Qt,Qu,Qv,Qw,Qx,Qy,Qz,QA,QB,QC,QD,QE,QF,QG,QH,QI,QJ,QK,QL,QM,QN,QO,QP,QQ]
  first | done | rfl
 ·have n1:(f=[116,114,117,101])=False:=eq_false (by rw [e];decide)
  have n2:(f=[121,101,115])=True:=eq_true e
  simp (config:={maxSteps:=1000000}) (disch:=((try simp only [awL]);omega)) only [QR,QS,QT,QU,QV,QW,QX,QY,QZ,Q0,Q1,Q2,n1,n2,↓awU,awV,awF,Qa,Qb,Qc,Qd,forall_const,↓reduceIte,↓reduceDIte,↓Qe,Qf,Qg,Qh,Qi,Qj,Qk,Ql,Qm,Qn,Qo,Qp,Qq,Qr,Qs,implies_true,Qt,Qu,Qv,Qw,Qx,Qy,Qz,QA,QB,QC,QD,QE,QF,QG,QH,QI,QJ,QK,QL,QM,QN,QO,QP,QQ]
  first | done | rfl
 ·have n1:(f=[116,114,117,101])=False:=eq_false (by rw [e];decide)
  have n2:(f=[121,101,115])=False:=eq_false (by rw [e];decide)
  have n3:(f=[102,97,108,115,101])=True:=eq_true e
  simp (config:={maxSteps:=1000000}) (disch:=((try simp only [awL]);omega)) only [QR,QS,QT,QU,QV,QW,QX,QY,QZ,Q0,Q1,Q2,n1,n2,n3,↓awU,awV,awF,Qa,Qb,Qc,Qd,forall_const,↓reduceIte,↓reduceDIte,↓Qe,Qf,Qg,Qh,Qi,Qj,Qk,Ql,Qm,Qn,Qo,Qp,Qq,Qr,Qs,implies_true,Qt,Qu,Qv,Qw,Qx,Qy,Qz,QA,QB,QC,QD,QE,QF,QG,QH,QI,QJ,QK,QL,QM,QN,QO,QP,QQ]
  first | done | rfl
 ·have n1:(f=[116,114,117,101])=False:=eq_false (by rw [e];decide)
  have n2:(f=[121,101,115])=False:=eq_false (by rw [e];decide)
  have n3:(f=[102,97,108,115,101])=False:=eq_false (by rw [e];decide)
  have n4:(f=[110,111])=True:=eq_true e
  simp (config:={maxSteps:=1000000}) (disch:=((try simp only [awL]);omega)) only [QR,QS,QT,QU,QV,QW,QX,QY,QZ,Q0,Q1,Q2,n1,n2,n3,n4,↓awU,awV,awF,Qa,Qb,Qc,Qd,forall_const,↓reduceIte,↓reduceDIte,↓Qe,Qf,Qg,Qh,Qi,Qj,Qk,Ql,Qm,Qn,Qo,Qp,Qq,Qr,Qs,implies_true,Qt,Qu,Qv,Qw,Qx,Qy,Qz,QA,QB,QC,QD,QE,QF,QG,QH,QI,QJ,QK,QL,QM,QN,QO,QP,QQ]
  first | done | rfl
 ·simp (config:={maxSteps:=1000000}) (disch:=((try simp only [awL]);omega)) only [QR,QS,QT,QU,QV,QW,QX,QY,QZ,Q0,Q1,Q2,n1,n2,n3,n4,↓awU,awV,awF,Qa,Qb,Qc,Qd,forall_const,↓reduceIte,↓reduceDIte,↓Qe,Qf,Qg,Qh,Qi,Qj,Qk,Ql,Qm,Qn,Qo,Qp,Qq,Qr,Qs,implies_true,Qt,Qu,Qv,Qw,Qx,Qy,Qz,QA,QB,QC,QD,QE,QF,QG,QH,QI,QJ,QK,QL,QM,QN,QO,QP,QQ]
  first | done | rfl
def okIn (t:List UInt8):Bool:=!decide ((46:UInt8)∈t) && Num.decOk t
def canIn (t:List UInt8):List UInt8:=if okIn t=true then canD t else []
def canDe (t:List UInt8):List UInt8:=if Num.decOk t=true then canD t else []
set_option maxHeartbeats 4000000 in
set_option maxRecDepth 100000 in
theorem integer_spec (hG:Num.HG G) (t:List UInt8) (ht:t.length≤2000000):Ctr Tryz.prog G 68 [.d (S t)] [] (.d (.tup [S (canIn t),.bool (okIn t)])) []:=by
 refine Ctr.pure (M:=M0) hmix Tryz.func68 rfl go68 ?_
 have sp:=contains1_spec (G:=G) t 46
 obtain ⟨r,hr⟩:∃ r,r=D.tup [S (canIn t),D.bool (okIn t)]:=⟨_,rfl⟩
 rw [← hr]
 unfold canIn okIn at hr
 have sd:=tdecimal_spec hG t ht
 by_cases e:(46:UInt8)∈t
 ·rw [decide_eq_true e] at hr sp
  rw [Bool.not_true,Bool.false_and,if_neg Bool.false_ne_true] at hr
  subst hr
  simp (config:={maxSteps:=1000000}) (disch:=((try simp only [awL]);omega)) only [QR,QS,QT,QU,QV,QW,QX,QY,QZ,Q0,Q1,Q2,Tryz.f68,↓awU,awV,awF,Qa,Qb,Qc,Qd,forall_const,↓reduceIte,↓reduceDIte,↓Qe,Qf,Qg,Qh,Qi,Qj,Qk,Ql,Qm,Qn,Qo,Qp,Qq,Qr,Qs,implies_true,Qt,Qu,Qv,Qw,Qx,Qy,Qz,QA,QB,QC,QD,QE,QF,QG,QH,QI,QJ,QK,QL,QM,QN,QO,QP,QQ]
  refine CallC.of sp (by rfl) ?_
  simp (config:={maxSteps:=1000000}) (disch:=((try simp only [awL]);omega)) only [QR,QS,QT,QU,QV,QW,QX,QY,QZ,Q0,Q1,Q2,↓awU,awV,awF,Qa,Qb,Qc,Qd,forall_const,↓reduceIte,↓reduceDIte,↓Qe,Qf,Qg,Qh,Qi,Qj,Qk,Ql,Qm,Qn,Qo,Qp,Qq,Qr,Qs,implies_true,Qt,Qu,Qv,Qw,Qx,Qy,Qz,QA,QB,QC,QD,QE,QF,QG,QH,QI,QJ,QK,QL,QM,QN,QO,QP,QQ]
  first | done | rfl
 ·rw [decide_eq_false e] at hr sp
  rw [Bool.not_false,Bool.true_and] at hr
  subst hr
  generalize (if Num.decOk t=true then canD t else [])=x at *
  simp (config:={maxSteps:=1000000}) (disch:=((try simp only [awL]);omega)) only [QR,QS,QT,QU,QV,QW,QX,QY,QZ,Q0,Q1,Q2,Tryz.f68,↓awU,awV,awF,Qa,Qb,Qc,Qd,forall_const,↓reduceIte,↓reduceDIte,↓Qe,Qf,Qg,Qh,Qi,Qj,Qk,Ql,Qm,Qn,Qo,Qp,Qq,Qr,Qs,implies_true,Qt,Qu,Qv,Qw,Qx,Qy,Qz,QA,QB,QC,QD,QE,QF,QG,QH,QI,QJ,QK,QL,QM,QN,QO,QP,QQ]
  refine CallC.of sp (by rfl) ?_
  simp (config:={maxSteps:=1000000}) (disch:=((try simp only [awL]);omega)) only [QR,QS,QT,QU,QV,QW,QX,QY,QZ,Q0,Q1,Q2,↓awU,awV,awF,Qa,Qb,Qc,Qd,forall_const,↓reduceIte,↓reduceDIte,↓Qe,Qf,Qg,Qh,Qi,Qj,Qk,Ql,Qm,Qn,Qo,Qp,Qq,Qr,Qs,implies_true,Qt,Qu,Qv,Qw,Qx,Qy,Qz,QA,QB,QC,QD,QE,QF,QG,QH,QI,QJ,QK,QL,QM,QN,QO,QP,QQ]
  refine CallC.of sd (by rfl) ?_
  simp (config:={maxSteps:=1000000}) (disch:=((try simp only [awL]);omega)) only [QR,QS,QT,QU,QV,QW,QX,QY,QZ,Q0,Q1,Q2,↓awU,awV,awF,Qa,Qb,Qc,Qd,forall_const,↓reduceIte,↓reduceDIte,↓Qe,Qf,Qg,Qh,Qi,Qj,Qk,Ql,Qm,Qn,Qo,Qp,Qq,Qr,Qs,implies_true,Qt,Qu,Qv,Qw,Qx,Qy,Qz,QA,QB,QC,QD,QE,QF,QG,QH,QI,QJ,QK,QL,QM,QN,QO,QP,QQ]
  first | done | rfl
theorem dInt_one (n:Int):Rat.divInt n 1=(n:Rat):=Rat.num_divInt_den (n:Rat)
set_option maxHeartbeats 4000000 in
set_option maxRecDepth 100000 in
theorem whole_spec (n:Int) (h1:-9223372036854775808≤n) (h2:n≤9223372036854775807):Ctr Tryz.prog G 92 [.d (.int .i64 n)] [] (.d (.tup [Num.Frac (n:Rat),.bool true])) []:=by
 refine Ctr.pure (M:=M0) hmix Tryz.func92 rfl go92 ?_
 have sp:=Num.of_spec (G:=G) n 1 h1 h2 (by decide) (by decide)
 rw [if_neg (by decide),if_neg (by decide),dInt_one] at sp
 simp (config:={maxSteps:=1000000}) (disch:=((try simp only [awL]);omega)) only [QR,QS,QT,QU,QV,QW,QX,QY,QZ,Q0,Q1,Q2,Tryz.f92,↓awU,awV,awF,Qa,Qb,Qc,Qd,forall_const,↓reduceIte,↓reduceDIte,↓Qe,Qf,Qg,Qh,Qi,Qj,Qk,Ql,Qm,Qn,Qo,Qp,Qq,Qr,Qs,implies_true,Qt,Qu,Qv,Qw,Qx,Qy,Qz,QA,QB,QC,QD,QE,QF,QG,QH,QI,QJ,QK,QL,QM,QN,QO,QP,QQ]
 refine CallC.of sp (by rfl) ?_
 simp (config:={maxSteps:=1000000}) (disch:=((try simp only [awL]);omega)) only [QR,QS,QT,QU,QV,QW,QX,QY,QZ,Q0,Q1,Q2,↓awU,awV,awF,Qa,Qb,Qc,Qd,forall_const,↓reduceIte,↓reduceDIte,↓Qe,Qf,Qg,Qh,Qi,Qj,Qk,Ql,Qm,Qn,Qo,Qp,Qq,Qr,Qs,implies_true,Qt,Qu,Qv,Qw,Qx,Qy,Qz,QA,QB,QC,QD,QE,QF,QG,QH,QI,QJ,QK,QL,QM,QN,QO,QP,QQ]
 first | done | rfl
theorem none_spec (s:List UInt8):Ctr Tryz.prog G 65 [.d (S s)] [] (.d (.tup [Num.Zf,.bool false])) []:=by
 refine Ctr.pure (M:=M0) hmix Tryz.func65 rfl go65 ?_
 simp (config:={maxSteps:=1000000}) (disch:=((try simp only [awL]);omega)) only [QR,QS,QT,QU,QV,QW,QX,QY,QZ,Q0,Q1,Q2,Tryz.f65,↓awU,awV,awF,Qa,Qb,Qc,Qd,forall_const,↓reduceIte,↓reduceDIte,↓Qe,Qf,Qg,Qh,Qi,Qj,Qk,Ql,Qm,Qn,Qo,Qp,Qq,Qr,Qs,implies_true,Qt,Qu,Qv,Qw,Qx,Qy,Qz,QA,QB,QC,QD,QE,QF,QG,QH,QI,QJ,QK,QL,QM,QN,QO,QP,QQ]
 first | done | rfl
def boV (t:List UInt8):Int:=if t=[116,114,117,101] then 1 else 0
set_option maxHeartbeats 4000000 in
set_option maxRecDepth 100000 in
theorem truth_spec (t:List UInt8):Ctr Tryz.prog G 67 [.d (S t)] [] (.d (.tup [Num.Frac (boV t:Rat),.bool true])) []:=by
 refine Ctr.pure (M:=M0) hmix Tryz.func67 rfl go67 ?_
 unfold boV
 by_cases e:t=[116,114,117,101]
 ·have e':(t=[116,114,117,101])=True:=eq_true e
  rw [if_pos e]
  simp (config:={maxSteps:=1000000}) (disch:=((try simp only [awL]);omega)) only [QR,QS,QT,QU,QV,QW,QX,QY,QZ,Q0,Q1,Q2,e',Tryz.f67,↓awU,awV,awF,Qa,Qb,Qc,Qd,forall_const,↓reduceIte,↓reduceDIte,↓Qe,Qf,Qg,Qh,Qi,Qj,Qk,Ql,Qm,Qn,Qo,Qp,Qq,Qr,Qs,implies_true,Qt,Qu,Qv,Qw,Qx,Qy,Qz,QA,QB,QC,QD,QE,QF,QG,QH,QI,QJ,QK,QL,QM,QN,QO,QP,QQ]
  refine CallC.of (whole_spec 1 (by decide) (by decide)) (by rfl) ?_
  simp (config:={maxSteps:=1000000}) (disch:=((try simp only [awL]);omega)) only [QR,QS,QT,QU,QV,QW,QX,QY,QZ,Q0,Q1,Q2,↓awU,awV,awF,Qa,Qb,Qc,Qd,forall_const,↓reduceIte,↓reduceDIte,↓Qe,Qf,Qg,Qh,Qi,Qj,Qk,Ql,Qm,Qn,Qo,Qp,Qq,Qr,Qs,implies_true,Qt,Qu,Qv,Qw,Qx,Qy,Qz,QA,QB,QC,QD,QE,QF,QG,QH,QI,QJ,QK,QL,QM,QN,QO,QP,QQ]
  first | done | rfl
 ·have e':(t=[116,114,117,101])=False:=eq_false e
  rw [if_neg e]
  simp (config:={maxSteps:=1000000}) (disch:=((try simp only [awL]);omega)) only [QR,QS,QT,QU,QV,QW,QX,QY,QZ,Q0,Q1,Q2,e',Tryz.f67,↓awU,awV,awF,Qa,Qb,Qc,Qd,forall_const,↓reduceIte,↓reduceDIte,↓Qe,Qf,Qg,Qh,Qi,Qj,Qk,Ql,Qm,Qn,Qo,Qp,Qq,Qr,Qs,implies_true,Qt,Qu,Qv,Qw,Qx,Qy,Qz,QA,QB,QC,QD,QE,QF,QG,QH,QI,QJ,QK,QL,QM,QN,QO,QP,QQ]
  refine CallC.of (whole_spec 0 (by decide) (by decide)) (by rfl) ?_
  simp (config:={maxSteps:=1000000}) (disch:=((try simp only [awL]);omega)) only [QR,QS,QT,QU,QV,QW,QX,QY,QZ,Q0,Q1,Q2,↓awU,awV,awF,Qa,Qb,Qc,Qd,forall_const,↓reduceIte,↓reduceDIte,↓Qe,Qf,Qg,Qh,Qi,Qj,Qk,Ql,Qm,Qn,Qo,Qp,Qq,Qr,Qs,implies_true,Qt,Qu,Qv,Qw,Qx,Qy,Qz,QA,QB,QC,QD,QE,QF,QG,QH,QI,QJ,QK,QL,QM,QN,QO,QP,QQ]
  first | done | rfl
end Go.Proofs.YtdpjcghiegggbaaGreatDoor
namespace Go.Proofs.YtdpjcghiegggbaaGreatDoor
open Go Go.Proofs Go.Abs
variable {G:Globals}
theorem tsplit_spec (c:UInt8) (s:List UInt8) (hs:s.length≤1000000000):Ctr Tryz.prog G 107 [.d (S s),.d (S [c])] [] (.d (Ss (splB c s) false)) []:=by
 refine Ctr.pure (M:=M0) hmix Tryz.func107 rfl go107 ?_
 simp (config:={maxSteps:=1000000}) (disch:=((try simp only [awL]);omega)) only [QR,QS,QT,QU,QV,QW,QX,QY,QZ,Q0,Q1,Q2,Tryz.f107,↓awU,awV,awF,Qa,Qb,Qc,Qd,forall_const,↓reduceIte,↓reduceDIte,↓Qe,Qf,Qg,Qh,Qi,Qj,Qk,Ql,Qm,Qn,Qo,Qp,Qq,Qr,Qs,implies_true,Qt,Qu,Qv,Qw,Qx,Qy,Qz,QA,QB,QC,QD,QE,QF,QG,QH,QI,QJ,QK,QL,QM,QN,QO,QP,QQ]
 refine CallC.of (genSplit_spec c s hs) (by rfl) ?_
 simp (config:={maxSteps:=1000000}) (disch:=((try simp only [awL]);omega)) only [QR,QS,QT,QU,QV,QW,QX,QY,QZ,Q0,Q1,Q2,↓awU,awV,awF,Qa,Qb,Qc,Qd,forall_const,↓reduceIte,↓reduceDIte,↓Qe,Qf,Qg,Qh,Qi,Qj,Qk,Ql,Qm,Qn,Qo,Qp,Qq,Qr,Qs,implies_true,Qt,Qu,Qv,Qw,Qx,Qy,Qz,QA,QB,QC,QD,QE,QF,QG,QH,QI,QJ,QK,QL,QM,QN,QO,QP,QQ]
 first | done | rfl
def dst (t:List UInt8) (i:Nat):T3 :=
 match i with
 | 0=>([],[],[])
 | 1=>step3 45 t ([],[],[])
 | 2=>step3 47 t (step3 45 t ([],[],[]))
 | _=>ymd t
theorem step3_eq {c:UInt8} {t a b d:List UInt8} (x:T3) (e:splB c t=[a,b,d]):step3 c t x=(a,b,d):=by unfold step3;rw [e,if_pos (show [a,b,d].length=3 from rfl)];rfl
theorem step3_no {c:UInt8} {t:List UInt8} (x:T3) (h:(splB c t).length≠3):step3 c t x=x:=by unfold step3;rw [if_neg h]
def MDa:Muts:=fun k=>k == 2000024
theorem MDa_n {k:Nat} (h:k≠2000024):MDa k=false:=by simp only [MDa,beq_eq_false_iff_ne];exact h
def cutsB:List AV:=[.d (.str ⟨#[45]⟩),.ptr 0 0,.ptr 1 0,.ptr 2 0,.d (.str ⟨#[47]⟩),.ptr 0 0,.ptr 1 0,.ptr 2 0,.d (.str ⟨#[46]⟩),.ptr 2 0,.ptr 1 0,.ptr 0 0]
theorem ymd_len (t:List UInt8):(ymd t).1.length≤t.length∧(ymd t).2.1.length≤t.length∧(ymd t).2.2.length≤t.length:=by
 rcases ymd_cases t with e | ⟨c,_,e⟩ | e
 ·rw [e];exact ⟨Nat.zero_le _,Nat.zero_le _,Nat.zero_le _⟩
 ·have:=congrArg List.length e
  simp only [List.length_append,List.length_cons] at this
  omega
 ·have:=congrArg List.length e
  simp only [List.length_append,List.length_cons] at this
  omega
set_option maxHeartbeats 16000000 in
set_option maxRecDepth 100000 in
theorem tdtext_spec (hE:HE G) (hP:HP G) (t:List UInt8) (ht:t.length≤2000000):Ctr Tryz.prog G 71 [.d (S t)] [] (.d (.tup [S (canDt t),.bool (okD t)])) []:=by
 refine Ctr.pure (M:=MDa) hmix Tryz.func71 rfl go71 ?_
 have mk:markK MDa (some 24)=true:=rfl
 have hb0:ByteArray.empty=bs []:=rfl
 simp (config:={maxSteps:=1000000}) (disch:=((try simp only [awL]);omega)) only [QR,QS,QT,QU,QV,QW,QX,QY,QZ,Q0,Q1,Q2,MDa_n,mk,Tryz.f71,↓awU,awV,awF,Qa,Qb,Qc,Qd,forall_const,↓reduceIte,↓reduceDIte,↓Qe,Qf,Qg,Qh,Qi,Qj,Qk,Ql,Qm,Qn,Qo,Qp,Qq,Qr,Qs,implies_true,Qt,Qu,Qv,Qw,Qx,Qy,Qz,QA,QB,QC,QD,QE,QF,QG,QH,QI,QJ,QK,QL,QM,QN,QO,QP,QQ]
 refine LoopC.fx 50331761 (α:=Nat) (β:=Unit) (fun i=>3 - i) (fun i=>[(26,.d (.int .i64 (i:Nat)))])
  (fun i=>[.box [.d (S (dst t i).1)],.box [.d (S (dst t i).2.1)],.box [.d (S (dst t i).2.2)],.box cutsB]) (fun i=>i≤3)
  112 (fun _=>[]) (fun _=>[.box [.d (S (ymd t).1)],.box [.d (S (ymd t).2.1)],.box [.d (S (ymd t).2.2)],.box cutsB]) (fun _=>True) 0 (Nat.zero_le _) ?_ ?_ ?_
 ·exact ⟨[some 0,some 1,some 2,some 3],rfl,by simp,by simp [setsA,keepA,SWeak,AWeak],by simp [HWeak,BWeak,SWeak,AWeak,cutsB,dst,hb0]⟩
 ·intro i hi
  simp only [awK,Nat.reduceMod,Nat.reduceDiv,reduceIte]
  unfold cutsB
  rcases (by omega:i=0∨i=1∨i=2∨i=3) with e | e | e | e
  ·subst e
   have sp:=tsplit_spec (G:=G) 45 t (by omega)
   by_cases h:(splB 45 t).length=3
   ·obtain ⟨a,b,d,e,_⟩:=spl3_of h
    rw [e,show Ss [a,b,d] false=.sl 3 false [S a,S b,S d] from rfl] at sp
    have n0:dst t 0=([],[],[]):=rfl
    have n1:dst t 1=(a,b,d):=step3_eq _ e
    simp (config:={maxSteps:=1000000}) (disch:=((try simp only [awL]);omega)) only [QR,QS,QT,QU,QV,QW,QX,QY,QZ,Q0,Q1,Q2,MDa_n,mk,↓awU,awV,awF,Qa,Qb,Qc,Qd,forall_const,↓reduceIte,↓reduceDIte,↓Qe,Qf,Qg,Qh,Qi,Qj,Qk,Ql,Qm,Qn,Qo,Qp,Qq,Qr,Qs,implies_true,Qt,Qu,Qv,Qw,Qx,Qy,Qz,QA,QB,QC,QD,QE,QF,QG,QH,QI,QJ,QK,QL,QM,QN,QO,QP,QQ]
    refine CallC.of sp (by rfl) ?_
    simp (config:={maxSteps:=1000000}) (disch:=((try simp only [awL]);omega)) only [QR,QS,QT,QU,QV,QW,QX,QY,QZ,Q0,Q1,Q2,MDa_n,mk,↓awU,awV,awF,Qa,Qb,Qc,Qd,forall_const,↓reduceIte,↓reduceDIte,↓Qe,Qf,Qg,Qh,Qi,Qj,Qk,Ql,Qm,Qn,Qo,Qp,Qq,Qr,Qs,implies_true,Qt,Qu,Qv,Qw,Qx,Qy,Qz,QA,QB,QC,QD,QE,QF,QG,QH,QI,QJ,QK,QL,QM,QN,QO,QP,QQ]
    first
    | exact ⟨0+1,by omega,by simp only;omega,⟨[some 0,some 1,some 2,some 3],rfl,by simp,by simp [setsA,keepA,SWeak,AWeak],by simp [HWeak,BWeak,SWeak,AWeak,cutsB,n1]⟩⟩
    | exact ⟨by rfl,0+1,by omega,by simp only;omega,⟨[some 0,some 1,some 2,some 3],rfl,by simp,by simp [setsA,keepA,SWeak,AWeak],by simp [HWeak,BWeak,SWeak,AWeak,cutsB,n1]⟩⟩
   ·have n1:dst t 1=dst t 0:=step3_no _ h
    generalize splB 45 t=L at *
    simp (config:={maxSteps:=1000000}) (disch:=((try simp only [awL]);omega)) only [QR,QS,QT,QU,QV,QW,QX,QY,QZ,Q0,Q1,Q2,MDa_n,mk,↓awU,awV,awF,Qa,Qb,Qc,Qd,forall_const,↓reduceIte,↓reduceDIte,↓Qe,Qf,Qg,Qh,Qi,Qj,Qk,Ql,Qm,Qn,Qo,Qp,Qq,Qr,Qs,implies_true,Qt,Qu,Qv,Qw,Qx,Qy,Qz,QA,QB,QC,QD,QE,QF,QG,QH,QI,QJ,QK,QL,QM,QN,QO,QP,QQ]
    refine CallC.of sp (by rfl) ?_
    simp (config:={maxSteps:=1000000}) (disch:=((try simp only [awL]);omega)) only [QR,QS,QT,QU,QV,QW,QX,QY,QZ,Q0,Q1,Q2,MDa_n,mk,↓awU,awV,awF,Qa,Qb,Qc,Qd,forall_const,↓reduceIte,↓reduceDIte,↓Qe,Qf,Qg,Qh,Qi,Qj,Qk,Ql,Qm,Qn,Qo,Qp,Qq,Qr,Qs,implies_true,Qt,Qu,Qv,Qw,Qx,Qy,Qz,QA,QB,QC,QD,QE,QF,QG,QH,QI,QJ,QK,QL,QM,QN,QO,QP,QQ]
    first
    | exact ⟨0+1,by omega,by simp only;omega,⟨[some 0,some 1,some 2,some 3],rfl,by simp,by simp [setsA,keepA,SWeak,AWeak],by simp [HWeak,BWeak,SWeak,AWeak,cutsB,n1]⟩⟩
    | exact ⟨by rfl,0+1,by omega,by simp only;omega,⟨[some 0,some 1,some 2,some 3],rfl,by simp,by simp [setsA,keepA,SWeak,AWeak],by simp [HWeak,BWeak,SWeak,AWeak,cutsB,n1]⟩⟩
  ·subst e
   have sp:=tsplit_spec (G:=G) 47 t (by omega)
   by_cases h:(splB 47 t).length=3
   ·obtain ⟨a,b,d,e,_⟩:=spl3_of h
    rw [e,show Ss [a,b,d] false=.sl 3 false [S a,S b,S d] from rfl] at sp
    have n1:dst t 2=(a,b,d):=step3_eq _ e
    simp (config:={maxSteps:=1000000}) (disch:=((try simp only [awL]);omega)) only [QR,QS,QT,QU,QV,QW,QX,QY,QZ,Q0,Q1,Q2,MDa_n,mk,↓awU,awV,awF,Qa,Qb,Qc,Qd,forall_const,↓reduceIte,↓reduceDIte,↓Qe,Qf,Qg,Qh,Qi,Qj,Qk,Ql,Qm,Qn,Qo,Qp,Qq,Qr,Qs,implies_true,Qt,Qu,Qv,Qw,Qx,Qy,Qz,QA,QB,QC,QD,QE,QF,QG,QH,QI,QJ,QK,QL,QM,QN,QO,QP,QQ]
    refine CallC.of sp (by rfl) ?_
    simp (config:={maxSteps:=1000000}) (disch:=((try simp only [awL]);omega)) only [QR,QS,QT,QU,QV,QW,QX,QY,QZ,Q0,Q1,Q2,MDa_n,mk,↓awU,awV,awF,Qa,Qb,Qc,Qd,forall_const,↓reduceIte,↓reduceDIte,↓Qe,Qf,Qg,Qh,Qi,Qj,Qk,Ql,Qm,Qn,Qo,Qp,Qq,Qr,Qs,implies_true,Qt,Qu,Qv,Qw,Qx,Qy,Qz,QA,QB,QC,QD,QE,QF,QG,QH,QI,QJ,QK,QL,QM,QN,QO,QP,QQ]
    first
    | exact ⟨1+1,by omega,by simp only;omega,⟨[some 0,some 1,some 2,some 3],rfl,by simp,by simp [setsA,keepA,SWeak,AWeak],by simp [HWeak,BWeak,SWeak,AWeak,cutsB,n1]⟩⟩
    | exact ⟨by rfl,1+1,by omega,by simp only;omega,⟨[some 0,some 1,some 2,some 3],rfl,by simp,by simp [setsA,keepA,SWeak,AWeak],by simp [HWeak,BWeak,SWeak,AWeak,cutsB,n1]⟩⟩
   ·have n1:dst t 2=dst t 1:=step3_no _ h
    generalize splB 47 t=L at *
    simp (config:={maxSteps:=1000000}) (disch:=((try simp only [awL]);omega)) only [QR,QS,QT,QU,QV,QW,QX,QY,QZ,Q0,Q1,Q2,MDa_n,mk,↓awU,awV,awF,Qa,Qb,Qc,Qd,forall_const,↓reduceIte,↓reduceDIte,↓Qe,Qf,Qg,Qh,Qi,Qj,Qk,Ql,Qm,Qn,Qo,Qp,Qq,Qr,Qs,implies_true,Qt,Qu,Qv,Qw,Qx,Qy,Qz,QA,QB,QC,QD,QE,QF,QG,QH,QI,QJ,QK,QL,QM,QN,QO,QP,QQ]
    refine CallC.of sp (by rfl) ?_
    simp (config:={maxSteps:=1000000}) (disch:=((try simp only [awL]);omega)) only [QR,QS,QT,QU,QV,QW,QX,QY,QZ,Q0,Q1,Q2,MDa_n,mk,↓awU,awV,awF,Qa,Qb,Qc,Qd,forall_const,↓reduceIte,↓reduceDIte,↓Qe,Qf,Qg,Qh,Qi,Qj,Qk,Ql,Qm,Qn,Qo,Qp,Qq,Qr,Qs,implies_true,Qt,Qu,Qv,Qw,Qx,Qy,Qz,QA,QB,QC,QD,QE,QF,QG,QH,QI,QJ,QK,QL,QM,QN,QO,QP,QQ]
    first
    | exact ⟨1+1,by omega,by simp only;omega,⟨[some 0,some 1,some 2,some 3],rfl,by simp,by simp [setsA,keepA,SWeak,AWeak],by simp [HWeak,BWeak,SWeak,AWeak,cutsB,n1]⟩⟩
    | exact ⟨by rfl,1+1,by omega,by simp only;omega,⟨[some 0,some 1,some 2,some 3],rfl,by simp,by simp [setsA,keepA,SWeak,AWeak],by simp [HWeak,BWeak,SWeak,AWeak,cutsB,n1]⟩⟩
  ·subst e
   have sp:=tsplit_spec (G:=G) 46 t (by omega)
   by_cases h:(splB 46 t).length=3
   ·obtain ⟨a,b,d,e,_⟩:=spl3_of h
    rw [e,show Ss [a,b,d] false=.sl 3 false [S a,S b,S d] from rfl] at sp
    have n1:dst t 3=(d,b,a):=by show ymd t=_;unfold ymd;rw [step3_eq _ e];rfl
    simp (config:={maxSteps:=1000000}) (disch:=((try simp only [awL]);omega)) only [QR,QS,QT,QU,QV,QW,QX,QY,QZ,Q0,Q1,Q2,MDa_n,mk,↓awU,awV,awF,Qa,Qb,Qc,Qd,forall_const,↓reduceIte,↓reduceDIte,↓Qe,Qf,Qg,Qh,Qi,Qj,Qk,Ql,Qm,Qn,Qo,Qp,Qq,Qr,Qs,implies_true,Qt,Qu,Qv,Qw,Qx,Qy,Qz,QA,QB,QC,QD,QE,QF,QG,QH,QI,QJ,QK,QL,QM,QN,QO,QP,QQ]
    refine CallC.of sp (by rfl) ?_
    simp (config:={maxSteps:=1000000}) (disch:=((try simp only [awL]);omega)) only [QR,QS,QT,QU,QV,QW,QX,QY,QZ,Q0,Q1,Q2,MDa_n,mk,↓awU,awV,awF,Qa,Qb,Qc,Qd,forall_const,↓reduceIte,↓reduceDIte,↓Qe,Qf,Qg,Qh,Qi,Qj,Qk,Ql,Qm,Qn,Qo,Qp,Qq,Qr,Qs,implies_true,Qt,Qu,Qv,Qw,Qx,Qy,Qz,QA,QB,QC,QD,QE,QF,QG,QH,QI,QJ,QK,QL,QM,QN,QO,QP,QQ]
    first
    | exact ⟨2+1,by omega,by simp only;omega,⟨[some 0,some 1,some 2,some 3],rfl,by simp,by simp [setsA,keepA,SWeak,AWeak],by simp [HWeak,BWeak,SWeak,AWeak,cutsB,n1]⟩⟩
    | exact ⟨by rfl,2+1,by omega,by simp only;omega,⟨[some 0,some 1,some 2,some 3],rfl,by simp,by simp [setsA,keepA,SWeak,AWeak],by simp [HWeak,BWeak,SWeak,AWeak,cutsB,n1]⟩⟩
   ·have n1:dst t 3=dst t 2:=by show ymd t=_;unfold ymd;rw [step3_no _ h];rfl
    generalize splB 46 t=L at *
    simp (config:={maxSteps:=1000000}) (disch:=((try simp only [awL]);omega)) only [QR,QS,QT,QU,QV,QW,QX,QY,QZ,Q0,Q1,Q2,MDa_n,mk,↓awU,awV,awF,Qa,Qb,Qc,Qd,forall_const,↓reduceIte,↓reduceDIte,↓Qe,Qf,Qg,Qh,Qi,Qj,Qk,Ql,Qm,Qn,Qo,Qp,Qq,Qr,Qs,implies_true,Qt,Qu,Qv,Qw,Qx,Qy,Qz,QA,QB,QC,QD,QE,QF,QG,QH,QI,QJ,QK,QL,QM,QN,QO,QP,QQ]
    refine CallC.of sp (by rfl) ?_
    simp (config:={maxSteps:=1000000}) (disch:=((try simp only [awL]);omega)) only [QR,QS,QT,QU,QV,QW,QX,QY,QZ,Q0,Q1,Q2,MDa_n,mk,↓awU,awV,awF,Qa,Qb,Qc,Qd,forall_const,↓reduceIte,↓reduceDIte,↓Qe,Qf,Qg,Qh,Qi,Qj,Qk,Ql,Qm,Qn,Qo,Qp,Qq,Qr,Qs,implies_true,Qt,Qu,Qv,Qw,Qx,Qy,Qz,QA,QB,QC,QD,QE,QF,QG,QH,QI,QJ,QK,QL,QM,QN,QO,QP,QQ]
    first
    | exact ⟨2+1,by omega,by simp only;omega,⟨[some 0,some 1,some 2,some 3],rfl,by simp,by simp [setsA,keepA,SWeak,AWeak],by simp [HWeak,BWeak,SWeak,AWeak,cutsB,n1]⟩⟩
    | exact ⟨by rfl,2+1,by omega,by simp only;omega,⟨[some 0,some 1,some 2,some 3],rfl,by simp,by simp [setsA,keepA,SWeak,AWeak],by simp [HWeak,BWeak,SWeak,AWeak,cutsB,n1]⟩⟩
  ·subst e
   have n1:dst t 3=ymd t:=rfl
   simp (config:={maxSteps:=1000000}) (disch:=((try simp only [awL]);omega)) only [QR,QS,QT,QU,QV,QW,QX,QY,QZ,Q0,Q1,Q2,MDa_n,mk,↓awU,awV,awF,Qa,Qb,Qc,Qd,forall_const,↓reduceIte,↓reduceDIte,↓Qe,Qf,Qg,Qh,Qi,Qj,Qk,Ql,Qm,Qn,Qo,Qp,Qq,Qr,Qs,implies_true,Qt,Qu,Qv,Qw,Qx,Qy,Qz,QA,QB,QC,QD,QE,QF,QG,QH,QI,QJ,QK,QL,QM,QN,QO,QP,QQ]
   first
   | exact ⟨(),trivial,⟨[some 0,some 1,some 2,some 3],rfl,by simp,by simp [setsA,keepA,SWeak,AWeak],by simp [HWeak,BWeak,SWeak,AWeak,cutsB,n1]⟩⟩
 ·rintro ⟨⟩ -
  simp only [awK,Nat.reduceMod,Nat.reduceDiv,reduceIte]
  obtain ⟨l1,l2,l3⟩:=ymd_len t
  have s1:=tfield_spec hE hP (ymd t).1 4 (by omega) (by omega)
  have s2:=tfield_spec hE hP (ymd t).2.1 2 (by omega) (by omega)
  have s3:=tfield_spec hE hP (ymd t).2.2 2 (by omega) (by omega)
  obtain ⟨y1,y2⟩:=fldR_i64 (ymd t).1 4
  obtain ⟨m1,m2⟩:=fldR_i64 (ymd t).2.1 2
  obtain ⟨d1,d2⟩:=fldR_i64 (ymd t).2.2 2
  have oe:=okP_eq t
  have ce:=@canP_eq t
  unfold okP at oe ce
  rw [oe] at ce
  have ck:=okDt_pos (y:=(pY t).1) (m:=(pM t).1) (d:=(pD t).1)
  unfold pY pM pD at *
  have sd:=day_spec (G:=G) _ _ _ y1 y2 m1 m2 d1 d2
  generalize (ymd t).1=Y at *
  generalize (ymd t).2.1=M at *
  generalize (ymd t).2.2=D at *
  generalize fldR Y 4=yp at *
  generalize fldR M 2=mp at *
  generalize fldR D 2=dp at *
  obtain ⟨y,yb⟩:=yp
  obtain ⟨m,mb⟩:=mp
  obtain ⟨d,db⟩:=dp
  simp only at *
  generalize hcd:canDt t=C at *
  have cn:okD t=false→C=[]:=fun q=>by rw [← hcd];unfold canDt;rw [if_neg (by rw [q];decide)]
  generalize okD t=ok at *
  generalize dayV y m d=dv at *
  simp (config:={maxSteps:=1000000}) (disch:=((try simp only [awL]);omega)) only [QR,QS,QT,QU,QV,QW,QX,QY,QZ,Q0,Q1,Q2,MDa_n,mk,↓awU,awV,awF,Qa,Qb,Qc,Qd,forall_const,↓reduceIte,↓reduceDIte,↓Qe,Qf,Qg,Qh,Qi,Qj,Qk,Ql,Qm,Qn,Qo,Qp,Qq,Qr,Qs,implies_true,Qt,Qu,Qv,Qw,Qx,Qy,Qz,QA,QB,QC,QD,QE,QF,QG,QH,QI,QJ,QK,QL,QM,QN,QO,QP,QQ]
  refine CallC.of s1 (by rfl) ?_
  simp (config:={maxSteps:=1000000}) (disch:=((try simp only [awL]);omega)) only [QR,QS,QT,QU,QV,QW,QX,QY,QZ,Q0,Q1,Q2,MDa_n,mk,↓awU,awV,awF,Qa,Qb,Qc,Qd,forall_const,↓reduceIte,↓reduceDIte,↓Qe,Qf,Qg,Qh,Qi,Qj,Qk,Ql,Qm,Qn,Qo,Qp,Qq,Qr,Qs,implies_true,Qt,Qu,Qv,Qw,Qx,Qy,Qz,QA,QB,QC,QD,QE,QF,QG,QH,QI,QJ,QK,QL,QM,QN,QO,QP,QQ]
  refine CallC.of s2 (by rfl) ?_
  simp (config:={maxSteps:=1000000}) (disch:=((try simp only [awL]);omega)) only [QR,QS,QT,QU,QV,QW,QX,QY,QZ,Q0,Q1,Q2,MDa_n,mk,↓awU,awV,awF,Qa,Qb,Qc,Qd,forall_const,↓reduceIte,↓reduceDIte,↓Qe,Qf,Qg,Qh,Qi,Qj,Qk,Ql,Qm,Qn,Qo,Qp,Qq,Qr,Qs,implies_true,Qt,Qu,Qv,Qw,Qx,Qy,Qz,QA,QB,QC,QD,QE,QF,QG,QH,QI,QJ,QK,QL,QM,QN,QO,QP,QQ]
  refine CallC.of s3 (by rfl) ?_
  simp (config:={maxSteps:=1000000}) (disch:=((try simp only [awL]);omega)) only [QR,QS,QT,QU,QV,QW,QX,QY,QZ,Q0,Q1,Q2,MDa_n,mk,↓awU,awV,awF,Qa,Qb,Qc,Qd,forall_const,↓reduceIte,↓reduceDIte,↓Qe,Qf,Qg,Qh,Qi,Qj,Qk,Ql,Qm,Qn,Qo,Qp,Qq,Qr,Qs,implies_true,Qt,Qu,Qv,Qw,Qx,Qy,Qz,QA,QB,QC,QD,QE,QF,QG,QH,QI,QJ,QK,QL,QM,QN,QO,QP,QQ]
  refine CallC.of sd (by rfl) ?_
  cases h0:okDt y m d
  ·rw [h0] at oe
   obtain rfl:ok=false:=by rw [← oe];rfl
   rw [cn rfl]
   simp (config:={maxSteps:=1000000}) (disch:=((try simp only [awL]);omega)) only [QR,QS,QT,QU,QV,QW,QX,QY,QZ,Q0,Q1,Q2,MDa_n,mk,↓awU,awV,awF,Qa,Qb,Qc,Qd,forall_const,↓reduceIte,↓reduceDIte,↓Qe,Qf,Qg,Qh,Qi,Qj,Qk,Ql,Qm,Qn,Qo,Qp,Qq,Qr,Qs,implies_true,Qt,Qu,Qv,Qw,Qx,Qy,Qz,QA,QB,QC,QD,QE,QF,QG,QH,QI,QJ,QK,QL,QM,QN,QO,QP,QQ]
   first | done | rfl
  cases yb
  ·rw [h0] at oe
   obtain rfl:ok=false:=by rw [← oe];rfl
   rw [cn rfl]
   simp (config:={maxSteps:=1000000}) (disch:=((try simp only [awL]);omega)) only [QR,QS,QT,QU,QV,QW,QX,QY,QZ,Q0,Q1,Q2,MDa_n,mk,↓awU,awV,awF,Qa,Qb,Qc,Qd,forall_const,↓reduceIte,↓reduceDIte,↓Qe,Qf,Qg,Qh,Qi,Qj,Qk,Ql,Qm,Qn,Qo,Qp,Qq,Qr,Qs,implies_true,Qt,Qu,Qv,Qw,Qx,Qy,Qz,QA,QB,QC,QD,QE,QF,QG,QH,QI,QJ,QK,QL,QM,QN,QO,QP,QQ]
   first | done | rfl
  cases mb
  ·rw [h0] at oe
   obtain rfl:ok=false:=by rw [← oe];rfl
   rw [cn rfl]
   simp (config:={maxSteps:=1000000}) (disch:=((try simp only [awL]);omega)) only [QR,QS,QT,QU,QV,QW,QX,QY,QZ,Q0,Q1,Q2,MDa_n,mk,↓awU,awV,awF,Qa,Qb,Qc,Qd,forall_const,↓reduceIte,↓reduceDIte,↓Qe,Qf,Qg,Qh,Qi,Qj,Qk,Ql,Qm,Qn,Qo,Qp,Qq,Qr,Qs,implies_true,Qt,Qu,Qv,Qw,Qx,Qy,Qz,QA,QB,QC,QD,QE,QF,QG,QH,QI,QJ,QK,QL,QM,QN,QO,QP,QQ]
   first | done | rfl
  cases db
  ·rw [h0] at oe
   obtain rfl:ok=false:=by rw [← oe];rfl
   rw [cn rfl]
   simp (config:={maxSteps:=1000000}) (disch:=((try simp only [awL]);omega)) only [QR,QS,QT,QU,QV,QW,QX,QY,QZ,Q0,Q1,Q2,MDa_n,mk,↓awU,awV,awF,Qa,Qb,Qc,Qd,forall_const,↓reduceIte,↓reduceDIte,↓Qe,Qf,Qg,Qh,Qi,Qj,Qk,Ql,Qm,Qn,Qo,Qp,Qq,Qr,Qs,implies_true,Qt,Qu,Qv,Qw,Qx,Qy,Qz,QA,QB,QC,QD,QE,QF,QG,QH,QI,QJ,QK,QL,QM,QN,QO,QP,QQ]
   first | done | rfl
  rw [h0] at oe
  obtain rfl:ok=true:=by rw [← oe];rfl
  have ce:=ce rfl
  obtain ⟨p1,p2,p3,p4,p5,p6⟩:=ck h0
  have t4:(10:Nat) ^ 4=10000:=by decide
  have t2:(10:Nat) ^ 2=100:=by decide
  have a1:(padP y 4).length=4:=by
   obtain ⟨n,rfl⟩:∃ n:Nat,y=n:=⟨y.toNat,by omega⟩
   rw [padP_eq (by decide) (by omega),padN_len]
  have a2:(padP m 2).length=2:=by
   obtain ⟨n,rfl⟩:∃ n:Nat,m=n:=⟨m.toNat,by omega⟩
   rw [padP_eq (by decide) (by omega),padN_len]
  have a3:(padP d 2).length=2:=by
   obtain ⟨n,rfl⟩:∃ n:Nat,d=n:=⟨d.toNat,by omega⟩
   rw [padP_eq (by decide) (by omega),padN_len]
  have q1:=padded_spec hP y 4 (by omega) (by omega) (by decide)
  have q2:=padded_spec hP m 2 (by omega) (by omega) (by decide)
  have q3:=padded_spec hP d 2 (by omega) (by omega) (by decide)
  rw [← ce]
  generalize padP y 4=ys at *
  generalize padP m 2=ms at *
  generalize padP d 2=ds at *
  simp (config:={maxSteps:=1000000}) (disch:=((try simp only [awL]);omega)) only [QR,QS,QT,QU,QV,QW,QX,QY,QZ,Q0,Q1,Q2,MDa_n,mk,↓awU,awV,awF,Qa,Qb,Qc,Qd,forall_const,↓reduceIte,↓reduceDIte,↓Qe,Qf,Qg,Qh,Qi,Qj,Qk,Ql,Qm,Qn,Qo,Qp,Qq,Qr,Qs,implies_true,Qt,Qu,Qv,Qw,Qx,Qy,Qz,QA,QB,QC,QD,QE,QF,QG,QH,QI,QJ,QK,QL,QM,QN,QO,QP,QQ]
  refine CallC.of q1 (by rfl) ?_
  simp (config:={maxSteps:=1000000}) (disch:=((try simp only [awL]);omega)) only [QR,QS,QT,QU,QV,QW,QX,QY,QZ,Q0,Q1,Q2,MDa_n,mk,↓awU,awV,awF,Qa,Qb,Qc,Qd,forall_const,↓reduceIte,↓reduceDIte,↓Qe,Qf,Qg,Qh,Qi,Qj,Qk,Ql,Qm,Qn,Qo,Qp,Qq,Qr,Qs,implies_true,Qt,Qu,Qv,Qw,Qx,Qy,Qz,QA,QB,QC,QD,QE,QF,QG,QH,QI,QJ,QK,QL,QM,QN,QO,QP,QQ]
  refine CallC.of q2 (by rfl) ?_
  simp (config:={maxSteps:=1000000}) (disch:=((try simp only [awL]);omega)) only [QR,QS,QT,QU,QV,QW,QX,QY,QZ,Q0,Q1,Q2,MDa_n,mk,↓awU,awV,awF,Qa,Qb,Qc,Qd,forall_const,↓reduceIte,↓reduceDIte,↓Qe,Qf,Qg,Qh,Qi,Qj,Qk,Ql,Qm,Qn,Qo,Qp,Qq,Qr,Qs,implies_true,Qt,Qu,Qv,Qw,Qx,Qy,Qz,QA,QB,QC,QD,QE,QF,QG,QH,QI,QJ,QK,QL,QM,QN,QO,QP,QQ]
  refine CallC.of q3 (by rfl) ?_
  simp (config:={maxSteps:=1000000}) (disch:=((try simp only [awL]);omega)) only [QR,QS,QT,QU,QV,QW,QX,QY,QZ,Q0,Q1,Q2,MDa_n,mk,List.append_assoc,↓awU,awV,awF,Qa,Qb,Qc,Qd,forall_const,↓reduceIte,↓reduceDIte,↓Qe,Qf,Qg,Qh,Qi,Qj,Qk,Ql,Qm,Qn,Qo,Qp,Qq,Qr,Qs,implies_true,Qt,Qu,Qv,Qw,Qx,Qy,Qz,QA,QB,QC,QD,QE,QF,QG,QH,QI,QJ,QK,QL,QM,QN,QO,QP,QQ]
  first | done | rfl | (simp only [List.append_assoc,List.singleton_append];rfl)
theorem atoiD_padN {w n:Nat} (h1:1≤w) (h9:w≤9) (h:n<10 ^ w):atoiD (padN w n)=.tup [.int .i64 n,.nili]:=by unfold atoiD;rw [atoi_padN h1 h9 h]
def dyN (y m d:Nat) (i:Nat):List AV:=[.d (.int .i64 (if 1≤i then (y:Int) else 0)),.d (.int .i64 (if 2≤i then (m:Int) else 0)),.d (.int .i64 (if 3≤i then (d:Int) else 0))]
set_option maxHeartbeats 16000000 in
set_option maxRecDepth 100000 in
theorem dayOf_spec (hE:HE G) (y m d:Int) (ok:okDt y m d=true):Ctr Tryz.prog G 72 [.d (S (dateS y m d))] [] (.d (.tup [Num.Frac (dayV y m d:Rat),.bool true])) []:=by
 refine Ctr.pure (M:=M0) hmix Tryz.func72 rfl go72 ?_
 obtain ⟨p1,p2,p3,p4,p5,p6⟩:=okDt_pos ok
 have t4:(10:Nat) ^ 4=10000:=by decide
 have t2:(10:Nat) ^ 2=100:=by decide
 obtain ⟨y,rfl⟩:∃ n:Nat,y=n:=⟨y.toNat,by omega⟩
 obtain ⟨m,rfl⟩:∃ n:Nat,m=n:=⟨m.toNat,by omega⟩
 obtain ⟨d,rfl⟩:∃ n:Nat,d=n:=⟨d.toNat,by omega⟩
 have sl:=spl_dateS y m d
 have dl:(dateS y m d).length=10:=dateS_len _ _ _
 have sp:=tsplit_spec (G:=G) 45 (dateS y m d) (by omega)
 rw [sl] at sp
 simp only [Int.toNat_natCast] at sp
 have a1:=atoi_spec hE (padN 4 y) (by rw [padN_len];decide)
 have a2:=atoi_spec hE (padN 2 m) (by rw [padN_len];decide)
 have a3:=atoi_spec hE (padN 2 d) (by rw [padN_len];decide)
 rw [atoiD_padN (by decide) (by decide) (by omega)] at a1 a2 a3
 have sd:=day_spec (G:=G) y m d (by omega) (by omega) (by omega) (by omega) (by omega) (by omega)
 have dr:-719162≤dayV y m d∧dayV y m d≤2932896:=by
  have:=(okDt_is ok).range
  unfold dayV
  rw [if_pos ok];omega
 generalize dateS y m d=t at *
 generalize dayV y m d=dv at *
 generalize padN 4 y=ys at *
 generalize padN 2 m=ms at *
 generalize padN 2 d=ds at *
 rw [ok] at sd
 rw [show Ss [ys,ms,ds] false=.sl 3 false [S ys,S ms,S ds] from rfl] at sp
 simp (config:={maxSteps:=1000000}) (disch:=((try simp only [awL]);omega)) only [QR,QS,QT,QU,QV,QW,QX,QY,QZ,Q0,Q1,Q2,Tryz.f72,↓awU,awV,awF,Qa,Qb,Qc,Qd,forall_const,↓reduceIte,↓reduceDIte,↓Qe,Qf,Qg,Qh,Qi,Qj,Qk,Ql,Qm,Qn,Qo,Qp,Qq,Qr,Qs,implies_true,Qt,Qu,Qv,Qw,Qx,Qy,Qz,QA,QB,QC,QD,QE,QF,QG,QH,QI,QJ,QK,QL,QM,QN,QO,QP,QQ]
 refine CallC.of sp (by rfl) ?_
 simp (config:={maxSteps:=1000000}) (disch:=((try simp only [awL]);omega)) only [QR,QS,QT,QU,QV,QW,QX,QY,QZ,Q0,Q1,Q2,↓awU,awV,awF,Qa,Qb,Qc,Qd,forall_const,↓reduceIte,↓reduceDIte,↓Qe,Qf,Qg,Qh,Qi,Qj,Qk,Ql,Qm,Qn,Qo,Qp,Qq,Qr,Qs,implies_true,Qt,Qu,Qv,Qw,Qx,Qy,Qz,QA,QB,QC,QD,QE,QF,QG,QH,QI,QJ,QK,QL,QM,QN,QO,QP,QQ]
 refine LoopC.fx 3092 (α:=Nat) (β:=Unit) (fun i=>3 - i) (fun i=>[(12,.d (.int .i64 (i:Nat)))])
  (fun i=>[.box [.d (.bool false),.d (.sl 0 true []),.d (.bool false),.d (.sl 0 true [])],.box (dyN y m d i)]) (fun i=>i≤3)
  20 (fun _=>[]) (fun _=>[.box [.d (.bool false),.d (.sl 0 true []),.d (.bool false),.d (.sl 0 true [])],.box (dyN y m d 3)]) (fun _=>True) 0 (Nat.zero_le _) ?_ ?_ ?_
 ·first
  | exact ⟨[some 0,some 1],rfl,by simp,by simp [setsA,keepA,SWeak,AWeak],by simp [HWeak,BWeak,SWeak,AWeak,dyN]⟩
 ·intro i hi
  simp only [awK,Nat.reduceMod,Nat.reduceDiv,reduceIte]
  unfold dyN
  rcases (by omega:i=0∨i=1∨i=2∨i=3) with e | e | e | e
  ·subst e
   simp (config:={maxSteps:=1000000}) (disch:=((try simp only [awL]);omega)) only [QR,QS,QT,QU,QV,QW,QX,QY,QZ,Q0,Q1,Q2,↓awU,awV,awF,Qa,Qb,Qc,Qd,forall_const,↓reduceIte,↓reduceDIte,↓Qe,Qf,Qg,Qh,Qi,Qj,Qk,Ql,Qm,Qn,Qo,Qp,Qq,Qr,Qs,implies_true,Qt,Qu,Qv,Qw,Qx,Qy,Qz,QA,QB,QC,QD,QE,QF,QG,QH,QI,QJ,QK,QL,QM,QN,QO,QP,QQ]
   refine CallC.of a1 (by rfl) ?_
   simp (config:={maxSteps:=1000000}) (disch:=((try simp only [awL]);omega)) only [QR,QS,QT,QU,QV,QW,QX,QY,QZ,Q0,Q1,Q2,↓awU,awV,awF,Qa,Qb,Qc,Qd,forall_const,↓reduceIte,↓reduceDIte,↓Qe,Qf,Qg,Qh,Qi,Qj,Qk,Ql,Qm,Qn,Qo,Qp,Qq,Qr,Qs,implies_true,Qt,Qu,Qv,Qw,Qx,Qy,Qz,QA,QB,QC,QD,QE,QF,QG,QH,QI,QJ,QK,QL,QM,QN,QO,QP,QQ]
   first
   | exact ⟨0+1,by omega,by simp only;omega,⟨[some 0,some 1],rfl,by simp,by simp [setsA,keepA,SWeak,AWeak],by simp [HWeak,BWeak,SWeak,AWeak,dyN]⟩⟩
   | exact ⟨by rfl,0+1,by omega,by simp only;omega,⟨[some 0,some 1],rfl,by simp,by simp [setsA,keepA,SWeak,AWeak],by simp [HWeak,BWeak,SWeak,AWeak,dyN]⟩⟩
  ·subst e
   simp (config:={maxSteps:=1000000}) (disch:=((try simp only [awL]);omega)) only [QR,QS,QT,QU,QV,QW,QX,QY,QZ,Q0,Q1,Q2,↓awU,awV,awF,Qa,Qb,Qc,Qd,forall_const,↓reduceIte,↓reduceDIte,↓Qe,Qf,Qg,Qh,Qi,Qj,Qk,Ql,Qm,Qn,Qo,Qp,Qq,Qr,Qs,implies_true,Qt,Qu,Qv,Qw,Qx,Qy,Qz,QA,QB,QC,QD,QE,QF,QG,QH,QI,QJ,QK,QL,QM,QN,QO,QP,QQ]
   refine CallC.of a2 (by rfl) ?_
   simp (config:={maxSteps:=1000000}) (disch:=((try simp only [awL]);omega)) only [QR,QS,QT,QU,QV,QW,QX,QY,QZ,Q0,Q1,Q2,↓awU,awV,awF,Qa,Qb,Qc,Qd,forall_const,↓reduceIte,↓reduceDIte,↓Qe,Qf,Qg,Qh,Qi,Qj,Qk,Ql,Qm,Qn,Qo,Qp,Qq,Qr,Qs,implies_true,Qt,Qu,Qv,Qw,Qx,Qy,Qz,QA,QB,QC,QD,QE,QF,QG,QH,QI,QJ,QK,QL,QM,QN,QO,QP,QQ]
   first
   | exact ⟨1+1,by omega,by simp only;omega,⟨[some 0,some 1],rfl,by simp,by simp [setsA,keepA,SWeak,AWeak],by simp [HWeak,BWeak,SWeak,AWeak,dyN]⟩⟩
   | exact ⟨by rfl,1+1,by omega,by simp only;omega,⟨[some 0,some 1],rfl,by simp,by simp [setsA,keepA,SWeak,AWeak],by simp [HWeak,BWeak,SWeak,AWeak,dyN]⟩⟩
  ·subst e
   simp (config:={maxSteps:=1000000}) (disch:=((try simp only [awL]);omega)) only [QR,QS,QT,QU,QV,QW,QX,QY,QZ,Q0,Q1,Q2,↓awU,awV,awF,Qa,Qb,Qc,Qd,forall_const,↓reduceIte,↓reduceDIte,↓Qe,Qf,Qg,Qh,Qi,Qj,Qk,Ql,Qm,Qn,Qo,Qp,Qq,Qr,Qs,implies_true,Qt,Qu,Qv,Qw,Qx,Qy,Qz,QA,QB,QC,QD,QE,QF,QG,QH,QI,QJ,QK,QL,QM,QN,QO,QP,QQ]
   refine CallC.of a3 (by rfl) ?_
   simp (config:={maxSteps:=1000000}) (disch:=((try simp only [awL]);omega)) only [QR,QS,QT,QU,QV,QW,QX,QY,QZ,Q0,Q1,Q2,↓awU,awV,awF,Qa,Qb,Qc,Qd,forall_const,↓reduceIte,↓reduceDIte,↓Qe,Qf,Qg,Qh,Qi,Qj,Qk,Ql,Qm,Qn,Qo,Qp,Qq,Qr,Qs,implies_true,Qt,Qu,Qv,Qw,Qx,Qy,Qz,QA,QB,QC,QD,QE,QF,QG,QH,QI,QJ,QK,QL,QM,QN,QO,QP,QQ]
   first
   | exact ⟨2+1,by omega,by simp only;omega,⟨[some 0,some 1],rfl,by simp,by simp [setsA,keepA,SWeak,AWeak],by simp [HWeak,BWeak,SWeak,AWeak,dyN]⟩⟩
   | exact ⟨by rfl,2+1,by omega,by simp only;omega,⟨[some 0,some 1],rfl,by simp,by simp [setsA,keepA,SWeak,AWeak],by simp [HWeak,BWeak,SWeak,AWeak,dyN]⟩⟩
  ·subst e
   simp (config:={maxSteps:=1000000}) (disch:=((try simp only [awL]);omega)) only [QR,QS,QT,QU,QV,QW,QX,QY,QZ,Q0,Q1,Q2,↓awU,awV,awF,Qa,Qb,Qc,Qd,forall_const,↓reduceIte,↓reduceDIte,↓Qe,Qf,Qg,Qh,Qi,Qj,Qk,Ql,Qm,Qn,Qo,Qp,Qq,Qr,Qs,implies_true,Qt,Qu,Qv,Qw,Qx,Qy,Qz,QA,QB,QC,QD,QE,QF,QG,QH,QI,QJ,QK,QL,QM,QN,QO,QP,QQ]
   first
   | exact ⟨(),trivial,⟨[some 0,some 1],rfl,by simp,by simp [setsA,keepA,SWeak,AWeak],by simp [HWeak,BWeak,SWeak,AWeak,dyN]⟩⟩
 ·rintro ⟨⟩ -
  simp only [awK,Nat.reduceMod,Nat.reduceDiv,reduceIte]
  unfold dyN
  simp (config:={maxSteps:=1000000}) (disch:=((try simp only [awL]);omega)) only [QR,QS,QT,QU,QV,QW,QX,QY,QZ,Q0,Q1,Q2,↓awU,awV,awF,Qa,Qb,Qc,Qd,forall_const,↓reduceIte,↓reduceDIte,↓Qe,Qf,Qg,Qh,Qi,Qj,Qk,Ql,Qm,Qn,Qo,Qp,Qq,Qr,Qs,implies_true,Qt,Qu,Qv,Qw,Qx,Qy,Qz,QA,QB,QC,QD,QE,QF,QG,QH,QI,QJ,QK,QL,QM,QN,QO,QP,QQ]
  refine CallC.of sd (by rfl) ?_
  simp (config:={maxSteps:=1000000}) (disch:=((try simp only [awL]);omega)) only [QR,QS,QT,QU,QV,QW,QX,QY,QZ,Q0,Q1,Q2,↓awU,awV,awF,Qa,Qb,Qc,Qd,forall_const,↓reduceIte,↓reduceDIte,↓Qe,Qf,Qg,Qh,Qi,Qj,Qk,Ql,Qm,Qn,Qo,Qp,Qq,Qr,Qs,implies_true,Qt,Qu,Qv,Qw,Qx,Qy,Qz,QA,QB,QC,QD,QE,QF,QG,QH,QI,QJ,QK,QL,QM,QN,QO,QP,QQ]
  refine CallC.of (whole_spec dv (by omega) (by omega)) (by rfl) ?_
  simp (config:={maxSteps:=1000000}) (disch:=((try simp only [awL]);omega)) only [QR,QS,QT,QU,QV,QW,QX,QY,QZ,Q0,Q1,Q2,↓awU,awV,awF,Qa,Qb,Qc,Qd,forall_const,↓reduceIte,↓reduceDIte,↓Qe,Qf,Qg,Qh,Qi,Qj,Qk,Ql,Qm,Qn,Qo,Qp,Qq,Qr,Qs,implies_true,Qt,Qu,Qv,Qw,Qx,Qy,Qz,QA,QB,QC,QD,QE,QF,QG,QH,QI,QJ,QK,QL,QM,QN,QO,QP,QQ]
  first | done | rfl
end Go.Proofs.YtdpjcghiegggbaaGreatDoor
namespace Go.Proofs.YtdpjcghiegggbaaGreatDoor.Num
open Go Go.Proofs Go.Abs
variable {G:Globals}
end Go.Proofs.YtdpjcghiegggbaaGreatDoor.Num
namespace Go.Proofs.YtdpjcghiegggbaaGreatDoor.Num
open Go Go.Proofs Go.Abs
variable {G:Globals}
abbrev ex:List UInt8:=[45,49,50,46,53,48]
end Go.Proofs.YtdpjcghiegggbaaGreatDoor.Num
namespace Go.Proofs.YtdpjcghiegggbaaGreatDoor.Num
open Go Go.Proofs Go.Abs
end Go.Proofs.YtdpjcghiegggbaaGreatDoor.Num
